import Derived.Test.YtfjncckelekpiaaGreatEng18
namespace Go.Eng
open Go Go.RowKit
def jFm(P:Program)(T:TypeId)(f:Nat):Option (Nat × Nat):=
 match P.underlying T with
 | some (.struct fs)=>match fs[f]? with
   | some fd=>(P.info? fd.type).map fun i=>(fd.offset,i.size)
   | none=>none
 | _=>none
def tyB(P:Program)(T:TypeId):Bool:=
 match P.underlying T with
 | some (.struct fs)=>fs.toList.all fun fd=>(P.info? fd.type).isSome
 | _=>false
class TFS (P:Program) (T:TypeId) (f:Nat) (fo n:outParam Nat):Prop where
 h:jFm P T f=some (fo,n)
class TBd (P:Program) (T:TypeId):Prop where
 h:tyB P T=true
inductive BdR (P:Program)(σ:St)(T:TypeId):List (Nat × Operand)→List SV→List SV→Prop
 | nil {cs:List SV}:BdR P σ T [] cs cs
 | cons {f fo n:Nat} {x:Operand} {ps:List (Nat × Operand)} {cs cs' r ds:List SV} [TFS P T f fo n] (hx:Cl (σ.ev x) ds) (hn:ds.length=n) (hp:Pt fo ds cs cs') (h:BdR P σ T ps cs' r):BdR P σ T ((f,x)::ps) cs r
theorem hF5(off:Nat):∀(vs:List Value)(k:Nat)(cells:Array Value),off+k+vs.length≤cells.size→
  ((vs.zipIdx k).foldl (fun cs x=>cs.setIfInBounds (off+x.2) x.1) cells).toList=cells.toList.take (off+k)++vs++cells.toList.drop (off+k+vs.length)
 | [],k,cells,_=>by simp
 | v::vs,k,cells,h=>by
   simp only [List.length_cons] at h;simp only [List.zipIdx_cons,List.foldl_cons];rw [hF5 off vs (k+1) _ (by simp;omega)];simp only [Array.toList_setIfInBounds,List.length_cons];have hlt:off+k < cells.toList.length:=by simp;omega
   have e1:(cells.toList.set (off+k) v).take (off+(k+1))=cells.toList.take (off+k)++[v]:=by
    rw [List.set_eq_take_append_cons_drop,if_pos hlt,List.take_append,List.take_of_length_le (by simp;omega)]
    have:off+(k+1) - (cells.toList.take (off+k)).length=1:=by simp only [List.length_take];omega
    rw [this];simp
   have e2:(cells.toList.set (off+k) v).drop (off+(k+1)+vs.length)=cells.toList.drop (off+k+(vs.length+1)):=by
    rw [List.drop_set_of_lt (by omega)];congr 1;omega
   rw [e1,e2];simp
theorem gUk{place:Nat→Option (Nat × Nat)}{off n:Nat}{i:Nat}{v:Value}{rest:List (Nat × Value)}{cells:Array Value}(hp:place i=some (off,n))(hn:v.cells.size=n)(hf:off+n≤cells.size) :
  Instr.fill place cells ((i,v)::rest)=Instr.fill place (cells.toList.take off++v.cells.toList++cells.toList.drop (off+n)).toArray rest:=by
 rw [Instr.fill,hp];simp only;rw [if_neg (by simp only [ne_eq,hn,not_true_eq_false,decide_false,Bool.false_or,decide_eq_true_eq];omega)];congr 1;apply Array.ext';have h1:=hF5 off v.cells.toList 0 cells (by simp;omega);rw [←Array.foldl_toList,Array.toList_zipIdx];simp only [Nat.add_zero] at h1;rw [h1];simp [hn]
section
variable {P:Program}{A:Amb}{σ:St}{K:St→Prop}
variable {dst:Option Nat}{ty:TypeId}{pos:String}{af:Array Edge}{g:Option (Nat × Bool)}{x y:Operand}{sv:SV}
theorem gWn{P:Program}(w:World):∀(fs:List Field),(fs.all fun fd=>(P.info? fd.type).isSome)=true→
  ∃pl:List (Nat × Nat),(fs.mapM (fun f=>do pure (f.offset,←sizeOf f.type)):Sem (List (Nat × Nat))).run P w=.ok pl w∧∀(i:Nat)(fd:Field),fs[i]? =some fd→∃inf,P.info? fd.type=some inf∧pl[i]? =some (fd.offset,inf.size)
 | [],_=>⟨[],by simp,fun i fd h=>by simp at h⟩
 | f::fs,h=>by
   simp only [List.all_cons,Bool.and_eq_true] at h;obtain⟨inf,hi⟩:=Option.isSome_iff_exists.1 h.1;obtain⟨pl,h1,h2⟩:=gWn w fs h.2;refine⟨(f.offset,inf.size)::pl,?_,fun i fd hfd=>?_⟩
   ·simp only [List.mapM_cons,Sem.run_bind,sizeOf,run_typeInfo hi,Result.andThen_ok,Sem.run_pure] at h1 ⊢;rw [h1];rfl
   ·cases i with
    | zero=>simp at hfd;subst hfd;exact⟨inf,hi,rfl⟩
    | succ i=>simp only [List.getElem?_cons_succ] at hfd ⊢;exact h2 i fd hfd
theorem BdR.run {S:Nat→Prop}{L:List LO}{env:List Value}{w:World}{a:Act}{T:TypeId}{fs:Array Field}{pl:List (Nat × Nat)}(hund:P.underlying T=some (.struct fs))
  (hpl:∀(i:Nat)(fd:Field),fs[i]? =some fd→∃inf,P.info? fd.type=some inf∧pl[i]? =some (fd.offset,inf.size)) {ps:List (Nat × Operand)} {cs r:List SV} (h:BdR P σ T ps cs r) :
  ∀(vals:Array Value),(∀p∈ps,SVr S L env w (σ.ev p.2) (a.eval p.2))→kV S L env w cs vals.toList→
  ∃vals',Instr.fill (fun i=>pl[i]?) vals (ps.map fun p=>(p.1,a.eval p.2))=some vals'∧kV S L env w r vals'.toList:=by
 induction h with
 | nil=>intro vals _ hv;exact⟨vals,rfl,hv⟩
 | @cons f fo n x ps cs cs' r ds tfs hx hn hp h ih=>
   intro vals hps hv;have h0:=tfs.h;unfold jFm at h0;rw [hund] at h0;simp only at h0;cases hfd:fs[f]? with
   | none=>rw [hfd] at h0;cases h0
   | some fd=>
     rw [hfd] at h0;obtain⟨inf,hi,hpi⟩:=hpl f fd hfd;simp only [hi,Option.map_some,Option.some.injEq,Prod.mk.injEq] at h0;rw [h0.1,h0.2] at hpi;obtain⟨hc1,hc2⟩:=hx.spec;have hxv:=hps (f,x) (by simp);obtain⟨k1,k2⟩:=SVr.cellsr (sv:=σ.ev x) (by rw [hc1];exact hc2) hxv;rw [hc1] at k1;have hl:=kV.length k1;have hlv:=kV.length hv;obtain⟨q1,q2⟩:=hp.spec;have hsz:(a.eval x).cells.size=n:=by rw [←hn,hl];simp
     have:=gUk (place:=fun i=>pl[i]?) (rest:=ps.map fun p=>(p.1,a.eval p.2)) (cells:=vals) hpi hsz (by rw [←hn];simp at hlv;omega)
     simp only [List.map_cons];rw [this];refine ih _ (fun p hp=>hps p (by simp [hp])) ?_;rw [←q2,kV.iff];rw [kV.iff] at hv k1;rw [hn];exact zX.append (zX.append (zX.take fo hv) k1) (zX.drop (fo+n) hv)
theorem jI{T:TypeId}{ps:Array (Nat × Operand)}{zs:List Value}{cs r:List SV}(hB:tyB P T=true)(hz:tyZ P T=some zs)(hcs:zs.map gJ3=cs)(h:BdR P σ T ps.toList cs r) :
  Quiet P A σ ⟨dst,.build T ps,ty,pos,af,g⟩ (.ag r):=Quiet.pure fun S env a w hH ho=>by
 subst hcs;unfold tyB at hB;cases hund:P.underlying T with
 | none=>rw [hund] at hB;cases hB
 | some d=>
   rw [hund] at hB;cases d with
   | struct fs=>
     simp only at hB;obtain⟨z,hrun,hcells⟩:=gR4 hz w;obtain⟨pl,h1,h2⟩:=gWn (P:=P) w fs.toList hB;have hvals:kV S σ.L env w (zs.map gJ3) z.cells.toList:=by rw [hcells];exact gPz zs
     obtain⟨vals',k1,k2⟩:=h.run (a:=a) hund (pl:=pl) (fun i fd hfd=>h2 i fd (by simpa using hfd)) z.cells (fun p hp=>ho p.2 (by simp only [Op.operands];exact List.mem_map.2 ⟨p,hp,rfl⟩)) hvals;refine⟨.agg vals',?_,?_⟩
     ·have hmap:(fs.mapM (fun f=>do pure (f.offset,←sizeOf f.type)):Sem (Array (Nat × Nat))).run P w=.ok pl.toArray w:=by
       rw [←Array.toArray_toList (xs:=fs)];simp only [List.mapM_toArray,Sem.run_map];rw [h1];rfl
      have hparts:(ps.map fun(i,x)=>(i,a.eval x)).toList=ps.toList.map fun p=>(p.1,a.eval p.2):=by simp
      have hfill:Instr.fill (fun i=>pl.toArray[i]?) z.cells (ps.map fun(i,x)=>(i,a.eval x)).toList=some vals':=by
       rw [hparts];simpa using k1
      simp only [execOp,Instr.build,Sem.run_bind,hrun,Result.andThen_ok,run_underlying hund,hmap,hfill,Sem.run_pure]
     ·simp only [SVr];exact⟨vals'.toList,by simp,k2⟩
   | _=>cases hB
end
inductive jA0 (P:Program)(T:TypeId)(f:Nat):SV→SV→Prop
 | ptr {i off fo:Nat} [TF P T f fo]:jA0 P T f (.ptr i off) (.ptr i (off+fo))
 | dp {us:List U} {u:U} {fo:Nat} [TF P T f fo] (h:us[f]? =some u) (h2:U.szs (us.take f)=fo):jA0 P T f (.dp (.st us)) (.dp u)
inductive hX4 (P:Program)(T:TypeId):SV→Int→Prop
 | sl {z:Nat} {us:List U} {e:TypeId} [TE P T e]:hX4 P T (.d (.sl z us)) us.length
 | nil {e:TypeId} [TE P T e]:hX4 P T .nilsl 0
 | str {l:LB} [TS P T]:hX4 P T (.d (.s l)) l.length
inductive QE (P:Program)(σ:St):Oper→SV→Prop
 | move {dst:Option Nat} {ty:TypeId} {pos:String} {af:Array Edge} {g:Option (Nat × Bool)} {x:Operand} {sv:SV} (h:Nf (σ.ev x) sv):QE P σ ⟨dst,.move x,ty,pos,af,g⟩ sv
 | assign {dst:Option Nat} {ty:TypeId} {pos:String} {af:Array Edge} {g:Option (Nat × Bool)} {x:Operand} {sv:SV} (h:Nf (σ.ev x) sv):QE P σ ⟨dst,.assign x,ty,pos,af,g⟩ sv
 | field {dst:Option Nat} {ty:TypeId} {pos:String} {af:Array Edge} {g:Option (Nat × Bool)} {x:Operand} {sv:SV} {T:TypeId} {f:Nat} (h:jA0 P T f (σ.ev x) sv):QE P σ ⟨dst,.fieldAddr T x f,ty,pos,af,g⟩ sv
 | load {dst:Option Nat} {ty:TypeId} {pos:String} {af:Array Edge} {g:Option (Nat × Bool)} {x:Operand} {sv:SV} {T:TypeId} (h:LdR P σ.L T (σ.ev x) sv):QE P σ ⟨dst,.load T x,ty,pos,af,g⟩ sv
 | bin {dst:Option Nat} {ty:TypeId} {pos:String} {af:Array Edge} {g:Option (Nat × Bool)} {x y:Operand} {sv:SV} {op:BinOp} {T T':TypeId} (h:hMa P T op (σ.ev x) (σ.ev y) sv):QE P σ ⟨dst,.binOp op T x y T',ty,pos,af,g⟩ sv
 | len {dst:Option Nat} {ty:TypeId} {pos:String} {af:Array Edge} {g:Option (Nat × Bool)} {x:Operand} {T:TypeId} {n:Int} (h:hX4 P T (σ.ev x) n):QE P σ ⟨dst,.call { callee:=.builtin .len,args:=#[x],argTypes:=#[T] },ty,pos,af,g⟩ (.d (.i .i64 n))
 | not {dst:Option Nat} {ty:TypeId} {pos:String} {af:Array Edge} {g:Option (Nat × Bool)} {x:Operand} {T:TypeId} {t:Bool} (h:σ.ev x=.d (.b t)):QE P σ ⟨dst,.unOp .not T x,ty,pos,af,g⟩ (.d (.b (!t)))
 | pick {dst:Option Nat} {ty:TypeId} {pos:String} {af:Array Edge} {g:Option (Nat × Bool)} {c x y:Operand} {sv:SV} (h:PkR (σ.ev c) (σ.ev x) (σ.ev y) sv):QE P σ ⟨dst,.pick c x y,ty,pos,af,g⟩ sv
 | extract {dst:Option Nat} {ty:TypeId} {pos:String} {af:Array Edge} {g:Option (Nat × Bool)} {x:Operand} {n:Nat} {vs:List SV} {c sv:SV} (h:σ.ev x=.tup vs) (h2:vs[n]? =some c) (h3:Nf c sv):QE P σ ⟨dst,.extract x n,ty,pos,af,g⟩ sv
 | build {dst:Option Nat} {ty:TypeId} {pos:String} {af:Array Edge} {g:Option (Nat × Bool)} {T:TypeId} {ps:Array (Nat × Operand)} {zs:List Value} {cs r:List SV} [TBd P T] [TZ P T zs] (hcs:zs.map gJ3=cs) (h:BdR P σ T ps.toList cs r):QE P σ ⟨dst,.build T ps,ty,pos,af,g⟩ (.ag r)
theorem QE.quiet{P:Program}{A:Amb}{σ:St}{o:Oper}{sv:SV}(h:QE P σ o sv):Quiet P A σ o sv:=by
 cases h with
 | move h=>exact hM3 h.eq
 | assign h=>exact hGc h.eq
 | @field dst ty pos af g x sv T f h=>
   generalize hx:σ.ev x=e at h;cases h with
   | @ptr i off fo tf=>exact gW2 hx tf.h
   | @dp us u fo tf h h2=>exact gYf hx tf.h h h2
 | load h=>exact(QD.load h).quiet
 | bin h=>exact(QD.bin h).quiet
 | @len dst ty pos af g x T n h=>
   generalize hx:σ.ev x=e at h;cases h with
   | @sl z us e te=>exact hUp hx te.h
   | @nil e te=>exact hCo hx te.h
   | @str l ts=>exact hCp hx ts.h
 | not h=>exact hWt h
 | pick h=>exact(QD.pick h).quiet
 | extract h h2 h3=>exact hB9 h (h3.eq▸h2)
 | @build dst ty pos af g T ps zs cs r tb tz hcs h=>exact jI tb.h tz.h hcs h
theorem LdR.keep{P:Program}{L L':List LO}{T:TypeId}{sv sv':SV}(hk:gP8 L L')(h:LdR P L T sv sv'):LdR P L' T sv sv':=by
 cases h with
 | one h h2 h3=>exact .one (hk _ _ h) h2 h3
 | many h h2=>exact .many (hk _ _ h) h2
 | dp h h2=>exact .dp h h2
theorem BdR.same{P:Program}{σ σ':St}{T:TypeId}{ps:List (Nat × Operand)}{cs r:List SV}(h:BdR P σ T ps cs r):(∀p∈ps,σ'.ev p.2=σ.ev p.2)→BdR P σ' T ps cs r:=by
 induction h with
 | nil=>intro _;exact .nil
 | cons hx hn hp h ih=>intro he;exact .cons (by rw [he _ (List.mem_cons_self ..)];exact hx) hn hp (ih fun p hp=>he p (by simp [hp]))
theorem QE.frame{P:Program}{σ σ':St}{o:Oper}{sv:SV}(h:QE P σ o sv)(he:∀x∈o.op.operands.toList,σ'.ev x=σ.ev x)(hk:gP8 σ.L σ'.L):QE P σ' o sv:=by
 cases h with
 | move h=>exact .move (by rw [he _ (by simp [Op.operands])];exact h)
 | assign h=>exact .assign (by rw [he _ (by simp [Op.operands])];exact h)
 | field h=>exact .field (by rw [he _ (by simp [Op.operands])];exact h)
 | load h=>exact .load (by rw [he _ (by simp [Op.operands])];exact h.keep hk)
 | bin h=>exact .bin (by rw [he _ (by simp [Op.operands]),he _ (by simp [Op.operands])];exact h)
 | len h=>exact .len (by rw [he _ (by simp [Op.operands,Call.operands])];exact h)
 | not h=>exact .not (by rw [he _ (by simp [Op.operands])];exact h)
 | pick h=>exact .pick (by rw [he _ (by simp [Op.operands]),he _ (by simp [Op.operands]),he _ (by simp [Op.operands])];exact h)
 | extract h h2 h3=>exact .extract (by rw [he _ (by simp [Op.operands])];exact h) h2 h3
 | build hcs h=>exact .build hcs (h.same fun p hp=>he p.2 (by simp only [Op.operands];exact List.mem_map.2 ⟨p,hp,rfl⟩))
inductive QFb (P:Program):Bool→St→Oper→SV→Prop
 | run {o:Oper} {σ:St} {sv:SV} (h:QE P σ o sv):QFb P true σ o sv
 | pass {o:Oper} {σ:St}:QFb P false σ o .junk
inductive QF (P:Program)(ops:Array Oper):Oper→St→Nat→SV→Prop
 | plain {t:Nat} {op:Op} {ty:TypeId} {pos:String} {af:Array Edge} {sv:SV} {σ:St} (h:QE P σ ⟨some t,op,ty,pos,af,none⟩ sv) (ht:Nat.blt t σ.N=true):QF P ops ⟨some t,op,ty,pos,af,none⟩ σ t sv
 | guard {t:Nat} {op:Op} {ty:TypeId} {pos:String} {af:Array Edge} {j tj:Nat} {want b:Bool} {o':Oper} {sv:SV} {σ:St} (hj:ops[j]? =some o') (hd:o'.dst=some tj) (htj:Nat.blt tj σ.N=true) (ht:Nat.blt t σ.N=true)
   (hb:GdR want (look σ.fr tj) b) (h:QFb P b σ ⟨some t,op,ty,pos,af,some (j,want)⟩ sv):QF P ops ⟨some t,op,ty,pos,af,some (j,want)⟩ σ t sv
section
variable {P:Program}{A:Amb}{ops:Array Oper}{K:St→Prop}{r:List (Nat × Bool)}{pf:PF}{o:Oper}{fr:List (Nat × SV)}{L L':List LO}{N i t:Nat}{sv:SV}
theorem QF.dst{σ:St}(h:QF P ops o σ t sv):o.dst=some t:=by cases h<;>rfl
theorem QF.pst{σ:St}(h:QF P ops o σ t sv):PSt P A ops σ.L σ o sv:=by
 cases h with
 | @plain t op ty pos af sv σ h ht=>
   exact⟨fun d hd=>(by cases hd;exact ht),gP8.refl _,.inl ⟨rfl,fun fr' L' he hk=>(h.frame (σ':=⟨fr',L',σ.N⟩) he hk).quiet⟩⟩
 | @guard t op ty pos af j tj want b o' sv σ hj hd htj ht hb h=>
   refine⟨fun d hd=>(by cases hd;exact ht),gP8.refl _,?_⟩;have htj':tj < σ.N:=by simpa [Nat.blt_eq] using htj
   generalize hl:look σ.fr tj=e at hb;cases h with
   | run h=>
     refine .inl ⟨?_,fun fr' L' he hk=>(h.frame (σ':=⟨fr',L',σ.N⟩) he hk).quiet⟩;cases hb with
     | tt=>exact⟨o',tj,hj,hd,htj',.inl ⟨true,hl,rfl⟩⟩
     | ff=>exact⟨o',tj,hj,hd,htj',.inl ⟨_,hl,rfl⟩⟩
   | pass=>
     refine .inr ⟨?_,.inl rfl⟩;cases hb with
     | tf=>exact⟨o',tj,hj,hd,htj',.inl ⟨_,hl,rfl⟩⟩
     | ft=>exact⟨o',tj,hj,hd,htj',.inl ⟨_,hl,rfl⟩⟩
theorem gD5(h:K ⟨fr,L,N⟩):VY P A ops K [] pf ⟨fr,L,N⟩:=h
theorem jFn(hi:ops[i]? =some o)(hv:VY P A ops K r ((i,L)::pf) ⟨(t,sv)::fr,L,N⟩)(h:QF P ops o ⟨fr,L,N⟩ t sv:=by(repeat(first | exact Rng.mk (by omega) (by omega) | constructor));first | done | fail):VY P A ops K ((i,true)::r) pf ⟨fr,L,N⟩:=by
 refine⟨o,sv,hi,h.pst,?_⟩;rw [h.dst];exact hv
inductive gDf (ops:Array Oper)(i:Nat)(L':List LO):PF→Prop
 | nil:gDf ops i L' []
 | keep {k:Nat} {B:List LO} {pf:PF} (h:Kp B L') (h2:gDf ops i L' pf):gDf ops i L' ((k,B)::pf)
 | dep {k:Nat} {B:List LO} {pf:PF} (h:gQy .any ops ops.size k i=true) (h2:gDf ops i L' pf):gDf ops i L' ((k,B)::pf)
theorem gDf.ok(h:gDf ops i L' pf):∀p∈pf,gQy .any ops ops.size p.1 i=true∨gP8 p.2 L':=by
 induction h with
 | nil=>intro p hp;cases hp
 | keep h h2 ih=>
   intro p hp;rcases List.mem_cons.1 hp with rfl | hp
   ·exact .inr h.keep
   ·exact ih p hp
 | dep h h2 ih=>
   intro p hp;rcases List.mem_cons.1 hp with rfl | hp
   ·exact .inl h
   ·exact ih p hp
inductive OH (P:Program)(σ:St):Oper→SV→List LO→Prop
 | box {t:Nat} {T:TypeId} {x:Operand} {ty:TypeId} {pos:String} {af:Array Edge} {L':List LO} {i:Nat} {cs:List SV} (h:Cl (σ.ev x) cs) (ht:Nat.blt t σ.N=true) (h2:Sn (.box cs) σ.L i L'):OH P σ ⟨some t,.box T x,ty,pos,af,none⟩ (.ptr i 0) L'
 | alloc {t:Nat} {T:TypeId} {ty:TypeId} {pos:String} {af:Array Edge} {L':List LO} {i:Nat} {zs:List Value} {cs:List SV} [TZ P T zs] (hc:zs.map gJ3=cs) (hs:SV.ones cs=true) (ht:Nat.blt t σ.N=true) (h2:Sn (.box cs) σ.L i L'):OH P σ ⟨some t,.alloc T,ty,pos,af,none⟩ (.ptr i 0) L'
 | store {T:TypeId} {x y:Operand} {ty:TypeId} {pos:String} {af:Array Edge} {L':List LO} {i off n bs:Nat} {g:Bool} {cs ds cs':List SV} (hx:σ.ev x=.ptr i off) (hL:σ.L[i]? =some (.box cs)) (hy:Cl (σ.ev y) ds) [TI P T g n bs] (hn:ds.length=n) (hp:Pt off ds cs cs') (hs:St1 (.box cs') i σ.L L'):OH P σ ⟨none,.store T x y,ty,pos,af,none⟩ .junk L'
theorem OH.vo{o:Oper}{sv:SV}(h:OH P ⟨fr,L,N⟩ o sv L'){rest:List Oper}(hv:VO P A ops rest (St.setO ⟨fr,L',N⟩ o.dst sv) K):VO P A ops (o::rest) ⟨fr,L,N⟩ K:=by
 cases h with
 | box h ht h2=>exact hSn rfl h.spec.1 h.spec.2 ht h2.spec.1 h2.spec.2 hv
 | @alloc t T ty pos af L' i zs cs tz hc hs ht h2=>exact hGk tz.h hc hs ht h2.spec.1 h2.spec.2 hv
 | @store T x y ty pos af L' i off n bs g cs ds cs' hx hL hy ti hn hp hs=>
   subst hn;exact hGl hx hL rfl hy.spec.1 hy.spec.2 ti.h rfl (Nat.ble_eq_true_of_le hp.spec.1) hp.spec.2 hs.spec hv
theorem OH.frame{fr':List (Nat × SV)}(he:∀x∈o.op.operands.toList,St.ev ⟨fr',L,N⟩ x=St.ev ⟨fr,L,N⟩ x)(h:OH P ⟨fr,L,N⟩ o sv L'):OH P ⟨fr',L,N⟩ o sv L':=by
 cases h with
 | box h ht h2=>exact .box (by rw [he _ (by simp [Op.operands])];exact h) ht h2
 | alloc hc hs ht h2=>exact .alloc hc hs ht h2
 | store hx hL hy hn hp hs=>exact .store (by rw [he _ (by simp [Op.operands])];exact hx) hL (by rw [he _ (by simp [Op.operands])];exact hy) hn hp hs
theorem jFo{o:Oper}(hi:ops[i]? =some o)(h:OH P ⟨fr,L,N⟩ o sv L')(hp:gDf ops i L' pf)(hv:VY P A ops K r pf (St.setO ⟨fr,L',N⟩ o.dst sv)):VY P A ops K ((i,false)::r) pf ⟨fr,L,N⟩:=
 hWi ⟨hi,fun fr' he _ hK=>(h.frame (fr':=fr') he).vo (gF4 hK),hp.ok,hv⟩
end
inductive OX:Nat→List TypeId→List U→List SV→List LO→Prop
 | nil {b:Nat}:OX b [] [] [] []
 | sl {b e z:Nat} {es:List TypeId} {us r:List U} {cs:List SV} {ls:List LO} (h:OX (b+1) es r cs ls):OX b (e::es) (.sl z us::r) (.sl b 0::cs) (.own e z 0 us::ls)
 | i {b:Nat} {k:IntKind} {n:Int} {es:List TypeId} {r:List U} {cs:List SV} {ls:List LO} (h:OX b es r cs ls):OX b es (.i k n::r) (.d (.i k n)::cs) ls
 | b {b:Nat} {x:Bool} {es:List TypeId} {r:List U} {cs:List SV} {ls:List LO} (h:OX b es r cs ls):OX b es (.b x::r) (.d (.b x)::cs) ls
 | s {b:Nat} {l:LB} {es:List TypeId} {r:List U} {cs:List SV} {ls:List LO} (h:OX b es r cs ls):OX b es (.s l::r) (.d (.s l)::cs) ls
inductive O1:Nat→List TypeId→U→SV→List LO→Prop
 | st {b:Nat} {es:List TypeId} {us fl:List U} {cs:List SV} {ls:List LO} (hl:Lvs us fl) (h:OX b es fl cs ls):O1 b es (.st us) (.ag cs) ls
 | leaf {b:Nat} {es:List TypeId} {u:U} {sv:SV} {ls:List LO} (hu:u.isSt=false) (h:OX b es [u] [sv] ls):O1 b es u sv ls
inductive Os:Nat→List TypeId→List U→List SV→List LO→Prop
 | nil {b:Nat}:Os b [] [] [] []
 | cons {b n:Nat} {es es1 es2:List TypeId} {u:U} {us:List U} {sv:SV} {svs:List SV} {ls ls1 ls2:List LO} (h:O1 b es1 u sv ls1) (hn:ls1.length=n) (h2:Os (b+n) es2 us svs ls2) (he:Jn es1 es2 es) (hl:Jn ls1 ls2 ls):Os b es (u::us) (sv::svs) ls
inductive OY:Nat→List TypeId→List U→SV→List LO→Prop
 | one {b:Nat} {es:List TypeId} {u:U} {sv:SV} {ls:List LO} (h:O1 b es u sv ls):OY b es [u] sv ls
 | tup {b:Nat} {es:List TypeId} {u u':U} {us:List U} {svs:List SV} {ls:List LO} (h:Os b es (u::u'::us) svs ls):OY b es (u::u'::us) (.tup svs) ls
inductive Ln {α:Type}:List α→Nat→Prop
 | z:Ln [] 0
 | s {a:α} {l:List α} {n:Nat} (h:Ln l n):Ln (a::l) (n+1)
theorem Ln.eq{α:Type}{l:List α}{n:Nat}(h:Ln l n):l.length=n:=by
 induction h with
 | z=>rfl
 | s h ih=>simp [ih]
inductive OXr:Nat→List TypeId→List U→List SV→List LO→List TypeId→Prop
 | nil {b:Nat} {es:List TypeId}:OXr b es [] [] [] es
 | sl {b e z:Nat} {es rs:List TypeId} {us r:List U} {cs:List SV} {ls:List LO} (h:OXr (b+1) es r cs ls rs):OXr b (e::es) (.sl z us::r) (.sl b 0::cs) (.own e z 0 us::ls) rs
 | i {b:Nat} {k:IntKind} {n:Int} {es rs:List TypeId} {r:List U} {cs:List SV} {ls:List LO} (h:OXr b es r cs ls rs):OXr b es (.i k n::r) (.d (.i k n)::cs) ls rs
 | b {b:Nat} {x:Bool} {es rs:List TypeId} {r:List U} {cs:List SV} {ls:List LO} (h:OXr b es r cs ls rs):OXr b es (.b x::r) (.d (.b x)::cs) ls rs
 | s {b:Nat} {l:LB} {es rs:List TypeId} {r:List U} {cs:List SV} {ls:List LO} (h:OXr b es r cs ls rs):OXr b es (.s l::r) (.d (.s l)::cs) ls rs
theorem OXr.ox{b:Nat}{es rs:List TypeId}{fl:List U}{cs:List SV}{ls:List LO}(h:OXr b es fl cs ls rs):∃e1,es=e1++rs∧OX b e1 fl cs ls:=by
 induction h with
 | nil=>exact⟨[],rfl,.nil⟩
 | @sl b e z es rs us r cs ls h ih=>obtain⟨e1,h1,h2⟩:=ih;exact⟨e::e1,by rw [h1];rfl,.sl h2⟩
 | i h ih=>obtain⟨e1,h1,h2⟩:=ih;exact⟨e1,h1,.i h2⟩
 | b h ih=>obtain⟨e1,h1,h2⟩:=ih;exact⟨e1,h1,.b h2⟩
 | s h ih=>obtain⟨e1,h1,h2⟩:=ih;exact⟨e1,h1,.s h2⟩
inductive O1r:Nat→List TypeId→U→SV→List LO→List TypeId→Prop
 | st {b:Nat} {es rs:List TypeId} {us fl:List U} {cs:List SV} {ls:List LO} (hl:Lvs us fl) (h:OXr b es fl cs ls rs):O1r b es (.st us) (.ag cs) ls rs
 | sl {b e z:Nat} {es:List TypeId} {us:List U}:O1r b (e::es) (.sl z us) (.sl b 0) [.own e z 0 us] es
 | i {b:Nat} {k:IntKind} {n:Int} {es:List TypeId}:O1r b es (.i k n) (.d (.i k n)) [] es
 | b {b:Nat} {x:Bool} {es:List TypeId}:O1r b es (.b x) (.d (.b x)) [] es
 | s {b:Nat} {l:LB} {es:List TypeId}:O1r b es (.s l) (.d (.s l)) [] es
theorem O1r.o1{b:Nat}{es rs:List TypeId}{u:U}{sv:SV}{ls:List LO}(h:O1r b es u sv ls rs):∃e1,es=e1++rs∧O1 b e1 u sv ls:=by
 cases h with
 | st hl h=>obtain⟨e1,h1,h2⟩:=h.ox;exact⟨e1,h1,.st hl h2⟩
 | @sl e z us=>exact⟨[e],rfl,.leaf rfl (.sl .nil)⟩
 | i=>exact⟨[],rfl,.leaf rfl (.i .nil)⟩
 | b=>exact⟨[],rfl,.leaf rfl (.b .nil)⟩
 | s=>exact⟨[],rfl,.leaf rfl (.s .nil)⟩
inductive Osr:Nat→List TypeId→List U→List SV→List LO→Prop
 | nil {b:Nat}:Osr b [] [] [] []
 | cons {b n:Nat} {es rs:List TypeId} {u:U} {us:List U} {sv:SV} {svs:List SV} {ls ls1 ls2:List LO} (h:O1r b es u sv ls1 rs) (hn:Ln ls1 n) (h2:Osr (b+n) rs us svs ls2) (hl:Jn ls1 ls2 ls):Osr b es (u::us) (sv::svs) ls
theorem Jn.mk{α:Type}:∀(x y:List α),Jn x y (x++y)
 | [],_=>.z
 | _::x,y=>.s (Jn.mk x y)
theorem Osr.os{b:Nat}{es:List TypeId}{us:List U}{svs:List SV}{ls:List LO}(h:Osr b es us svs ls):Os b es us svs ls:=by
 induction h with
 | nil=>exact .nil
 | cons h hn h2 hl ih=>
   obtain⟨e1,h3,h4⟩:=h.o1;subst h3;exact .cons h4 hn.eq ih (Jn.mk _ _) hl
inductive OYr:Nat→List TypeId→List U→SV→List LO→Prop
 | one {b:Nat} {es:List TypeId} {u:U} {sv:SV} {ls:List LO} (h:O1r b es u sv ls []):OYr b es [u] sv ls
 | tup {b:Nat} {es:List TypeId} {u u':U} {us:List U} {svs:List SV} {ls:List LO} (h:Osr b es (u::u'::us) svs ls):OYr b es (u::u'::us) (.tup svs) ls
theorem OYr.oy{b:Nat}{es:List TypeId}{us:List U}{sv:SV}{ls:List LO}(h:OYr b es us sv ls):OY b es us sv ls:=by
 cases h with
 | one h=>
   obtain⟨e1,h1,h2⟩:=h.o1;rw [List.append_nil] at h1;subst h1;exact .one h2
 | tup h=>exact .tup h.os
def pJ(P:Program)(f:Nat)(args:List SV)(es:List TypeId)(us:List U):Prop:=Spec P f args [] (fun r L'=>OY 0 es us r L')
section
variable {S S':Nat→Prop}{L Lc:List LO}{env envc:List Value}{w:World}
theorem OX.own{b:Nat}{es:List TypeId}{fl:List U}{cs:List SV}{ls:List LO}(h:OX b es fl cs ls):∀o∈ls,∃e z us,o=.own e z 0 us:=by
 induction h with
 | nil=>intro o ho;cases ho
 | sl h ih=>intro o ho;rcases List.mem_cons.1 ho with rfl | ho;· exact⟨_,_,_,rfl⟩
            exact ih o ho
 | _ h ih=>exact ih
theorem O1.own{b:Nat}{es:List TypeId}{u:U}{sv:SV}{ls:List LO}(h:O1 b es u sv ls):∀o∈ls,∃e z us,o=.own e z 0 us:=by
 cases h with
 | st _ h=>exact h.own
 | leaf _ h=>exact h.own
theorem Os.own{b:Nat}{es:List TypeId}{us:List U}{svs:List SV}{ls:List LO}(h:Os b es us svs ls):∀o∈ls,∃e z us,o=.own e z 0 us:=by
 induction h with
 | nil=>intro o ho;cases ho
 | cons h hn h2 he hl ih=>
   intro o ho;rw [←hl.spec] at ho;rcases List.mem_append.1 ho with ho | ho
   ·exact h.own o ho
   ·exact ih o ho
theorem OY.own{b:Nat}{es:List TypeId}{us:List U}{sv:SV}{ls:List LO}(h:OY b es us sv ls):∀o∈ls,∃e z us,o=.own e z 0 us:=by
 cases h with
 | one h=>exact h.own
 | tup h=>exact h.own
theorem gLa{u:U}(hu:u.scal=true){v:Value}{L':List LO}{env':List Value}(h:SVr S L env w (.d u) v):SVr S' L' env' w (.d u) v:=by
 cases u with
 | i k n=>exact SVr.int.2 (SVr.int.1 h)
 | b x=>exact SVr.bool.2 (SVr.bool.1 h)
 | s l=>exact SVr.str.2 (SVr.str.1 h)
 | _=>cases hu
theorem hP8{m ver:Nat}{v:Value}(hlen:env.length=L.length)(h:SVr S Lc envc w (.sl m ver) v):SVr S' (L++Lc) (env++envc) w (.sl (L.length+m) ver) v:=by
 simp only [SVr] at h ⊢;obtain⟨hv,o,h1,h2,h3⟩:=h;refine⟨hv,o,?_,?_,h3⟩
 ·rw [List.getElem?_append_right (by omega),hlen,Nat.add_sub_cancel_left];exact h1
 ·rw [List.getElem?_append_right (by omega),Nat.add_sub_cancel_left];exact h2
theorem OX.shift(hlen:env.length=L.length){m:Nat}{es:List TypeId}{fl:List U}{cs:List SV}{ls:List LO}(h:OX m es fl cs ls):∀{n:Nat}{cs':List SV}{ls':List LO},n=L.length+m→OX n es fl cs' ls'→
  ls'=ls∧∀vs,kV S Lc envc w cs vs→kV S' (L++Lc) (env++envc) w cs' vs:=by
 induction h with
 | nil=>intro n cs' ls' _ h';cases h';exact⟨rfl,fun vs hv=>by cases vs<;>simp_all [kV]⟩
 | sl h ih=>
   intro n cs' ls' hn h';cases h' with
   | sl h'=>
     obtain⟨h1,h2⟩:=ih (by omega) h';refine⟨by rw [h1],fun vs hv=>?_⟩;cases vs with
     | nil=>simp [kV] at hv
     | cons v vs=>simp only [kV] at hv ⊢;subst hn;exact⟨hP8 hlen hv.1,h2 vs hv.2⟩
 | i h ih=>
   intro n cs' ls' hn h';cases h' with
   | i h'=>
     obtain⟨h1,h2⟩:=ih hn h';refine⟨h1,fun vs hv=>?_⟩;cases vs with
     | nil=>simp [kV] at hv
     | cons v vs=>simp only [kV] at hv ⊢;exact⟨gLa rfl hv.1,h2 vs hv.2⟩
 | b h ih=>
   intro n cs' ls' hn h';cases h' with
   | b h'=>
     obtain⟨h1,h2⟩:=ih hn h';refine⟨h1,fun vs hv=>?_⟩;cases vs with
     | nil=>simp [kV] at hv
     | cons v vs=>simp only [kV] at hv ⊢;exact⟨gLa rfl hv.1,h2 vs hv.2⟩
 | s h ih=>
   intro n cs' ls' hn h';cases h' with
   | s h'=>
     obtain⟨h1,h2⟩:=ih hn h';refine⟨h1,fun vs hv=>?_⟩;cases vs with
     | nil=>simp [kV] at hv
     | cons v vs=>simp only [kV] at hv ⊢;exact⟨gLa rfl hv.1,h2 vs hv.2⟩
theorem Lvs.inj{us a b:List U}(h:Lvs us a)(h':Lvs us b):a=b:=by rw [←h.eq,h'.eq]
theorem O1.shift(hlen:env.length=L.length){m n:Nat}{es:List TypeId}{u:U}{sv sv':SV}{ls ls':List LO}(hn:n=L.length+m)(h:O1 m es u sv ls)(h':O1 n es u sv' ls') :
  ls'=ls∧∀v,SVr S Lc envc w sv v→SVr S' (L++Lc) (env++envc) w sv' v:=by
 cases h with
 | st hl h=>
   cases h' with
   | st hl' h'=>
     obtain rfl:=hl.inj hl';obtain⟨h1,h2⟩:=OX.shift (S:=S) (S':=S') (Lc:=Lc) (envc:=envc) (w:=w) hlen h hn h';refine⟨h1,fun v hv=>?_⟩;simp only [SVr] at hv ⊢;obtain⟨vs,rfl,hv⟩:=hv;exact⟨vs,rfl,h2 vs hv⟩
   | leaf hu _=>cases hu
 | leaf hu h=>
   cases h' with
   | st hl' h'=>cases hu
   | leaf hu' h'=>
     obtain⟨h1,h2⟩:=OX.shift (S:=S) (S':=S') (Lc:=Lc) (envc:=envc) (w:=w) hlen h hn h';refine⟨h1,fun v hv=>?_⟩
     have:=h2 [v] (by simp only [kV];exact⟨hv,trivial⟩)
     simpa only [kV,and_true] using this
end
theorem OX.det{b:Nat}{es es':List TypeId}{fl:List U}{cs cs':List SV}{ls ls':List LO}{r r':List TypeId}(h:OX b es fl cs ls):∀{b':Nat} ,OX b' es' fl cs' ls'→es++r=es'++r'→es=es':=by
 induction h generalizing es' cs' ls' with
 | nil=>intro b' h' _;cases h';rfl
 | sl h ih=>intro b' h' he;cases h' with
   | sl h'=>simp only [List.cons_append,List.cons.injEq] at he;rw [he.1,ih h' he.2]
 | i h ih=>intro b' h' he;cases h' with | i h'=>exact ih h' he
 | b h ih=>intro b' h' he;cases h' with | b h'=>exact ih h' he
 | s h ih=>intro b' h' he;cases h' with | s h'=>exact ih h' he
section
variable {S S':Nat→Prop}{L Lc:List LO}{env envc:List Value}{w:World}
theorem O1.det{b b':Nat}{es es':List TypeId}{u:U}{sv sv':SV}{ls ls':List LO}{r r':List TypeId}(h:O1 b es u sv ls)(h':O1 b' es' u sv' ls')(he:es++r=es'++r'):es=es':=by
 cases h with
 | st hl h=>cases h' with
   | st hl' h'=>obtain rfl:=hl.inj hl';exact h.det h' he
   | leaf hu _=>cases hu
 | leaf hu h=>cases h' with
   | st _ _=>cases hu
   | leaf _ h'=>exact h.det h' he
theorem Os.shift(hlen:env.length=L.length){m:Nat}{es:List TypeId}{us:List U}{svs:List SV}{ls:List LO}(h:Os m es us svs ls):∀{n:Nat}{svs':List SV}{ls':List LO},n=L.length+m→Os n es us svs' ls'→
  ls'=ls∧∀vs,kV S Lc envc w svs vs→kV S' (L++Lc) (env++envc) w svs' vs:=by
 induction h with
 | nil=>intro n svs' ls' _ h';cases h';exact⟨rfl,fun vs hv=>by cases vs<;>simp_all [kV]⟩
 | cons h hn h2 he hl ih=>
   intro n svs' ls' hnn h';cases h' with
   | cons g gn g2 ge gl=>
     have e1:=he.spec;have e2:=ge.spec;have e3:=h.det g (e1.trans e2.symm);subst e3;have e4:=List.append_cancel_left (e1.trans e2.symm);subst e4;obtain⟨k1,k2⟩:=O1.shift (S:=S) (S':=S') (Lc:=Lc) (envc:=envc) (w:=w) hlen hnn h g;subst k1;obtain⟨k3,k4⟩:=ih (by omega) g2;subst k3;refine⟨by rw [←gl.spec,hl.spec],fun vs hv=>?_⟩;cases vs with
     | nil=>simp [kV] at hv
     | cons v vs=>simp only [kV] at hv ⊢;exact⟨k2 v hv.1,k4 vs hv.2⟩
theorem OY.shift(hlen:env.length=L.length){m n:Nat}{es:List TypeId}{us:List U}{sv sv':SV}{ls ls':List LO}(hn:n=L.length+m)(h:OY m es us sv ls)(h':OY n es us sv' ls') :
  ls'=ls∧∀v,SVr S Lc envc w sv v→SVr S' (L++Lc) (env++envc) w sv' v:=by
 cases h with
 | one h=>cases h' with
   | one h'=>exact O1.shift hlen hn h h'
 | tup h=>cases h' with
   | tup h'=>
     obtain⟨h1,h2⟩:=Os.shift (S:=S) (S':=S') (Lc:=Lc) (envc:=envc) (w:=w) hlen h hn h';refine⟨h1,fun v hv=>?_⟩;simp only [SVr] at hv ⊢;obtain⟨vs,rfl,hv⟩:=hv;exact⟨vs,rfl,h2 vs hv⟩
end
def LO.dat:LO→Option (Nat × Nat × List U)
 | .frz _ z v es=>some (z,v,es)
 | .arr _ z v es=>some (z,v,es)
 | .own _ z v es=>some (z,v,es)
 | _=>none
def WL(L:List LO):SV→U→Prop
 | .d u,u'=>u=u'
 | .nilsl,.sl _ us=>us=[]
 | .sl i ver,.sl z es=>(L[i]?).bind LO.dat=some (z,ver,es)
 | _,_=>False
def WLs(L:List LO):List SV→List U→Prop
 | [],[]=>True
 | sv::svs,u::us=>WL L sv u∧WLs L svs us
 | _,_=>False
def WD(L:List LO):SV→U→Prop
 | .ag cs,.st us=>WLs L cs (U.flats us)
 | sv,u=>WL L sv u
def WC(L:List LO):SV→SV→Prop
 | .fn f caps,.fn f' caps'=>f=f'∧VBs L caps caps'
 | sv,.d u=>WD L sv u
 | _,_=>False
def WCs(L:List LO):List SV→List SV→Prop
 | [],[]=>True
 | a::az,b::bs=>WC L a b∧WCs L az bs
 | _,_=>False
def hDb(S:Nat→Prop)(L:List LO)(env:List Value)(w:World)(b:Nat):Prop:=S b∨∃i,gZs L env w i b
section
variable {A:Amb}{S:Nat→Prop}{L:List LO}{env:List Value}{w:World}
theorem WL.r(hH:pU A S L env w){sv:SV}{u:U}{v:Value}(h:WL L sv u)(hv:SVr S L env w sv v):SVr (hDb S L env w) [] [] w (.d u) v:=by
 cases sv with
 | d u'=>have:u'=u:=h;subst this;exact SVr.bare _ _ rfl (SVr.more (fun b hb=>.inl hb) hv) _ _
 | nilsl=>
   cases u with
   | sl z us=>
     have:us=[]:=h
     subst this;simp only [SVr] at hv;subst hv;exact SVr.slice.2 ⟨by simp [gAy],none,0,rfl,.inl rfl⟩
   | _=>exact h.elim
 | sl i ver=>
   cases u with
   | sl z us=>
     have h:(L[i]?).bind LO.dat=some (z,ver,us):=h;simp only [SVr] at hv;obtain⟨hv',o,k1,k2,k3,k5,k4⟩:=hv;rw [k2] at h;simp only [Option.bind_some] at h;have hob:=hH.objs i _ _ k2 k1;cases o with
     | frz e z' v' es'=>
       simp only [LO.dat,Option.some.injEq,Prod.mk.injEq] at h;obtain⟨rfl,rfl,rfl⟩:=h;rw [k4 rfl];simp only [SVr];exact RdV.mono (fun b hb _=>.inl hb) (fun _ _ _=>rfl) hob
     | own e z' v' es'=>
       simp only [LO.dat,Option.some.injEq,Prod.mk.injEq] at h;obtain⟨rfl,rfl,rfl⟩:=h;rw [k4 rfl];exact(SVr.leaf rfl).2 (Tr.rd _ _ (gWu hob) (fun b hb=>.inr ⟨i,_,_,k2,rfl,k1,hb⟩))
     | arr e z' v' es'=>
       simp only [LO.dat,Option.some.injEq,Prod.mk.injEq] at h;obtain⟨rfl,rfl,rfl⟩:=h;rw [k4 rfl];have hbk:∀b,blk hv'=some b→hDb S L env w b:=fun b hb=>.inr ⟨i,_,_,k2,rfl,k1,hb⟩;obtain⟨hbg,hz,ys,m1,m2⟩:=hob;have hmono:Rds (hDb S L env w) w es' ys:=Rds.mono (fun b hb _=>.inl hb) (fun _ _ _=>rfl) _ _ m2;simp only [SVr];rcases m1.2 with ⟨rfl,h0⟩ | ⟨g,cap,cur,rfl,hg0,hg,hnc,hcm,hcs,htake⟩
       ·have:es'=[]:=List.eq_nil_of_length_eq_zero h0
        subst this;exact⟨[_],rfl,by simp only [Rd];exact⟨hbg,none,0,rfl,.inl trivial⟩⟩
       ·refine⟨[.slice (some ⟨g,0,none⟩) es'.length cap],rfl,?_⟩;simp only [Rd];exact⟨hbg,_,cap - es'.length,by rw [Nat.add_sub_cancel' hnc],.inr ⟨g,0,rfl,hbk g rfl,RdE.of_Rds es' ys 0 hz hmono (gZ8 m1 rfl)⟩⟩
     | _=>simp [LO.dat] at h
   | _=>exact h.elim
 | _=>exact h.elim
theorem WLs.r(hH:pU A S L env w):∀{svs:List SV}{us:List U}{vs:List Value},(∀u∈us,u.isSt=false)→WLs L svs us→kV S L env w svs vs→zX (fun u c=>Rd (hDb S L env w) w u [c]) us vs
 | [],[],[],_,_,_=>trivial
 | sv::svs,u::us,v::vs,hu,h,hv=>by
   simp only [kV] at hv;exact⟨(SVr.leaf (hu u (by simp))).1 (WL.r hH h.1 hv.1),WLs.r hH (fun u hu'=>hu u (by simp [hu'])) h.2 hv.2⟩
 | [],_::_,_,_,h,_=>h.elim
 | _::_,[],_,_,h,_=>h.elim
 | [],[],_::_,_,_,h=>by simp [kV] at h
 | _::_,_::_,[],_,_,h=>by simp [kV] at h
theorem WD.r(hH:pU A S L env w){sv:SV}{u:U}{v:Value}(h:WD L sv u)(hv:SVr S L env w sv v):SVr (hDb S L env w) [] [] w (.d u) v:=by
 cases sv with
 | ag cs=>
   cases u with
   | st us=>
     have h:WLs L cs (U.flats us):=h;simp only [SVr] at hv;obtain⟨vs,rfl,hv⟩:=hv
     have:=WLs.r hH (U.flats_leaf us) h hv
     simp only [SVr];refine⟨vs,rfl,?_⟩;simp only [Rd];exact Rds.of_leafs us vs this
   | _=>exact h.elim
 | d u'=>exact WL.r hH (show WL L (.d u') u by cases u<;>exact h) hv
 | nilsl=>exact WL.r hH (show WL L .nilsl u by cases u<;>exact h) hv
 | sl i ver=>exact WL.r hH (show WL L (.sl i ver) u by cases u<;>exact h) hv
 | junk=>cases u<;>exact h.elim
 | ptr i off=>cases u<;>exact h.elim
 | dp u=>cases u<;>exact h.elim
 | ep i ver z k off=>cases u<;>exact h.elim
 | fn f caps=>cases u<;>exact h.elim
 | tup vs=>cases u<;>exact h.elim
theorem hHy{b:Nat}(h:S b∨boxes L env b):hDb S L env w b:=by
 rcases h with h | ⟨i,cs,hv,h1,h2,h3⟩
 ·exact .inl h
 ·exact .inr ⟨i,_,hv,h1,rfl,h2,h3⟩
theorem WC.r(hH:pU A S L env w){sv sv':SV}{v:Value}(h:WC L sv sv')(hv:SVr S L env w sv v):SVr (hDb S L env w) [] [] w sv' v:=by
 cases sv' with
 | d u=>exact WD.r hH (show WD L sv u by cases sv<;>exact h) hv
 | fn f' caps'=>
   cases sv with
   | fn f caps=>
     obtain⟨rfl,h3⟩:=h;simp only [SVr] at hv ⊢;obtain⟨vs,rfl,h4⟩:=hv;refine⟨vs,rfl,?_⟩
     have:=VBs.r hH h3 h4
     exact kV.carry ⟨fun b hb _=>hHy hb,fun _ _ _=>rfl,fun _ _ h=>h,fun _ _ _ h1 h2=>⟨_,_,h1,h2,Nat.le_refl _,fun _=>rfl⟩⟩ _ _ this
   | _=>exact h.elim
 | _=>cases sv<;>exact h.elim
theorem WCs.r(hH:pU A S L env w):∀{svs svs':List SV}{vs:List Value},WCs L svs svs'→kV S L env w svs vs→kV (hDb S L env w) [] [] w svs' vs
 | [],[],[],_,_=>by simp [kV]
 | sv::svs,sv'::svs',v::vs,h,hv=>by
   simp only [kV] at hv ⊢;exact⟨WC.r hH h.1 hv.1,WCs.r hH h.2 hv.2⟩
 | [],_::_,_,h,_=>h.elim
 | _::_,[],_,h,_=>h.elim
 | [],[],_::_,_,h=>by simp [kV] at h
 | _::_,_::_,[],_,h=>by simp [kV] at h
theorem pU.lend(hH:pU A S L env w):pU ⟨w,hDb S L env w,fun _=>False,[],[]⟩ (hDb S L env w) [] [] w:=by
 refine⟨rfl,fun i o hv h=>by simp at h,fun i o hv b h=>by simp at h,fun i j o o' hv hv' b h=>by simp at h,?_,fun b hb=>.inl hb,fun _ _ _=>rfl,Nat.le_refl _,rfl,rfl,rfl,Base.nil rfl,hH.gok (fun _ h=>h.elim)⟩;rintro b (hb | ⟨i,o,hv,h1,h2,h3,h4⟩)
 ·exact hH.sS b hb
 ·exact(hH.excl i o hv b h1 h2 h3 h4).2.2
theorem pU.join(hH:pU A S L env w){S1 S':Nat→Prop}{Lc:List LO}{envc:List Value}{w':World}(hC:pU ⟨w,S1,fun _=>False,[],[]⟩ S' Lc envc w')(hown:∀o∈Lc,∃e z us,o=.own e z 0 us) :
  pU A S (L++Lc) (env++envc) w'∧Carry S L env w S (L++Lc) (env++envc) w':=by
 have hlen:=hH.len;have hold:∀b,b < w.heap.size→w'.heap[b]? =w.heap[b]? :=fun b hb=>hC.frame b hb (fun h=>h);have hfe:∀(i:Nat)(o':LO)(hv':Value),L[i]? =some o'→o'.live=true→env[i]? =some hv'→∀b,o'.ft w' hv' b→o'.ft w hv' b:=fun i o' hv' h1 hl h2 b hb'=>
  (LO.ft_eq (hH.objs i o' hv' h1 h2) (fun k hk=>hold k (hH.excl i o' hv' k h1 hl h2 hk).2.2) b).1 hb'
 have C:Carry S L env w S (L++Lc) (env++envc) w':=by
  refine⟨fun _ h _=>h,fun b _ hb=>hold b hb,fun i b hi=>?_,fun i hv' o' h1 h2=>?_⟩
  ·rw [List.getElem?_append_left (List.getElem?_eq_some_iff.1 hi).1];exact hi
  ·refine⟨hv',o',?_,?_,Nat.le_refl _,fun _=>rfl⟩
   ·rw [List.getElem?_append_left (List.getElem?_eq_some_iff.1 h1).1];exact h1
   ·rw [List.getElem?_append_left (List.getElem?_eq_some_iff.1 h2).1];exact h2
 have hsplit:∀(i:Nat)(o:LO)(hv:Value),(L++Lc)[i]? =some o→(env++envc)[i]? =some hv→(i < L.length∧L[i]? =some o∧env[i]? =some hv)∨(L.length≤i∧Lc[i - L.length]? =some o∧envc[i - L.length]? =some hv):=by
  intro i o hv h1 h2;by_cases hi:i < L.length
  ·rw [List.getElem?_append_left hi] at h1;rw [List.getElem?_append_left (by omega)] at h2;exact .inl ⟨hi,h1,h2⟩
  ·rw [List.getElem?_append_right (by omega)] at h1;rw [List.getElem?_append_right (by omega),hlen] at h2;exact .inr ⟨by omega,h1,h2⟩
 refine⟨⟨by simp [hlen,hC.len],?_,?_,?_,fun b hb=>Nat.lt_of_lt_of_le (hH.sS b hb) hC.size,hH.sA,fun b h1 h2=>?_,Nat.le_trans hH.size hC.size,hC.os.trans hH.os,hC.tape.trans hH.tape,hC.output.trans hH.output,hH.base.carry C hH.len (by simp),hH.glob⟩,C⟩
 ·intro i o hv h1 h2;rcases hsplit i o hv h1 h2 with ⟨_,k1,k2⟩ | ⟨_,k1,k2⟩
  ·exact gLm.carry C (fun b hl hb=>hold b (hH.excl i o hv b k1 hl k2 hb).2.2) (hH.objs i o hv k1 k2)
  ·obtain⟨e,z,us,rfl⟩:=hown o (List.mem_of_getElem? k1);exact hC.objs _ _ _ k1 k2
 ·intro i o hv b h1 hl h2 hb;rcases hsplit i o hv h1 h2 with ⟨_,k1,k2⟩ | ⟨_,k1,k2⟩
  ·have:=hH.excl i o hv b k1 hl k2 (hfe i o hv k1 hl k2 b hb)
   exact⟨this.1,this.2.1,Nat.lt_of_lt_of_le this.2.2 hC.size⟩
  ·have:=hC.excl _ o hv b k1 hl k2 hb
   have hge:w.heap.size≤b:=this.2.1.resolve_left (fun h=>h);exact⟨fun hs=>by have:=hH.sS b hs;omega,.inr (Nat.le_trans hH.size hge),this.2.2⟩
 ·intro i j o o' hv hv' b h1 h2 hl1 hl2 e1 e2 b1 b2;rcases hsplit i o hv h1 e1 with ⟨i1,k1,k2⟩ | ⟨i1,k1,k2⟩<;>rcases hsplit j o' hv' h2 e2 with ⟨j1,m1,m2⟩ | ⟨j1,m1,m2⟩
  ·exact hH.dist i j o o' hv hv' b k1 m1 hl1 hl2 k2 m2 (hfe _ _ _ k1 hl1 k2 _ b1) (hfe _ _ _ m1 hl2 m2 _ b2)
  ·have q1:=(hH.excl i o hv b k1 hl1 k2 (hfe _ _ _ k1 hl1 k2 _ b1)).2.2;have q2:=(hC.excl _ o' hv' b m1 hl2 m2 b2).2.1.resolve_left (fun h=>h);have q3:w.heap.size≤b:=q2;omega
  ·have q1:=(hH.excl j o' hv' b m1 hl2 m2 (hfe _ _ _ m1 hl2 m2 _ b2)).2.2;have q2:=(hC.excl _ o hv b k1 hl1 k2 b1).2.1.resolve_left (fun h=>h);have q3:w.heap.size≤b:=q2;omega
  ·have:=hC.dist _ _ o o' hv hv' b k1 m1 hl1 hl2 k2 m2 b1 b2
   omega
 ·rw [hold b (Nat.lt_of_lt_of_le h1 hH.size)];exact hH.frame b h1 h2
end
section
variable {P:Program}{A:Amb}{σ:St}{K:St→Prop}{ops:Array Oper}{rest:List Oper}
variable {t:Nat}{ty:TypeId}{pos:String}{af:Array Edge}{dst:Option Nat}{g:Option (Nat × Bool)}
theorem hF6{a:Act}{w:World}{f:Operand}{fi:Nat}{args:Array Operand}{at_:Array TypeId}(h1:a.eval f=.func (.func fi) #[] #[])(hc:hMv P fi) :
  (execOp a.eval ⟨dst,.call { callee:=.value f,args:=args,argTypes:=at_ },ty,pos,af,g⟩).run P w=.ok (.enter fi (args.toList.map a.eval).toArray) w:=by
 obtain⟨fn,c1,c2,c3⟩:=hc;have harr:args.map a.eval++(#[]:Array Value)=(args.toList.map a.eval).toArray:=by apply Array.ext';simp
 simp only [execOp,resolve,h1,Deferred.ofValue,Sem.run_bind,Sem.run_pure,Result.andThen_ok,invoke,callFunc,run_program,c1,c2,c3,Bool.false_eq_true,if_false,Array.empty_append,harr]
theorem hF7 {f:Operand}{fi:Nat}{args:Array Operand}{at_:Array TypeId}{dargs:List SV}{es:List TypeId}{us:List U}{fr:List (Nat × SV)}{L L' news:List LO}{N n:Nat}{sv:SV}(hf:(St.mk fr L N).ev f=.fn fi [])
  (hspec:pJ P fi dargs es us) (hargs:WCs L (args.toList.map (St.mk fr L N).ev) dargs) (hn:Ln L n) (hy:OYr n es us sv news) (hj:Jn L news L') (ht:Nat.blt t N=true)
  (h:VO P A ops rest ⟨(t,sv)::fr,L',N⟩ K):VO P A ops (⟨some t,.call { callee:=.value f,args:=args,argTypes:=at_ },ty,pos,af,none⟩::rest) ⟨fr,L,N⟩ K:=by
 have hj':=hj.spec;have hn:=hn.eq;subst hj';subst hn;intro R hR a w ⟨S,env,hH,hfr,hN,hd⟩;refine wpList_plain rfl fun K' hK'=>?_;have h1:=mP.ev hfr hH f;rw [hf] at h1;simp only [SVr] at h1;obtain⟨cvs,h1,h2⟩:=h1;have h2':cvs=[]:=by cases cvs with
  | nil=>rfl
  | cons _ _=>simp [kV] at h2
 subst h2';have h3:kV S L env w (args.toList.map (St.mk fr L N).ev) (args.toList.map a.eval):=kV.evals (σ:=⟨fr,L,N⟩) _ fun x _=>mP.ev hfr hH x;have h5:=WCs.r hH hargs h3;obtain⟨hc,hs⟩:=hspec;unfold Oper.wp;rw [hF6 h1 hc];simp only [Oper.upon];refine(hs ⟨w,hDb S L env w,fun _=>False,[],[]⟩ (hDb S L env w) [] w _ rfl rfl rfl rfl hH.lend h5).mono ?_;rintro e w' ⟨r,sv',S',Lc,envc,rfl,hoy,hH',hr⟩;obtain⟨hj,C⟩:=hH.join hH' hoy.own;obtain⟨e1,e2⟩:=OY.shift (S:=S') (S':=S) (Lc:=Lc) (envc:=envc) (w:=w') hH.len (by rw [Nat.add_zero]) hoy hy.oy;subst e1;exact hK' _ _ (h R hR _ _ (vZ (σ:=⟨fr,L,N⟩) hfr hN hd ht hj C (e2 r hr)))
theorem hMc {f:Operand}{fi:Nat}{args:Array Operand}{at_:Array TypeId}{dargs:List SV}{es:List TypeId}{us:List U}{fr:List (Nat × SV)}{L L' news:List LO}{N n:Nat}{sv:SV}(hf:(St.mk fr L N).ev f=.fn fi [])
  (hspec:pJ P fi dargs es us) (hargs:WCs L (args.toList.map (St.mk fr L N).ev) dargs) (hn:Ln L n) (hy:OYr n es us sv news) (hj:Jn L news L') (ht:Nat.blt t N=true) :
  HSt P A ops ⟨fr,L,N⟩ ⟨some t,.call { callee:=.value f,args:=args,argTypes:=at_ },ty,pos,af,none⟩ sv L':=by
 intro fr' he K hK;refine hF7 (by rw [he f (by simp [Op.operands,Call.operands])];exact hf) hspec ?_ hn hy hj ht (gF4 hK)
 have:args.toList.map (St.mk fr' L N).ev=args.toList.map (St.mk fr L N).ev:=List.map_congr_left fun x hx=>he x (by simp only [Op.operands,Call.operands];simp;exact .inr (by simpa using hx))
 rw [this];exact hargs
theorem hMd {f:Operand}{fi:Nat}{args:Array Operand}{at_:Array TypeId}{dargs:List SV}{u:U}(hf:σ.ev f=.fn fi [])
  (hspec:gW P fi dargs [u]) (hu:u.scal=true) (hargs:WCs σ.L (args.toList.map σ.ev) dargs) :
  Quiet P A σ ⟨dst,.call { callee:=.value f,args:=args,argTypes:=at_ },ty,pos,af,g⟩ (.d u):=by
 intro S env a w hH hx next R hn
 have h1:=hx f (by simp [Op.operands,Call.operands]);rw [hf] at h1;simp only [SVr] at h1;obtain⟨cvs,h1,h2⟩:=h1;have h2':cvs=[]:=by cases cvs with
  | nil=>rfl
  | cons _ _=>simp [kV] at h2
 subst h2';have h3:kV S σ.L env w (args.toList.map σ.ev) (args.toList.map a.eval):=kV.evals _ fun x hx'=>hx x (by simp [Op.operands,Call.operands];exact .inr (by simpa using hx'));have h5:=WCs.r hH hargs h3;obtain⟨hc,hs⟩:=hspec;unfold Oper.wp;rw [hF6 h1 hc];simp only [Oper.upon];refine(hs ⟨w,hDb S σ.L env w,fun _=>False,[],[]⟩ (hDb S σ.L env w) [] w _ rfl rfl rfl rfl hH.lend h5).mono ?_;rintro e w' ⟨r,sv',S',Lc,envc,rfl,⟨rfl,rfl⟩,hH',hr⟩;obtain⟨hj,C⟩:=hH.join hH' (fun o ho=>by cases ho);have henvc:envc=[]:=List.eq_nil_of_length_eq_zero (by simpa using hH'.len);subst henvc;simp only [List.append_nil] at hj C;exact hn r w' S hj C (gLa hu hr)
end
inductive RP (L:List LO):List SV→List U→List TypeId→List (Option Nat)→Prop
 | nil:RP L [] [] [] []
 | sl {i ver e z:Nat} {us:List U} {svs:List SV} {fl:List U} {es:List TypeId} {ps:List (Option Nat)} (h:L[i]? =some (.own e z ver us)) (h2:RP L svs fl es ps):RP L (.sl i ver::svs) (.sl z us::fl) (e::es) (some i::ps)
 | nilsl {e z:Nat} {svs:List SV} {fl:List U} {es:List TypeId} {ps:List (Option Nat)} (h2:RP L svs fl es ps):RP L (.nilsl::svs) (.sl z []::fl) (e::es) (none::ps)
 | i {k:IntKind} {n:Int} {svs:List SV} {fl:List U} {es:List TypeId} {ps:List (Option Nat)} (h2:RP L svs fl es ps):RP L (.d (.i k n)::svs) (.i k n::fl) es ps
 | b {x:Bool} {svs:List SV} {fl:List U} {es:List TypeId} {ps:List (Option Nat)} (h2:RP L svs fl es ps):RP L (.d (.b x)::svs) (.b x::fl) es ps
 | s {l:LB} {svs:List SV} {fl:List U} {es:List TypeId} {ps:List (Option Nat)} (h2:RP L svs fl es ps):RP L (.d (.s l)::svs) (.s l::fl) es ps
inductive R1 (L:List LO):SV→U→List TypeId→List (Option Nat)→Prop
 | ag {cs:List SV} {us fl:List U} {es:List TypeId} {ps:List (Option Nat)} (hl:Lvs us fl) (h:RP L cs fl es ps):R1 L (.ag cs) (.st us) es ps
 | leaf {sv:SV} {u:U} {es:List TypeId} {ps:List (Option Nat)} (hu:u.isSt=false) (h:RP L [sv] [u] es ps):R1 L sv u es ps
inductive ROs (P:Program)(σ:St):List ResultVar→List U→List TypeId→List (Option Nat)→Prop
 | nil:ROs P σ [] [] [] []
 | cons {r:ResultVar} {rs:List ResultVar} {u:U} {us:List U} {sv:SV} {es es1 es2:List TypeId} {ps ps1 ps2:List (Option Nat)} (hr:hHu P σ r sv) (ho:R1 σ.L sv u es1 ps1) (h:ROs P σ rs us es2 ps2) (he:Jn es1 es2 es) (hp:Jn ps1 ps2 ps):ROs P σ (r::rs) (u::us) es ps
inductive PK (L:List LO)(env:List Value):List (Option Nat)→List LO→List Value→Prop
 | nil:PK L env [] [] []
 | sm {i e z ver:Nat} {us:List U} {hv:Value} {ps:List (Option Nat)} {ls:List LO} {hvs:List Value} (h:L[i]? =some (.own e z ver us)) (he:env[i]? =some hv) (r:PK L env ps ls hvs):PK L env (some i::ps) (.own e z 0 us::ls) (hv::hvs)
 | nn {e z:Nat} {ps:List (Option Nat)} {ls:List LO} {hvs:List Value} (r:PK L env ps ls hvs):PK L env (none::ps) (.own e z 0 []::ls) (.slice none 0 0::hvs)
section
variable {P:Program}{A:Amb}{S:Nat→Prop}{L:List LO}{env:List Value}{w:World}
theorem PK.append{ps ps':List (Option Nat)}{ls ls':List LO}{hvs hvs':List Value}(h:PK L env ps ls hvs)(h':PK L env ps' ls' hvs'):PK L env (ps++ps') (ls++ls') (hvs++hvs'):=by
 induction h with
 | nil=>exact h'
 | sm h he r ih=>exact .sm h he ih
 | nn r ih=>exact .nn ih
theorem PK.len{ps:List (Option Nat)}{ls:List LO}{hvs:List Value}(h:PK L env ps ls hvs):hvs.length=ls.length:=by
 induction h with
 | nil=>rfl
 | sm h he r ih=>simp [ih]
 | nn r ih=>simp [ih]
theorem PK.get{ps:List (Option Nat)}{ls:List LO}{hvs:List Value}(h:PK L env ps ls hvs):∀(j:Nat)(o:LO)(hv:Value),ls[j]? =some o→hvs[j]? =some hv→
  (∃i e z ver us,ps[j]? =some (some i)∧L[i]? =some (.own e z ver us)∧env[i]? =some hv∧o=.own e z 0 us)∨(∃e z,o=.own e z 0 []∧hv=.slice none 0 0):=by
 induction h with
 | nil=>intro j o hv h;simp at h
 | @sm i e z ver us hv0 ps ls hvs h he r ih=>
   intro j o hv h1 h2;cases j with
   | zero=>simp at h1 h2;subst h1;subst h2;exact .inl ⟨i,e,z,ver,us,rfl,h,he,rfl⟩
   | succ j=>simp only [List.getElem?_cons_succ] at h1 h2 ⊢;exact ih j o hv h1 h2
 | @nn e z ps ls hvs r ih=>
   intro j o hv h1 h2;cases j with
   | zero=>simp at h1 h2;subst h1;subst h2;exact .inr ⟨e,z,rfl,rfl⟩
   | succ j=>simp only [List.getElem?_cons_succ] at h1 h2 ⊢;exact ih j o hv h1 h2
theorem gYc:∀(ps:List (Option Nat))(j j' i:Nat),(ps.filterMap id).Nodup→ps[j]? =some (some i)→ps[j']? =some (some i)→j=j'
 | [],j,_,_,_,h,_=>by simp at h
 | p::ps,0,0,_,_,_,_=>rfl
 | p::ps,0,j'+1,i,hn,h,h'=>by
   simp at h;subst h;simp only [List.filterMap_cons,id_eq,List.nodup_cons] at hn;exact absurd (show i∈ps.filterMap id from List.mem_filterMap.2 ⟨some i,List.mem_of_getElem? (by simpa using h'),rfl⟩) hn.1
 | p::ps,j+1,0,i,hn,h,h'=>by
   simp at h';subst h';simp only [List.filterMap_cons,id_eq,List.nodup_cons] at hn;exact absurd (show i∈ps.filterMap id from List.mem_filterMap.2 ⟨some i,List.mem_of_getElem? (by simpa using h),rfl⟩) hn.1
 | p::ps,j+1,j'+1,i,hn,h,h'=>by
   have hn':(ps.filterMap id).Nodup:=by
    cases p with
    | none=>simpa [List.filterMap_cons] using hn
    | some q=>simp only [List.filterMap_cons,id_eq,List.nodup_cons] at hn;exact hn.2
   rw [gYc ps j j' i hn' (by simpa using h) (by simpa using h')]
theorem hEc(e z v:Nat):gLm S L env w (.own e z v []) (.slice none 0 0):=by
 obtain⟨_,k2⟩:=Tr.nil w z;exact⟨by simp [gAy],by simp,⟨[],World.ownsRow_nil w 0 e z,by simp [Trs]⟩,by rw [k2];exact List.nodup_nil⟩
theorem PK.heap(hH:pU A S L env w){ps:List (Option Nat)}{ls:List LO}{hvs:List Value}(h:PK L env ps ls hvs)(hn:(ps.filterMap id).Nodup)(h0:A.L0=[]):pU A S ls hvs w:=by
 have nft:∀e z b,(LO.own e z 0 []).ft w (.slice none 0 0) b→False:=fun e z b hb=>by
  simp only [LO.ft] at hb;rw [(Tr.nil w z).2] at hb;cases hb
 refine⟨h.len,?_,?_,?_,hH.sS,hH.sA,hH.frame,hH.size,hH.os,hH.tape,hH.output,Base.nil h0,hH.glob⟩
 ·intro i o hv h1 h2;rcases h.get i o hv h1 h2 with ⟨k,e,z,ver,us,_,k2,k3,rfl⟩ | ⟨e,z,rfl,rfl⟩
  ·exact hH.objs k _ hv k2 k3
  ·exact hEc e z 0
 ·intro i o hv b h1 hl h2 hb;rcases h.get i o hv h1 h2 with ⟨k,e,z,ver,us,_,k2,k3,rfl⟩ | ⟨e,z,rfl,rfl⟩
  ·exact hH.excl k (.own e z ver us) hv b k2 rfl k3 hb
  ·exact(nft e z b hb).elim
 ·intro i j o o' hv hv' b h1 h2 hl1 hl2 e1 e2 b1 b2;rcases h.get i o hv h1 e1 with ⟨k,e,z,ver,us,k1,k2,k3,rfl⟩ | ⟨e,z,rfl,rfl⟩
  ·rcases h.get j o' hv' h2 e2 with ⟨k',e',z',ver',us',k1',k2',k3',rfl⟩ | ⟨e',z',rfl,rfl⟩
   ·have:=hH.dist k k' (.own e z ver us) (.own e' z' ver' us') hv hv' b k2 k2' rfl rfl k3 k3' b1 b2
    subst this;exact gYc ps i j k hn k1 k1'
   ·exact(nft e' z' b b2).elim
  ·exact(nft e z b b1).elim
theorem RP.r{svs:List SV}{fl:List U}{es:List TypeId}{ps:List (Option Nat)}(h:RP L svs fl es ps):∀(vs:List Value)(m:Nat),kV S L env w svs vs→
  ∃cs ls hvs,OX m es fl cs ls∧PK L env ps ls hvs∧∀(Lp Ls:List LO)(ep eq:List Value),Lp.length=m→ep.length=m→kV S (Lp++ls++Ls) (ep++hvs++eq) w cs vs:=by
 induction h with
 | nil=>
   intro vs m hv;cases vs with
   | nil=>exact⟨[],[],[],.nil,.nil,fun _ _ _ _ _ _=>by simp [kV]⟩
   | cons _ _=>simp [kV] at hv
 | @sl i ver e z us svs fl es ps h h2 ih=>
   intro vs m hv;cases vs with
   | nil=>simp [kV] at hv
   | cons v vs=>
     simp only [kV] at hv;obtain⟨cs,ls,hvs,k1,k2,k3⟩:=ih vs (m+1) hv.2;have h0:=hv.1;simp only [SVr] at h0;obtain⟨hv',o,q1,q2,q3,q5,q4⟩:=h0;rw [h] at q2;obtain rfl:=Option.some.inj q2;have q6:=q4 rfl;subst q6;refine⟨.sl m 0::cs,.own e z 0 us::ls,v::hvs,.sl k1,.sm h q1 k2,fun Lp Ls ep eq hl1 hl2=>?_⟩;simp only [kV];refine⟨?_,?_⟩
     ·simp only [SVr];refine⟨v,.own e z 0 us,?_,?_,Nat.le_refl _,q5,fun _=>rfl⟩
      ·rw [List.append_assoc,List.getElem?_append_right (by omega),hl2];simp
      ·rw [List.append_assoc,List.getElem?_append_right (by omega),hl1];simp
     ·have:=k3 (Lp++[.own e z 0 us]) Ls (ep++[v]) eq (by simp [hl1]) (by simp [hl2])
      simpa using this
 | @nilsl e z svs fl es ps h2 ih=>
   intro vs m hv;cases vs with
   | nil=>simp [kV] at hv
   | cons v vs=>
     simp only [kV] at hv;obtain⟨cs,ls,hvs,k1,k2,k3⟩:=ih vs (m+1) hv.2;have h0:=hv.1;simp only [SVr] at h0;subst h0;refine⟨.sl m 0::cs,.own e z 0 []::ls,.slice none 0 0::hvs,.sl k1,.nn k2,fun Lp Ls ep eq hl1 hl2=>?_⟩;simp only [kV];refine⟨?_,?_⟩
     ·simp only [SVr];refine⟨.slice none 0 0,.own e z 0 [],?_,?_,Nat.le_refl _,rfl,fun _=>rfl⟩
      ·rw [List.append_assoc,List.getElem?_append_right (by omega),hl2];simp
      ·rw [List.append_assoc,List.getElem?_append_right (by omega),hl1];simp
     ·have:=k3 (Lp++[.own e z 0 []]) Ls (ep++[.slice none 0 0]) eq (by simp [hl1]) (by simp [hl2])
      simpa using this
 | i h2 ih=>
   intro vs m hv;cases vs with
   | nil=>simp [kV] at hv
   | cons v vs=>
     simp only [kV] at hv;obtain⟨cs,ls,hvs,k1,k2,k3⟩:=ih vs m hv.2;refine⟨_,ls,hvs,.i k1,k2,fun Lp Ls ep eq hl1 hl2=>?_⟩;simp only [kV];exact⟨gLa rfl hv.1,k3 Lp Ls ep eq hl1 hl2⟩
 | b h2 ih=>
   intro vs m hv;cases vs with
   | nil=>simp [kV] at hv
   | cons v vs=>
     simp only [kV] at hv;obtain⟨cs,ls,hvs,k1,k2,k3⟩:=ih vs m hv.2;refine⟨_,ls,hvs,.b k1,k2,fun Lp Ls ep eq hl1 hl2=>?_⟩;simp only [kV];exact⟨gLa rfl hv.1,k3 Lp Ls ep eq hl1 hl2⟩
 | s h2 ih=>
   intro vs m hv;cases vs with
   | nil=>simp [kV] at hv
   | cons v vs=>
     simp only [kV] at hv;obtain⟨cs,ls,hvs,k1,k2,k3⟩:=ih vs m hv.2;refine⟨_,ls,hvs,.s k1,k2,fun Lp Ls ep eq hl1 hl2=>?_⟩;simp only [kV];exact⟨gLa rfl hv.1,k3 Lp Ls ep eq hl1 hl2⟩
theorem R1.r{sv:SV}{u:U}{es:List TypeId}{ps:List (Option Nat)}(h:R1 L sv u es ps)(v:Value)(m:Nat)(hv:SVr S L env w sv v) :
  ∃sv' ls hvs,O1 m es u sv' ls∧PK L env ps ls hvs∧∀(Lp Ls:List LO)(ep eq:List Value),Lp.length=m→ep.length=m→SVr S (Lp++ls++Ls) (ep++hvs++eq) w sv' v:=by
 cases h with
 | ag hl h=>
   simp only [SVr] at hv;obtain⟨vs,rfl,hv⟩:=hv;obtain⟨cs,ls,hvs,k1,k2,k3⟩:=h.r vs m hv;refine⟨.ag cs,ls,hvs,.st hl k1,k2,fun Lp Ls ep eq hl1 hl2=>?_⟩;simp only [SVr];exact⟨vs,rfl,k3 Lp Ls ep eq hl1 hl2⟩
 | leaf hu h=>
   obtain⟨cs,ls,hvs,k1,k2,k3⟩:=h.r [v] m (by simp only [kV];exact⟨hv,trivial⟩);have k4:=k3 (List.replicate m default) [] (List.replicate m default) [] (by simp) (by simp)
   match cs,k4 with
   | [c],_=>
     refine⟨c,ls,hvs,.leaf hu k1,k2,fun Lp Ls ep eq hl1 hl2=>?_⟩
     have:=k3 Lp Ls ep eq hl1 hl2
     simpa only [kV,and_true] using this
   | [],k4=>simp [kV] at k4
   | _::_::_,k4=>simp [kV] at k4
theorem ROs.run{σ:St}{a:Act}(hH:pU A S σ.L env w)(hf:∀t,SVr S σ.L env w (look σ.fr t) (a.tmps.getD t undef)){rs:List ResultVar}{us:List U}{es:List TypeId}{ps:List (Option Nat)}(h:ROs P σ rs us es ps) :
  ∀(m:Nat),∃vs svs ls hvs,(rs.mapM (hTz a.tmps)).run P w=.ok vs w∧Os m es us svs ls∧PK σ.L env ps ls hvs∧∀(Lp Ls:List LO)(ep eq:List Value),Lp.length=m→ep.length=m→kV S (Lp++ls++Ls) (ep++hvs++eq) w svs vs:=by
 induction h with
 | nil=>intro m;exact⟨[],[],[],[],by simp,.nil,.nil,fun _ _ _ _ _ _=>by simp [kV]⟩
 | @cons r rs u us sv es es1 es2 ps ps1 ps2 hr ho h he hp ih=>
   intro m;obtain⟨v,k1,k2⟩:=hHu.run hH hf hr;obtain⟨sv',ls1,hvs1,o1,o2,o3⟩:=ho.r v m k2;obtain⟨vs,svs,ls,hvs,q1,q2,q3,q4⟩:=ih (m+ls1.length);have jn:∀{α:Type}(x y:List α),Jn x y (x++y):=fun x y=>by
    induction x with
    | nil=>exact .z
    | cons a x ih=>exact .s ih
   refine⟨v::vs,sv'::svs,ls1++ls,hvs1++hvs,?_,.cons o1 rfl q2 he (jn _ _),by rw [←hp.spec];exact o2.append q3,fun Lp Ls ep eq hl1 hl2=>?_⟩
   ·simp only [List.mapM_cons,Sem.run_bind];rw [k1];simp only [Result.andThen_ok];rw [q1];rfl
   ·simp only [kV];refine⟨?_,?_⟩
    ·have:=o3 Lp (ls++Ls) ep (hvs++eq) hl1 hl2
     simpa [List.append_assoc] using this
    ·have:=q4 (Lp++ls1) Ls (ep++hvs1) eq (by simp [hl1]) (by simp [hl2,o2.len])
     simpa [List.append_assoc] using this
end
section
variable {P:Program}
def uW(P:Program)(fn:Func)(es:List TypeId)(us:List U)(e:Exit)(σ:St):Prop:=(match e with | .normal=>True | .ret=>True | _=>False)∧∃ps,ROs P σ fn.results.toList us es ps∧decide ((ps.filterMap id).Nodup)=true
theorem yB {f:Nat}{fn:Func}{c:Code}{args:List SV}{es:List TypeId}{us:List U}(hf:P.funcs[f]? =some fn)(hb:fn.body=some c)(hname:(fn.name== "runtime.NumGoroutine")=false)
  (hn:Nat.ble args.length fn.ntmps=true) (hus:us≠[]) (h:∀A [gBp A 0],V P A c ⟨gO2 0 args,[],fn.ntmps⟩ (uW P fn es us)):pJ P f args es us:=by
 refine⟨⟨fn,hf,hname,by rw [hb];rfl⟩,?_⟩;intro A S env w vs hw hS hA0 he hH hargs;have hb0:gBp A 0:=⟨by rw [hA0];rfl⟩
 have hlen:=kV.length hargs;have henv:env=[]:=List.eq_nil_of_length_eq_zero (by simpa using hH.len);subst henv;have hn':=Nat.le_of_ble_eq_true hn;refine calls_of_wp hf hb ?_;refine wp_mono (h A _ w ⟨S,[],hH,fun t=>?_,?_,rfl⟩) ?_
 ·have:=gL0 args vs 0 [] (List.replicate (fn.ntmps - vs.length) undef) rfl hargs t
  have e:vs.toArray++Array.replicate (fn.ntmps - vs.toArray.size) undef=([]++vs++List.replicate (fn.ntmps - vs.length) undef).toArray:=by apply Array.ext';simp
  rw [e];exact this
 ·simp;omega
 ·rintro e a' w' ⟨σ',⟨he,ps,hres,hnd⟩,S',env',hH',hf',hN',hd'⟩;obtain⟨rvs,svs,ls,hvs,k1,k2,k3,k4⟩:=hres.run hH' hf' 0;have hrun:(results fn a'.tmps).run P w'=.ok (if h:rvs.toArray.size=1 then rvs.toArray[0] else .tuple rvs.toArray) w':=by
   rw [gS5];simp only [Sem.run_bind];rw [←Array.toArray_toList (xs:=fn.results)];simp only [List.mapM_toArray,Sem.run_map];rw [k1];rfl
  have k5:=k4 [] [] [] [] rfl rfl;simp only [List.nil_append,List.append_nil] at k5;have hl:=kV.length k5;have fin:∃r sv S'' L' env'',(Ending.returned (if h:rvs.toArray.size=1 then rvs.toArray[0] else .tuple rvs.toArray))=.returned r∧OY 0 es us sv L'∧pU A S'' L' env'' w'∧SVr S'' L' env'' w' sv r:=by
   have hheap:=k3.heap hH' (of_decide_eq_true hnd) hA0
   match us,svs,rvs,k2,k5,hl,hus with
   | [u],[sv],[v],k2,k5,_,_=>
     refine⟨_,sv,S',ls,hvs,rfl,?_,hheap,?_⟩
     ·cases k2 with
      | cons h1 hn h2 he hl=>
        cases h2;have e1:=he.spec;have e2:=hl.spec;simp only [List.append_nil] at e1 e2;subst e1;subst e2;exact .one h1
     ·simpa [kV] using k5
   | u::u'::us,sv::sv'::svs,v::v'::rvs,k2,k5,_,_=>
     refine⟨_,.tup (sv::sv'::svs),S',ls,hvs,rfl,.tup k2,hheap,?_⟩;simp only [SVr];exact⟨v::v'::rvs,by simp,k5⟩
   | [_],_::_::_,_,k2,_,_,_=>cases k2 with | cons _ _ h2 _ _=>cases h2
   | _::_::_,[_],_,k2,_,_,_=>cases k2 with | cons _ _ h2 _ _=>cases h2
   | [_],[_],[],_,_,hl,_=>simp at hl
   | [_],[_],_::_::_,_,_,hl,_=>simp at hl
   | _::_::_,_::_::_,[],_,_,hl,_=>simp at hl
   | _::_::_,_::_::_,[_],_,_,hl,_=>simp at hl
  cases e with
  | normal=>exact⟨hd',_,hrun,fin⟩
  | ret=>exact⟨hd',_,hrun,fin⟩
  | exit id=>exact he.elim
  | goto l=>exact he.elim
  | panic c=>exact he.elim
  | outgrown=>exact he.elim
theorem OX.wl{L:List LO}{b:Nat}{es:List TypeId}{fl:List U}{cs:List SV}{ls:List LO}(h:OX b es fl cs ls):(∀k o,ls[k]? =some o→L[b+k]? =some o)→WLs L cs fl:=by
 induction h with
 | nil=>intro _;trivial
 | sl h ih=>
   intro hL;refine⟨?_,ih fun k o hk=>by have:=hL (k+1) o (by simpa using hk);rwa [←Nat.add_assoc,Nat.add_right_comm] at this⟩
   have:=hL 0 _ rfl
   simp only [WL];rw [Nat.add_zero] at this;rw [this];rfl
 | i h ih=>intro hL;exact⟨rfl,ih hL⟩
 | b h ih=>intro hL;exact⟨rfl,ih hL⟩
 | s h ih=>intro hL;exact⟨rfl,ih hL⟩
theorem O1.wd{L:List LO}{b:Nat}{es:List TypeId}{u:U}{sv:SV}{ls:List LO}(h:O1 b es u sv ls)(hL:∀k o,ls[k]? =some o→L[b+k]? =some o):WD L sv u:=by
 cases h with
 | st hl h=>have:=hl.eq;subst this;exact h.wl hL
 | leaf hu h=>
   have:=(h.wl hL).1
   cases sv<;>cases u<;>first | exact this | cases hu
theorem Os.wd{A:Amb}{S:Nat→Prop}{L:List LO}{env:List Value}{w:World}(hH:pU A S L env w){b:Nat}{es:List TypeId}{us:List U}{svs:List SV}{ls:List LO}(h:Os b es us svs ls):(∀k o,ls[k]? =some o→L[b+k]? =some o)→
  ∀vs,kV S L env w svs vs→kV (hDb S L env w) [] [] w (us.map .d) vs:=by
 induction h with
 | nil=>intro _ vs hv;cases vs<;>simp_all [kV]
 | @cons b n es es1 es2 u us sv svs ls ls1 ls2 h hn h2 he hl ih=>
   intro hL vs hv;cases vs with
   | nil=>simp [kV] at hv
   | cons v vs=>
     simp only [kV,List.map_cons] at hv ⊢;rw [←hl.spec] at hL;refine⟨WD.r hH (h.wd fun k o hk=>hL k o (by rw [List.getElem?_append_left (List.getElem?_eq_some_iff.1 hk).1];exact hk)) hv.1,ih (fun k o hk=>?_) vs hv.2⟩
     have:=hL (ls1.length+k) o (by rw [List.getElem?_append_right (by omega),Nat.add_sub_cancel_left];exact hk)
     rw [←hn,Nat.add_assoc];exact this
theorem pJ.p{f:Nat}{args:List SV}{es:List TypeId}{us:List U}(h:pJ P f args es us):gW P f args us:=by
 refine⟨h.1,fun A S env w vs hw hS hl he hH hargs=>(h.2 A S env w vs hw hS hl he hH hargs).mono ?_⟩;rintro e w' ⟨r,sv,S',L',env',rfl,hoy,hH',hr⟩;refine⟨r,mkR us,hDb S' L' env' w',[],[],rfl,⟨rfl,rfl⟩,⟨rfl,fun i o hv h=>by simp at h,fun i o hv b h=>by simp at h,fun i j o o' hv hv' b h=>by simp at h,?_,?_,hH'.frame,hH'.size,hH'.os,hH'.tape,hH'.output,Base.nil hl,hH'.glob⟩,?_⟩
 ·rintro b (hb | ⟨i,o,hv,h1,h2,h3,h4⟩)
  ·exact hH'.sS b hb
  ·exact(hH'.excl i o hv b h1 h2 h3 h4).2.2
 ·rintro b (hb | ⟨i,o,hv,h1,h2,h3,h4⟩)
  ·exact hH'.sA b hb
  ·exact .inr (hH'.excl i o hv b h1 h2 h3 h4).2.1
 ·cases hoy with
  | one h=>exact WD.r hH' (h.wd fun k o hk=>by simpa using hk) hr
  | tup h=>
    simp only [SVr] at hr;obtain⟨vs,rfl,hr⟩:=hr;simp only [mkR,SVr];exact⟨vs,rfl,h.wd hH' (fun k o hk=>by simpa using hk) vs hr⟩
end
end Go.Eng
