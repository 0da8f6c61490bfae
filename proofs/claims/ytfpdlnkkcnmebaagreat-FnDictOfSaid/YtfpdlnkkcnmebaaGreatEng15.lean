import Derived.Test.YtfpdlnkkcnmebaaGreatEng12
namespace Go.Eng
open Go Go.RowKit
class TI (P:Program) (T:TypeId) (g:outParam Bool) (n b:outParam Nat):Prop where
 h:tyI P T=some (g,n,b)
class TE (P:Program) (T:TypeId) (e:outParam TypeId):Prop where
 h:tyE P T=some e
class TF (P:Program) (T:TypeId) (f:Nat) (fo:outParam Nat):Prop where
 h:tyF P T f=some fo
class TZ (P:Program) (T:TypeId) (zs:outParam (List Value)):Prop where
 h:tyZ P T=some zs
class TS (P:Program) (T:TypeId):Prop where
 h:P.underlying T=some .string
class TB (P:Program) (T:TypeId):Prop where
 h:P.underlying T=some .bool
class TP (P:Program) (T:TypeId):Prop where
 h:hEd P T
inductive Nf:SV→SV→Prop
 | d {u:U}:Nf (.d u) (.d u)
 | ptr {i off:Nat}:Nf (.ptr i off) (.ptr i off)
 | sl {i ver:Nat}:Nf (.sl i ver) (.sl i ver)
 | dp {u:U}:Nf (.dp u) (.dp u)
 | ep {i ver z k off:Nat}:Nf (.ep i ver z k off) (.ep i ver z k off)
 | ag {l:List SV}:Nf (.ag l) (.ag l)
 | tup {l:List SV}:Nf (.tup l) (.tup l)
 | fn {f:Nat} {l:List SV}:Nf (.fn f l) (.fn f l)
 | nilsl:Nf .nilsl .nilsl
theorem Nf.eq{a b:SV}(h:Nf a b):a=b:=by cases h<;>rfl
inductive Tk {α:Type}:Nat→Nat→List α→List α→Prop
 | z {l:List α}:Tk 0 0 l []
 | t {n:Nat} {c:α} {l ds:List α}:Tk 0 n l ds→Tk 0 (n+1) (c::l) (c::ds)
 | s {o n:Nat} {c:α} {l ds:List α}:Tk o n l ds→Tk (o+1) n (c::l) ds
theorem Tk.spec{α:Type}{o n:Nat}{l ds:List α}(h:Tk o n l ds):o+n≤l.length∧(l.drop o).take n=ds:=by
 induction h with
 | z=>simp
 | t h ih=>simp only [List.drop_zero] at ih ⊢;simp [ih.2];omega
 | s h ih=>simp [ih.2];omega
inductive Pt {α:Type}:Nat→List α→List α→List α→Prop
 | z {l:List α}:Pt 0 [] l l
 | t {c c':α} {ds l r:List α}:Pt 0 ds l r→Pt 0 (c'::ds) (c::l) (c'::r)
 | s {o:Nat} {c:α} {ds l r:List α}:Pt o ds l r→Pt (o+1) ds (c::l) (c::r)
theorem Pt.spec{α:Type}{o:Nat}{ds l r:List α}(h:Pt o ds l r):o+ds.length≤l.length∧l.take o++ds++l.drop (o+ds.length)=r:=by
 induction h with
 | z=>simp
 | t h ih=>simp only [List.take_zero,List.nil_append,Nat.zero_add] at ih ⊢;simp [ih.2];omega
 | @s o c ds l r h ih=>
   refine⟨by simp;omega,?_⟩;rw [show o+1+ds.length=(o+ds.length)+1 by omega,List.drop_succ_cons,List.take_succ_cons,List.cons_append,List.cons_append,ih.2]
inductive Sn {α:Type}(x:α):List α→Nat→List α→Prop
 | z:Sn x [] 0 [x]
 | s {c:α} {l r:List α} {n:Nat}:Sn x l n r→Sn x (c::l) (n+1) (c::r)
theorem Sn.spec{α:Type}{x:α}{l r:List α}{n:Nat}(h:Sn x l n r):l.length=n∧l++[x]=r:=by
 induction h with
 | z=>simp
 | s h ih=>simp [ih.1,ih.2]
inductive St1 {α:Type}(x:α):Nat→List α→List α→Prop
 | z {c:α} {l:List α}:St1 x 0 (c::l) (x::l)
 | s {i:Nat} {c:α} {l r:List α}:St1 x i l r→St1 x (i+1) (c::l) (c::r)
theorem St1.spec{α:Type}{x:α}{i:Nat}{l r:List α}(h:St1 x i l r):l.set i x=r:=by
 induction h with
 | z=>rfl
 | s h ih=>simp [ih]
inductive Jn {α:Type}:List α→List α→List α→Prop
 | z {l:List α}:Jn [] l l
 | s {c:α} {a l r:List α}:Jn a l r→Jn (c::a) l (c::r)
theorem Jn.spec{α:Type}{a l r:List α}(h:Jn a l r):a++l=r:=by
 induction h with
 | z=>rfl
 | s h ih=>simp [ih]
mutual
inductive Fl:U→List SV→Prop
 | i {k:IntKind} {n:Int}:Fl (.i k n) [.d (.i k n)]
 | b {x:Bool}:Fl (.b x) [.d (.b x)]
 | s {l:LB}:Fl (.s l) [.d (.s l)]
 | sl {z:Nat} {us:List U}:Fl (.sl z us) [.d (.sl z us)]
 | st {us:List U} {cs:List SV}:Fls us cs→Fl (.st us) cs
inductive Fls:List U→List SV→Prop
 | nil:Fls [] []
 | cons {u:U} {us:List U} {a b c:List SV}:Fl u a→Fls us b→Jn a b c→Fls (u::us) c
end
mutual
theorem Fl.spec:∀{u:U}{cs:List SV},Fl u cs→u.flat.map .d=cs∧SV.ones cs=true
 | _,_,.i=>⟨rfl,rfl⟩
 | _,_,.b=>⟨rfl,rfl⟩
 | _,_,.s=>⟨rfl,rfl⟩
 | _,_,.sl=>⟨rfl,rfl⟩
 | _,_,.st h=>by simp only [U.flat];exact Fls.spec h
theorem Fls.spec:∀{us:List U}{cs:List SV},Fls us cs→(U.flats us).map .d=cs∧SV.ones cs=true
 | _,_,.nil=>⟨rfl,rfl⟩
 | _,_,.cons h1 h2 h3=>by
   have a:=Fl.spec h1;have b:=Fls.spec h2;have c:=h3.spec;subst c;refine⟨by simp only [U.flats,List.map_append,a.1,b.1],?_⟩
   have:∀(x y:List SV),SV.ones x=true→SV.ones y=true→SV.ones (x++y)=true:=by
    intro x
    induction x with
    | nil=>intro y _ h;exact h
    | cons c x ih=>intro y h h';simp only [List.cons_append,SV.ones,Bool.and_eq_true] at h ⊢;exact⟨h.1,ih y h.2 h'⟩
   exact this _ _ a.2 b.2
end
inductive Cl:SV→List SV→Prop
 | d {u:U} {cs:List SV}:Fl u cs→Cl (.d u) cs
 | ag {cs:List SV}:SV.ones cs=true→Cl (.ag cs) cs
 | sl {i ver:Nat}:Cl (.sl i ver) [.sl i ver]
 | ptr {i off:Nat}:Cl (.ptr i off) [.ptr i off]
 | fn {f:Nat} {l:List SV}:Cl (.fn f l) [.fn f l]
 | nilsl:Cl .nilsl [.nilsl]
theorem Cl.spec{sv:SV}{cs:List SV}(h:Cl sv cs):sv.cells=cs∧SV.ones cs=true:=by
 cases h with
 | d h=>exact Fl.spec h
 | ag h=>exact⟨rfl,h⟩
 | _=>exact⟨rfl,rfl⟩
def Rng(n:Int):Prop:= -9223372036854775808≤n∧n≤9223372036854775807
inductive hQi (P:Program)(L:List LO)(T:TypeId)(f:Nat):SV→SV→Prop
 | ptr {i off fo:Nat} [TF P T f fo]:hQi P L T f (.ptr i off) (.ptr i (off+fo))
 | dp {us:List U} {u:U} {fo:Nat} [TF P T f fo] (h:us[f]? =some u) (h2:U.szs (us.take f)=fo):hQi P L T f (.dp (.st us)) (.dp u)
 | epo {i ver z k off fo z':Nat} {o:LO} {es:List U} [TF P T f fo] (h:L[i]? =some o) (h2:AsO o z' ver es):hQi P L T f (.ep i ver z k off) (.ep i ver z k (off+fo))
inductive LdR (P:Program)(L:List LO)(T:TypeId):SV→SV→Prop
 | one {i off bs:Nat} {cs:List SV} {c sv:SV} [TI P T false 1 bs] (h:L[i]? =some (.box cs)) (h2:cs[off]? =some c) (h3:Nf c sv):LdR P L T (.ptr i off) sv
 | many {i off n bs:Nat} {cs ds:List SV} [TI P T true n bs] (h:L[i]? =some (.box cs)) (h2:Tk off n cs ds):LdR P L T (.ptr i off) (.ag ds)
 | dp {u:U} {g:Bool} {n bs:Nat} [TI P T g n bs] (h:u.isSt=g) (h2:u.sz=n):LdR P L T (.dp u) (.d u)
inductive hOt (P:Program)(L:List LO)(T:TypeId):SV→Int→Prop
 | sl {z:Nat} {us:List U} {e:TypeId} [TE P T e]:hOt P L T (.d (.sl z us)) us.length
 | own {i ver z:Nat} {o:LO} {es:List U} {e:TypeId} [TE P T e] (h:L[i]? =some o) (h2:AsO o z ver es):hOt P L T (.sl i ver) es.length
 | nil {e:TypeId} [TE P T e]:hOt P L T .nilsl 0
 | str {l:LB} [TS P T]:hOt P L T (.d (.s l)) l.length
inductive hDa (P:Program)(T:TypeId):BinOp→SV→SV→SV→Prop
 | add {m n:Int} (h:Rng (m+n)):hDa P T .add (.d (.i .i64 m)) (.d (.i .i64 n)) (.d (.i .i64 (m+n)))
 | sub {m n:Int} (h:Rng (m - n)):hDa P T .sub (.d (.i .i64 m)) (.d (.i .i64 n)) (.d (.i .i64 (m - n)))
 | cmp {op:BinOp} {k:IntKind} {m n:Int} {r:Bool} (h:hVq op m n=some r):hDa P T op (.d (.i k m)) (.d (.i k n)) (.d (.b r))
 | eqs {l l':LB}:hDa P T .eql (.d (.s l)) (.d (.s l')) (.d (.b (l==l')))
 | nes {l l':LB}:hDa P T .neq (.d (.s l)) (.d (.s l')) (.d (.b (!(l==l'))))
 | eqb {a b:Bool} [TB P T]:hDa P T .eql (.d (.b a)) (.d (.b b)) (.d (.b (a==b)))
 | neb {a b:Bool} [TB P T]:hDa P T .neq (.d (.b a)) (.d (.b b)) (.d (.b (!(a==b))))
 | eqp {a b c d:Int} [TP P T]:hDa P T .eql (.ag [.d (.i .i64 a),.d (.i .i64 b)]) (.ag [.d (.i .i64 c),.d (.i .i64 d)]) (.d (.b (a==c && b==d)))
 | nep {a b c d:Int} [TP P T]:hDa P T .neq (.ag [.d (.i .i64 a),.d (.i .i64 b)]) (.ag [.d (.i .i64 c),.d (.i .i64 d)]) (.d (.b (!(a==c && b==d))))
inductive PkR:SV→SV→SV→SV→Prop
 | t {x y sv:SV} (h:Nf x sv):PkR (.d (.b true)) x y sv
 | f {x y sv:SV} (h:Nf y sv):PkR (.d (.b false)) x y sv
inductive QD (P:Program)(σ:St):Oper→SV→Prop
 | move {dst:Option Nat} {ty:TypeId} {pos:String} {af:Array Edge} {g:Option (Nat × Bool)} {x:Operand} {sv:SV} (h:Nf (σ.ev x) sv):QD P σ ⟨dst,.move x,ty,pos,af,g⟩ sv
 | assign {dst:Option Nat} {ty:TypeId} {pos:String} {af:Array Edge} {g:Option (Nat × Bool)} {x:Operand} {sv:SV} (h:Nf (σ.ev x) sv):QD P σ ⟨dst,.assign x,ty,pos,af,g⟩ sv
 | field {dst:Option Nat} {ty:TypeId} {pos:String} {af:Array Edge} {g:Option (Nat × Bool)} {x:Operand} {sv:SV} {T:TypeId} {f:Nat} (h:hQi P σ.L T f (σ.ev x) sv):QD P σ ⟨dst,.fieldAddr T x f,ty,pos,af,g⟩ sv
 | load {dst:Option Nat} {ty:TypeId} {pos:String} {af:Array Edge} {g:Option (Nat × Bool)} {x:Operand} {sv:SV} {T:TypeId} (h:LdR P σ.L T (σ.ev x) sv):QD P σ ⟨dst,.load T x,ty,pos,af,g⟩ sv
 | bin {dst:Option Nat} {ty:TypeId} {pos:String} {af:Array Edge} {g:Option (Nat × Bool)} {x y:Operand} {sv:SV} {op:BinOp} {T T':TypeId} (h:hDa P T op (σ.ev x) (σ.ev y) sv):QD P σ ⟨dst,.binOp op T x y T',ty,pos,af,g⟩ sv
 | len {dst:Option Nat} {ty:TypeId} {pos:String} {af:Array Edge} {g:Option (Nat × Bool)} {x:Operand} {T:TypeId} {n:Int} (h:hOt P σ.L T (σ.ev x) n):QD P σ ⟨dst,.call { callee:=.builtin .len,args:=#[x],argTypes:=#[T] },ty,pos,af,g⟩ (.d (.i .i64 n))
 | not {dst:Option Nat} {ty:TypeId} {pos:String} {af:Array Edge} {g:Option (Nat × Bool)} {x:Operand} {T:TypeId} {t:Bool} (h:σ.ev x=.d (.b t)):QD P σ ⟨dst,.unOp .not T x,ty,pos,af,g⟩ (.d (.b (!t)))
 | pick {dst:Option Nat} {ty:TypeId} {pos:String} {af:Array Edge} {g:Option (Nat × Bool)} {c x y:Operand} {sv:SV} (h:PkR (σ.ev c) (σ.ev x) (σ.ev y) sv):QD P σ ⟨dst,.pick c x y,ty,pos,af,g⟩ sv
 | extract {dst:Option Nat} {ty:TypeId} {pos:String} {af:Array Edge} {g:Option (Nat × Bool)} {x:Operand} {n:Nat} {vs:List SV} {c sv:SV} (h:σ.ev x=.tup vs) (h2:vs[n]? =some c) (h3:Nf c sv):QD P σ ⟨dst,.extract x n,ty,pos,af,g⟩ sv
theorem QD.quiet{P:Program}{A:Amb}{σ:St}{o:Oper}{sv:SV}(h:QD P σ o sv):Quiet P A σ o sv:=by
 cases h with
 | move h=>exact hEc h.eq
 | assign h=>exact gUe h.eq
 | @field dst ty pos af g x sv T f h=>
   generalize hx:σ.ev x=e at h;cases h with
   | @ptr i off fo tf=>exact gRk hx tf.h
   | @dp us u fo tf h h2=>exact gS7 hx tf.h h h2
   | @epo i ver z k off fo z' o es tf h h2=>exact gXm hx h h2 tf.h
 | @load dst ty pos af g x sv T h=>
   generalize hx:σ.ev x=e at h;cases h with
   | @one i off bs cs c sv ti h h2 h3=>exact hAq hx h ti.h (h3.eq▸h2)
   | @many i off n bs cs ds ti h h2=>exact gXk hx h ti.h (Nat.ble_eq_true_of_le h2.spec.1) h2.spec.2
   | @dp u g n bs ti h h2=>exact hPh hx ti.h h h2
 | @bin dst ty pos af g x y sv op T T' h=>
   generalize hx:σ.ev x=e at h;generalize hy:σ.ev y=e' at h;cases h with
   | cmp h=>exact hVr hx hy h
   | add h=>exact hO8 hx hy h.1 h.2
   | sub h=>exact hVt hx hy h.1 h.2
   | eqs=>exact hVu hx hy
   | nes=>exact hVv hx hy
   | @eqb a b tb=>exact hVx tb.h hx hy
   | @neb a b tb=>exact hVw tb.h hx hy
   | @eqp a b c d tp=>exact hVy tp.h hx hy
   | @nep a b c d tp=>exact hVz tp.h hx hy
 | @len dst ty pos af g x T n h=>
   generalize hx:σ.ev x=e at h;cases h with
   | @sl z us e te=>exact hMw hx te.h
   | @own i ver z o es e te h h2=>exact gVu hx h h2 te.h
   | @nil e te=>exact gVs hx te.h
   | @str l ts=>exact gVt hx ts.h
 | not h=>exact hO9 h
 | @pick dst ty pos af g c x y sv h=>
   generalize hc:σ.ev c=e at h;cases h with
   | t h=>exact hKm hc h.eq
   | f h=>exact hKm hc h.eq
 | extract h h2 h3=>exact gQ1 h (h3.eq▸h2)
inductive GdR:Bool→SV→Bool→Prop
 | tt:GdR true (.d (.b true)) true
 | tf:GdR true (.d (.b false)) false
 | ft:GdR false (.d (.b true)) false
 | ff:GdR false (.d (.b false)) true
inductive OD (P:Program)(ops:Array Oper):Oper→St→St→Prop
 | box {t:Nat} {T:TypeId} {x:Operand} {ty:TypeId} {pos:String} {af:Array Edge} {fr:List (Nat × SV)} {L L':List LO} {N i:Nat} {cs:List SV} (h:Cl ((St.mk fr L N).ev x) cs) (ht:Nat.blt t N=true) (h2:Sn (.box cs) L i L') :
   OD P ops ⟨some t,.box T x,ty,pos,af,none⟩ ⟨fr,L,N⟩ ⟨(t,.ptr i 0)::fr,L',N⟩
 | alloc {t:Nat} {T:TypeId} {ty:TypeId} {pos:String} {af:Array Edge} {fr:List (Nat × SV)} {L L':List LO} {N i:Nat} {zs:List Value} {cs:List SV} [TZ P T zs] (hc:zs.map gHh=cs) (hs:SV.ones cs=true) (ht:Nat.blt t N=true) (h2:Sn (.box cs) L i L') :
   OD P ops ⟨some t,.alloc T,ty,pos,af,none⟩ ⟨fr,L,N⟩ ⟨(t,.ptr i 0)::fr,L',N⟩
 | store {T:TypeId} {x y:Operand} {ty:TypeId} {pos:String} {af:Array Edge} {fr:List (Nat × SV)} {L L':List LO} {N i off n bs:Nat} {g:Bool} {cs ds cs':List SV} (hx:(St.mk fr L N).ev x=.ptr i off) (hL:L[i]? =some (.box cs)) (hy:Cl ((St.mk fr L N).ev y) ds) [TI P T g n bs] (hn:ds.length=n)
   (hp:Pt off ds cs cs') (hs:St1 (.box cs') i L L'):OD P ops ⟨none,.store T x y,ty,pos,af,none⟩ ⟨fr,L,N⟩ ⟨fr,L',N⟩
 | q {t:Nat} {op:Op} {ty:TypeId} {pos:String} {af:Array Edge} {sv:SV} {fr:List (Nat × SV)} {L:List LO} {N:Nat} (h:QD P ⟨fr,L,N⟩ ⟨some t,op,ty,pos,af,none⟩ sv) (ht:Nat.blt t N=true) :
     OD P ops ⟨some t,op,ty,pos,af,none⟩ ⟨fr,L,N⟩ ⟨(t,sv)::fr,L,N⟩
inductive OB (P:Program)(ops:Array Oper):Bool→Oper→Nat→St→St→Prop
 | run {o:Oper} {t:Nat} {σ σ':St} (h:OD P ops o σ σ'):OB P ops true o t σ σ'
 | pass {o:Oper} {t:Nat} {fr:List (Nat × SV)} {L:List LO} {N:Nat}:OB P ops false o t ⟨fr,L,N⟩ ⟨(t,.junk)::fr,L,N⟩
inductive OG (P:Program)(ops:Array Oper):Oper→St→St→Prop
 | plain {d:Option Nat} {op:Op} {ty:TypeId} {pos:String} {af:Array Edge} {σ σ':St} (h:OD P ops ⟨d,op,ty,pos,af,none⟩ σ σ'):OG P ops ⟨d,op,ty,pos,af,none⟩ σ σ'
 | guard {t:Nat} {op:Op} {ty:TypeId} {pos:String} {af:Array Edge} {j tj:Nat} {want b:Bool} {o':Oper} {fr:List (Nat × SV)} {L:List LO} {N:Nat} {σ':St} (hj:ops[j]? =some o') (hd:o'.dst=some tj) (htj:Nat.blt tj N=true) (ht:Nat.blt t N=true)
   (hb:GdR want (look fr tj) b) (h:OB P ops b ⟨some t,op,ty,pos,af,none⟩ t ⟨fr,L,N⟩ σ'):OG P ops ⟨some t,op,ty,pos,af,some (j,want)⟩ ⟨fr,L,N⟩ σ'
section
variable {P:Program}{A:Amb}{ops:Array Oper}{rest:List Oper}{o:Oper}{σ σ':St}{K:St→Prop}
theorem hMb(h:OD P ops o σ σ')(hv:VO P A ops rest σ' K):VO P A ops (o::rest) σ K:=by
 cases h with
 | q h ht=>exact hO7 h.quiet ht hv
 | box h ht h2=>exact hKu rfl h.spec.1 h.spec.2 ht h2.spec.1 h2.spec.2 hv
 | @alloc t T ty pos af fr L L' N i zs cs tz hc hs ht h2=>exact gZc tz.h hc hs ht h2.spec.1 h2.spec.2 hv
 | @store T x y ty pos af fr L L' N i off n bs g cs ds cs' hx hL hy ti hn hp hs=>
   subst hn;exact gZd hx hL rfl hy.spec.1 hy.spec.2 ti.h rfl (Nat.ble_eq_true_of_le hp.spec.1) hp.spec.2 hs.spec hv
theorem hW9(hv:VO P A ops rest σ' K)(h:OG P ops o σ σ':=by(repeat(first | exact Rng.mk (by omega) (by omega) | constructor));first | done | fail):VO P A ops (o::rest) σ K:=by
 cases h with
 | plain h=>exact hMb h hv
 | @guard t op ty pos af j tj want b o' fr L N σ' hj hd htj ht hb h=>
   cases h with
   | run h=>
     generalize hl:look fr tj=e at hb;cases hb with
     | tt=>exact hD9 hj hd htj hl (hMb h hv)
     | ff=>exact hD9 hj hd htj hl (hMb h hv)
   | pass=>
     generalize hl:look fr tj=e at hb;cases hb with
     | tf=>exact hEb hj hd htj hl rfl ht hv
     | ft=>exact hEb hj hd htj hl rfl ht hv
theorem hMc {d:Option Nat}{op:Op}{ty:TypeId}{pos:String}{af:Array Edge}{j tj:Nat}{want:Bool}{o':Oper}{fr:List (Nat × SV)}{L:List LO}{N:Nat}
  (hj:ops[j]? =some o') (hdst:o'.dst=some tj) (htj:Nat.blt tj N=true) (hb:look fr tj=.d (.b want)) (h:VO P A ops (⟨d,op,ty,pos,af,none⟩::rest) ⟨fr,L,N⟩ K) :
  VO P A ops (⟨d,op,ty,pos,af,some (j,want)⟩::rest) ⟨fr,L,N⟩ K:=hD9 hj hdst htj hb h
end
inductive QB (P:Program):Bool→St→Oper→SV→Prop
 | run {o:Oper} {σ:St} {sv:SV} (h:QD P σ o sv):QB P true σ o sv
 | pass {o:Oper} {σ:St}:QB P false σ o .junk
inductive QG (P:Program)(ops:Array Oper):Oper→St→St→Prop
 | plain {t:Nat} {op:Op} {ty:TypeId} {pos:String} {af:Array Edge} {sv:SV} {fr:List (Nat × SV)} {L:List LO} {N:Nat} (h:QD P ⟨fr,L,N⟩ ⟨some t,op,ty,pos,af,none⟩ sv) (ht:Nat.blt t N=true) :
   QG P ops ⟨some t,op,ty,pos,af,none⟩ ⟨fr,L,N⟩ ⟨(t,sv)::fr,L,N⟩
 | guard {t:Nat} {op:Op} {ty:TypeId} {pos:String} {af:Array Edge} {j tj:Nat} {want b:Bool} {o':Oper} {fr:List (Nat × SV)} {L:List LO} {N:Nat} {sv:SV} (hj:ops[j]? =some o') (hd:o'.dst=some tj) (htj:Nat.blt tj N=true) (ht:Nat.blt t N=true)
   (hb:GdR want (look fr tj) b) (h:QB P b ⟨fr,L,N⟩ ⟨some t,op,ty,pos,af,some (j,want)⟩ sv):QG P ops ⟨some t,op,ty,pos,af,some (j,want)⟩ ⟨fr,L,N⟩ ⟨(t,sv)::fr,L,N⟩
theorem hXa{P:Program}{A:Amb}{ops:Array Oper}{rest:List Oper}{o:Oper}{σ σ':St}{K:St→Prop}(hv:VQ P A ops rest σ' K)(h:QG P ops o σ σ':=by(repeat(first | exact Rng.mk (by omega) (by omega) | constructor));first | done | fail):VQ P A ops (o::rest) σ K:=by
 cases h with
 | plain h ht=>exact hSu h.quiet ht hv
 | @guard t op ty pos af j tj want b o' fr L N sv hj hd htj ht hb h=>
   cases h with
   | run h=>
     generalize hl:look fr tj=e at hb;cases hb with
     | tt=>exact gYx hj hd htj hl h.quiet ht hv
     | ff=>exact gYx hj hd htj hl h.quiet ht hv
   | pass=>
     generalize hl:look fr tj=e at hb;cases hb with
     | tf=>exact hC7 hj hd htj hl rfl ht hv
     | ft=>exact hC7 hj hd htj hl rfl ht hv
inductive NfL (σ:St):List Operand→List SV→Prop
 | nil:NfL σ [] []
 | cons {x:Operand} {l:List Operand} {sv:SV} {r:List SV} (h:Nf (σ.ev x) sv) (h2:NfL σ l r):NfL σ (x::l) (sv::r)
theorem NfL.eq{σ:St}{l:List Operand}{r:List SV}(h:NfL σ l r):l.map σ.ev=r:=by
 induction h with
 | nil=>rfl
 | cons h _ ih=>simp [h.eq,ih]
def VB(L:List LO):SV→SV→Prop
 | .ptr i off,.dp u=>off=0∧∃cs,L[i]? =some (.box cs)∧VLs L cs u.flat
 | sv,sv'=>sv=sv'∧sv.lt 0=true
def VBs(L:List LO):List SV→List SV→Prop
 | [],[]=>True
 | a::az,b::bs=>VB L a b∧VBs L az bs
 | _,_=>False
def U.scal:U→Bool
 | .i _ _ | .b _ | .s _=>true
 | _=>false
section
variable {A:Amb}{S:Nat→Prop}{L:List LO}{env:List Value}{w:World}
def boxes(L:List LO)(env:List Value)(b:Nat):Prop:=∃(i:Nat)(cs:List SV)(hv:Value),L[i]? =some (.box cs)∧env[i]? =some hv∧blk hv=some b
theorem SVr.more{S1:Nat→Prop}(hS:∀b,S b→S1 b){sv:SV}{v:Value}(h:SVr S L env w sv v):SVr S1 L env w sv v:=
 SVr.carry ⟨fun b hb _=>hS b hb,fun _ _ _=>rfl,fun _ _ h=>h,fun _ _ _ h1 h2=>⟨_,_,h1,h2,Nat.le_refl _,fun _=>rfl⟩⟩ _ _ h
theorem VB.r(hH:pW A S L env w){sv sv':SV}{v:Value}(h:VB L sv sv')(hv:SVr S L env w sv v):SVr (fun b=>S b∨boxes L env b) [] [] w sv' v:=by
 have bare:sv=sv'→sv.lt 0=true→SVr (fun b=>S b∨boxes L env b) [] [] w sv' v:=by
  rintro rfl h2;exact SVr.bare _ _ h2 (SVr.more (fun b hb=>.inl hb) hv) _ _
 cases sv with
 | ptr i off=>
   cases sv' with
   | dp u=>
     obtain⟨rfl,cs,h1,h2⟩:=h;simp only [SVr] at hv ⊢;obtain⟨b,h3,rfl⟩:=hv;obtain⟨b',vals,e,h4,h5,h6,_⟩:=hH.objs i _ _ h1 h3;injection h4 with h4
     injection h4 with h4
     injection h4 with h4
     subst h4;have h7:=VLs.r hH (U.flat_leaf u) h2 h6;refine⟨b,0,vals.toList,rfl,.inr ⟨i,cs,_,h1,h3,rfl⟩,⟨vals,e,_,h5,?_⟩,?_⟩
     ·intro j hj;simp
     ·exact(Rd.of_leafs u _ h7).mono (fun b hb _=>.inl hb) (fun _ _ _=>rfl)
   | _=>exact bare h.1 h.2
 | _=>cases sv'<;>exact bare h.1 h.2
theorem VBs.r(hH:pW A S L env w):∀{svs svs':List SV}{vs:List Value},VBs L svs svs'→kP S L env w svs vs→kP (fun b=>S b∨boxes L env b) [] [] w svs' vs
 | [],[],[],_,_=>by simp [kP]
 | sv::svs,sv'::svs',v::vs,h,hv=>by
   simp only [kP] at hv ⊢;exact⟨VB.r hH h.1 hv.1,VBs.r hH h.2 hv.2⟩
 | [],_::_,_,h,_=>h.elim
 | _::_,[],_,h,_=>h.elim
 | [],[],_::_,_,h=>by simp [kP] at h
 | _::_,_::_,[],_,h=>by simp [kP] at h
end
section
variable {P:Program}{A:Amb}{σ:St}{K:St→Prop}
variable {dst:Option Nat}{ty:TypeId}{pos:String}{af:Array Edge}{g:Option (Nat × Bool)}{x y:Operand}{sv:SV}
theorem kP.evals{S:Nat→Prop}{env:List Value}{w:World}{a:Act}:∀(l:List Operand),(∀x∈l,SVr S σ.L env w (σ.ev x) (a.eval x))→kP S σ.L env w (l.map σ.ev) (l.map a.eval)
 | [],_=>by simp [kP]
 | x::l,h=>by
   simp only [List.map_cons,kP];exact⟨h x (by simp),kP.evals l fun y hy=>h y (by simp [hy])⟩
theorem hOu{f:Nat}{cs:Array Operand}{svs:List SV}(h:NfL σ cs.toList svs):Quiet P A σ ⟨dst,.makeFunc (.func f) #[] cs,ty,pos,af,g⟩ (.fn f svs):=Quiet.pure fun S env a w hH ho=>by
 refine⟨.func (.func f) #[] (cs.toList.map a.eval).toArray,?_,?_⟩
 ·have:cs.map a.eval=(cs.toList.map a.eval).toArray:=by apply Array.ext';simp
  simp [execOp,Instr.makeFunc,this]
 rw [←h.eq];simp only [SVr];exact⟨_,rfl,kP.evals _ fun x hx=>ho x (by simpa [Op.operands] using hx)⟩
theorem hMd {f:Operand}{fi:Nat}{caps:List SV}{args:Array Operand}{at_:Array TypeId}{dargs:List SV}{us:List U}(hf:σ.ev f=.fn fi caps)
  (hspec:jI P fi (dargs++caps) us) (hargs:VAs σ.L (args.toList.map σ.ev) dargs) (hc:SV.lts 0 caps=true) :
  Quiet P A σ ⟨dst,.call { callee:=.value f,args:=args,argTypes:=at_ },ty,pos,af,g⟩ (mkR us):=by
 intro S env a w hH hx next R hn
 have h1:=hx f (by simp [Op.operands,Call.operands]);rw [hf] at h1;simp only [SVr] at h1;obtain⟨cvs,h1,h2⟩:=h1;have h3:kP S σ.L env w (args.toList.map σ.ev) (args.toList.map a.eval):=by
  rw [kP.iff]
  have:∀(l:List Operand),(∀x∈l,SVr S σ.L env w (σ.ev x) (a.eval x))→yZ (SVr S σ.L env w) (l.map σ.ev) (l.map a.eval):=by
   intro l
   induction l with
   | nil=>intro _;trivial
   | cons x l ih=>intro h;exact⟨h x (by simp),ih (fun y hy=>h y (by simp [hy]))⟩
  exact this _ (fun x hx'=>hx x (by simp [Op.operands,Call.operands];exact .inr (by simpa using hx')))
 have _h4:kP S σ.L env w (args.toList.map σ.ev++caps) (args.toList.map a.eval++cvs):=by
  have h2':=h2;have h3':=h3;rw [kP.iff] at h2' h3' ⊢;exact yZ.append h3' h2'
 have h5:kP S [] [] w (dargs++caps) (args.toList.map a.eval++cvs):=by
  have k1:=VAs.r hH hargs h3;have k2:=kP.bare _ _ hc h2 [] [];rw [kP.iff] at k1 k2 ⊢;exact yZ.append k1 k2
 obtain⟨⟨fn,c1,c2,c3⟩,hs⟩:=hspec;have hrun:(execOp a.eval ⟨dst,.call { callee:=.value f,args:=args,argTypes:=at_ },ty,pos,af,g⟩).run P w=.ok (.enter fi (args.toList.map a.eval++cvs).toArray) w:=by
  have harr:args.map a.eval++cvs.toArray=(args.toList.map a.eval++cvs).toArray:=by apply Array.ext';simp
  simp only [execOp,resolve,h1,Deferred.ofValue,Sem.run_bind,Sem.run_pure,Result.andThen_ok,invoke,callFunc,run_program,c1,c2,c3,Bool.false_eq_true,if_false,Array.empty_append,harr]
 unfold Oper.wp;rw [hrun];simp only [Oper.upon];refine(hs ⟨w,S,fun _=>False,[],[]⟩ S [] w _ rfl rfl rfl rfl (pW.enter A S hH) h5).mono ?_;rintro e w' ⟨r,sv,S',L',env',rfl,⟨rfl,rfl⟩,hH',hr⟩;have hold:∀b,b < w.heap.size→w'.heap[b]? =w.heap[b]? :=fun b hb=>hH'.frame b hb (fun h=>h);have C:Carry S σ.L env w (fun b=>S b∨S' b) σ.L env w':=⟨fun b h _=>.inl h,fun b _ hb=>hold b hb,fun _ _ h=>h,fun _ _ _ h1 h2=>⟨_,_,h1,h2,Nat.le_refl _,fun _=>rfl⟩⟩
 have hS':∀b,S' b→S b∨w.heap.size≤b:=fun b hb=>by
  rcases hH'.sA b hb with h | h | h
  ·exact .inl h
  ·exact h.elim
  ·exact .inr h
 have hfe:∀(i:Nat)(o':LO)(hv':Value),σ.L[i]? =some o'→o'.live=true→env[i]? =some hv'→∀b,o'.ft w' hv' b→o'.ft w hv' b:=fun i o' hv' h1 hl h2 b hb'=>
  (LO.ft_eq (hH.objs i o' hv' h1 h2) (fun k hk=>hold k (hH.excl i o' hv' k h1 hl h2 hk).2.2) b).1 hb'
 refine hn r w' (fun b=>S b∨S' b) ⟨hH.len,?_,?_,fun i j o o' hv hv' b k1 k2 l1 l2 m1 m2 n1 n2=>hH.dist i j o o' hv hv' b k1 k2 l1 l2 m1 m2 (hfe i o hv k1 l1 m1 b n1) (hfe j o' hv' k2 l2 m2 b n2),?_,?_,?_,Nat.le_trans hH.size hH'.size,hH'.os.trans hH.os,hH'.tape.trans hH.tape,hH'.output.trans hH.output,hH.base,hH.glob⟩ C ?_
 ·intro i o hv k1 k2;exact gH2.carry C (fun b hl hb=>hold b (hH.excl i o hv b k1 hl k2 hb).2.2) (hH.objs i o hv k1 k2)
 ·intro i o hv b k1 hl k2 hb
  have:=hH.excl i o hv b k1 hl k2 (hfe i o hv k1 hl k2 b hb)
  refine⟨fun hs=>hs.elim this.1 (fun hs=>?_),this.2.1,Nat.lt_of_lt_of_le this.2.2 hH'.size⟩;rcases hS' b hs with h | h
  ·exact this.1 h
  ·omega
 ·intro b hb;rcases hb with hb | hb
  ·exact Nat.lt_of_lt_of_le (hH.sS b hb) hH'.size
  ·exact hH'.sS b hb
 ·intro b hb;rcases hb with hb | hb
  ·exact hH.sA b hb
  ·rcases hS' b hb with h | h
   ·exact hH.sA b h
   ·exact .inr (.inr (Nat.le_trans hH.size h))
 ·intro b h1 h2;rw [hold b (Nat.lt_of_lt_of_le h1 hH.size)];exact hH.frame b h1 h2
 ·have C2:Carry S' [] env' w' (fun b=>S b∨S' b) [] env' w':=⟨fun b h _=>.inr h,fun _ _ _=>rfl,fun _ _ h=>h,fun _ _ _ h1 h2=>⟨_,_,h1,h2,Nat.le_refl _,fun _=>rfl⟩⟩
  exact SVr.bare _ _ (gYw us) (SVr.carry C2 _ _ hr) _ _
end
section
variable {P:Program}{A:Amb}{σ:St}{K:St→Prop}
variable {dst:Option Nat}{ty:TypeId}{pos:String}{af:Array Edge}{g:Option (Nat × Bool)}{x y:Operand}{sv:SV}
end
end Go.Eng
