import Derived.ProofKit
import Derived.WalkKit
import Derived.Deep.LoopGhost
namespace Go.Eng
open Go Go.RowKit
abbrev LB:=List UInt8
abbrev LS:=List LB
inductive U where
 | i (k:IntKind) (n:Int)
 | b (x:Bool)
 | s (l:LB)
 | st (us:List U)
 | sl (z:Nat) (us:List U)
 deriving Inhabited
mutual
def U.sz:U→Nat
 | .i _ _=>1
 | .b _=>1
 | .s _=>1
 | .sl _ _=>1
 | .st us=>U.szs us
def U.szs:List U→Nat
 | []=>0
 | u::us=>u.sz+U.szs us
end
set_option linter.unusedVariables false in
def Gok(E:Nat→Prop)(w:World):Prop:=True
set_option linter.unusedVariables false in
theorem Gok.step{E E':Nat→Prop}{w w':World}(h:Gok E w)(hb:∀b,b < w.heap.size→¬E b→w'.heap[b]? =w.heap[b]?)(hs:w.heap.size≤w'.heap.size)(he:∀b,E' b→E b∨w.heap.size≤b):Gok E' w':=trivial
def big:Nat:=140737488355328
theorem gAy:big=140737488355328:=rfl
def At(w:World)(b off:Nat)(cs:List Value):Prop:=
 ∃row e fz,w.heap[b]? =some (.cells row e fz)∧∀j,j < cs.length→row[off+j]? =cs[j]?
mutual
def Rd(S:Nat→Prop)(w:World):U→List Value→Prop
 | .i k n,cs=>cs=[.int k n]
 | .b x,cs=>cs=[.bool x]
 | .s l,cs=>l.length≤big∧cs=[.string ⟨l.toArray⟩]
 | .st us,cs=>Rds S w us cs
 | .sl z us,cs=>us.length≤big∧∃base cap,cs=[.slice base us.length (us.length+cap)]∧
   (us=[]∨∃b off,base=some ⟨b,off,none⟩∧S b∧RdE S w z b off us)
def Rds(S:Nat→Prop)(w:World):List U→List Value→Prop
 | [],cs=>cs=[]
 | u::us,cs=>∃c1 c2,cs=c1++c2∧Rd S w u c1∧Rds S w us c2
def RdE(S:Nat→Prop)(w:World)(z b:Nat):Nat→List U→Prop
 | _,[]=>True
 | off,u::us=>(∃cs,cs.length=z∧At w b off cs∧Rd S w u cs)∧RdE S w z b (off+z) us
end
theorem At.mono{w w':World}{b off:Nat}{cs:List Value}(h:At w b off cs)(hb:b < w.heap.size→w'.heap[b]? =w.heap[b]?):At w' b off cs:=by
 obtain⟨row,e,fz,h1,h2⟩:=h;exact⟨row,e,fz,by rw [hb (Array.getElem?_eq_some_iff.1 h1).1];exact h1,h2⟩
theorem At.lt{w:World}{b off:Nat}{cs:List Value}(h:At w b off cs):b < w.heap.size:=by
 obtain⟨row,e,fz,h1,h2⟩:=h;exact(Array.getElem?_eq_some_iff.1 h1).1
section
variable {S S':Nat→Prop}{w w':World}
mutual
theorem Rd.mono(hS:∀b,S b→b < w.heap.size→S' b)(hw:∀b,S b→b < w.heap.size→w'.heap[b]? =w.heap[b]?) :
  ∀(u:U)(cs:List Value),Rd S w u cs→Rd S' w' u cs
 | .i k n,cs,h=>by simpa only [Rd] using h
 | .b x,cs,h=>by simpa only [Rd] using h
 | .s l,cs,h=>by simpa only [Rd] using h
 | .st us,cs,h=>by
   simp only [Rd] at h ⊢;exact Rds.mono hS hw us cs h
 | .sl z us,cs,h=>by
   simp only [Rd] at h ⊢;obtain⟨hl,base,cap,h1,h2⟩:=h;refine⟨hl,base,cap,h1,?_⟩;rcases h2 with h2 | ⟨b,off,h3,h4,h5⟩
   ·exact .inl h2
   ·by_cases hu:us=[]
    ·exact .inl hu
    ·have hlt:b < w.heap.size:=by
      cases us with
      | nil=>exact absurd rfl hu
      | cons u us=>
        simp only [RdE] at h5;obtain⟨⟨c,_,hat,_⟩,_⟩:=h5;exact hat.lt
     exact .inr ⟨b,off,h3,hS b h4 hlt,RdE.mono hS hw z b h4 us off h5⟩
theorem Rds.mono(hS:∀b,S b→b < w.heap.size→S' b)(hw:∀b,S b→b < w.heap.size→w'.heap[b]? =w.heap[b]?) :
  ∀(us:List U)(cs:List Value),Rds S w us cs→Rds S' w' us cs
 | [],cs,h=>by simpa only [Rds] using h
 | u::us,cs,h=>by
   simp only [Rds] at h ⊢;obtain⟨c1,c2,h1,h2,h3⟩:=h;exact⟨c1,c2,h1,Rd.mono hS hw u c1 h2,Rds.mono hS hw us c2 h3⟩
theorem RdE.mono(hS:∀b,S b→b < w.heap.size→S' b)(hw:∀b,S b→b < w.heap.size→w'.heap[b]? =w.heap[b]?)(z b:Nat)(hb:S b) :
  ∀(us:List U)(off:Nat),RdE S w z b off us→RdE S' w' z b off us
 | [],off,h=>by simp only [RdE]
 | u::us,off,h=>by
   simp only [RdE] at h ⊢;obtain⟨⟨cs,h1,h2,h3⟩,h4⟩:=h;exact⟨⟨cs,h1,h2.mono (hw b hb),Rd.mono hS hw u cs h3⟩,RdE.mono hS hw z b hb us (off+z) h4⟩
end
end
mutual
theorem Rd.length{S:Nat→Prop}{w:World}:∀(u:U)(cs:List Value),Rd S w u cs→cs.length=u.sz
 | .i k n,cs,h=>by simp only [Rd] at h;simp [h,U.sz]
 | .b x,cs,h=>by simp only [Rd] at h;simp [h,U.sz]
 | .s l,cs,h=>by simp only [Rd] at h;simp [h.2,U.sz]
 | .st us,cs,h=>by simp only [Rd] at h;simpa only [U.sz] using Rds.length us cs h
 | .sl z us,cs,h=>by simp only [Rd] at h;obtain⟨_,base,cap,h1,_⟩:=h;simp [h1,U.sz]
theorem Rds.length{S:Nat→Prop}{w:World}:∀(us:List U)(cs:List Value),Rds S w us cs→cs.length=U.szs us
 | [],cs,h=>by simp only [Rds] at h;simp [h,U.szs]
 | u::us,cs,h=>by
   simp only [Rds] at h;obtain⟨c1,c2,h1,h2,h3⟩:=h;rw [h1,List.length_append,Rd.length u c1 h2,Rds.length us c2 h3,U.szs]
end
mutual
theorem Rd.oneCell{S:Nat→Prop}{w:World}:∀(u:U)(cs:List Value),Rd S w u cs→∀c∈cs,c.oneCell'=true
 | .i k n,cs,h=>by simp only [Rd] at h;subst h;simp [Value.oneCell']
 | .b x,cs,h=>by simp only [Rd] at h;subst h;simp [Value.oneCell']
 | .s l,cs,h=>by simp only [Rd] at h;obtain⟨_,rfl⟩:=h;simp [Value.oneCell']
 | .st us,cs,h=>by simp only [Rd] at h;exact Rds.oneCell us cs h
 | .sl z us,cs,h=>by simp only [Rd] at h;obtain⟨_,base,cap,rfl,_⟩:=h;simp [Value.oneCell']
theorem Rds.oneCell{S:Nat→Prop}{w:World}:∀(us:List U)(cs:List Value),Rds S w us cs→∀c∈cs,c.oneCell'=true
 | [],cs,h=>by simp only [Rds] at h;simp [h]
 | u::us,cs,h=>by
   simp only [Rds] at h;obtain⟨c1,c2,rfl,h2,h3⟩:=h;intro c hc;rcases List.mem_append.1 hc with hc | hc
   ·exact Rd.oneCell u c1 h2 c hc
   ·exact Rds.oneCell us c2 h3 c hc
end
mutual
def U.flat:U→List U
 | .st us=>U.flats us
 | .i k n=>[.i k n]
 | .b x=>[.b x]
 | .s l=>[.s l]
 | .sl z us=>[.sl z us]
def U.flats:List U→List U
 | []=>[]
 | u::us=>u.flat++U.flats us
end
def zX{α β:Type}(R:α→β→Prop):List α→List β→Prop
 | [],[]=>True
 | a::az,b::bs=>R a b∧zX R az bs
 | _,_=>False
section
variable {α β γ:Type}{R R':α→β→Prop}
theorem zX.length:∀{az:List α}{bs:List β},zX R az bs→az.length=bs.length
 | [],[],_=>rfl
 | _::_,_::_,h=>by simp [zX.length h.2]
 | [],_::_,h=>h.elim
 | _::_,[],h=>h.elim
theorem zX.mono{az:List α}(hR:∀(a:α)(b:β),a∈az→R a b→R' a b):∀{bs:List β},zX R az bs→zX R' az bs:=by
 induction az with
 | nil=>intro bs h;cases bs with
   | nil=>exact trivial
   | cons _ _=>exact h.elim
 | cons a az ih=>intro bs h;cases bs with
   | nil=>exact h.elim
   | cons b bs=>exact⟨hR a b (by simp) h.1,ih (fun a' b' ha=>hR a' b' (List.mem_cons_of_mem _ ha)) h.2⟩
theorem zX.append:∀{az:List α}{bs:List β}{az':List α}{bs':List β},zX R az bs→zX R az' bs'→zX R (az++az') (bs++bs')
 | [],[],_,_,_,h=>h
 | _::_,_::_,_,_,h,h'=>⟨h.1,zX.append h.2 h'⟩
 | [],_::_,_,_,h,_=>h.elim
 | _::_,[],_,_,h,_=>h.elim
theorem zX.split:∀{az:List α}{az':List α}{bs:List β},zX R (az++az') bs→∃b1 b2,bs=b1++b2∧zX R az b1∧zX R az' b2
 | [],az',bs,h=>⟨[],bs,rfl,trivial,h⟩
 | a::az,az',[],h=>h.elim
 | a::az,az',b::bs,h=>by
   obtain⟨b1,b2,h1,h2,h3⟩:=zX.split (az:=az) h.2;exact⟨b::b1,b2,by rw [h1];rfl,⟨h.1,h2⟩,h3⟩
theorem zX.get:∀{az:List α}{bs:List β},zX R az bs→∀(j:Nat)(a:α),az[j]? =some a→∃b:β,bs[j]? =some b∧R a b
 | [],[],_,j,a,ha=>by simp at ha
 | _::_,b::_,h,0,a,ha=>by simp at ha;subst ha;exact⟨b,rfl,h.1⟩
 | _::_,_::_,h,j+1,a,ha=>by
   simp only [List.getElem?_cons_succ] at ha ⊢;exact zX.get h.2 j a ha
 | [],_::_,h,_,_,_=>h.elim
 | _::_,[],h,_,_,_=>h.elim
theorem zX.take:∀{az:List α}{bs:List β}(n:Nat),zX R az bs→zX R (az.take n) (bs.take n)
 | [],[],n,_=>by simp [zX]
 | _::_,_::_,0,_=>by simp [zX]
 | _::_,_::_,n+1,h=>⟨h.1,zX.take n h.2⟩
 | [],_::_,_,h=>h.elim
 | _::_,[],_,h=>h.elim
theorem zX.drop:∀{az:List α}{bs:List β}(n:Nat),zX R az bs→zX R (az.drop n) (bs.drop n)
 | [],[],n,_=>by simp [zX]
 | _::_,_::_,0,h=>h
 | _::_,_::_,n+1,h=>zX.drop n h.2
 | [],_::_,_,h=>h.elim
 | _::_,[],_,h=>h.elim
theorem zX.set:∀{az:List α}{bs:List β}(n:Nat)(a:α)(b:β),zX R az bs→R a b→zX R (az.set n a) (bs.set n b)
 | [],[],n,_,_,_,_=>by simp [zX]
 | _::_,_::_,0,a,b,h,hab=>⟨hab,h.2⟩
 | _::_,_::_,n+1,a,b,h,hab=>⟨h.1,zX.set n a b h.2 hab⟩
 | [],_::_,_,_,_,h,_=>h.elim
 | _::_,[],_,_,_,h,_=>h.elim
theorem zX.map_left(f:γ→α):∀{cs:List γ}{bs:List β},zX R (cs.map f) bs↔zX (fun c b=>R (f c) b) cs bs
 | [],[]=>by simp [zX]
 | _::_,_::_=>by simp [zX,zX.map_left f]
 | [],_::_=>by simp [zX]
 | _::_,[]=>by simp [zX]
end
mutual
theorem Rd.leafs{S:Nat→Prop}{w:World}:∀(u:U)(cs:List Value),Rd S w u cs→zX (fun u c=>Rd S w u [c]) u.flat cs
 | .i k n,cs,h=>by simp only [Rd] at h;subst h;simp [U.flat,zX,Rd]
 | .b x,cs,h=>by simp only [Rd] at h;subst h;simp [U.flat,zX,Rd]
 | .s l,cs,h=>by have h':=h;simp only [Rd] at h;obtain⟨_,rfl⟩:=h;simp only [U.flat,zX,and_true];exact h'
 | .sl z us,cs,h=>by
   have h':=h;simp only [Rd] at h;obtain⟨_,base,cap,rfl,_⟩:=h;simp only [U.flat,zX,and_true];exact h'
 | .st us,cs,h=>by simp only [Rd] at h;simp only [U.flat];exact Rds.leafs us cs h
theorem Rds.leafs{S:Nat→Prop}{w:World}:∀(us:List U)(cs:List Value),Rds S w us cs→zX (fun u c=>Rd S w u [c]) (U.flats us) cs
 | [],cs,h=>by simp only [Rds] at h;subst h;simp [U.flats,zX]
 | u::us,cs,h=>by
   simp only [Rds] at h;obtain⟨c1,c2,rfl,h2,h3⟩:=h;simp only [U.flats];exact zX.append (Rd.leafs u c1 h2) (Rds.leafs us c2 h3)
end
mutual
theorem Rd.of_leafs{S:Nat→Prop}{w:World}:∀(u:U)(cs:List Value),zX (fun u c=>Rd S w u [c]) u.flat cs→Rd S w u cs
 | .i k n,cs,h=>by
   match cs,h with
   | [c],h=>exact h.1
   | _::_::_,h=>exact h.2.elim
 | .b x,cs,h=>by
   match cs,h with
   | [c],h=>exact h.1
   | _::_::_,h=>exact h.2.elim
 | .s l,cs,h=>by
   match cs,h with
   | [c],h=>exact h.1
   | _::_::_,h=>exact h.2.elim
 | .sl z us,cs,h=>by
   match cs,h with
   | [c],h=>exact h.1
   | _::_::_,h=>exact h.2.elim
 | .st us,cs,h=>by simp only [U.flat] at h;simp only [Rd];exact Rds.of_leafs us cs h
theorem Rds.of_leafs{S:Nat→Prop}{w:World}:∀(us:List U)(cs:List Value),zX (fun u c=>Rd S w u [c]) (U.flats us) cs→Rds S w us cs
 | [],cs,h=>by
   simp only [U.flats] at h
   match cs,h with
   | [],_=>simp [Rds]
 | u::us,cs,h=>by
   simp only [U.flats] at h;obtain⟨c1,c2,rfl,h2,h3⟩:=zX.split h;simp only [Rds];exact⟨c1,c2,rfl,Rd.of_leafs u c1 h2,Rds.of_leafs us c2 h3⟩
end
theorem RdE.get{S:Nat→Prop}{w:World}{z b:Nat}:∀(us:List U)(off k:Nat)(u:U),RdE S w z b off us→us[k]? =some u→
  ∃cs,cs.length=z∧At w b (off+k*z) cs∧Rd S w u cs
 | [],off,k,u,h,hk=>by simp at hk
 | u0::us,off,0,u,h,hk=>by
   simp at hk;subst hk;simp only [RdE] at h;simpa using h.1
 | u0::us,off,k+1,u,h,hk=>by
   simp only [RdE] at h;simp only [List.getElem?_cons_succ] at hk
   have:=RdE.get us (off+z) k u h.2 hk
   have e:off+z+k*z=off+(k+1)*z:=by rw [Nat.add_mul];omega
   rwa [e] at this
theorem Rds.get{S:Nat→Prop}{w:World}{z:Nat}:∀(us:List U)(cs:List Value)(k:Nat)(u:U),(∀u∈us,u.sz=z)→Rds S w us cs→us[k]? =some u→
  Rd S w u ((cs.drop (k*z)).take z)
 | [],cs,k,u,_,h,hk=>by simp at hk
 | u0::us,cs,0,u,hz,h,hk=>by
   simp at hk;subst hk;simp only [Rds] at h;obtain⟨c1,c2,rfl,h2,h3⟩:=h;have hl:=Rd.length _ _ h2;rw [hz u0 (by simp)] at hl;simp only [Nat.zero_mul,List.drop_zero];rw [←hl,List.take_left];exact h2
 | u0::us,cs,k+1,u,hz,h,hk=>by
   simp only [Rds] at h;obtain⟨c1,c2,rfl,h2,h3⟩:=h;have hl:=Rd.length _ _ h2;rw [hz u0 (by simp)] at hl;simp only [List.getElem?_cons_succ] at hk
   have:=Rds.get us c2 k u (fun v hv=>hz v (by simp [hv])) h3 hk
   have e:(k+1)*z=c1.length+k*z:=by rw [hl,Nat.add_mul];omega
   rw [e,List.drop_length_add_append];exact this
theorem Rds.append{S:Nat→Prop}{w:World}:∀(us:List U)(cs:List Value)(vs:List U)(ds:List Value),Rds S w us cs→Rds S w vs ds→Rds S w (us++vs) (cs++ds)
 | [],cs,vs,ds,h,h'=>by simp only [Rds] at h;subst h;simpa using h'
 | u::us,cs,vs,ds,h,h'=>by
   simp only [Rds] at h;obtain⟨c1,c2,rfl,h2,h3⟩:=h;simp only [List.cons_append,Rds];exact⟨c1,c2++ds,by rw [List.append_assoc],h2,Rds.append us c2 vs ds h3 h'⟩
theorem RdE.of_Rds{S:Nat→Prop}{w:World}{z b:Nat}:∀(us:List U)(cs:List Value)(off:Nat),(∀u∈us,u.sz=z)→Rds S w us cs→At w b off cs→RdE S w z b off us
 | [],cs,off,_,_,_=>by simp [RdE]
 | u::us,cs,off,hz,h,hat=>by
   simp only [Rds] at h;obtain⟨c1,c2,rfl,h2,h3⟩:=h;have hl:=Rd.length _ _ h2;rw [hz u (by simp)] at hl;obtain⟨row,e,fz,r1,r2⟩:=hat;simp only [RdE];refine⟨⟨c1,hl,⟨row,e,fz,r1,fun j hj=>?_⟩,h2⟩,RdE.of_Rds us c2 (off+z) (fun v hv=>hz v (by simp [hv])) h3 ⟨row,e,fz,r1,fun j hj=>?_⟩⟩
   ·rw [r2 j (by simp;omega),List.getElem?_append_left hj]
   ·have:=r2 (z+j) (by simp;omega)
    rw [show off+z+j=off+(z+j) by omega,this,List.getElem?_append_right (by omega)];congr 1;omega
inductive SV where
 | junk
 | d (u:U)
 | ag (cs:List SV)
 | ptr (i off:Nat)
 | sl (i ver:Nat)
 | dp (u:U)
 | ep (i ver z k off:Nat)
 | fn (f:Nat) (caps:List SV)
 | tup (vs:List SV)
 | nilsl
 deriving Inhabited
inductive LO where
 | box (cs:List SV)
 | arr (e z ver:Nat) (es:List U)
 | frz (e z ver:Nat) (es:List U)
 | own (e z ver:Nat) (es:List U)
 | dead (ver:Nat)
 | ownp (h:Value) (e z:Nat) (es:List U)
 | mix (e z ver:Nat) (fs es:List U)
 | set (ks:LS)
 | bld (e T:Nat) (l:LB)
 | slot
 deriving Inhabited
def LO.ver:LO→Nat
 | .box _=>1
 | .arr _ _ v _=>v
 | .frz _ _ v _=>v
 | .own _ _ v _=>v
 | .dead v=>v
 | .ownp _ _ _ _=>0
 | .mix _ _ v _ _=>v
 | .set _=>0
 | .bld _ _ _=>0
 | .slot=>0
def LO.live:LO→Bool
 | .frz _ _ _ _=>false
 | .dead _=>false
 | .slot=>false
 | _=>true
def U.isSt:U→Bool
 | .st _=>true
 | _=>false
def val(u:U)(cs:List Value):Value:=if u.isSt then .agg cs.toArray else cs.headD undef
def RdV(S:Nat→Prop)(w:World)(u:U)(v:Value):Prop:=∃cs,v=val u cs∧Rd S w u cs
def blk:Value→Option Nat
 | .pointer (some a)=>some a.block
 | .slice (some a) _ _=>some a.block
 | _=>none
def rowOf(w:World)(b:Nat):List Value:=
 match w.heap[b]? with
 | some (.cells vals _ _)=>vals.toList
 | _=>[]
mutual
def U.fp(w:World):U→List Value→List Nat
 | .sl _ us,cs=>match cs with
   | [.slice (some a) _ _]=>a.block::U.fps w us (rowOf w a.block)
   | _=>[]
 | .st us,cs=>U.fps w us cs
 | .i _ _,_=>[]
 | .b _,_=>[]
 | .s _,_=>[]
def U.fps(w:World):List U→List Value→List Nat
 | [],_=>[]
 | u::us,cs=>u.fp w (cs.take u.sz)++U.fps w us (cs.drop u.sz)
end
mutual
def Tr(w:World):U→List Value→Prop
 | .i k n,cs=>cs=[.int k n]
 | .b x,cs=>cs=[.bool x]
 | .s l,cs=>l.length≤big∧cs=[.string ⟨l.toArray⟩]
 | .st us,cs=>Trs w us cs
 | .sl z us,cs=>us.length≤big∧(∀u∈us,u.sz=z)∧∃hv e xs,cs=[hv]∧w.ownsRow 0 e z hv us.length xs∧Trs w us xs
def Trs(w:World):List U→List Value→Prop
 | [],cs=>cs=[]
 | u::us,cs=>Tr w u (cs.take u.sz)∧Trs w us (cs.drop u.sz)
end
mutual
theorem Tr.len{w:World}:∀(u:U)(cs:List Value),Tr w u cs→cs.length=u.sz
 | .i k n,cs,h=>by simp only [Tr] at h;subst h;rfl
 | .b x,cs,h=>by simp only [Tr] at h;subst h;rfl
 | .s l,cs,h=>by simp only [Tr] at h;obtain⟨_,rfl⟩:=h;rfl
 | .st us,cs,h=>by simp only [Tr] at h;simpa only [U.sz] using Trs.len us cs h
 | .sl z us,cs,h=>by simp only [Tr] at h;obtain⟨_,_,hv,e,xs,rfl,_⟩:=h;rfl
theorem Trs.len{w:World}:∀(us:List U)(cs:List Value),Trs w us cs→cs.length=U.szs us
 | [],cs,h=>by simp only [Trs] at h;subst h;rfl
 | u::us,cs,h=>by
   simp only [Trs] at h;have h1:=Tr.len u _ h.1;have h2:=Trs.len us _ h.2;simp only [List.length_take,List.length_drop] at h1 h2;simp only [U.szs];omega
end
theorem gZ0{w:World}:∀(us:List U)(cs:List Value)(m:Nat),U.szs us≤m→U.fps w us (cs.take m)=U.fps w us cs
 | [],_,_,_=>rfl
 | u::us,cs,m,h=>by
   simp only [U.szs] at h;simp only [U.fps];rw [List.take_take,Nat.min_eq_left (by omega),List.drop_take,gZ0 us _ _ (by omega)]
theorem gWt{z:Nat}:∀(us:List U),(∀u∈us,u.sz=z)→U.szs us=us.length*z
 | [],_=>by simp [U.szs]
 | u::us,h=>by
   simp only [U.szs,List.length_cons];rw [h u (by simp),gWt us (fun v hv=>h v (by simp [hv])),Nat.add_mul];omega
theorem gJ6{w:World}{e z:Nat}{us:List U}{hv:Value}{xs:List Value}(hz:∀u∈us,u.sz=z)(h:w.ownsRow 0 e z hv us.length xs) :
  (hv=.slice none 0 0∧us=[]∧(U.sl z us).fp w [hv]=[])∨∃g cap,hv=.slice (some ⟨g,0,none⟩) us.length cap∧(U.sl z us).fp w [hv]=g::U.fps w us xs:=by
 rcases h.2 with ⟨rfl,h0⟩ | ⟨g,cap,cur,rfl,_,hg,_,_,_,htake⟩
 ·exact .inl ⟨rfl,List.eq_nil_of_length_eq_zero h0,rfl⟩
 ·refine .inr ⟨g,cap,rfl,?_⟩;simp only [U.fp]
  have:rowOf w g=cur.toList:=by simp [rowOf,hg]
  rw [this,←htake,gZ0 us cur.toList (us.length*z) (by rw [gWt us hz];exact Nat.le_refl _)]
mutual
theorem Tr.loc{w w':World}:∀(u:U)(cs:List Value),Tr w u cs→(∀b∈u.fp w cs,w'.heap[b]? =w.heap[b]?)→Tr w' u cs∧u.fp w' cs=u.fp w cs
 | .i k n,cs,h,_=>⟨by simpa only [Tr] using h,rfl⟩
 | .b x,cs,h,_=>⟨by simpa only [Tr] using h,rfl⟩
 | .s l,cs,h,_=>⟨by simpa only [Tr] using h,rfl⟩
 | .st us,cs,h,hb=>by
   simp only [Tr] at h ⊢;simp only [U.fp] at hb ⊢;exact Trs.loc us cs h hb
 | .sl z us,cs,h,hb=>by
   simp only [Tr] at h ⊢;obtain⟨h1,h2,hv,e,xs,rfl,h3,h4⟩:=h;rcases gJ6 h2 h3 with ⟨rfl,rfl,hf⟩ | ⟨g,cap,rfl,hf⟩
   ·refine⟨⟨h1,h2,_,e,xs,rfl,?_,?_⟩,rfl⟩
    ·rcases h3.2 with h | ⟨g,cap,cur,h,_⟩
     ·exact⟨h3.1,.inl h⟩
     ·cases h
    ·simpa only [Trs] using h4
   ·rw [hf] at hb;have hg:w'.heap[g]? =w.heap[g]? :=hb g (by simp);obtain⟨k1,k2⟩:=Trs.loc us xs h4 (fun b hb'=>hb b (by simp [hb']));have h3':w'.ownsRow 0 e z (.slice (some ⟨g,0,none⟩) us.length cap) us.length xs:=by
     rcases h3.2 with ⟨h,_⟩ | ⟨g',cap',cur,h,r0,r1,r⟩
     ·cases h
     ·cases h;exact⟨h3.1,.inr ⟨g,cap,cur,rfl,r0,by rw [hg];exact r1,r⟩⟩
    refine⟨⟨h1,h2,_,e,xs,rfl,h3',k1⟩,?_⟩;rcases gJ6 h2 h3' with ⟨h,_⟩ | ⟨g',cap',h,hf'⟩
    ·cases h
    ·cases h;rw [hf,hf',k2]
theorem Trs.loc{w w':World}:∀(us:List U)(cs:List Value),Trs w us cs→(∀b∈U.fps w us cs,w'.heap[b]? =w.heap[b]?)→Trs w' us cs∧U.fps w' us cs=U.fps w us cs
 | [],cs,h,_=>⟨by simpa only [Trs] using h,rfl⟩
 | u::us,cs,h,hb=>by
   simp only [Trs] at h ⊢;simp only [U.fps] at hb ⊢;obtain⟨k1,k2⟩:=Tr.loc u _ h.1 (fun b hb'=>hb b (by simp [hb']));obtain⟨k3,k4⟩:=Trs.loc us _ h.2 (fun b hb'=>hb b (by simp [hb']));exact⟨⟨k1,k3⟩,by rw [k2,k4]⟩
end
def LO.ft(w:World):LO→Value→Nat→Prop
 | .box _,hv,b=>blk hv=some b
 | .arr _ _ _ _,hv,b=>blk hv=some b
 | .frz _ _ _ _,_,_=>False
 | .own _ z _ es,hv,b=>b∈(U.sl z es).fp w [hv]
 | .dead _,_,_=>False
 | .ownp _ _ z es,hv,b=>b∈(U.sl z es).fp w [hv]
 | .mix _ z _ fs _,hv,b=>b∈(U.sl z fs).fp w [hv]
 | .set _,hv,b=>hv=.map (some b)
 | .slot,_,_=>False
 | .bld _ _ _,hv,b=>blk hv=some b∨∃g v,blk hv=some g∧(rowOf w g)[1]? =some v∧blk v=some b
section
variable (S:Nat→Prop)(L:List LO)(env:List Value)(w:World)
mutual
def SVr:SV→Value→Prop
 | .junk,_=>True
 | .d u,v=>RdV S w u v
 | .ag cs,v=>∃vs:List Value,v=.agg vs.toArray∧kV cs vs
 | .ptr i off,v=>∃b,env[i]? =some (.pointer (some ⟨b,0,none⟩))∧v=.pointer (some ⟨b,off,none⟩)
 | .sl i ver,v=>∃hv o,env[i]? =some hv∧L[i]? =some o∧ver≤o.ver∧v.oneCell'=true∧(ver=o.ver→v=hv)
 | .dp u,v=>∃b off cs,v=.pointer (some ⟨b,off,none⟩)∧S b∧At w b off cs∧Rd S w u cs
 | .ep i ver z k off,v=>∃hv o,env[i]? =some hv∧L[i]? =some o∧ver≤o.ver∧v.oneCell'=true∧(ver=o.ver→∃b,blk hv=some b∧v=.pointer (some ⟨b,k*z+off,none⟩))
 | .fn f caps,v=>∃vs:List Value,v=.func (.func f) #[] vs.toArray∧kV caps vs
 | .tup svs,v=>∃vs:List Value,v=.tuple vs.toArray∧kV svs vs
 | .nilsl,v=>v=.slice none 0 0
def kV:List SV→List Value→Prop
 | [],[]=>True
 | sv::svs,v::vs=>SVr sv v∧kV svs vs
 | _,_=>False
end
end
def gLm(S:Nat→Prop)(L:List LO)(env:List Value)(w:World):LO→Value→Prop
 | .box cs,hv=>∃b vals e,hv=.pointer (some ⟨b,0,none⟩)∧w.heap[b]? =some (.cells vals e (0,0))∧kV S L env w cs vals.toList∧(∀v∈vals.toList,v.oneCell'=true)
 | .arr e z _ es,hv=>es.length≤big∧(∀u∈es,u.sz=z)∧∃xs,w.ownsRow 0 e z hv es.length xs∧Rds S w es xs
 | .frz _ z _ es,hv=>RdV S w (.sl z es) hv
 | .own e z _ es,hv=>es.length≤big∧(∀u∈es,u.sz=z)∧(∃xs,w.ownsRow 0 e z hv es.length xs∧Trs w es xs)∧((U.sl z es).fp w [hv]).Nodup
 | .dead _,_=>True
 | .ownp h e z es,hv=>hv=h∧es.length≤big∧(∀u∈es,u.sz=z)∧(∃xs,w.ownsRow 0 e z hv es.length xs∧Trs w es xs)∧((U.sl z es).fp w [hv]).Nodup
 | .mix e z _ fs es,hv=>(fs++es).length≤big∧(∀u∈fs++es,u.sz=z)∧(∃xs,w.ownsRow 0 e z hv (fs++es).length xs∧Trs w fs (xs.take (fs.length*z))∧Rds S w es (xs.drop (fs.length*z)))∧((U.sl z fs).fp w [hv]).Nodup
 | .set ks,hv=>∃b ents clock,hv=.map (some b)∧w.heap[b]? =some (.map ents clock)∧(∀x∈ents.toList,(∃l:LB,x.key=.string ⟨l.toArray⟩)∧x.val=.bool true)∧∀l:LB,l∈ks↔∃x∈ents.toList,x.key=.string ⟨l.toArray⟩
 | .slot,hv=>hv=.agg #[]
 | .bld e T l,hv=>∃b p v,hv=.pointer (some ⟨b,0,none⟩)∧w.heap[b]? =some (.cells #[p,v] T (0,0))∧(p=.pointer none∨p=hv)∧w.ownsRow 0 e 1 v l.length (l.map fun x=>Value.int .u8 x.toNat)∧blk v≠some b∧v.oneCell'=true
theorem hR6{w:World}{e z n:Nat}{fs:List U}{hv:Value}{xs:List Value}(hz:∀u∈fs,u.sz=z)(hn:fs.length≤n)(h:w.ownsRow 0 e z hv n xs) :
  (hv=.slice none 0 0∧fs=[]∧n=0∧(U.sl z fs).fp w [hv]=[])∨∃g cap,hv=.slice (some ⟨g,0,none⟩) n cap∧(U.sl z fs).fp w [hv]=g::U.fps w fs (xs.take (fs.length*z)):=by
 rcases h.2 with ⟨rfl,h0⟩ | ⟨g,cap,cur,rfl,_,hg,_,_,_,htake⟩
 ·exact .inl ⟨rfl,List.eq_nil_of_length_eq_zero (by omega),h0,rfl⟩
 ·refine .inr ⟨g,cap,rfl,?_⟩;simp only [U.fp]
  have:rowOf w g=cur.toList:=by simp [rowOf,hg]
  rw [this,←htake,List.take_take,Nat.min_eq_left (Nat.mul_le_mul_right _ hn),gZ0 fs cur.toList (fs.length*z) (by rw [gWt fs hz];exact Nat.le_refl _)]
theorem hMu{S:Nat→Prop}{L:List LO}{env:List Value}{w w':World}{e z ver:Nat}{fs es:List U}{hv:Value}(h:gLm S L env w (.mix e z ver fs es) hv)(hb:∀b,b∈(U.sl z fs).fp w [hv]→w'.heap[b]? =w.heap[b]?) :
  (U.sl z fs).fp w' [hv]=(U.sl z fs).fp w [hv]∧∃xs,w'.ownsRow 0 e z hv (fs++es).length xs∧Trs w' fs (xs.take (fs.length*z))∧Rds S w es (xs.drop (fs.length*z)):=by
 obtain⟨h1,h2,⟨xs,h3,h4,h5⟩,_⟩:=h;have hz:∀u∈fs,u.sz=z:=fun u hu=>h2 u (by simp [hu]);have hn:fs.length≤(fs++es).length:=by simp
 rcases hR6 hz hn h3 with ⟨rfl,rfl,h0,hf⟩ | ⟨g,cap,rfl,hf⟩
 ·refine⟨rfl,xs,⟨h3.1,.inl ⟨rfl,h0⟩⟩,by simp [Trs],h5⟩
 ·rw [hf] at hb;have h3':w'.ownsRow 0 e z (.slice (some ⟨g,0,none⟩) (fs++es).length cap) (fs++es).length xs:=by
   rcases h3.2 with ⟨h,_⟩ | ⟨g',cap',cur,h,r0,r1,r⟩
   ·cases h
   ·cases h;exact⟨h3.1,.inr ⟨g,cap,cur,rfl,r0,by rw [hb g (by simp)];exact r1,r⟩⟩
  obtain⟨k1,k2⟩:=Trs.loc (w':=w') _ _ h4 (fun b hb'=>hb b (by simp [hb']));refine⟨?_,xs,h3',k1,h5⟩;rcases hR6 hz hn h3' with ⟨h,_⟩ | ⟨g',cap',h,hf'⟩
  ·cases h
  ·cases h;rw [hf,hf',k2]
theorem gWu{S:Nat→Prop}{L:List LO}{env:List Value}{w:World}{e z ver:Nat}{es:List U}{hv:Value}(h:gLm S L env w (.own e z ver es) hv):Tr w (.sl z es) [hv]:=by
 obtain⟨h1,h2,⟨xs,h3,h4⟩,_⟩:=h;simp only [Tr];exact⟨h1,h2,hv,e,xs,rfl,h3,h4⟩
theorem LO.ft_eq{S:Nat→Prop}{L:List LO}{env:List Value}{w w':World}{o:LO}{hv:Value}(h:gLm S L env w o hv)(hb:∀b,o.ft w hv b→w'.heap[b]? =w.heap[b]?)(b:Nat):o.ft w' hv b↔o.ft w hv b:=by
 cases o with
 | own e z ver es=>
   have:=(Tr.loc _ _ (gWu h) hb).2
   simp only [LO.ft];rw [this]
 | ownp h0 e z es=>
   have:=(Tr.loc _ _ (gWu (S:=S) (L:=L) (env:=env) (ver:=0) (e:=e) h.2) hb).2
   simp only [LO.ft];rw [this]
 | mix e z ver fs es=>
   simp only [LO.ft] at hb ⊢;rw [(hMu h hb).1]
 | bld e T l=>
   obtain⟨g,p,v,rfl,h2,_⟩:=h;have hg:w'.heap[g]? =w.heap[g]? :=hb g (.inl rfl)
   have:rowOf w' g=rowOf w g:=by simp only [rowOf,hg]
   simp only [LO.ft,blk,Option.some.injEq];constructor
   ·rintro(h | ⟨k,u,rfl,h5,h6⟩)
    ·exact .inl h
    ·exact .inr ⟨_,u,rfl,by rw [←this];exact h5,h6⟩
   ·rintro(h | ⟨k,u,rfl,h5,h6⟩)
    ·exact .inl h
    ·exact .inr ⟨_,u,rfl,by rw [this];exact h5,h6⟩
 | _=>exact Iff.rfl
structure Amb where
 w0:World
 S0:Nat→Prop
 E:Nat→Prop
 L0:List LO
 env0:List Value
def Base(A:Amb)(L:List LO)(env:List Value):Prop:=A.L0.length≤L.length∧∀(i:Nat)(hv:Value)(o:LO)(hv':Value)(o':LO),A.env0[i]? =some hv→A.L0[i]? =some o→env[i]? =some hv'→L[i]? =some o'→
 o.ver≤o'.ver∧(o.ver=o'.ver→hv'=hv)∧∀b,hv=.pointer (some ⟨b,0,none⟩)→hv'=hv
class gBp (A:Amb) (n:outParam Nat):Prop where
 h:A.L0.length=n
structure pU (A:Amb)(S:Nat→Prop)(L:List LO)(env:List Value)(w:World):Prop where
 len:env.length=L.length
 objs:∀(i:Nat)(o:LO)(hv:Value),L[i]? =some o→env[i]? =some hv→gLm S L env w o hv
 excl:∀(i:Nat)(o:LO)(hv:Value)(b:Nat),L[i]? =some o→o.live=true→env[i]? =some hv→o.ft w hv b→¬S b∧(A.E b∨A.w0.heap.size≤b)∧b < w.heap.size
 dist:∀(i j:Nat)(o o':LO)(hv hv':Value)(b:Nat),L[i]? =some o→L[j]? =some o'→o.live=true→o'.live=true→env[i]? =some hv→env[j]? =some hv'→o.ft w hv b→o'.ft w hv' b→i=j
 sS:∀b,S b→b < w.heap.size
 sA:∀b,S b→A.S0 b∨A.E b∨A.w0.heap.size≤b
 frame:∀b,b < A.w0.heap.size→¬A.E b→w.heap[b]? =A.w0.heap[b]?
 size:A.w0.heap.size≤w.heap.size
 os:w.os=A.w0.os
 tape:w.tape=A.w0.tape
 output:w.output=A.w0.output
 base:Base A L env
 glob:Gok A.E A.w0
theorem pU.gok{A:Amb}{S:Nat→Prop}{L:List LO}{env:List Value}{w:World}{E':Nat→Prop}(hH:pU A S L env w)(he:∀b,E' b→A.E b∨A.w0.heap.size≤b):Gok E' w:=hH.glob.step (fun b h1 h2=>hH.frame b h1 h2) hH.size he
def look:List (Nat × SV)→Nat→SV
 | [],_=>.junk
 | p::r,t=>if t=p.1 then p.2 else look r t
structure St where
 fr:List (Nat × SV)
 L:List LO
 N:Nat
def St.set(σ:St)(t:Nat)(sv:SV):St:={ σ with fr:=(t,sv)::σ.fr }
def gJ3:Value→SV
 | .int k n=>.d (.i k n)
 | .bool x=>.d (.b x)
 | .string s=>match Nat.ble s.data.toList.length 140737488355328 with | true=>.d (.s s.data.toList) | false=>.junk
 | .slice none 0 0=>.nilsl
 | _=>.junk
def St.ev(σ:St):Operand→SV
 | .tmp t=>look σ.fr t
 | .const v=>gJ3 v
 | .func f=>.fn f []
 | .global _=>.junk
def mP(A:Amb)(σ:St)(a:Act)(w:World):Prop:=
 ∃S env,pU A S σ.L env w∧(∀t,SVr S σ.L env w (look σ.fr t) (a.tmps.getD t undef))∧a.tmps.size=σ.N∧a.defers=[]
def V(P:Program)(A:Amb)(c:Code)(σ:St)(Q:Exit→St→Prop):Prop:=
 ∀a w,mP A σ a w→c.wp P (fun e a' w'=>∃σ',Q e σ'∧mP A σ' a' w') a w
def VO(P:Program)(A:Amb)(ops:Array Oper)(l:List Oper)(σ:St)(K:St→Prop):Prop:=
 ∀(R:Exit→Act→World→Prop),(∀σ' a' w',K σ'→mP A σ' a' w'→R .normal a' w')→∀a w,mP A σ a w→wpList P ops R l a w
def hMv(P:Program)(f:Nat):Prop:=∃fn,P.funcs[f]? =some fn∧(fn.name== "runtime.NumGoroutine")=false∧fn.body.isNone=false
def Spec(P:Program)(f:Nat)(args:List SV)(L:List LO)(Q:SV→List LO→Prop):Prop:=
 hMv P f∧∀(A:Amb)(S:Nat→Prop)(env:List Value)(w:World)(vs:List Value),A.w0=w→A.S0=S→A.L0=L→A.env0=env→pU A S L env w→kV S L env w args vs→
  Calls P f vs.toArray w (fun e w'=>∃r sv S' L' env',e=.returned r∧Q sv L'∧pU A S' L' env' w'∧SVr S' L' env' w' sv r)
section
variable {S S':Nat→Prop}{L L':List LO}{env env':List Value}{w w':World}
theorem kV.iff:∀(svs:List SV)(vs:List Value),kV S L env w svs vs↔zX (SVr S L env w) svs vs
 | [],[]=>by simp [kV,zX]
 | sv::svs,v::vs=>by simp only [kV,zX,kV.iff svs vs]
 | [],_::_=>by simp [kV,zX]
 | _::_,[]=>by simp [kV,zX]
theorem RdV.mono{u:U}{v:Value}(hS:∀b,S b→b < w.heap.size→S' b)(hw:∀b,S b→b < w.heap.size→w'.heap[b]? =w.heap[b]?)(h:RdV S w u v):RdV S' w' u v:=by
 obtain⟨cs,h1,h2⟩:=h;exact⟨cs,h1,h2.mono hS hw⟩
theorem Base.nil{A:Amb}(h:A.L0=[]):Base A L env:=⟨by rw [h];exact Nat.zero_le _,fun i hv o hv' o' _ h2=>by rw [h] at h2;simp at h2⟩
theorem Base.refl{A:Amb}(h1:A.L0=L)(h2:A.env0=env):Base A L env:=⟨by rw [h1];exact Nat.le_refl _,fun i hv o hv' o' k1 k2 k3 k4=>by
 rw [h2,k3] at k1;rw [h1,k4] at k2;obtain rfl:=Option.some.inj k1;obtain rfl:=Option.some.inj k2
 exact⟨Nat.le_refl _,fun _=>rfl,fun _ _=>rfl⟩⟩
structure Carry (S:Nat→Prop)(L:List LO)(env:List Value)(w:World)(S':Nat→Prop)(L':List LO)(env':List Value)(w':World):Prop where
 hS:∀b,S b→b < w.heap.size→S' b
 hw:∀b,S b→b < w.heap.size→w'.heap[b]? =w.heap[b]?
 ptr:∀(i b:Nat),env[i]? =some (.pointer (some ⟨b,0,none⟩))→env'[i]? =some (.pointer (some ⟨b,0,none⟩))
 ref:∀(i:Nat)(hv:Value)(o:LO),env[i]? =some hv→L[i]? =some o→∃hv' o',env'[i]? =some hv'∧L'[i]? =some o'∧o.ver≤o'.ver∧(o.ver=o'.ver→hv'=hv)
theorem Base.carry{A:Amb}(C:Carry S L env w S' L' env' w')(hlen:env.length=L.length)(hl:L.length≤L'.length)(h:Base A L env):Base A L' env':=by
 refine⟨Nat.le_trans h.1 hl,fun i hv o hv' o' k1 k2 k3 k4=>?_⟩;have hi:i < L.length:=Nat.lt_of_lt_of_le (List.getElem?_eq_some_iff.1 k2).1 h.1;obtain⟨o1,ho1⟩:∃o1,L[i]? =some o1:=⟨_,List.getElem?_eq_getElem hi⟩
 obtain⟨v1,hv1⟩:∃v1,env[i]? =some v1:=⟨_,List.getElem?_eq_getElem (by omega)⟩
 obtain⟨m1,m2,m3⟩:=h.2 i hv o v1 o1 k1 k2 hv1 ho1;obtain⟨v2,o2,n1,n2,n3,n4⟩:=C.ref i v1 o1 hv1 ho1;rw [k3] at n1;rw [k4] at n2;obtain rfl:=Option.some.inj n1;obtain rfl:=Option.some.inj n2;refine⟨Nat.le_trans m1 n3,fun he=>?_,fun b hb=>?_⟩
 ·rw [n4 (by omega)];exact m2 (by omega)
 ·have:=m3 b hb
  subst this;subst hb
  have:=C.ptr i b hv1
  rw [k3] at this;exact Option.some.inj this
theorem Carry.refl:Carry S L env w S L env w:=⟨fun _ h _=>h,fun _ _ _=>rfl,fun _ _ h=>h,fun _ _ _ h1 h2=>⟨_,_,h1,h2,Nat.le_refl _,fun _=>rfl⟩⟩
mutual
theorem SVr.carry(C:Carry S L env w S' L' env' w'):∀(sv:SV)(v:Value),SVr S L env w sv v→SVr S' L' env' w' sv v
 | .junk,v,_=>by simp only [SVr]
 | .d u,v,h=>by simp only [SVr] at h ⊢;exact h.mono C.hS C.hw
 | .ag cs,v,h=>by
   simp only [SVr] at h ⊢;obtain⟨vs,h1,h2⟩:=h;exact⟨vs,h1,kV.carry C cs vs h2⟩
 | .ptr i off,v,h=>by
   simp only [SVr] at h ⊢;obtain⟨b,h1,h2⟩:=h;exact⟨b,C.ptr i b h1,h2⟩
 | .sl i ver,v,h=>by
   simp only [SVr] at h ⊢;obtain⟨hv,o,h1,h2,h3,h5,h4⟩:=h;obtain⟨hv',o',r1,r2,r3,r4⟩:=C.ref i hv o h1 h2;refine⟨hv',o',r1,r2,Nat.le_trans h3 r3,h5,fun he=>?_⟩;have e1:ver=o.ver:=by omega
   rw [r4 (by omega)];exact h4 e1
 | .dp u,v,h=>by
   simp only [SVr] at h ⊢;obtain⟨b,off,cs,h1,h2,h3,h4⟩:=h;exact⟨b,off,cs,h1,C.hS b h2 h3.lt,h3.mono (C.hw b h2),h4.mono C.hS C.hw⟩
 | .ep i ver z k off,v,h=>by
   simp only [SVr] at h ⊢;obtain⟨hv,o,h1,h2,h3,h5,h4⟩:=h;obtain⟨hv',o',r1,r2,r3,r4⟩:=C.ref i hv o h1 h2;refine⟨hv',o',r1,r2,Nat.le_trans h3 r3,h5,fun he=>?_⟩;have e1:ver=o.ver:=by omega
   rw [r4 (by omega)];exact h4 e1
 | .fn f caps,v,h=>by
   simp only [SVr] at h ⊢;obtain⟨vs,h1,h2⟩:=h;exact⟨vs,h1,kV.carry C caps vs h2⟩
 | .tup svs,v,h=>by
   simp only [SVr] at h ⊢;obtain⟨vs,h1,h2⟩:=h;exact⟨vs,h1,kV.carry C svs vs h2⟩
 | .nilsl,v,h=>by simpa only [SVr] using h
theorem kV.carry(C:Carry S L env w S' L' env' w'):∀(svs:List SV)(vs:List Value),kV S L env w svs vs→kV S' L' env' w' svs vs
 | [],[],_=>by simp only [kV]
 | sv::svs,v::vs,h=>by
   simp only [kV] at h ⊢;exact⟨SVr.carry C sv v h.1,kV.carry C svs vs h.2⟩
 | [],_::_,h=>by simp [kV] at h
 | _::_,[],h=>by simp [kV] at h
end
theorem kV.get{svs:List SV}{vs:List Value}(h:kV S L env w svs vs)(j:Nat)(sv:SV)(hj:svs[j]? =some sv):∃v,vs[j]? =some v∧SVr S L env w sv v:=
 zX.get ((kV.iff svs vs).1 h) j sv hj
theorem kV.length{svs:List SV}{vs:List Value}(h:kV S L env w svs vs):svs.length=vs.length:=zX.length ((kV.iff svs vs).1 h)
end
theorem gLm.carry {S S':Nat→Prop}{L L':List LO}{env env':List Value}{w w':World}(C:Carry S L env w S' L' env' w'){o:LO}{hv:Value}
  (hb:∀b,o.live=true→o.ft w hv b→w'.heap[b]? =w.heap[b]?) (h:gLm S L env w o hv):gLm S' L' env' w' o hv:=by
 cases o with
 | box cs=>
   obtain⟨b,vals,e,rfl,h2,h3,h4⟩:=h;exact⟨b,vals,e,rfl,by rw [hb b rfl rfl];exact h2,kV.carry C _ _ h3,h4⟩
 | arr e z ver es=>
   obtain⟨h0,h1,xs,h2,h3⟩:=h;refine⟨h0,h1,xs,?_,Rds.mono C.hS C.hw _ _ h3⟩;refine⟨h2.1,?_⟩;rcases h2.2 with h | ⟨g,cap,cur,rfl,hg,hh,r⟩
   ·exact .inl h
   ·exact .inr ⟨g,cap,cur,rfl,hg,by rw [hb g rfl rfl];exact hh,r⟩
 | frz e z ver es=>exact RdV.mono C.hS C.hw h
 | own e z ver es=>
   have h':=gWu h;obtain⟨h1,h2,⟨xs,h3,h4⟩,h5⟩:=h;obtain⟨k1,k2⟩:=Tr.loc (w':=w') _ _ h' (fun b hb'=>hb b rfl hb');refine⟨h1,h2,⟨xs,?_,?_⟩,by rw [k2];exact h5⟩
   ·refine⟨h3.1,?_⟩;rcases h3.2 with h | ⟨g,cap,cur,rfl,hg,hh,r⟩
    ·exact .inl h
    ·exact .inr ⟨g,cap,cur,rfl,hg,by rw [hb g rfl (by simp [LO.ft,U.fp])];exact hh,r⟩
   ·rcases gJ6 h2 h3 with ⟨rfl,rfl,hf⟩ | ⟨g,cap,rfl,hf⟩
    ·simpa only [Trs] using h4
    ·exact(Trs.loc _ _ h4 (fun b hb'=>hb b rfl (by simp only [LO.ft];rw [hf];simp [hb']))).1
 | dead ver=>trivial
 | ownp h0 e z es=>
   have h':=gWu (S:=S) (L:=L) (env:=env) (ver:=0) (e:=e) h.2;obtain⟨h0',h1,h2,⟨xs,h3,h4⟩,h5⟩:=h;obtain⟨k1,k2⟩:=Tr.loc (w':=w') _ _ h' (fun b hb'=>hb b rfl hb');refine⟨h0',h1,h2,⟨xs,?_,?_⟩,by rw [k2];exact h5⟩
   ·refine⟨h3.1,?_⟩;rcases h3.2 with h | ⟨g,cap,cur,rfl,hg,hh,r⟩
    ·exact .inl h
    ·exact .inr ⟨g,cap,cur,rfl,hg,by rw [hb g rfl (by simp [LO.ft,U.fp])];exact hh,r⟩
   ·rcases gJ6 h2 h3 with ⟨rfl,rfl,hf⟩ | ⟨g,cap,rfl,hf⟩
    ·simpa only [Trs] using h4
    ·exact(Trs.loc _ _ h4 (fun b hb'=>hb b rfl (by simp only [LO.ft];rw [hf];simp [hb']))).1
 | mix e z ver fs es=>
   obtain⟨k1,xs,k2,k3,k4⟩:=hMu h (fun b hb'=>hb b rfl hb');obtain⟨h1,h2,_,h5⟩:=h;exact⟨h1,h2,⟨xs,k2,k3,Rds.mono C.hS C.hw _ _ k4⟩,by rw [k1];exact h5⟩
 | slot=>exact h
 | set ks=>
   obtain⟨b,ents,clock,rfl,h2,h3⟩:=h;exact⟨b,ents,clock,rfl,by rw [hb b rfl rfl];exact h2,h3⟩
 | bld e T l=>
   obtain⟨b,p,v,rfl,h2,h3,h4,h5,h6⟩:=h;refine⟨b,p,v,rfl,by rw [hb b rfl (.inl rfl)];exact h2,h3,⟨h4.1,?_⟩,h5,h6⟩;rcases h4.2 with h | ⟨g,cap,cur,rfl,hg,hh,r⟩
   ·exact .inl h
   ·exact .inr ⟨g,cap,cur,rfl,hg,by rw [hb g rfl (.inr ⟨b,.slice (some ⟨g,0,none⟩) l.length cap,rfl,by simp [rowOf,h2],rfl⟩)];exact hh,r⟩
theorem evr {σ:St}{a:Act}{w:World}{S:Nat→Prop}{L:List LO}{env:List Value}
  (hf:∀t,SVr S L env w (look σ.fr t) (a.tmps.getD t undef)) (x:Operand):SVr S L env w (σ.ev x) (a.eval x):=by
 cases x with
 | tmp t=>exact hf t
 | global g=>simp [St.ev,SVr]
 | func f=>simp only [St.ev,SVr,Act.eval];exact⟨[],rfl,by simp [kV]⟩
 | const v=>
   simp only [St.ev,Act.eval];unfold gJ3;split
   ·simp only [SVr];exact⟨[_],rfl,by simp [Rd]⟩
   ·simp only [SVr];exact⟨[_],rfl,by simp [Rd]⟩
   ·split
    ·rename_i s _ hs;simp only [SVr];exact⟨[.string s],rfl,by simp only [Rd];exact⟨by rw [gAy];exact Nat.le_of_ble_eq_true hs,by simp⟩⟩
    ·simp [SVr]
   ·simp [SVr]
   ·simp [SVr]
theorem mP.ev {A:Amb}{σ:St}{a:Act}{w:World}{S:Nat→Prop}{env:List Value}
  (hf:∀t,SVr S σ.L env w (look σ.fr t) (a.tmps.getD t undef)) (_:pU A S σ.L env w) (x:Operand):SVr S σ.L env w (σ.ev x) (a.eval x):=evr hf x
theorem hMw{S:Nat→Prop}{L:List LO}{env:List Value}{w:World}(v:Value):SVr S L env w (gJ3 v) v:=
 evr (σ:=⟨[],L,0⟩) (a:=⟨#[],[]⟩) (fun t=>by simp [look,SVr]) (.const v)
section
variable {P:Program}{A:Amb}{σ σ':St}{Q Q':Exit→St→Prop}{K K':St→Prop}
def thenS(next:St→Prop)(Q:Exit→St→Prop):Exit→St→Prop
 | .normal,σ=>next σ
 | e,σ=>Q e σ
def hR7(id:Nat)(Q:Exit→St→Prop):Exit→St→Prop
 | .exit id',σ=>if id'=id then Q .normal σ else Q (.exit id') σ
 | e,σ=>Q e σ
theorem V.mono{c:Code}(h:V P A c σ Q)(hq:∀e s,Q e s→Q' e s):V P A c σ Q':=fun a w hr=>
 wp_mono (h a w hr) fun e _ _ ⟨s,h1,h2⟩=>⟨s,hq e s h1,h2⟩
theorem kC{x y:Code}(h:V P A x σ (thenS (fun s=>V P A y s Q) Q)):V P A (.seq x y) σ Q:=fun a w hr=>
 wp_seq (wp_mono (h a w hr) fun e a' w' ⟨s,h1,h2⟩=>by
  cases e with
  | normal=>exact h1 a' w' h2
  | exit id=>exact⟨s,h1,h2⟩
  | goto l=>exact⟨s,h1,h2⟩
  | ret=>exact⟨s,h1,h2⟩
  | panic c=>exact⟨s,h1,h2⟩
  | outgrown=>exact⟨s,h1,h2⟩)
theorem gZ1{id:Nat}{l:List Oper}(h:VO P A l.toArray l σ (Q .normal)):V P A (.region id l.toArray false) σ Q:=fun a w hr=>
 wp_region_lit (h _ (fun s _ _ h1 h2=>⟨s,h1,h2⟩) a w hr)
theorem gTr{id:Nat}{l:List Oper}{y:Code}(h:VO P A l.toArray l σ (fun s=>V P A y s Q)):V P A (.seq (.region id l.toArray false) y) σ Q:=
 kC (gZ1 h)
theorem gCs(h:Q .normal σ):V P A .skip σ Q:=fun _ _ hr=>wp_skip ⟨σ,h,hr⟩
theorem hGb{id:Nat}(h:Q (.exit id) σ):V P A (.exit id) σ Q:=fun _ _ hr=>wp_exit ⟨σ,h,hr⟩
theorem jH(h:Q .ret σ):V P A .ret σ Q:=fun _ _ hr=>wp_ret ⟨σ,h,hr⟩
theorem gP{id:Nat}{c:Code}(h:V P A c σ (hR7 id Q)):V P A (.block id c) σ Q:=fun a w hr=>
 wp_block (wp_mono (h a w hr) fun e a' w' ⟨s,h1,h2⟩=>by
  cases e with
  | exit id'=>
    simp only [Exit.inBlock];simp only [hR7] at h1;split
    ·rename_i he;rw [if_pos he] at h1;exact⟨s,h1,h2⟩
    ·rename_i he;rw [if_neg he] at h1;exact⟨s,h1,h2⟩
  | normal=>exact⟨s,h1,h2⟩
  | goto l=>exact⟨s,h1,h2⟩
  | ret=>exact⟨s,h1,h2⟩
  | panic c=>exact⟨s,h1,h2⟩
  | outgrown=>exact⟨s,h1,h2⟩)
theorem hMx{c:Operand}{x y:Code}{t:Bool}(hc:σ.ev c=.d (.b t))(ht:t=true→V P A x σ Q)(hf:t=false→V P A y σ Q):V P A (.cond c x y) σ Q:=by
 intro a w hr;have hr':=hr;obtain⟨S,env,hH,hfr,hN,hd⟩:=hr;have h1:=mP.ev hfr hH c;rw [hc] at h1;simp only [SVr] at h1;obtain⟨cs,h2,h3⟩:=h1;simp only [Rd] at h3;subst h3;have h4:a.eval c=.bool t:=by rw [h2];rfl
 exact wp_cond_split h4 (fun h=>ht h a w hr') (fun h=>hf h a w hr')
mutual
def SV.lt(n:Nat):SV→Bool
 | .junk=>true
 | .d _=>true
 | .ag cs=>SV.lts n cs
 | .ptr i _=>Nat.blt i n
 | .sl i _=>Nat.blt i n
 | .dp _=>true
 | .ep i _ _ _ _=>Nat.blt i n
 | .fn _ cs=>SV.lts n cs
 | .tup cs=>SV.lts n cs
 | .nilsl=>true
def SV.lts(n:Nat):List SV→Bool
 | []=>true
 | c::cs=>SV.lt n c && SV.lts n cs
end
mutual
theorem SVr.cut{S:Nat→Prop}{L L2:List LO}{env:List Value}{w:World}(hl:env.length=(L++L2).length):∀(sv:SV)(v:Value),sv.lt L.length=true→SVr S (L++L2) env w sv v→SVr S L (env.take L.length) w sv v
 | .junk,v,_,h=>by simp only [SVr]
 | .d u,v,_,h=>by simpa only [SVr] using h
 | .ag cs,v,hlt,h=>by
   simp only [SVr] at h ⊢;obtain⟨vs,h1,h2⟩:=h;exact⟨vs,h1,kV.cut hl cs vs (by simpa only [SV.lt] using hlt) h2⟩
 | .ptr i off,v,hlt,h=>by
   simp only [SV.lt,Nat.blt_eq] at hlt;simp only [SVr] at h ⊢;obtain⟨b,h1,h2⟩:=h;exact⟨b,by rw [List.getElem?_take_of_lt hlt];exact h1,h2⟩
 | .sl i ver,v,hlt,h=>by
   simp only [SV.lt,Nat.blt_eq] at hlt;simp only [SVr] at h ⊢;obtain⟨hv,o,h1,h2,h3⟩:=h;exact⟨hv,o,by rw [List.getElem?_take_of_lt hlt];exact h1,by rw [List.getElem?_append_left hlt] at h2;exact h2,h3⟩
 | .dp u,v,_,h=>by simpa only [SVr] using h
 | .ep i ver z k off,v,hlt,h=>by
   simp only [SV.lt,Nat.blt_eq] at hlt;simp only [SVr] at h ⊢;obtain⟨hv,o,h1,h2,h3⟩:=h;exact⟨hv,o,by rw [List.getElem?_take_of_lt hlt];exact h1,by rw [List.getElem?_append_left hlt] at h2;exact h2,h3⟩
 | .fn f cs,v,hlt,h=>by
   simp only [SVr] at h ⊢;obtain⟨vs,h1,h2⟩:=h;exact⟨vs,h1,kV.cut hl cs vs (by simpa only [SV.lt] using hlt) h2⟩
 | .tup cs,v,hlt,h=>by
   simp only [SVr] at h ⊢;obtain⟨vs,h1,h2⟩:=h;exact⟨vs,h1,kV.cut hl cs vs (by simpa only [SV.lt] using hlt) h2⟩
 | .nilsl,v,_,h=>by simpa only [SVr] using h
theorem kV.cut{S:Nat→Prop}{L L2:List LO}{env:List Value}{w:World}(hl:env.length=(L++L2).length):∀(svs:List SV)(vs:List Value),SV.lts L.length svs=true→kV S (L++L2) env w svs vs→kV S L (env.take L.length) w svs vs
 | [],[],_,h=>by simp only [kV]
 | sv::svs,v::vs,hlt,h=>by
   simp only [SV.lts,Bool.and_eq_true] at hlt;simp only [kV] at h ⊢;exact⟨SVr.cut hl sv v hlt.1 h.1,kV.cut hl svs vs hlt.2 h.2⟩
 | [],_::_,_,h=>by simp [kV] at h
 | _::_,[],_,h=>by simp [kV] at h
end
def LO.lt(n:Nat):LO→Bool
 | .box cs=>SV.lts n cs
 | _=>true
def LO.lts(n:Nat):List LO→Bool
 | []=>true
 | o::os=>LO.lt n o && LO.lts n os
theorem LO.lts_get{n:Nat}:∀(L:List LO),LO.lts n L=true→∀(i:Nat)(o:LO),L[i]? =some o→o.lt n=true
 | [],_,i,o,h=>by simp at h
 | o0::L,hl,0,o,h=>by simp at h;subst h;simp only [LO.lts,Bool.and_eq_true] at hl;exact hl.1
 | o0::L,hl,i+1,o,h=>by simp only [LO.lts,Bool.and_eq_true] at hl;exact LO.lts_get L hl.2 i o (by simpa using h)
theorem pU.cut{A:Amb}{S:Nat→Prop}{L L2:List LO}{env:List Value}{w:World}(h:pU A S (L++L2) env w)(hL:LO.lts L.length L=true)(hA:A.L0.length≤L.length):pU A S L (env.take L.length) w:=by
 have hlen:=h.len;have pL:∀(i:Nat)(o:LO),L[i]? =some o→(L++L2)[i]? =some o:=fun i o ho=>by
  rw [List.getElem?_append_left (List.getElem?_eq_some_iff.1 ho).1];exact ho
 have pE:∀(i:Nat)(hv:Value),(env.take L.length)[i]? =some hv→env[i]? =some hv:=fun i hv he=>by
  rw [List.getElem?_take] at he;split at he
  ·exact he
  ·cases he
 refine⟨by rw [List.length_take,hlen,List.length_append];omega,?_,?_,?_,h.sS,h.sA,h.frame,h.size,h.os,h.tape,h.output,⟨hA,fun i hv o hv' o' k1 k2 k3 k4=>h.base.2 i hv o hv' o' k1 k2 (pE i hv' k3) (pL i o' k4)⟩,h.glob⟩
 ·intro i o hv ho he;have hob:=h.objs i o hv (pL i o ho) (pE i hv he);have hlt:=LO.lts_get L hL i o ho;cases o with
  | box cs=>
    obtain⟨b,vals,e,h1,h2,h3,h4⟩:=hob;exact⟨b,vals,e,h1,h2,kV.cut hlen _ _ (by simpa only [LO.lt] using hlt) h3,h4⟩
  | arr e z ver es=>exact hob
  | frz e z ver es=>exact hob
  | own e z ver es=>exact hob
  | dead ver=>exact hob
  | ownp h e z es=>exact hob
  | mix e z ver fs es=>exact hob
  | set ks=>exact hob
  | bld e T l=>exact hob
  | slot=>exact hob
 ·intro i o hv b ho hl he hb;exact h.excl i o hv b (pL i o ho) hl (pE i hv he) hb
 ·intro i j o o' hv hv' b ho ho' hl hl' he he' hb hb';exact h.dist i j o o' hv hv' b (pL i o ho) (pL j o' ho') hl hl' (pE i hv he) (pE j hv' he') hb hb'
def LeF(fr:List (Nat × SV))(n:Nat):List (Nat × SV)→Prop
 | []=>True
 | p::r=>(look fr p.1=p.2∧p.2.lt n=true)∧LeF fr n r
structure Le (σ σ':St):Prop where
 N:σ.N=σ'.N
 fr:LeF σ.fr σ'.L.length σ'.fr
 L:∃L2,σ.L=σ'.L++L2
 lt:LO.lts σ'.L.length σ'.L=true
theorem LeF.look{fr:List (Nat × SV)}{n:Nat}:∀{fr':List (Nat × SV)},LeF fr n fr'→∀t,look fr' t=.junk∨(look fr t=look fr' t∧(look fr' t).lt n=true)
 | [],_,t=>.inl rfl
 | p::r,h,t=>by
   simp only [Go.Eng.look];by_cases ht:t=p.1
   ·simp only [ht,if_true];exact .inr h.1
   ·simp only [if_neg ht];exact LeF.look h.2 t
theorem mP.le{a:Act}{w:World}(hle:Le σ σ')(hA:A.L0.length≤σ'.L.length)(h:mP A σ a w):mP A σ' a w:=by
 obtain⟨S,env,hH,hfr,hN,hd⟩:=h;obtain⟨L2,hL⟩:=hle.L;rw [hL] at hH hfr;refine⟨S,env.take σ'.L.length,hH.cut hle.lt hA,fun t=>?_,by rw [←hle.N];exact hN,hd⟩;rcases LeF.look hle.fr t with hj | ⟨h1,h2⟩
 ·rw [hj];simp only [SVr]
 ·rw [←h1] at h2 ⊢;exact SVr.cut hH.len _ _ h2 (hfr t)
theorem jA8{c:Code}(hle:Le σ σ')(h:V P A c σ' Q)(hA:A.L0.length≤σ'.L.length:=by rw [gBp.h (A:=A)];exact Nat.le_of_ble_eq_true rfl):V P A c σ Q:=fun a w hr=>h a w (hr.le hle hA)
theorem gQg {α:Type}{c:Code}(I:α→St)(J:α→Prop)(μ:α→Nat)(x0:α)(h0:Le σ (I x0))(hJ:J x0)
  (round:∀x,J x→V P A c (I x) (thenS (fun s=>∃y,J y∧μ y < μ x∧Le s (I y)) Q)) (hA:∀x,A.L0.length≤(I x).L.length:=by intro x;rw [gBp.h (A:=A)];exact Nat.le_of_ble_eq_true rfl):V P A (.loop c) σ Q:=by
 intro a w hr;refine wp_loop_ghost (fun n a w=>∃x,μ x=n∧J x∧mP A (I x) a w) (μ x0) ⟨x0,rfl,hJ,hr.le h0 (hA _)⟩ ?_;intro n a w ⟨x,hn,hx,hr⟩;refine wp_mono (round x hx a w hr) ?_;intro e a' w' ⟨s,hq,hs⟩;cases e with
 | normal=>
   obtain⟨y,hJy,hlt,hle⟩:=hq;exact⟨μ y,hn▸hlt,y,rfl,hJy,hs.le hle (hA _)⟩
 | exit id=>exact⟨s,hq,hs⟩
 | goto l=>exact⟨s,hq,hs⟩
 | ret=>exact⟨s,hq,hs⟩
 | panic ch=>exact⟨s,hq,hs⟩
 | outgrown=>exact⟨s,hq,hs⟩
end
def tyI(P:Program)(T:TypeId):Option (Bool × Nat × Nat):=
 match P.info? T,P.underlying T with
 | some i,some (.struct _)=>some (true,i.size,i.bytes)
 | some i,some (.array _ _)=>some (true,i.size,i.bytes)
 | some i,some _=>some (false,i.size,i.bytes)
 | _,_=>none
def tyE(P:Program)(T:TypeId):Option TypeId:=
 match P.underlying T with
 | some (.slice e)=>some e
 | _=>none
def tyF(P:Program)(T:TypeId)(f:Nat):Option Nat:=
 match P.underlying T with
 | some (.struct fs)=>match fs[f]? with
   | some fd=>if (tyI P fd.type).map (·.2.1)=some 0 then none else(tyI P fd.type).map fun _=>fd.offset
   | none=>none
 | _=>none
def tyZ(P:Program)(T:TypeId):Option (List Value):=
 match P.info? T with
 | some i=>i.zero.map (·.cells.toList)
 | none=>none
section
variable {P:Program}{A:Amb}{σ σ':St}{K K':St→Prop}
theorem gO6{T:TypeId}{g:Bool}{n b:Nat}(h:tyI P T=some (g,n,b))(w:World):(isAgg T).run P w=.ok g w:=by
 unfold tyI at h;unfold isAgg;split at h
 ·rename_i i fs h1 h2;simp only [Option.some.injEq,Prod.mk.injEq] at h;simp [run_underlying h2,h.1]
 ·rename_i i m e h1 h2;simp only [Option.some.injEq,Prod.mk.injEq] at h;simp [run_underlying h2,h.1]
 ·rename_i i d hs ha h1 h2;simp only [Option.some.injEq,Prod.mk.injEq] at h;simp only [Sem.run_bind,run_underlying h2,Result.andThen_ok];cases d with
  | struct fs=>exact(hs fs rfl).elim
  | array m e=>exact(ha m e rfl).elim
  | _=>simp [←h.1]
 ·cases h
theorem run_typeInfo{T:TypeId}{i:TypeInfo}(h:P.info? T=some i)(w:World):(typeInfo T).run P w=.ok i w:=by
 simp [typeInfo,h]
theorem gZ2{T:TypeId}{g:Bool}{n b:Nat}(h:tyI P T=some (g,n,b)):∃i,P.info? T=some i∧i.size=n∧i.bytes=b:=by
 unfold tyI at h
 split at h<;>first
  | (rename_i i _ h1 _;simp only [Option.some.injEq,Prod.mk.injEq] at h;exact⟨i,h1,h.2.1,h.2.2⟩)
  | (rename_i i _ _ h1 _;simp only [Option.some.injEq,Prod.mk.injEq] at h;exact⟨i,h1,h.2.1,h.2.2⟩)
  | (rename_i i _ _ _ h1 _;simp only [Option.some.injEq,Prod.mk.injEq] at h;exact⟨i,h1,h.2.1,h.2.2⟩)
  | cases h
theorem run_sizeOf{T:TypeId}{g:Bool}{n b:Nat}(h:tyI P T=some (g,n,b))(w:World):(sizeOf T).run P w=.ok n w:=by
 obtain⟨i,h1,h2,_⟩:=gZ2 h;simp [sizeOf,run_typeInfo h1,h2]
theorem gA8{T e:TypeId}(h:tyE P T=some e):P.underlying T=some (.slice e):=by
 unfold tyE at h;split at h
 ·rename_i e' h';simp only [Option.some.injEq] at h;rw [h',h]
 ·cases h
def Quiet(P:Program)(A:Amb)(σ:St)(o:Oper)(sv:SV):Prop:=
 ∀(S:Nat→Prop)(env:List Value)(a:Act)(w:World),pU A S σ.L env w→(∀x∈o.op.operands.toList,SVr S σ.L env w (σ.ev x) (a.eval x))→
  ∀(next:Act→World→Prop)(R:Exit→Act→World→Prop),
   (∀v w' S',pU A S' σ.L env w'→Carry S σ.L env w S' σ.L env w'→SVr S' σ.L env w' sv v→next (a.put o.dst v) w')→o.wp P a w next R
theorem Act.getD_put(a:Act)(t:Nat)(v:Value)(ht:t < a.tmps.size)(u:Nat):(a.put (some t) v).tmps.getD u undef=if u=t then v else a.tmps.getD u undef:=by
 simp only [Act.put,Array.getD_eq_getD_getElem?,Array.getElem?_setIfInBounds];by_cases h:t=u
 ·subst h;simp [ht]
 ·rw [if_neg h,if_neg (fun e=>h e.symm)]
theorem vZ {S S':Nat→Prop}{env env':List Value}{a:Act}{w w':World}{L':List LO}{t:Nat}{sv:SV}{v:Value}
  (hf:∀t,SVr S σ.L env w (look σ.fr t) (a.tmps.getD t undef)) (hN:a.tmps.size=σ.N) (hd:a.defers=[])
  (ht:Nat.blt t σ.N=true) (hH':pU A S' L' env' w') (C:Carry S σ.L env w S' L' env' w') (hv:SVr S' L' env' w' sv v) :
  mP A ⟨(t,sv)::σ.fr,L',σ.N⟩ (a.put (some t) v) w':=by
 have ht':t < a.tmps.size:=by rw [hN];simpa [Nat.blt_eq] using ht
 refine⟨S',env',hH',fun u=>?_,by simp [Act.put,hN],by simp [Act.put,hd]⟩;rw [Act.getD_put a t v ht' u];simp only [look];split
 ·exact hv
 ·exact SVr.carry C _ _ (hf u)
theorem gFg {S S':Nat→Prop}{env env':List Value}{a:Act}{w w':World}{L':List LO}{v:Value}
  (hf:∀t,SVr S σ.L env w (look σ.fr t) (a.tmps.getD t undef)) (hN:a.tmps.size=σ.N) (hd:a.defers=[])
  (hH':pU A S' L' env' w') (C:Carry S σ.L env w S' L' env' w') :
  mP A ⟨σ.fr,L',σ.N⟩ (a.put none v) w':=
 ⟨S',env',hH',fun u=>SVr.carry C _ _ (hf u),hN,hd⟩
theorem gF4{ops:Array Oper}(h:K σ):VO P A ops [] σ K:=fun _ hR _ _ hr=>hR _ _ _ h hr
theorem hX5 {ops:Array Oper}{rest:List Oper}{t:Nat}{op:Op}{ty:TypeId}{pos:String}{af:Array Edge}{sv:SV}{fr:List (Nat × SV)}{L:List LO}{N:Nat}
  (hq:Quiet P A ⟨fr,L,N⟩ ⟨some t,op,ty,pos,af,none⟩ sv) (ht:Nat.blt t N=true) (h:VO P A ops rest ⟨(t,sv)::fr,L,N⟩ K) :
  VO P A ops (⟨some t,op,ty,pos,af,none⟩::rest) ⟨fr,L,N⟩ K:=by
 intro R hR a w ⟨S,env,hH,hf,hN,hd⟩;refine wpList_plain rfl fun K' hK'=>?_;refine hq S env a w hH (fun x _=>mP.ev hf hH x) _ _ ?_;intro v w' S' hH' C hv;exact hK' _ _ (h R hR _ _ (vZ hf hN hd ht hH' C hv))
theorem hMy {ops:Array Oper}{rest:List Oper}{dst:Option Nat}{op:Op}{ty:TypeId}{pos:String}{af:Array Edge}{j tj:Nat}{want:Bool}{o':Oper}{fr:List (Nat × SV)}{L:List LO}{N:Nat}
  (hj:ops[j]? =some o') (hdst:o'.dst=some tj) (htj:Nat.blt tj N=true) (hb:look fr tj=.d (.b want)) (h:VO P A ops (⟨dst,op,ty,pos,af,none⟩::rest) ⟨fr,L,N⟩ K) :
  VO P A ops (⟨dst,op,ty,pos,af,some (j,want)⟩::rest) ⟨fr,L,N⟩ K:=by
 intro R hR a w hr;have h1:=h R hR a w hr;obtain⟨S,env,hH,hf,hN,hd⟩:=hr;have h2:=hf tj;rw [hb] at h2;simp only [SVr] at h2;obtain⟨cs,h3,h4⟩:=h2;simp only [Rd] at h4;subst h4;simp only [val,U.isSt,Bool.false_eq_true,if_false,List.headD_cons] at h3;have ht':tj < a.tmps.size:=by rw [hN];simpa [Nat.blt_eq] using htj
 have hy:yielded ops a.tmps j=some want:=by
  simp only [yielded,hj,hdst,Option.bind_some]
  have:a.tmps[tj]? =some (.bool want):=by
   rw [Array.getD_eq_getD_getElem?,Array.getElem?_eq_getElem ht'] at h3;rw [Array.getElem?_eq_getElem ht'];have h3':a.tmps[tj]=.bool want:=by simpa using h3
   rw [h3']
  rw [this]
 unfold wpList at h1 ⊢;simp only [Region.wanted,if_true] at h1;simp only [Region.wanted,hy,beq_self_eq_true,if_true];exact h1
theorem hMz {ops:Array Oper}{rest:List Oper}{t:Nat}{op:Op}{ty:TypeId}{pos:String}{af:Array Edge}{j tj:Nat}{want x:Bool}{o':Oper}{fr:List (Nat × SV)}{L:List LO}{N:Nat}
  (hj:ops[j]? =some o') (hdst:o'.dst=some tj) (htj:Nat.blt tj N=true) (hb:look fr tj=.d (.b x)) (hx:(x==want)=false) (ht:Nat.blt t N=true)
  (h:VO P A ops rest ⟨(t,.junk)::fr,L,N⟩ K) :
  VO P A ops (⟨some t,op,ty,pos,af,some (j,want)⟩::rest) ⟨fr,L,N⟩ K:=by
 intro R hR a w ⟨S,env,hH,hf,hN,hd⟩;have h1:=h R hR (a.put (some t) undef) w (vZ hf hN hd ht hH Carry.refl (by simp only [SVr]));have h2:=hf tj;rw [hb] at h2;simp only [SVr] at h2;obtain⟨cs,h3,h4⟩:=h2;simp only [Rd] at h4;subst h4;simp only [val,U.isSt,Bool.false_eq_true,if_false,List.headD_cons] at h3;have ht':tj < a.tmps.size:=by rw [hN];simpa [Nat.blt_eq] using htj
 have hy:yielded ops a.tmps j=some x:=by
  simp only [yielded,hj,hdst,Option.bind_some]
  have:a.tmps[tj]? =some (.bool x):=by
   rw [Array.getD_eq_getD_getElem?,Array.getElem?_eq_getElem ht'] at h3;rw [Array.getElem?_eq_getElem ht'];have h3':a.tmps[tj]=.bool x:=by simpa using h3
   rw [h3']
  rw [this]
 unfold wpList;have hw:(some x==some want)=false:=by cases x<;>cases want<;>simp_all
 simp only [Region.wanted,hy,hw,Bool.false_eq_true,if_false];exact h1
theorem Quiet.pure {o:Oper}{sv:SV}(h:∀(S:Nat→Prop)(env:List Value)(a:Act)(w:World),pU A S σ.L env w→(∀x∈o.op.operands.toList,SVr S σ.L env w (σ.ev x) (a.eval x))→
  ∃v,(execOp a.eval o).run P w=.ok (.value v) w∧SVr S σ.L env w sv v):Quiet P A σ o sv:=by
 intro S env a w hH hx next R hn
 obtain⟨v,h1,h2⟩:=h S env a w hH hx;unfold Oper.wp;rw [h1];exact hn v w S hH Carry.refl h2
section
variable {dst:Option Nat}{ty:TypeId}{pos:String}{af:Array Edge}{g:Option (Nat × Bool)}{x y:Operand}{sv:SV}
theorem hM3(h:σ.ev x=sv):Quiet P A σ ⟨dst,.move x,ty,pos,af,g⟩ sv:=Quiet.pure fun S env a w hH hx=>
 ⟨a.eval x,rfl,h▸hx x (by simp [Op.operands])⟩
section
variable {u:U}{i off ver z k f:Nat}{l:List SV}
theorem hGc(h:σ.ev x=sv):Quiet P A σ ⟨dst,.assign x,ty,pos,af,g⟩ sv:=Quiet.pure fun S env a w hH hx=>
 ⟨a.eval x,rfl,h▸hx x (by simp [Op.operands])⟩
end
theorem SVr.int{S:Nat→Prop}{L:List LO}{env:List Value}{w:World}{k:IntKind}{n:Int}{v:Value}:SVr S L env w (.d (.i k n)) v↔v=.int k n:=by
 simp only [SVr,RdV,Rd];exact⟨fun⟨cs,h1,h2⟩=>by subst h2;exact h1,fun h=>⟨[.int k n],h,rfl⟩⟩
theorem SVr.bool{S:Nat→Prop}{L:List LO}{env:List Value}{w:World}{b:Bool}{v:Value}:SVr S L env w (.d (.b b)) v↔v=.bool b:=by
 simp only [SVr,RdV,Rd];exact⟨fun⟨cs,h1,h2⟩=>by subst h2;exact h1,fun h=>⟨[.bool b],h,rfl⟩⟩
theorem SVr.str{S:Nat→Prop}{L:List LO}{env:List Value}{w:World}{l:LB}{v:Value}:SVr S L env w (.d (.s l)) v↔l.length≤big∧v=.string ⟨l.toArray⟩:=by
 simp only [SVr,RdV,Rd];exact⟨fun⟨cs,h1,h2,h3⟩=>by subst h3;exact⟨h2,h1⟩,fun h=>⟨[.string ⟨l.toArray⟩],h.2,h.1,rfl⟩⟩
theorem hR8{c:Operand}{t:Bool}(hc:σ.ev c=.d (.b t))(h:(if t then σ.ev x else σ.ev y)=sv):Quiet P A σ ⟨dst,.pick c x y,ty,pos,af,g⟩ sv:=Quiet.pure fun S env a w hH hx=>by
 have h1:=hx c (by simp [Op.operands]);rw [hc,SVr.bool] at h1;refine⟨if t then a.eval x else a.eval y,by cases t<;>simp [execOp,asBool,h1],?_⟩;subst h;cases t
 ·exact hx y (by simp [Op.operands])
 ·exact hx x (by simp [Op.operands])
def jA9:BinOp→Int→Int→Option Bool
 | .eql,a,b=>some (a==b)
 | .neq,a,b=>some (a != b)
 | .lss,a,b=>some (decide (a < b))
 | .leq,a,b=>some (decide (a≤b))
 | .gtr,a,b=>some (decide (a > b))
 | .geq,a,b=>some (decide (a≥b))
 | _,_,_=>none
theorem jBa{op:BinOp}{T T':TypeId}{k:IntKind}{m n:Int}{r:Bool}(hx:σ.ev x=.d (.i k m))(hy:σ.ev y=.d (.i k n))(h:jA9 op m n=some r) :
  Quiet P A σ ⟨dst,.binOp op T x y T',ty,pos,af,g⟩ (.d (.b r)):=Quiet.pure fun S env a w hH ho=>by
 have h1:=ho x (by simp [Op.operands]);have h2:=ho y (by simp [Op.operands]);rw [hx,SVr.int] at h1;rw [hy,SVr.int] at h2;refine⟨.bool r,?_,SVr.bool.2 rfl⟩;cases op<;>simp [jA9] at h<;>simp [execOp,h1,h2,eqGuard,binOp,Op.intCmp,h]
def arI:BinOp→IntKind→Int→Int→Option Int
 | .add,k,a,b=>some (k.wrap (a+b))
 | .sub,k,a,b=>some (k.wrap (a - b))
 | .mul,k,a,b=>some (k.wrap (a*b))
 | _,_,_,_=>none
theorem jBb{op:BinOp}{T T':TypeId}{k:IntKind}{m n r:Int}(hx:σ.ev x=.d (.i k m))(hy:σ.ev y=.d (.i k n))(h:arI op k m n=some r) :
  Quiet P A σ ⟨dst,.binOp op T x y T',ty,pos,af,g⟩ (.d (.i k r)):=Quiet.pure fun S env a w hH ho=>by
 have h1:=ho x (by simp [Op.operands]);have h2:=ho y (by simp [Op.operands]);rw [hx,SVr.int] at h1;rw [hy,SVr.int] at h2;refine⟨.int k r,?_,SVr.int.2 rfl⟩;cases op<;>simp [arI] at h<;>simp [execOp,h1,h2,eqGuard,binOp,Op.intArith,h]
theorem gD7(n:Int)(h1: -9223372036854775808≤n)(h2:n≤9223372036854775807):IntKind.i64.wrap n=n:=IntWalk.i64_in n ⟨h1,h2⟩
theorem hWr{T T':TypeId}{m n:Int}(hx:σ.ev x=.d (.i .i64 m))(hy:σ.ev y=.d (.i .i64 n))(h1: -9223372036854775808≤m+n)(h2:m+n≤9223372036854775807) :
  Quiet P A σ ⟨dst,.binOp .add T x y T',ty,pos,af,g⟩ (.d (.i .i64 (m+n))):=jBb hx hy (by simp [arI,gD7 _ h1 h2])
theorem jBc{T T':TypeId}{m n:Int}(hx:σ.ev x=.d (.i .i64 m))(hy:σ.ev y=.d (.i .i64 n))(h1: -9223372036854775808≤m - n)(h2:m - n≤9223372036854775807) :
  Quiet P A σ ⟨dst,.binOp .sub T x y T',ty,pos,af,g⟩ (.d (.i .i64 (m - n))):=jBb hx hy (by simp [arI,gD7 _ h1 h2])
theorem hWt{T:TypeId}{t:Bool}(hx:σ.ev x=.d (.b t)):Quiet P A σ ⟨dst,.unOp .not T x,ty,pos,af,g⟩ (.d (.b (!t))):=Quiet.pure fun S env a w hH ho=>by
 have h1:=ho x (by simp [Op.operands]);rw [hx,SVr.bool] at h1;exact⟨.bool (!t),by simp [execOp,h1,Op.unary],SVr.bool.2 rfl⟩
theorem jBd{T T':TypeId}{l l':LB}(hx:σ.ev x=.d (.s l))(hy:σ.ev y=.d (.s l')) :
  Quiet P A σ ⟨dst,.binOp .eql T x y T',ty,pos,af,g⟩ (.d (.b (l==l'))):=Quiet.pure fun S env a w hH ho=>by
 have h1:=ho x (by simp [Op.operands]);have h2:=ho y (by simp [Op.operands]);rw [hx,SVr.str] at h1;rw [hy,SVr.str] at h2;refine⟨.bool (l==l'),?_,SVr.bool.2 rfl⟩;simp [execOp,h1.2,h2.2,eqGuard,binOp,Op.stringOp,ByteArray.toList_eq]
theorem jBe{T T':TypeId}{l l':LB}(hx:σ.ev x=.d (.s l))(hy:σ.ev y=.d (.s l')) :
  Quiet P A σ ⟨dst,.binOp .neq T x y T',ty,pos,af,g⟩ (.d (.b (!(l==l')))):=Quiet.pure fun S env a w hH ho=>by
 have h1:=ho x (by simp [Op.operands]);have h2:=ho y (by simp [Op.operands]);rw [hx,SVr.str] at h1;rw [hy,SVr.str] at h2;refine⟨.bool (!(l==l')),?_,SVr.bool.2 rfl⟩;simp [execOp,h1.2,h2.2,eqGuard,binOp,Op.stringOp,ByteArray.toList_eq]
theorem gZ3{T:TypeId}(hT:P.underlying T=some .bool)(d:Nat)(a b:Bool)(w:World):(Op.equalIn (d+1) T (.bool a) (.bool b)).run P w=.ok (a==b) w:=by
 simp [Op.equalIn,run_underlying hT]
theorem gWv{T:TypeId}(hT:P.underlying T=some .bool)(a b:Bool)(w:World):(Op.equal T (.bool a) (.bool b)).run P w=.ok (a==b) w:=gZ3 hT 9999 a b w
theorem jBf{T T':TypeId}{a b:Bool}(hT:P.underlying T=some .bool)(hx:σ.ev x=.d (.b a))(hy:σ.ev y=.d (.b b)) :
  Quiet P A σ ⟨dst,.binOp .neq T x y T',ty,pos,af,g⟩ (.d (.b (!(a==b)))):=Quiet.pure fun S env ac w hH ho=>by
 have h1:=ho x (by simp [Op.operands]);have h2:=ho y (by simp [Op.operands]);rw [hx,SVr.bool] at h1;rw [hy,SVr.bool] at h2;refine⟨.bool (!(a==b)),?_,SVr.bool.2 rfl⟩;simp [execOp,h1,h2,eqGuard,binOp,gWv hT]
theorem jBg{T T':TypeId}{a b:Bool}(hT:P.underlying T=some .bool)(hx:σ.ev x=.d (.b a))(hy:σ.ev y=.d (.b b)) :
  Quiet P A σ ⟨dst,.binOp .eql T x y T',ty,pos,af,g⟩ (.d (.b (a==b))):=Quiet.pure fun S env ac w hH ho=>by
 have h1:=ho x (by simp [Op.operands]);have h2:=ho y (by simp [Op.operands]);rw [hx,SVr.bool] at h1;rw [hy,SVr.bool] at h2;refine⟨.bool (a==b),?_,SVr.bool.2 rfl⟩;simp [execOp,h1,h2,eqGuard,binOp,gWv hT]
def hGd(P:Program)(T:TypeId):Prop:=∀(w:World)(a b c d:Int),
 P.eqGuardType P.depth T=false∧(Op.equal T (.agg #[.int .i64 a,.int .i64 b]) (.agg #[.int .i64 c,.int .i64 d])).run P w=.ok (a==c && b==d) w
theorem SVr.pair{S:Nat→Prop}{L:List LO}{env:List Value}{w:World}{a b:Int}{v:Value}:SVr S L env w (.ag [.d (.i .i64 a),.d (.i .i64 b)]) v↔v=.agg #[.int .i64 a,.int .i64 b]:=by
 constructor
 ·intro h;rw [SVr.eq_def] at h;obtain⟨vs,rfl,h⟩:=h
  match vs,h with
  | [v1,v2],h=>
    simp only [kV] at h;rw [SVr.int,SVr.int] at h;obtain⟨rfl,rfl,_⟩:=h;rfl
  | [],h=>simp [kV] at h
  | [_],h=>simp [kV] at h
  | _::_::_::_,h=>simp [kV] at h
 ·rintro rfl;rw [SVr.eq_def];refine⟨[.int .i64 a,.int .i64 b],rfl,?_⟩;simp only [kV];rw [SVr.int,SVr.int];exact⟨rfl,rfl,trivial⟩
theorem jBh{T T':TypeId}{a b c d:Int}(hE:hGd P T)(hx:σ.ev x=.ag [.d (.i .i64 a),.d (.i .i64 b)])(hy:σ.ev y=.ag [.d (.i .i64 c),.d (.i .i64 d)]) :
  Quiet P A σ ⟨dst,.binOp .eql T x y T',ty,pos,af,g⟩ (.d (.b (a==c && b==d))):=Quiet.pure fun S env ac w hH ho=>by
 have h1:=ho x (by simp [Op.operands]);have h2:=ho y (by simp [Op.operands]);rw [hx,SVr.pair] at h1;rw [hy,SVr.pair] at h2;refine⟨.bool (a==c && b==d),?_,SVr.bool.2 rfl⟩
 have:=hE w a b c d
 simp [execOp,h1,h2,eqGuard,binOp,this.1,this.2]
theorem jBi{T T':TypeId}{a b c d:Int}(hE:hGd P T)(hx:σ.ev x=.ag [.d (.i .i64 a),.d (.i .i64 b)])(hy:σ.ev y=.ag [.d (.i .i64 c),.d (.i .i64 d)]) :
  Quiet P A σ ⟨dst,.binOp .neq T x y T',ty,pos,af,g⟩ (.d (.b (!(a==c && b==d)))):=Quiet.pure fun S env ac w hH ho=>by
 have h1:=ho x (by simp [Op.operands]);have h2:=ho y (by simp [Op.operands]);rw [hx,SVr.pair] at h1;rw [hy,SVr.pair] at h2;refine⟨.bool (!(a==c && b==d)),?_,SVr.bool.2 rfl⟩
 have:=hE w a b c d
 simp [execOp,h1,h2,eqGuard,binOp,this.1,this.2]
end
end
end Go.Eng
