import Derived.ProofKit
import Derived.WalkKit
namespace Go.Eng
open Go Go.RowKit
abbrev LB:=List UInt8
abbrev LS:=List LB
inductive U where
 | i (k:IntKind) (n:Int)
 | b (x:Bool)
 | s (l:LB)
 | st (us:List U)
 | sl (z:Nat) (us:List U)
 deriving Inhabited
mutual
def U.sz:U→Nat
 | .i _ _=>1
 | .b _=>1
 | .s _=>1
 | .sl _ _=>1
 | .st us=>U.szs us
def U.szs:List U→Nat
 | []=>0
 | u::us=>u.sz+U.szs us
end
set_option linter.unusedVariables false in
def Gok(E:Nat→Prop)(w:World):Prop:=True
set_option linter.unusedVariables false in
theorem Gok.step{E E':Nat→Prop}{w w':World}(h:Gok E w)(hb:∀b,b < w.heap.size→¬E b→w'.heap[b]? =w.heap[b]?)(hs:w.heap.size≤w'.heap.size)(he:∀b,E' b→E b∨w.heap.size≤b):Gok E' w':=trivial
def big:Nat:=140737488355328
theorem yY:big=140737488355328:=rfl
def At(w:World)(b off:Nat)(cs:List Value):Prop:=
 ∃row e fz,w.heap[b]? =some (.cells row e fz)∧∀j,j < cs.length→row[off+j]? =cs[j]?
mutual
def Rd(S:Nat→Prop)(w:World):U→List Value→Prop
 | .i k n,cs=>cs=[.int k n]
 | .b x,cs=>cs=[.bool x]
 | .s l,cs=>l.length≤big∧cs=[.string ⟨l.toArray⟩]
 | .st us,cs=>Rds S w us cs
 | .sl z us,cs=>us.length≤big∧∃base cap,cs=[.slice base us.length (us.length+cap)]∧
   (us=[]∨∃b off,base=some ⟨b,off,none⟩∧S b∧RdE S w z b off us)
def Rds(S:Nat→Prop)(w:World):List U→List Value→Prop
 | [],cs=>cs=[]
 | u::us,cs=>∃c1 c2,cs=c1++c2∧Rd S w u c1∧Rds S w us c2
def RdE(S:Nat→Prop)(w:World)(z b:Nat):Nat→List U→Prop
 | _,[]=>True
 | off,u::us=>(∃cs,cs.length=z∧At w b off cs∧Rd S w u cs)∧RdE S w z b (off+z) us
end
theorem At.mono{w w':World}{b off:Nat}{cs:List Value}(h:At w b off cs)(hb:b < w.heap.size→w'.heap[b]? =w.heap[b]?):At w' b off cs:=by
 obtain⟨row,e,fz,h1,h2⟩:=h;exact⟨row,e,fz,by rw [hb (Array.getElem?_eq_some_iff.1 h1).1];exact h1,h2⟩
theorem At.lt{w:World}{b off:Nat}{cs:List Value}(h:At w b off cs):b < w.heap.size:=by
 obtain⟨row,e,fz,h1,h2⟩:=h;exact(Array.getElem?_eq_some_iff.1 h1).1
section
variable {S S':Nat→Prop}{w w':World}
mutual
theorem Rd.mono(hS:∀b,S b→b < w.heap.size→S' b)(hw:∀b,S b→b < w.heap.size→w'.heap[b]? =w.heap[b]?) :
  ∀(u:U)(cs:List Value),Rd S w u cs→Rd S' w' u cs
 | .i k n,cs,h=>by simpa only [Rd] using h
 | .b x,cs,h=>by simpa only [Rd] using h
 | .s l,cs,h=>by simpa only [Rd] using h
 | .st us,cs,h=>by
   simp only [Rd] at h ⊢;exact Rds.mono hS hw us cs h
 | .sl z us,cs,h=>by
   simp only [Rd] at h ⊢;obtain⟨hl,base,cap,h1,h2⟩:=h;refine⟨hl,base,cap,h1,?_⟩;rcases h2 with h2 | ⟨b,off,h3,h4,h5⟩
   ·exact .inl h2
   ·by_cases hu:us=[]
    ·exact .inl hu
    ·have hlt:b < w.heap.size:=by
      cases us with
      | nil=>exact absurd rfl hu
      | cons u us=>
        simp only [RdE] at h5;obtain⟨⟨c,_,hat,_⟩,_⟩:=h5;exact hat.lt
     exact .inr ⟨b,off,h3,hS b h4 hlt,RdE.mono hS hw z b h4 us off h5⟩
theorem Rds.mono(hS:∀b,S b→b < w.heap.size→S' b)(hw:∀b,S b→b < w.heap.size→w'.heap[b]? =w.heap[b]?) :
  ∀(us:List U)(cs:List Value),Rds S w us cs→Rds S' w' us cs
 | [],cs,h=>by simpa only [Rds] using h
 | u::us,cs,h=>by
   simp only [Rds] at h ⊢;obtain⟨c1,c2,h1,h2,h3⟩:=h;exact⟨c1,c2,h1,Rd.mono hS hw u c1 h2,Rds.mono hS hw us c2 h3⟩
theorem RdE.mono(hS:∀b,S b→b < w.heap.size→S' b)(hw:∀b,S b→b < w.heap.size→w'.heap[b]? =w.heap[b]?)(z b:Nat)(hb:S b) :
  ∀(us:List U)(off:Nat),RdE S w z b off us→RdE S' w' z b off us
 | [],off,h=>by simp only [RdE]
 | u::us,off,h=>by
   simp only [RdE] at h ⊢;obtain⟨⟨cs,h1,h2,h3⟩,h4⟩:=h;exact⟨⟨cs,h1,h2.mono (hw b hb),Rd.mono hS hw u cs h3⟩,RdE.mono hS hw z b hb us (off+z) h4⟩
end
end
mutual
theorem Rd.length{S:Nat→Prop}{w:World}:∀(u:U)(cs:List Value),Rd S w u cs→cs.length=u.sz
 | .i k n,cs,h=>by simp only [Rd] at h;simp [h,U.sz]
 | .b x,cs,h=>by simp only [Rd] at h;simp [h,U.sz]
 | .s l,cs,h=>by simp only [Rd] at h;simp [h.2,U.sz]
 | .st us,cs,h=>by simp only [Rd] at h;simpa only [U.sz] using Rds.length us cs h
 | .sl z us,cs,h=>by simp only [Rd] at h;obtain⟨_,base,cap,h1,_⟩:=h;simp [h1,U.sz]
theorem Rds.length{S:Nat→Prop}{w:World}:∀(us:List U)(cs:List Value),Rds S w us cs→cs.length=U.szs us
 | [],cs,h=>by simp only [Rds] at h;simp [h,U.szs]
 | u::us,cs,h=>by
   simp only [Rds] at h;obtain⟨c1,c2,h1,h2,h3⟩:=h;rw [h1,List.length_append,Rd.length u c1 h2,Rds.length us c2 h3,U.szs]
end
mutual
theorem Rd.oneCell{S:Nat→Prop}{w:World}:∀(u:U)(cs:List Value),Rd S w u cs→∀c∈cs,c.oneCell'=true
 | .i k n,cs,h=>by simp only [Rd] at h;subst h;simp [Value.oneCell']
 | .b x,cs,h=>by simp only [Rd] at h;subst h;simp [Value.oneCell']
 | .s l,cs,h=>by simp only [Rd] at h;obtain⟨_,rfl⟩:=h;simp [Value.oneCell']
 | .st us,cs,h=>by simp only [Rd] at h;exact Rds.oneCell us cs h
 | .sl z us,cs,h=>by simp only [Rd] at h;obtain⟨_,base,cap,rfl,_⟩:=h;simp [Value.oneCell']
theorem Rds.oneCell{S:Nat→Prop}{w:World}:∀(us:List U)(cs:List Value),Rds S w us cs→∀c∈cs,c.oneCell'=true
 | [],cs,h=>by simp only [Rds] at h;simp [h]
 | u::us,cs,h=>by
   simp only [Rds] at h;obtain⟨c1,c2,rfl,h2,h3⟩:=h;intro c hc;rcases List.mem_append.1 hc with hc | hc
   ·exact Rd.oneCell u c1 h2 c hc
   ·exact Rds.oneCell us c2 h3 c hc
end
mutual
def U.flat:U→List U
 | .st us=>U.flats us
 | .i k n=>[.i k n]
 | .b x=>[.b x]
 | .s l=>[.s l]
 | .sl z us=>[.sl z us]
def U.flats:List U→List U
 | []=>[]
 | u::us=>u.flat++U.flats us
end
def yZ{α β:Type}(R:α→β→Prop):List α→List β→Prop
 | [],[]=>True
 | a::az,b::bs=>R a b∧yZ R az bs
 | _,_=>False
section
variable {α β γ:Type}{R R':α→β→Prop}
theorem yZ.length:∀{az:List α}{bs:List β},yZ R az bs→az.length=bs.length
 | [],[],_=>rfl
 | _::_,_::_,h=>by simp [yZ.length h.2]
 | [],_::_,h=>h.elim
 | _::_,[],h=>h.elim
theorem yZ.mono{az:List α}(hR:∀(a:α)(b:β),a∈az→R a b→R' a b):∀{bs:List β},yZ R az bs→yZ R' az bs:=by
 induction az with
 | nil=>intro bs h;cases bs with
   | nil=>exact trivial
   | cons _ _=>exact h.elim
 | cons a az ih=>intro bs h;cases bs with
   | nil=>exact h.elim
   | cons b bs=>exact⟨hR a b (by simp) h.1,ih (fun a' b' ha=>hR a' b' (List.mem_cons_of_mem _ ha)) h.2⟩
theorem yZ.append:∀{az:List α}{bs:List β}{az':List α}{bs':List β},yZ R az bs→yZ R az' bs'→yZ R (az++az') (bs++bs')
 | [],[],_,_,_,h=>h
 | _::_,_::_,_,_,h,h'=>⟨h.1,yZ.append h.2 h'⟩
 | [],_::_,_,_,h,_=>h.elim
 | _::_,[],_,_,h,_=>h.elim
theorem yZ.split:∀{az:List α}{az':List α}{bs:List β},yZ R (az++az') bs→∃b1 b2,bs=b1++b2∧yZ R az b1∧yZ R az' b2
 | [],az',bs,h=>⟨[],bs,rfl,trivial,h⟩
 | a::az,az',[],h=>h.elim
 | a::az,az',b::bs,h=>by
   obtain⟨b1,b2,h1,h2,h3⟩:=yZ.split (az:=az) h.2;exact⟨b::b1,b2,by rw [h1];rfl,⟨h.1,h2⟩,h3⟩
theorem yZ.get:∀{az:List α}{bs:List β},yZ R az bs→∀(j:Nat)(a:α),az[j]? =some a→∃b:β,bs[j]? =some b∧R a b
 | [],[],_,j,a,ha=>by simp at ha
 | _::_,b::_,h,0,a,ha=>by simp at ha;subst ha;exact⟨b,rfl,h.1⟩
 | _::_,_::_,h,j+1,a,ha=>by
   simp only [List.getElem?_cons_succ] at ha ⊢;exact yZ.get h.2 j a ha
 | [],_::_,h,_,_,_=>h.elim
 | _::_,[],h,_,_,_=>h.elim
theorem yZ.take:∀{az:List α}{bs:List β}(n:Nat),yZ R az bs→yZ R (az.take n) (bs.take n)
 | [],[],n,_=>by simp [yZ]
 | _::_,_::_,0,_=>by simp [yZ]
 | _::_,_::_,n+1,h=>⟨h.1,yZ.take n h.2⟩
 | [],_::_,_,h=>h.elim
 | _::_,[],_,h=>h.elim
theorem yZ.drop:∀{az:List α}{bs:List β}(n:Nat),yZ R az bs→yZ R (az.drop n) (bs.drop n)
 | [],[],n,_=>by simp [yZ]
 | _::_,_::_,0,h=>h
 | _::_,_::_,n+1,h=>yZ.drop n h.2
 | [],_::_,_,h=>h.elim
 | _::_,[],_,h=>h.elim
theorem yZ.set:∀{az:List α}{bs:List β}(n:Nat)(a:α)(b:β),yZ R az bs→R a b→yZ R (az.set n a) (bs.set n b)
 | [],[],n,_,_,_,_=>by simp [yZ]
 | _::_,_::_,0,a,b,h,hab=>⟨hab,h.2⟩
 | _::_,_::_,n+1,a,b,h,hab=>⟨h.1,yZ.set n a b h.2 hab⟩
 | [],_::_,_,_,_,h,_=>h.elim
 | _::_,[],_,_,_,h,_=>h.elim
theorem yZ.map_left(f:γ→α):∀{cs:List γ}{bs:List β},yZ R (cs.map f) bs↔yZ (fun c b=>R (f c) b) cs bs
 | [],[]=>by simp [yZ]
 | _::_,_::_=>by simp [yZ,yZ.map_left f]
 | [],_::_=>by simp [yZ]
 | _::_,[]=>by simp [yZ]
end
mutual
theorem Rd.leafs{S:Nat→Prop}{w:World}:∀(u:U)(cs:List Value),Rd S w u cs→yZ (fun u c=>Rd S w u [c]) u.flat cs
 | .i k n,cs,h=>by simp only [Rd] at h;subst h;simp [U.flat,yZ,Rd]
 | .b x,cs,h=>by simp only [Rd] at h;subst h;simp [U.flat,yZ,Rd]
 | .s l,cs,h=>by have h':=h;simp only [Rd] at h;obtain⟨_,rfl⟩:=h;simp only [U.flat,yZ,and_true];exact h'
 | .sl z us,cs,h=>by
   have h':=h;simp only [Rd] at h;obtain⟨_,base,cap,rfl,_⟩:=h;simp only [U.flat,yZ,and_true];exact h'
 | .st us,cs,h=>by simp only [Rd] at h;simp only [U.flat];exact Rds.leafs us cs h
theorem Rds.leafs{S:Nat→Prop}{w:World}:∀(us:List U)(cs:List Value),Rds S w us cs→yZ (fun u c=>Rd S w u [c]) (U.flats us) cs
 | [],cs,h=>by simp only [Rds] at h;subst h;simp [U.flats,yZ]
 | u::us,cs,h=>by
   simp only [Rds] at h;obtain⟨c1,c2,rfl,h2,h3⟩:=h;simp only [U.flats];exact yZ.append (Rd.leafs u c1 h2) (Rds.leafs us c2 h3)
end
mutual
theorem Rd.of_leafs{S:Nat→Prop}{w:World}:∀(u:U)(cs:List Value),yZ (fun u c=>Rd S w u [c]) u.flat cs→Rd S w u cs
 | .i k n,cs,h=>by
   match cs,h with
   | [c],h=>exact h.1
   | _::_::_,h=>exact h.2.elim
 | .b x,cs,h=>by
   match cs,h with
   | [c],h=>exact h.1
   | _::_::_,h=>exact h.2.elim
 | .s l,cs,h=>by
   match cs,h with
   | [c],h=>exact h.1
   | _::_::_,h=>exact h.2.elim
 | .sl z us,cs,h=>by
   match cs,h with
   | [c],h=>exact h.1
   | _::_::_,h=>exact h.2.elim
 | .st us,cs,h=>by simp only [U.flat] at h;simp only [Rd];exact Rds.of_leafs us cs h
theorem Rds.of_leafs{S:Nat→Prop}{w:World}:∀(us:List U)(cs:List Value),yZ (fun u c=>Rd S w u [c]) (U.flats us) cs→Rds S w us cs
 | [],cs,h=>by
   simp only [U.flats] at h
   match cs,h with
   | [],_=>simp [Rds]
 | u::us,cs,h=>by
   simp only [U.flats] at h;obtain⟨c1,c2,rfl,h2,h3⟩:=yZ.split h;simp only [Rds];exact⟨c1,c2,rfl,Rd.of_leafs u c1 h2,Rds.of_leafs us c2 h3⟩
end
theorem RdE.get{S:Nat→Prop}{w:World}{z b:Nat}:∀(us:List U)(off k:Nat)(u:U),RdE S w z b off us→us[k]? =some u→
  ∃cs,cs.length=z∧At w b (off+k*z) cs∧Rd S w u cs
 | [],off,k,u,h,hk=>by simp at hk
 | u0::us,off,0,u,h,hk=>by
   simp at hk;subst hk;simp only [RdE] at h;simpa using h.1
 | u0::us,off,k+1,u,h,hk=>by
   simp only [RdE] at h;simp only [List.getElem?_cons_succ] at hk
   have:=RdE.get us (off+z) k u h.2 hk
   have e:off+z+k*z=off+(k+1)*z:=by rw [Nat.add_mul];omega
   rwa [e] at this
theorem Rds.get{S:Nat→Prop}{w:World}{z:Nat}:∀(us:List U)(cs:List Value)(k:Nat)(u:U),(∀u∈us,u.sz=z)→Rds S w us cs→us[k]? =some u→
  Rd S w u ((cs.drop (k*z)).take z)
 | [],cs,k,u,_,h,hk=>by simp at hk
 | u0::us,cs,0,u,hz,h,hk=>by
   simp at hk;subst hk;simp only [Rds] at h;obtain⟨c1,c2,rfl,h2,h3⟩:=h;have hl:=Rd.length _ _ h2;rw [hz u0 (by simp)] at hl;simp only [Nat.zero_mul,List.drop_zero];rw [←hl,List.take_left];exact h2
 | u0::us,cs,k+1,u,hz,h,hk=>by
   simp only [Rds] at h;obtain⟨c1,c2,rfl,h2,h3⟩:=h;have hl:=Rd.length _ _ h2;rw [hz u0 (by simp)] at hl;simp only [List.getElem?_cons_succ] at hk
   have:=Rds.get us c2 k u (fun v hv=>hz v (by simp [hv])) h3 hk
   have e:(k+1)*z=c1.length+k*z:=by rw [hl,Nat.add_mul];omega
   rw [e,List.drop_length_add_append];exact this
theorem Rds.append{S:Nat→Prop}{w:World}:∀(us:List U)(cs:List Value)(vs:List U)(ds:List Value),Rds S w us cs→Rds S w vs ds→Rds S w (us++vs) (cs++ds)
 | [],cs,vs,ds,h,h'=>by simp only [Rds] at h;subst h;simpa using h'
 | u::us,cs,vs,ds,h,h'=>by
   simp only [Rds] at h;obtain⟨c1,c2,rfl,h2,h3⟩:=h;simp only [List.cons_append,Rds];exact⟨c1,c2++ds,by rw [List.append_assoc],h2,Rds.append us c2 vs ds h3 h'⟩
theorem Rds.set{S:Nat→Prop}{w:World}{z:Nat}:∀(us:List U)(cs:List Value)(k:Nat)(u:U)(ds:List Value),(∀u∈us,u.sz=z)→Rds S w us cs→Rd S w u ds→k < us.length→
  Rds S w (us.set k u) (cs.take (k*z)++ds++cs.drop ((k+1)*z))
 | [],cs,k,u,ds,_,h,_,hk=>by simp at hk
 | u0::us,cs,0,u,ds,hz,h,hu,hk=>by
   simp only [Rds] at h;obtain⟨c1,c2,rfl,h2,h3⟩:=h;have hl:=Rd.length _ _ h2;rw [hz u0 (by simp)] at hl;simp only [Nat.zero_mul,List.take_zero,List.nil_append,Nat.zero_add,Nat.one_mul,List.set_cons_zero,Rds];exact⟨ds,c2,by rw [←hl,List.drop_left],hu,h3⟩
 | u0::us,cs,k+1,u,ds,hz,h,hu,hk=>by
   simp only [Rds] at h;obtain⟨c1,c2,rfl,h2,h3⟩:=h;have hl:=Rd.length _ _ h2;rw [hz u0 (by simp)] at hl;have e:(k+1)*z=c1.length+k*z:=by rw [hl,Nat.add_mul];omega
   have e2:(k+1+1)*z=c1.length+(k+1)*z:=by rw [hl,Nat.add_mul];omega
   have ih:=Rds.set us c2 k u ds (fun v hv=>hz v (by simp [hv])) h3 hu (by simpa using hk);rw [e,e2,List.take_length_add_append,List.drop_length_add_append];simp only [List.set_cons_succ,Rds];exact⟨c1,_,by simp only [List.append_assoc],h2,ih⟩
theorem RdE.of_Rds{S:Nat→Prop}{w:World}{z b:Nat}:∀(us:List U)(cs:List Value)(off:Nat),(∀u∈us,u.sz=z)→Rds S w us cs→At w b off cs→RdE S w z b off us
 | [],cs,off,_,_,_=>by simp [RdE]
 | u::us,cs,off,hz,h,hat=>by
   simp only [Rds] at h;obtain⟨c1,c2,rfl,h2,h3⟩:=h;have hl:=Rd.length _ _ h2;rw [hz u (by simp)] at hl;obtain⟨row,e,fz,r1,r2⟩:=hat;simp only [RdE];refine⟨⟨c1,hl,⟨row,e,fz,r1,fun j hj=>?_⟩,h2⟩,RdE.of_Rds us c2 (off+z) (fun v hv=>hz v (by simp [hv])) h3 ⟨row,e,fz,r1,fun j hj=>?_⟩⟩
   ·rw [r2 j (by simp;omega),List.getElem?_append_left hj]
   ·have:=r2 (z+j) (by simp;omega)
    rw [show off+z+j=off+(z+j) by omega,this,List.getElem?_append_right (by omega)];congr 1;omega
inductive SV where
 | junk
 | d (u:U)
 | ag (cs:List SV)
 | ptr (i off:Nat)
 | sl (i ver:Nat)
 | dp (u:U)
 | ep (i ver z k off:Nat)
 | fn (f:Nat) (caps:List SV)
 | tup (vs:List SV)
 | nilsl
 deriving Inhabited
inductive LO where
 | box (cs:List SV)
 | arr (e z ver:Nat) (es:List U)
 | frz (e z ver:Nat) (es:List U)
 | own (e z ver:Nat) (es:List U)
 | dead (ver:Nat)
 | ownp (h:Value) (e z:Nat) (es:List U)
 | mix (e z ver:Nat) (fs es:List U)
 | set (ks:LS)
 | bld (e T:Nat) (l:LB)
 deriving Inhabited
def LO.ver:LO→Nat
 | .box _=>0
 | .arr _ _ v _=>v
 | .frz _ _ v _=>v
 | .own _ _ v _=>v
 | .dead v=>v
 | .ownp _ _ _ _=>0
 | .mix _ _ v _ _=>v
 | .set _=>0
 | .bld _ _ _=>0
def LO.live:LO→Bool
 | .frz _ _ _ _=>false
 | .dead _=>false
 | _=>true
def U.isSt:U→Bool
 | .st _=>true
 | _=>false
def val(u:U)(cs:List Value):Value:=if u.isSt then .agg cs.toArray else cs.headD undef
def RdV(S:Nat→Prop)(w:World)(u:U)(v:Value):Prop:=∃cs,v=val u cs∧Rd S w u cs
def blk:Value→Option Nat
 | .pointer (some a)=>some a.block
 | .slice (some a) _ _=>some a.block
 | _=>none
def rowOf(w:World)(b:Nat):List Value:=
 match w.heap[b]? with
 | some (.cells vals _ _)=>vals.toList
 | _=>[]
mutual
def U.fp(w:World):U→List Value→List Nat
 | .sl _ us,cs=>match cs with
   | [.slice (some a) _ _]=>a.block::U.fps w us (rowOf w a.block)
   | _=>[]
 | .st us,cs=>U.fps w us cs
 | .i _ _,_=>[]
 | .b _,_=>[]
 | .s _,_=>[]
def U.fps(w:World):List U→List Value→List Nat
 | [],_=>[]
 | u::us,cs=>u.fp w (cs.take u.sz)++U.fps w us (cs.drop u.sz)
end
mutual
def Tr(w:World):U→List Value→Prop
 | .i k n,cs=>cs=[.int k n]
 | .b x,cs=>cs=[.bool x]
 | .s l,cs=>l.length≤big∧cs=[.string ⟨l.toArray⟩]
 | .st us,cs=>Trs w us cs
 | .sl z us,cs=>us.length≤big∧(∀u∈us,u.sz=z)∧∃hv e xs,cs=[hv]∧w.ownsRow 0 e z hv us.length xs∧Trs w us xs
def Trs(w:World):List U→List Value→Prop
 | [],cs=>cs=[]
 | u::us,cs=>Tr w u (cs.take u.sz)∧Trs w us (cs.drop u.sz)
end
mutual
theorem Tr.len{w:World}:∀(u:U)(cs:List Value),Tr w u cs→cs.length=u.sz
 | .i k n,cs,h=>by simp only [Tr] at h;subst h;rfl
 | .b x,cs,h=>by simp only [Tr] at h;subst h;rfl
 | .s l,cs,h=>by simp only [Tr] at h;obtain⟨_,rfl⟩:=h;rfl
 | .st us,cs,h=>by simp only [Tr] at h;simpa only [U.sz] using Trs.len us cs h
 | .sl z us,cs,h=>by simp only [Tr] at h;obtain⟨_,_,hv,e,xs,rfl,_⟩:=h;rfl
theorem Trs.len{w:World}:∀(us:List U)(cs:List Value),Trs w us cs→cs.length=U.szs us
 | [],cs,h=>by simp only [Trs] at h;subst h;rfl
 | u::us,cs,h=>by
   simp only [Trs] at h;have h1:=Tr.len u _ h.1;have h2:=Trs.len us _ h.2;simp only [List.length_take,List.length_drop] at h1 h2;simp only [U.szs];omega
end
theorem gT5{w:World}:∀(us:List U)(cs:List Value)(m:Nat),U.szs us≤m→U.fps w us (cs.take m)=U.fps w us cs
 | [],_,_,_=>rfl
 | u::us,cs,m,h=>by
   simp only [U.szs] at h;simp only [U.fps];rw [List.take_take,Nat.min_eq_left (by omega),List.drop_take,gT5 us _ _ (by omega)]
theorem gOp{z:Nat}:∀(us:List U),(∀u∈us,u.sz=z)→U.szs us=us.length*z
 | [],_=>by simp [U.szs]
 | u::us,h=>by
   simp only [U.szs,List.length_cons];rw [h u (by simp),gOp us (fun v hv=>h v (by simp [hv])),Nat.add_mul];omega
theorem gGm{w:World}{e z:Nat}{us:List U}{hv:Value}{xs:List Value}(hz:∀u∈us,u.sz=z)(h:w.ownsRow 0 e z hv us.length xs) :
  (hv=.slice none 0 0∧us=[]∧(U.sl z us).fp w [hv]=[])∨∃g cap,hv=.slice (some ⟨g,0,none⟩) us.length cap∧(U.sl z us).fp w [hv]=g::U.fps w us xs:=by
 rcases h.2 with ⟨rfl,h0⟩ | ⟨g,cap,cur,rfl,_,hg,_,_,_,htake⟩
 ·exact .inl ⟨rfl,List.eq_nil_of_length_eq_zero h0,rfl⟩
 ·refine .inr ⟨g,cap,rfl,?_⟩;simp only [U.fp]
  have:rowOf w g=cur.toList:=by simp [rowOf,hg]
  rw [this,←htake,gT5 us cur.toList (us.length*z) (by rw [gOp us hz];exact Nat.le_refl _)]
mutual
theorem Tr.loc{w w':World}:∀(u:U)(cs:List Value),Tr w u cs→(∀b∈u.fp w cs,w'.heap[b]? =w.heap[b]?)→Tr w' u cs∧u.fp w' cs=u.fp w cs
 | .i k n,cs,h,_=>⟨by simpa only [Tr] using h,rfl⟩
 | .b x,cs,h,_=>⟨by simpa only [Tr] using h,rfl⟩
 | .s l,cs,h,_=>⟨by simpa only [Tr] using h,rfl⟩
 | .st us,cs,h,hb=>by
   simp only [Tr] at h ⊢;simp only [U.fp] at hb ⊢;exact Trs.loc us cs h hb
 | .sl z us,cs,h,hb=>by
   simp only [Tr] at h ⊢;obtain⟨h1,h2,hv,e,xs,rfl,h3,h4⟩:=h;rcases gGm h2 h3 with ⟨rfl,rfl,hf⟩ | ⟨g,cap,rfl,hf⟩
   ·refine⟨⟨h1,h2,_,e,xs,rfl,?_,?_⟩,rfl⟩
    ·rcases h3.2 with h | ⟨g,cap,cur,h,_⟩
     ·exact⟨h3.1,.inl h⟩
     ·cases h
    ·simpa only [Trs] using h4
   ·rw [hf] at hb;have hg:w'.heap[g]? =w.heap[g]? :=hb g (by simp);obtain⟨k1,k2⟩:=Trs.loc us xs h4 (fun b hb'=>hb b (by simp [hb']));have h3':w'.ownsRow 0 e z (.slice (some ⟨g,0,none⟩) us.length cap) us.length xs:=by
     rcases h3.2 with ⟨h,_⟩ | ⟨g',cap',cur,h,r0,r1,r⟩
     ·cases h
     ·cases h;exact⟨h3.1,.inr ⟨g,cap,cur,rfl,r0,by rw [hg];exact r1,r⟩⟩
    refine⟨⟨h1,h2,_,e,xs,rfl,h3',k1⟩,?_⟩;rcases gGm h2 h3' with ⟨h,_⟩ | ⟨g',cap',h,hf'⟩
    ·cases h
    ·cases h;rw [hf,hf',k2]
theorem Trs.loc{w w':World}:∀(us:List U)(cs:List Value),Trs w us cs→(∀b∈U.fps w us cs,w'.heap[b]? =w.heap[b]?)→Trs w' us cs∧U.fps w' us cs=U.fps w us cs
 | [],cs,h,_=>⟨by simpa only [Trs] using h,rfl⟩
 | u::us,cs,h,hb=>by
   simp only [Trs] at h ⊢;simp only [U.fps] at hb ⊢;obtain⟨k1,k2⟩:=Tr.loc u _ h.1 (fun b hb'=>hb b (by simp [hb']));obtain⟨k3,k4⟩:=Trs.loc us _ h.2 (fun b hb'=>hb b (by simp [hb']));exact⟨⟨k1,k3⟩,by rw [k2,k4]⟩
end
def LO.ft(w:World):LO→Value→Nat→Prop
 | .box _,hv,b=>blk hv=some b
 | .arr _ _ _ _,hv,b=>blk hv=some b
 | .frz _ _ _ _,_,_=>False
 | .own _ z _ es,hv,b=>b∈(U.sl z es).fp w [hv]
 | .dead _,_,_=>False
 | .ownp _ _ z es,hv,b=>b∈(U.sl z es).fp w [hv]
 | .mix _ z _ fs _,hv,b=>b∈(U.sl z fs).fp w [hv]
 | .set _,hv,b=>hv=.map (some b)
 | .bld _ _ _,hv,b=>blk hv=some b∨∃g v,blk hv=some g∧(rowOf w g)[1]? =some v∧blk v=some b
section
variable (S:Nat→Prop)(L:List LO)(env:List Value)(w:World)
mutual
def SVr:SV→Value→Prop
 | .junk,_=>True
 | .d u,v=>RdV S w u v
 | .ag cs,v=>∃vs:List Value,v=.agg vs.toArray∧kP cs vs
 | .ptr i off,v=>∃b,env[i]? =some (.pointer (some ⟨b,0,none⟩))∧v=.pointer (some ⟨b,off,none⟩)
 | .sl i ver,v=>∃hv o,env[i]? =some hv∧L[i]? =some o∧ver≤o.ver∧v.oneCell'=true∧(ver=o.ver→v=hv)
 | .dp u,v=>∃b off cs,v=.pointer (some ⟨b,off,none⟩)∧S b∧At w b off cs∧Rd S w u cs
 | .ep i ver z k off,v=>∃hv o,env[i]? =some hv∧L[i]? =some o∧ver≤o.ver∧v.oneCell'=true∧(ver=o.ver→∃b,blk hv=some b∧v=.pointer (some ⟨b,k*z+off,none⟩))
 | .fn f caps,v=>∃vs:List Value,v=.func (.func f) #[] vs.toArray∧kP caps vs
 | .tup svs,v=>∃vs:List Value,v=.tuple vs.toArray∧kP svs vs
 | .nilsl,v=>v=.slice none 0 0
def kP:List SV→List Value→Prop
 | [],[]=>True
 | sv::svs,v::vs=>SVr sv v∧kP svs vs
 | _,_=>False
end
end
def gH2(S:Nat→Prop)(L:List LO)(env:List Value)(w:World):LO→Value→Prop
 | .box cs,hv=>∃b vals e,hv=.pointer (some ⟨b,0,none⟩)∧w.heap[b]? =some (.cells vals e (0,0))∧kP S L env w cs vals.toList∧(∀v∈vals.toList,v.oneCell'=true)
 | .arr e z _ es,hv=>es.length≤big∧(∀u∈es,u.sz=z)∧∃xs,w.ownsRow 0 e z hv es.length xs∧Rds S w es xs
 | .frz _ z _ es,hv=>RdV S w (.sl z es) hv
 | .own e z _ es,hv=>es.length≤big∧(∀u∈es,u.sz=z)∧(∃xs,w.ownsRow 0 e z hv es.length xs∧Trs w es xs)∧((U.sl z es).fp w [hv]).Nodup
 | .dead _,_=>True
 | .ownp h e z es,hv=>hv=h∧es.length≤big∧(∀u∈es,u.sz=z)∧(∃xs,w.ownsRow 0 e z hv es.length xs∧Trs w es xs)∧((U.sl z es).fp w [hv]).Nodup
 | .mix e z _ fs es,hv=>(fs++es).length≤big∧(∀u∈fs++es,u.sz=z)∧(∃xs,w.ownsRow 0 e z hv (fs++es).length xs∧Trs w fs (xs.take (fs.length*z))∧Rds S w es (xs.drop (fs.length*z)))∧((U.sl z fs).fp w [hv]).Nodup
 | .set ks,hv=>∃b ents clock,hv=.map (some b)∧w.heap[b]? =some (.map ents clock)∧(∀x∈ents.toList,(∃l:LB,x.key=.string ⟨l.toArray⟩)∧x.val=.bool true)∧∀l:LB,l∈ks↔∃x∈ents.toList,x.key=.string ⟨l.toArray⟩
 | .bld e T l,hv=>∃b p v,hv=.pointer (some ⟨b,0,none⟩)∧w.heap[b]? =some (.cells #[p,v] T (0,0))∧(p=.pointer none∨p=hv)∧w.ownsRow 0 e 1 v l.length (l.map fun x=>Value.int .u8 x.toNat)∧blk v≠some b∧v.oneCell'=true
theorem hKj{w:World}{e z n:Nat}{fs:List U}{hv:Value}{xs:List Value}(hz:∀u∈fs,u.sz=z)(hn:fs.length≤n)(h:w.ownsRow 0 e z hv n xs) :
  (hv=.slice none 0 0∧fs=[]∧n=0∧(U.sl z fs).fp w [hv]=[])∨∃g cap,hv=.slice (some ⟨g,0,none⟩) n cap∧(U.sl z fs).fp w [hv]=g::U.fps w fs (xs.take (fs.length*z)):=by
 rcases h.2 with ⟨rfl,h0⟩ | ⟨g,cap,cur,rfl,_,hg,_,_,_,htake⟩
 ·exact .inl ⟨rfl,List.eq_nil_of_length_eq_zero (by omega),h0,rfl⟩
 ·refine .inr ⟨g,cap,rfl,?_⟩;simp only [U.fp]
  have:rowOf w g=cur.toList:=by simp [rowOf,hg]
  rw [this,←htake,List.take_take,Nat.min_eq_left (Nat.mul_le_mul_right _ hn),gT5 fs cur.toList (fs.length*z) (by rw [gOp fs hz];exact Nat.le_refl _)]
theorem hDd{S:Nat→Prop}{L:List LO}{env:List Value}{w w':World}{e z ver:Nat}{fs es:List U}{hv:Value}(h:gH2 S L env w (.mix e z ver fs es) hv)(hb:∀b,b∈(U.sl z fs).fp w [hv]→w'.heap[b]? =w.heap[b]?) :
  (U.sl z fs).fp w' [hv]=(U.sl z fs).fp w [hv]∧∃xs,w'.ownsRow 0 e z hv (fs++es).length xs∧Trs w' fs (xs.take (fs.length*z))∧Rds S w es (xs.drop (fs.length*z)):=by
 obtain⟨h1,h2,⟨xs,h3,h4,h5⟩,_⟩:=h;have hz:∀u∈fs,u.sz=z:=fun u hu=>h2 u (by simp [hu]);have hn:fs.length≤(fs++es).length:=by simp
 rcases hKj hz hn h3 with ⟨rfl,rfl,h0,hf⟩ | ⟨g,cap,rfl,hf⟩
 ·refine⟨rfl,xs,⟨h3.1,.inl ⟨rfl,h0⟩⟩,by simp [Trs],h5⟩
 ·rw [hf] at hb;have h3':w'.ownsRow 0 e z (.slice (some ⟨g,0,none⟩) (fs++es).length cap) (fs++es).length xs:=by
   rcases h3.2 with ⟨h,_⟩ | ⟨g',cap',cur,h,r0,r1,r⟩
   ·cases h
   ·cases h;exact⟨h3.1,.inr ⟨g,cap,cur,rfl,r0,by rw [hb g (by simp)];exact r1,r⟩⟩
  obtain⟨k1,k2⟩:=Trs.loc (w':=w') _ _ h4 (fun b hb'=>hb b (by simp [hb']));refine⟨?_,xs,h3',k1,h5⟩;rcases hKj hz hn h3' with ⟨h,_⟩ | ⟨g',cap',h,hf'⟩
  ·cases h
  ·cases h;rw [hf,hf',k2]
theorem gRa{S:Nat→Prop}{L:List LO}{env:List Value}{w:World}{e z ver:Nat}{es:List U}{hv:Value}(h:gH2 S L env w (.own e z ver es) hv):Tr w (.sl z es) [hv]:=by
 obtain⟨h1,h2,⟨xs,h3,h4⟩,_⟩:=h;simp only [Tr];exact⟨h1,h2,hv,e,xs,rfl,h3,h4⟩
theorem LO.ft_eq{S:Nat→Prop}{L:List LO}{env:List Value}{w w':World}{o:LO}{hv:Value}(h:gH2 S L env w o hv)(hb:∀b,o.ft w hv b→w'.heap[b]? =w.heap[b]?)(b:Nat):o.ft w' hv b↔o.ft w hv b:=by
 cases o with
 | own e z ver es=>
   have:=(Tr.loc _ _ (gRa h) hb).2
   simp only [LO.ft];rw [this]
 | ownp h0 e z es=>
   have:=(Tr.loc _ _ (gRa (S:=S) (L:=L) (env:=env) (ver:=0) (e:=e) h.2) hb).2
   simp only [LO.ft];rw [this]
 | mix e z ver fs es=>
   simp only [LO.ft] at hb ⊢;rw [(hDd h hb).1]
 | bld e T l=>
   obtain⟨g,p,v,rfl,h2,_⟩:=h;have hg:w'.heap[g]? =w.heap[g]? :=hb g (.inl rfl)
   have:rowOf w' g=rowOf w g:=by simp only [rowOf,hg]
   simp only [LO.ft,blk,Option.some.injEq];constructor
   ·rintro(h | ⟨k,u,rfl,h5,h6⟩)
    ·exact .inl h
    ·exact .inr ⟨_,u,rfl,by rw [←this];exact h5,h6⟩
   ·rintro(h | ⟨k,u,rfl,h5,h6⟩)
    ·exact .inl h
    ·exact .inr ⟨_,u,rfl,by rw [this];exact h5,h6⟩
 | _=>exact Iff.rfl
structure Amb where
 w0:World
 S0:Nat→Prop
 E:Nat→Prop
 L0:List LO
 env0:List Value
def Base(A:Amb)(L:List LO)(env:List Value):Prop:=A.L0.length≤L.length∧∀(i:Nat)(hv:Value)(o:LO)(hv':Value)(o':LO),A.env0[i]? =some hv→A.L0[i]? =some o→env[i]? =some hv'→L[i]? =some o'→
 o.ver≤o'.ver∧(o.ver=o'.ver→hv'=hv)∧∀b,hv=.pointer (some ⟨b,0,none⟩)→hv'=hv
class gDv (A:Amb) (n:outParam Nat):Prop where
 h:A.L0.length=n
structure pW (A:Amb)(S:Nat→Prop)(L:List LO)(env:List Value)(w:World):Prop where
 len:env.length=L.length
 objs:∀(i:Nat)(o:LO)(hv:Value),L[i]? =some o→env[i]? =some hv→gH2 S L env w o hv
 excl:∀(i:Nat)(o:LO)(hv:Value)(b:Nat),L[i]? =some o→o.live=true→env[i]? =some hv→o.ft w hv b→¬S b∧(A.E b∨A.w0.heap.size≤b)∧b < w.heap.size
 dist:∀(i j:Nat)(o o':LO)(hv hv':Value)(b:Nat),L[i]? =some o→L[j]? =some o'→o.live=true→o'.live=true→env[i]? =some hv→env[j]? =some hv'→o.ft w hv b→o'.ft w hv' b→i=j
 sS:∀b,S b→b < w.heap.size
 sA:∀b,S b→A.S0 b∨A.E b∨A.w0.heap.size≤b
 frame:∀b,b < A.w0.heap.size→¬A.E b→w.heap[b]? =A.w0.heap[b]?
 size:A.w0.heap.size≤w.heap.size
 os:w.os=A.w0.os
 tape:w.tape=A.w0.tape
 output:w.output=A.w0.output
 base:Base A L env
 glob:Gok A.E A.w0
theorem pW.gok{A:Amb}{S:Nat→Prop}{L:List LO}{env:List Value}{w:World}{E':Nat→Prop}(hH:pW A S L env w)(he:∀b,E' b→A.E b∨A.w0.heap.size≤b):Gok E' w:=hH.glob.step (fun b h1 h2=>hH.frame b h1 h2) hH.size he
def look:List (Nat × SV)→Nat→SV
 | [],_=>.junk
 | p::r,t=>if t=p.1 then p.2 else look r t
structure St where
 fr:List (Nat × SV)
 L:List LO
 N:Nat
def St.set(σ:St)(t:Nat)(sv:SV):St:={ σ with fr:=(t,sv)::σ.fr }
def gHh:Value→SV
 | .int k n=>.d (.i k n)
 | .bool x=>.d (.b x)
 | .string s=>match Nat.ble s.data.toList.length 140737488355328 with | true=>.d (.s s.data.toList) | false=>.junk
 | .slice none 0 0=>.nilsl
 | _=>.junk
def St.ev(σ:St):Operand→SV
 | .tmp t=>look σ.fr t
 | .const v=>gHh v
 | .func f=>.fn f []
 | .global _=>.junk
def mY(A:Amb)(σ:St)(a:Act)(w:World):Prop:=
 ∃S env,pW A S σ.L env w∧(∀t,SVr S σ.L env w (look σ.fr t) (a.tmps.getD t undef))∧a.tmps.size=σ.N∧a.defers=[]
def V(P:Program)(A:Amb)(c:Code)(σ:St)(Q:Exit→St→Prop):Prop:=
 ∀a w,mY A σ a w→c.wp P (fun e a' w'=>∃σ',Q e σ'∧mY A σ' a' w') a w
def VO(P:Program)(A:Amb)(ops:Array Oper)(l:List Oper)(σ:St)(K:St→Prop):Prop:=
 ∀(R:Exit→Act→World→Prop),(∀σ' a' w',K σ'→mY A σ' a' w'→R .normal a' w')→∀a w,mY A σ a w→wpList P ops R l a w
def hDf(P:Program)(f:Nat):Prop:=∃fn,P.funcs[f]? =some fn∧(fn.name== "runtime.NumGoroutine")=false∧fn.body.isNone=false
def Spec(P:Program)(f:Nat)(args:List SV)(L:List LO)(Q:SV→List LO→Prop):Prop:=
 hDf P f∧∀(A:Amb)(S:Nat→Prop)(env:List Value)(w:World)(vs:List Value),A.w0=w→A.S0=S→A.L0=L→A.env0=env→pW A S L env w→kP S L env w args vs→
  Calls P f vs.toArray w (fun e w'=>∃r sv S' L' env',e=.returned r∧Q sv L'∧pW A S' L' env' w'∧SVr S' L' env' w' sv r)
section
variable {S S':Nat→Prop}{L L':List LO}{env env':List Value}{w w':World}
theorem kP.iff:∀(svs:List SV)(vs:List Value),kP S L env w svs vs↔yZ (SVr S L env w) svs vs
 | [],[]=>by simp [kP,yZ]
 | sv::svs,v::vs=>by simp only [kP,yZ,kP.iff svs vs]
 | [],_::_=>by simp [kP,yZ]
 | _::_,[]=>by simp [kP,yZ]
theorem RdV.mono{u:U}{v:Value}(hS:∀b,S b→b < w.heap.size→S' b)(hw:∀b,S b→b < w.heap.size→w'.heap[b]? =w.heap[b]?)(h:RdV S w u v):RdV S' w' u v:=by
 obtain⟨cs,h1,h2⟩:=h;exact⟨cs,h1,h2.mono hS hw⟩
theorem Base.nil{A:Amb}(h:A.L0=[]):Base A L env:=⟨by rw [h];exact Nat.zero_le _,fun i hv o hv' o' _ h2=>by rw [h] at h2;simp at h2⟩
theorem Base.refl{A:Amb}(h1:A.L0=L)(h2:A.env0=env):Base A L env:=⟨by rw [h1];exact Nat.le_refl _,fun i hv o hv' o' k1 k2 k3 k4=>by
 rw [h2,k3] at k1;rw [h1,k4] at k2;obtain rfl:=Option.some.inj k1;obtain rfl:=Option.some.inj k2
 exact⟨Nat.le_refl _,fun _=>rfl,fun _ _=>rfl⟩⟩
structure Carry (S:Nat→Prop)(L:List LO)(env:List Value)(w:World)(S':Nat→Prop)(L':List LO)(env':List Value)(w':World):Prop where
 hS:∀b,S b→b < w.heap.size→S' b
 hw:∀b,S b→b < w.heap.size→w'.heap[b]? =w.heap[b]?
 ptr:∀(i b:Nat),env[i]? =some (.pointer (some ⟨b,0,none⟩))→env'[i]? =some (.pointer (some ⟨b,0,none⟩))
 ref:∀(i:Nat)(hv:Value)(o:LO),env[i]? =some hv→L[i]? =some o→∃hv' o',env'[i]? =some hv'∧L'[i]? =some o'∧o.ver≤o'.ver∧(o.ver=o'.ver→hv'=hv)
theorem Base.carry{A:Amb}(C:Carry S L env w S' L' env' w')(hlen:env.length=L.length)(hl:L.length≤L'.length)(h:Base A L env):Base A L' env':=by
 refine⟨Nat.le_trans h.1 hl,fun i hv o hv' o' k1 k2 k3 k4=>?_⟩;have hi:i < L.length:=Nat.lt_of_lt_of_le (List.getElem?_eq_some_iff.1 k2).1 h.1;obtain⟨o1,ho1⟩:∃o1,L[i]? =some o1:=⟨_,List.getElem?_eq_getElem hi⟩
 obtain⟨v1,hv1⟩:∃v1,env[i]? =some v1:=⟨_,List.getElem?_eq_getElem (by omega)⟩
 obtain⟨m1,m2,m3⟩:=h.2 i hv o v1 o1 k1 k2 hv1 ho1;obtain⟨v2,o2,n1,n2,n3,n4⟩:=C.ref i v1 o1 hv1 ho1;rw [k3] at n1;rw [k4] at n2;obtain rfl:=Option.some.inj n1;obtain rfl:=Option.some.inj n2;refine⟨Nat.le_trans m1 n3,fun he=>?_,fun b hb=>?_⟩
 ·rw [n4 (by omega)];exact m2 (by omega)
 ·have:=m3 b hb
  subst this;subst hb
  have:=C.ptr i b hv1
  rw [k3] at this;exact Option.some.inj this
theorem Carry.refl:Carry S L env w S L env w:=⟨fun _ h _=>h,fun _ _ _=>rfl,fun _ _ h=>h,fun _ _ _ h1 h2=>⟨_,_,h1,h2,Nat.le_refl _,fun _=>rfl⟩⟩
mutual
theorem SVr.carry(C:Carry S L env w S' L' env' w'):∀(sv:SV)(v:Value),SVr S L env w sv v→SVr S' L' env' w' sv v
 | .junk,v,_=>by simp only [SVr]
 | .d u,v,h=>by simp only [SVr] at h ⊢;exact h.mono C.hS C.hw
 | .ag cs,v,h=>by
   simp only [SVr] at h ⊢;obtain⟨vs,h1,h2⟩:=h;exact⟨vs,h1,kP.carry C cs vs h2⟩
 | .ptr i off,v,h=>by
   simp only [SVr] at h ⊢;obtain⟨b,h1,h2⟩:=h;exact⟨b,C.ptr i b h1,h2⟩
 | .sl i ver,v,h=>by
   simp only [SVr] at h ⊢;obtain⟨hv,o,h1,h2,h3,h5,h4⟩:=h;obtain⟨hv',o',r1,r2,r3,r4⟩:=C.ref i hv o h1 h2;refine⟨hv',o',r1,r2,Nat.le_trans h3 r3,h5,fun he=>?_⟩;have e1:ver=o.ver:=by omega
   rw [r4 (by omega)];exact h4 e1
 | .dp u,v,h=>by
   simp only [SVr] at h ⊢;obtain⟨b,off,cs,h1,h2,h3,h4⟩:=h;exact⟨b,off,cs,h1,C.hS b h2 h3.lt,h3.mono (C.hw b h2),h4.mono C.hS C.hw⟩
 | .ep i ver z k off,v,h=>by
   simp only [SVr] at h ⊢;obtain⟨hv,o,h1,h2,h3,h5,h4⟩:=h;obtain⟨hv',o',r1,r2,r3,r4⟩:=C.ref i hv o h1 h2;refine⟨hv',o',r1,r2,Nat.le_trans h3 r3,h5,fun he=>?_⟩;have e1:ver=o.ver:=by omega
   rw [r4 (by omega)];exact h4 e1
 | .fn f caps,v,h=>by
   simp only [SVr] at h ⊢;obtain⟨vs,h1,h2⟩:=h;exact⟨vs,h1,kP.carry C caps vs h2⟩
 | .tup svs,v,h=>by
   simp only [SVr] at h ⊢;obtain⟨vs,h1,h2⟩:=h;exact⟨vs,h1,kP.carry C svs vs h2⟩
 | .nilsl,v,h=>by simpa only [SVr] using h
theorem kP.carry(C:Carry S L env w S' L' env' w'):∀(svs:List SV)(vs:List Value),kP S L env w svs vs→kP S' L' env' w' svs vs
 | [],[],_=>by simp only [kP]
 | sv::svs,v::vs,h=>by
   simp only [kP] at h ⊢;exact⟨SVr.carry C sv v h.1,kP.carry C svs vs h.2⟩
 | [],_::_,h=>by simp [kP] at h
 | _::_,[],h=>by simp [kP] at h
end
theorem kP.get{svs:List SV}{vs:List Value}(h:kP S L env w svs vs)(j:Nat)(sv:SV)(hj:svs[j]? =some sv):∃v,vs[j]? =some v∧SVr S L env w sv v:=
 yZ.get ((kP.iff svs vs).1 h) j sv hj
theorem kP.length{svs:List SV}{vs:List Value}(h:kP S L env w svs vs):svs.length=vs.length:=yZ.length ((kP.iff svs vs).1 h)
end
theorem gH2.carry {S S':Nat→Prop}{L L':List LO}{env env':List Value}{w w':World}(C:Carry S L env w S' L' env' w'){o:LO}{hv:Value}
  (hb:∀b,o.live=true→o.ft w hv b→w'.heap[b]? =w.heap[b]?) (h:gH2 S L env w o hv):gH2 S' L' env' w' o hv:=by
 cases o with
 | box cs=>
   obtain⟨b,vals,e,rfl,h2,h3,h4⟩:=h;exact⟨b,vals,e,rfl,by rw [hb b rfl rfl];exact h2,kP.carry C _ _ h3,h4⟩
 | arr e z ver es=>
   obtain⟨h0,h1,xs,h2,h3⟩:=h;refine⟨h0,h1,xs,?_,Rds.mono C.hS C.hw _ _ h3⟩;refine⟨h2.1,?_⟩;rcases h2.2 with h | ⟨g,cap,cur,rfl,hg,hh,r⟩
   ·exact .inl h
   ·exact .inr ⟨g,cap,cur,rfl,hg,by rw [hb g rfl rfl];exact hh,r⟩
 | frz e z ver es=>exact RdV.mono C.hS C.hw h
 | own e z ver es=>
   have h':=gRa h;obtain⟨h1,h2,⟨xs,h3,h4⟩,h5⟩:=h;obtain⟨k1,k2⟩:=Tr.loc (w':=w') _ _ h' (fun b hb'=>hb b rfl hb');refine⟨h1,h2,⟨xs,?_,?_⟩,by rw [k2];exact h5⟩
   ·refine⟨h3.1,?_⟩;rcases h3.2 with h | ⟨g,cap,cur,rfl,hg,hh,r⟩
    ·exact .inl h
    ·exact .inr ⟨g,cap,cur,rfl,hg,by rw [hb g rfl (by simp [LO.ft,U.fp])];exact hh,r⟩
   ·rcases gGm h2 h3 with ⟨rfl,rfl,hf⟩ | ⟨g,cap,rfl,hf⟩
    ·simpa only [Trs] using h4
    ·exact(Trs.loc _ _ h4 (fun b hb'=>hb b rfl (by simp only [LO.ft];rw [hf];simp [hb']))).1
 | dead ver=>trivial
 | ownp h0 e z es=>
   have h':=gRa (S:=S) (L:=L) (env:=env) (ver:=0) (e:=e) h.2;obtain⟨h0',h1,h2,⟨xs,h3,h4⟩,h5⟩:=h;obtain⟨k1,k2⟩:=Tr.loc (w':=w') _ _ h' (fun b hb'=>hb b rfl hb');refine⟨h0',h1,h2,⟨xs,?_,?_⟩,by rw [k2];exact h5⟩
   ·refine⟨h3.1,?_⟩;rcases h3.2 with h | ⟨g,cap,cur,rfl,hg,hh,r⟩
    ·exact .inl h
    ·exact .inr ⟨g,cap,cur,rfl,hg,by rw [hb g rfl (by simp [LO.ft,U.fp])];exact hh,r⟩
   ·rcases gGm h2 h3 with ⟨rfl,rfl,hf⟩ | ⟨g,cap,rfl,hf⟩
    ·simpa only [Trs] using h4
    ·exact(Trs.loc _ _ h4 (fun b hb'=>hb b rfl (by simp only [LO.ft];rw [hf];simp [hb']))).1
 | mix e z ver fs es=>
   obtain⟨k1,xs,k2,k3,k4⟩:=hDd h (fun b hb'=>hb b rfl hb');obtain⟨h1,h2,_,h5⟩:=h;exact⟨h1,h2,⟨xs,k2,k3,Rds.mono C.hS C.hw _ _ k4⟩,by rw [k1];exact h5⟩
 | set ks=>
   obtain⟨b,ents,clock,rfl,h2,h3⟩:=h;exact⟨b,ents,clock,rfl,by rw [hb b rfl rfl];exact h2,h3⟩
 | bld e T l=>
   obtain⟨b,p,v,rfl,h2,h3,h4,h5,h6⟩:=h;refine⟨b,p,v,rfl,by rw [hb b rfl (.inl rfl)];exact h2,h3,⟨h4.1,?_⟩,h5,h6⟩;rcases h4.2 with h | ⟨g,cap,cur,rfl,hg,hh,r⟩
   ·exact .inl h
   ·exact .inr ⟨g,cap,cur,rfl,hg,by rw [hb g rfl (.inr ⟨b,.slice (some ⟨g,0,none⟩) l.length cap,rfl,by simp [rowOf,h2],rfl⟩)];exact hh,r⟩
theorem evr {σ:St}{a:Act}{w:World}{S:Nat→Prop}{L:List LO}{env:List Value}
  (hf:∀t,SVr S L env w (look σ.fr t) (a.tmps.getD t undef)) (x:Operand):SVr S L env w (σ.ev x) (a.eval x):=by
 cases x with
 | tmp t=>exact hf t
 | global g=>simp [St.ev,SVr]
 | func f=>simp only [St.ev,SVr,Act.eval];exact⟨[],rfl,by simp [kP]⟩
 | const v=>
   simp only [St.ev,Act.eval];unfold gHh;split
   ·simp only [SVr];exact⟨[_],rfl,by simp [Rd]⟩
   ·simp only [SVr];exact⟨[_],rfl,by simp [Rd]⟩
   ·split
    ·rename_i s _ hs;simp only [SVr];exact⟨[.string s],rfl,by simp only [Rd];exact⟨by rw [yY];exact Nat.le_of_ble_eq_true hs,by simp⟩⟩
    ·simp [SVr]
   ·simp [SVr]
   ·simp [SVr]
theorem mY.ev {A:Amb}{σ:St}{a:Act}{w:World}{S:Nat→Prop}{env:List Value}
  (hf:∀t,SVr S σ.L env w (look σ.fr t) (a.tmps.getD t undef)) (_:pW A S σ.L env w) (x:Operand):SVr S σ.L env w (σ.ev x) (a.eval x):=evr hf x
theorem hDg{S:Nat→Prop}{L:List LO}{env:List Value}{w:World}(v:Value):SVr S L env w (gHh v) v:=
 evr (σ:=⟨[],L,0⟩) (a:=⟨#[],[]⟩) (fun t=>by simp [look,SVr]) (.const v)
end Go.Eng
