import Derived.Test.YtfpdlnkkcnmebaaGreatEng47
import Derived.Lib.SliceRun
set_option linter.unusedVariables false
set_option linter.unusedSimpArgs false
namespace Go.Eng
open Go Go.RowKit
mutual
inductive Rv (j v q:Nat):SV→SV→Prop
 | sl:Rv j v q (.sl j v) (.sl j q)
 | ne {i ver:Nat} (h:(i==j)=false):Rv j v q (.sl i ver) (.sl i ver)
 | d {u:U}:Rv j v q (.d u) (.d u)
 | ptr {i off:Nat}:Rv j v q (.ptr i off) (.ptr i off)
 | dp {u:U}:Rv j v q (.dp u) (.dp u)
 | nil:Rv j v q .nilsl .nilsl
 | ag {cs cs':List SV} (h:Rvs j v q cs cs'):Rv j v q (.ag cs) (.ag cs')
 | tup {cs cs':List SV} (h:Rvs j v q cs cs'):Rv j v q (.tup cs) (.tup cs')
 | fn {f:Nat} {cs cs':List SV} (h:Rvs j v q cs cs'):Rv j v q (.fn f cs) (.fn f cs')
inductive Rvs (j v q:Nat):List SV→List SV→Prop
 | nil:Rvs j v q [] []
 | cons {a b:SV} {az bs:List SV} (h:Rv j v q a b) (h2:Rvs j v q az bs):Rvs j v q (a::az) (b::bs)
end
inductive RvO (j v q:Nat):Nat→LO→LO→Prop
 | own {e z:Nat} {es:List U}:RvO j v q j (.own e z v es) (.own e z q es)
 | arrj {e z:Nat} {es:List U}:RvO j v q j (.arr e z v es) (.arr e z q es)
 | box {i:Nat} {cs cs':List SV} (hi:(i==j)=false) (h:Rvs j v q cs cs'):RvO j v q i (.box cs) (.box cs')
 | owns {i e z ver:Nat} {es:List U} (hi:(i==j)=false):RvO j v q i (.own e z ver es) (.own e z ver es)
 | arr {i e z ver:Nat} {es:List U} (hi:(i==j)=false):RvO j v q i (.arr e z ver es) (.arr e z ver es)
 | frz {i e z ver:Nat} {es:List U} (hi:(i==j)=false):RvO j v q i (.frz e z ver es) (.frz e z ver es)
 | dead {i ver:Nat} (hi:(i==j)=false):RvO j v q i (.dead ver) (.dead ver)
inductive RvL (j v q:Nat):Nat→List LO→List LO→Prop
 | nil {i:Nat}:RvL j v q i [] []
 | cons {i:Nat} {a b:LO} {az bs:List LO} (h:RvO j v q i a b) (h2:RvL j v q (i+1) az bs):RvL j v q i (a::az) (b::bs)
inductive RvF (j v q:Nat):List (Nat × SV)→List (Nat × SV)→Prop
 | nil:RvF j v q [] []
 | cons {t:Nat} {a b:SV} {az bs:List (Nat × SV)} (h:Rv j v q a b) (h2:RvF j v q az bs):RvF j v q ((t,a)::az) ((t,b)::bs)
section
variable {j v q:Nat}{S:Nat→Prop}{L L':List LO}{env:List Value}{w:World}
theorem RvL.get:∀{i:Nat}{az bs:List LO},RvL j v q i az bs→az.length=bs.length∧∀(m:Nat)(b:LO),bs[m]? =some b→∃a,az[m]? =some a∧RvO j v q (i+m) a b
 | i,_,_,.nil=>⟨rfl,fun m b h=>by simp at h⟩
 | i,_,_,.cons (a:=a0) (b:=b0) (az:=az) (bs:=bs) h h2=>by
   obtain⟨k1,k2⟩:=RvL.get h2;refine⟨by simp [k1],fun m b hb=>?_⟩;cases m with
   | zero=>simp at hb;subst hb;exact⟨a0,by simp,by simpa using h⟩
   | succ m=>
     obtain⟨a,q1,q2⟩:=k2 m b (by simpa using hb);exact⟨a,by simpa using q1,by rwa [show i+(m+1)=i+1+m by omega]⟩
theorem RvF.look:∀{az bs:List (Nat × SV)},RvF j v q az bs→∀t,Go.Eng.look bs t=.junk∨Rv j v q (Go.Eng.look az t) (Go.Eng.look bs t)
 | _,_,.nil,t=>.inl rfl
 | _,_,.cons (t:=t0) h h2,t=>by
   simp only [Go.Eng.look];by_cases ht:t=t0
   ·simp only [ht,if_true];exact .inr h
   ·simp only [if_neg ht];exact RvF.look h2 t
mutual
theorem Rv.r(hj:∃o o':LO,L[j]? =some o∧L'[j]? =some o'∧o.ver=v∧o'.ver=q)(ho:∀(i:Nat)(o:LO),i≠j→L[i]? =some o→∃o',L'[i]? =some o'∧o'.ver=o.ver):∀{a b:SV}{x:Value},Rv j v q a b→SVr S L env w a x→SVr S L' env w b x
 | _,_,x,.sl,h=>by
   obtain⟨o1,o2,h1,h2,h3,h4⟩:=hj;simp only [SVr] at h ⊢;obtain⟨hv,o,k1,k2,k3,k4,k5⟩:=h;rw [h1] at k2;obtain rfl:=Option.some.inj k2;exact⟨hv,_,k1,h2,Nat.le_of_eq h4.symm,k4,fun _=>k5 h3.symm⟩
 | _,_,x,.ne hi,h=>by
   simp only [SVr] at h ⊢;obtain⟨hv,o,k1,k2,k3,k4,k5⟩:=h;obtain⟨o',q1,q2⟩:=ho _ o (by simpa using hi) k2;exact⟨hv,o',k1,q1,by rw [q2];exact k3,k4,by rw [q2];exact k5⟩
 | _,_,x,.d,h=>by simpa only [SVr] using h
 | _,_,x,.ptr,h=>by simpa only [SVr] using h
 | _,_,x,.dp,h=>by simpa only [SVr] using h
 | _,_,x,.nil,h=>by simpa only [SVr] using h
 | _,_,x,.ag hs,h=>by
   simp only [SVr] at h ⊢;obtain⟨vs,h1,h2⟩:=h;exact⟨vs,h1,Rvs.r hj ho hs h2⟩
 | _,_,x,.tup hs,h=>by
   simp only [SVr] at h ⊢;obtain⟨vs,h1,h2⟩:=h;exact⟨vs,h1,Rvs.r hj ho hs h2⟩
 | _,_,x,.fn hs,h=>by
   simp only [SVr] at h ⊢;obtain⟨vs,h1,h2⟩:=h;exact⟨vs,h1,Rvs.r hj ho hs h2⟩
theorem Rvs.r(hj:∃o o':LO,L[j]? =some o∧L'[j]? =some o'∧o.ver=v∧o'.ver=q)(ho:∀(i:Nat)(o:LO),i≠j→L[i]? =some o→∃o',L'[i]? =some o'∧o'.ver=o.ver):∀{az bs:List SV}{xs:List Value},Rvs j v q az bs→kK S L env w az xs→kK S L' env w bs xs
 | _,_,[],.nil,h=>by simp only [kK]
 | _,_,_::_,.nil,h=>by simp only [kK] at h
 | _,_,[],.cons _ _,h=>by simp only [kK] at h
 | _,_,_::_,.cons h1 h2,h=>by
   simp only [kK] at h ⊢;exact⟨Rv.r hj ho h1 h.1,Rvs.r hj ho h2 h.2⟩
end
theorem mV.rv{A:Amb}{a:Act}{fr fr':List (Nat × SV)}{N n:Nat}[hb:gC7 A n](hn:n≤j)(hjl:j < L.length)(hL:RvL j v q 0 L L')(hfr:RvF j v q fr fr')(h:mV A ⟨fr,L,N⟩ a w):mV A ⟨fr',L',N⟩ a w:=by
 obtain⟨S,env,hH,hf,hN,hd⟩:=h;obtain⟨hlen,hget⟩:=hL.get;have hback:∀(m:Nat)(o:LO),L[m]? =some o→∃o',L'[m]? =some o'∧RvO j v q m o o':=by
  intro m o ho;have hm:m < L'.length:=by rw [←hlen];exact(List.getElem?_eq_some_iff.1 ho).1
  obtain⟨o0,k1,k2⟩:=hget m _ (List.getElem?_eq_getElem hm);rw [ho] at k1;obtain rfl:=Option.some.inj k1;exact⟨_,List.getElem?_eq_getElem hm,by simpa using k2⟩
 have hj:∃o o':LO,L[j]? =some o∧L'[j]? =some o'∧o.ver=v∧o'.ver=q:=by
  obtain⟨o',k1,k2⟩:=hback j _ (List.getElem?_eq_getElem hjl);generalize ho:L[j]=o at k2;have hoj:L[j]? =some o:=by rw [List.getElem?_eq_getElem hjl,ho]
  cases k2 with
  | own=>exact⟨_,_,hoj,k1,rfl,rfl⟩
  | arrj=>exact⟨_,_,hoj,k1,rfl,rfl⟩
  | box hi=>simp at hi
  | owns hi=>simp at hi
  | arr hi=>simp at hi
  | frz hi=>simp at hi
  | dead hi=>simp at hi
 have ho:∀(i:Nat)(o:LO),i≠j→L[i]? =some o→∃o',L'[i]? =some o'∧o'.ver=o.ver:=by
  intro i o hi h;obtain⟨o',k1,k2⟩:=hback i o h;refine⟨o',k1,?_⟩;cases k2 with
  | own=>exact absurd rfl hi
  | arrj=>exact absurd rfl hi
  | _=>rfl
 have hlive:∀{i:Nat}{o o':LO},RvO j v q i o o'→o'.live=o.live∧∀hv b,o'.ft w hv b↔o.ft w hv b:=by
  intro i o o' h;cases h with
  | _=>exact⟨rfl,fun _ _=>Iff.rfl⟩
 refine⟨S,env,⟨by rw [←hlen];exact hH.len,fun i o' hv h1 h2=>?_,fun i o' hv b h1 h2 h3 h4=>?_,fun i k o1 o2 hv1 hv2 b h1 h2 h3 h4 h5 h6 h7 h8=>?_,hH.sS,hH.sA,hH.frame,hH.size,hH.os,hH.tape,hH.output,?_,hH.glob⟩,fun t=>?_,hN,hd⟩
 ·obtain⟨o,k1,k2⟩:=hget i o' h1;simp only [Nat.zero_add] at k2;have hob:=hH.objs i o hv k1 h2;cases k2 with
  | own=>exact hob
  | arrj=>exact hob
  | owns hi=>exact hob
  | arr hi=>exact hob
  | frz hi=>exact hob
  | dead hi=>exact hob
  | box hi hs=>
    obtain⟨b,vals,e,r1,r2,r3,r4⟩:=hob;exact⟨b,vals,e,r1,r2,Rvs.r hj ho hs r3,r4⟩
 ·obtain⟨o,k1,k2⟩:=hget i o' h1;obtain⟨q1,q2⟩:=hlive k2;exact hH.excl i o hv b k1 (by rw [←q1];exact h2) h3 ((q2 hv b).1 h4)
 ·obtain⟨p1,k1,k2⟩:=hget i o1 h1;obtain⟨p2,k3,k4⟩:=hget k o2 h2;obtain⟨q1,q2⟩:=hlive k2;obtain⟨q3,q4⟩:=hlive k4;exact hH.dist i k p1 p2 hv1 hv2 b k1 k3 (by rw [←q1];exact h3) (by rw [←q3];exact h4) h5 h6 ((q2 _ _).1 h7) ((q4 _ _).1 h8)
 ·refine⟨by rw [←hlen];exact hH.base.1,fun i hv o hv' o' h1 h2 h3 h4=>?_⟩;have hi:i < n:=by rw [←hb.h];exact(List.getElem?_eq_some_iff.1 h2).1
  obtain⟨o0,k1,k2⟩:=hget i o' h4;obtain⟨o1,k3,k4⟩:=ho i o0 (by omega) k1;rw [h4] at k3;obtain rfl:=Option.some.inj k3
  have:=hH.base.2 i hv o hv' o0 h1 h2 h3 k1
  rw [k4];exact this
 ·rcases hfr.look t with hjk | hr
  ·show SVr S L' env w (Go.Eng.look fr' t) _;rw [hjk];simp only [SVr]
  ·exact Rv.r hj ho hr (hf t)
end
theorem hSf {P:Program}{A:Amb}{c:Code}{Q:Exit→St→Prop}{fr fr':List (Nat × SV)}{L L':List LO}{N v q:Nat}(n:Nat) [gC7 A n] (j:Nat) (h:V P A c ⟨fr',L',N⟩ Q)
  (hL:RvL j v q 0 L L':=by(repeat(first | exact Rv.sl | exact Rv.ne rfl | exact Rv.d | exact RvO.own | exact RvO.arrj | refine RvO.box rfl ?_ | exact RvO.owns rfl | exact RvO.arr rfl | exact RvO.frz rfl | exact RvO.dead rfl | constructor));first | done | fail)
  (hfr:RvF j v q fr fr':=by(repeat(first | exact Rv.sl | exact Rv.ne rfl | exact Rv.d | constructor));first | done | fail) (hn:(Nat.ble n j && Nat.blt j L.length)=true:=by rfl):V P A c ⟨fr,L,N⟩ Q:=by
 simp only [Bool.and_eq_true,Nat.blt_eq] at hn;exact fun a w hr=>h a w (hr.rv (n:=n) (Nat.le_of_ble_eq_true hn.1) hn.2 hL hfr)
section
variable {P:Program}{A:Amb}{ops:Array Oper}{K:St→Prop}{r:List (Nat × Bool)}{pf:PF}{fr:List (Nat × SV)}{L L':List LO}{N i t:Nat}{sv:SV}
variable {ty:TypeId}{pos:String}{af:Array Edge}
theorem hBp {f:Operand}{fi:Nat}{caps:List SV}{args:Array Operand}{at_:Array TypeId}{cargs:List SV}{Lc Lo:List LO}{sv0:SV}(js:List Nat)(hspec:Spec P fi cargs Lc (fun sv Lo'=>sv=sv0∧Lo'=Lo))
  (hsv:sv0.ren (rn js L.length)=sv) (hL':gH5 js (Lo.map (LO.ren (rn js L.length))) L=L')
  (hf:(St.mk fr L N).ev f=.fn fi caps) (hp:gNq L (rn js L.length) 0 Lc)
  (hjs:(decide js.Nodup && (js.all fun j=>Nat.blt j L.length) && js.length==Lc.length && LO.lts Lc.length Lc)=true)
  (hargs:AGs L (rn js L.length) Lc.length (args.toList.map (St.mk fr L N).ev++caps) cargs) (ht:Nat.blt t N=true) :
  HSt P A ops ⟨fr,L,N⟩ ⟨some t,.call { callee:=.value f,args:=args,argTypes:=at_ },ty,pos,af,none⟩ sv L':=by
 intro fr' he K hK;have hm:args.toList.map (St.mk fr' L N).ev=args.toList.map (St.mk fr L N).ev:=List.map_congr_left fun x hx=>he x (by simp only [Op.operands,Call.operands];simp;exact .inr (by simpa using hx));refine gCl (caps:=caps) js hspec ?_ (by rw [he f (by simp [Op.operands,Call.operands])];exact hf) hp hjs (by rw [hm];exact hargs) ht;rintro _ _ ⟨rfl,rfl⟩;rw [hsv,hL'];exact gCz hK
theorem gCn {f:Operand}{fi:Nat}{caps:List SV}{args:Array Operand}{at_:Array TypeId}{cargs:List SV}{Lc Lo:List LO}{sv0:SV}(js:List Nat)(hspec:Spec P fi cargs Lc (fun sv Lo'=>sv=sv0∧Lo'=Lo))(h:VY P A ops K r pf ⟨(t,sv)::fr,L',N⟩)
  (hi:ops[i]? =some ⟨some t,.call { callee:=.value f,args:=args,argTypes:=at_ },ty,pos,af,none⟩:=by rfl) (hsv:sv0.ren (rn js L.length)=sv:=by rfl) (hL':gH5 js (Lo.map (LO.ren (rn js L.length))) L=L':=by rfl)
  (hf:(St.mk fr L N).ev f=.fn fi caps:=by rfl) (hp:gNq L (rn js L.length) 0 Lc:=by((repeat(first | exact trivial | exact rfl | refine And.intro ?_ ?_));first | done | fail))
  (hjs:(decide js.Nodup && (js.all fun j=>Nat.blt j L.length) && js.length==Lc.length && LO.lts Lc.length Lc)=true:=by rfl)
  (hargs:AGs L (rn js L.length) Lc.length (args.toList.map (St.mk fr L N).ev++caps) cargs:=by((repeat(first | exact trivial | exact .inl ⟨rfl,rfl⟩ | exact .inr ⟨_,rfl,by((repeat(first | exact trivial | exact rfl | exact⟨_,rfl⟩ | refine And.intro ?_ ?_));first | done | fail)⟩ | refine And.intro ?_ ?_));first | done | fail))
  (ht:Nat.blt t N=true:=by rfl) (hpf:vE ops i L' pf:=by(repeat(first | exact vE.nil | (apply vE.keep;focus ((repeat constructor);done)) | (apply vE.dep;focus kernel_rfl)))) :
  VY P A ops K ((i,false)::r) pf ⟨fr,L,N⟩:=gFo hi (hBp js hspec hsv hL' hf hp hjs hargs ht) hpf h
end
section
variable {P:Program}{A:Amb}{ops:Array Oper}{K:St→Prop}{rest:List Oper}{fr:List (Nat × SV)}{L:List LO}{N t:Nat}{sv:SV}{ty:TypeId}{pos:String}{af:Array Edge}{op:Op}
end
section
variable {P:Program}{A:Amb}{σ:St}{dst:Option Nat}{ty T T':TypeId}{pos:String}{af:Array Edge}{g:Option (Nat × Bool)}{x y:Operand}
end
section
variable {P:Program}{A:Amb}{σ:St}{dst:Option Nat}{ty T T':TypeId}{pos:String}{af:Array Edge}{g:Option (Nat × Bool)}{x y:Operand}
theorem hG5{m n r:Int}(hr:IntKind.i64.wrap (m.tdiv n)=r)(hx:σ.ev x=.d (.i .i64 m):=by rfl)(hy:σ.ev y=.d (.i .i64 n):=by rfl)(hn:decide (0 < n)=true:=by rfl):Quiet P A σ ⟨dst,.binOp .quo T x y T',ty,pos,af,g⟩ (.d (.i .i64 r)):=Quiet.pure fun S env a w hH ho=>by
 have h1:=ho x (by simp [Op.operands]);have h2:=ho y (by simp [Op.operands]);rw [hx,SVr.int] at h1;rw [hy,SVr.int] at h2;have h0:¬n=0:=by have:=of_decide_eq_true hn;omega
 subst hr;exact⟨_,by simp [execOp,h1,h2,eqGuard,binOp,Op.intDiv,h0],SVr.int.2 rfl⟩
theorem hL8{m n:Int}(hx:σ.ev x=.d (.i .i64 m):=by rfl)(hy:σ.ev y=.d (.i .i64 n):=by rfl)(hn:decide (0 < n)=true:=by rfl):Quiet P A σ ⟨dst,.binOp .rem T x y T',ty,pos,af,g⟩ (.d (.i .i64 (m.tmod n))):=Quiet.pure fun S env a w hH ho=>by
 have h1:=ho x (by simp [Op.operands]);have h2:=ho y (by simp [Op.operands]);rw [hx,SVr.int] at h1;rw [hy,SVr.int] at h2;have h0:¬n=0:=by have:=of_decide_eq_true hn;omega
 exact⟨_,by simp [execOp,h1,h2,eqGuard,binOp,Op.intDiv,h0],SVr.int.2 rfl⟩
theorem yG{a b:LB}(hl:a.length+b.length≤4294967296)(hx:σ.ev x=.d (.s a):=by rfl)(hy:σ.ev y=.d (.s b):=by rfl):QR P σ ⟨dst,.binOp .add T x y T',ty,pos,af,g⟩ (.d (.s (a++b))):=
 fun A fr' L' he _=>hLg (by rw [he x (by simp [Op.operands])];exact hx) (by rw [he y (by simp [Op.operands])];exact hy) (by rw [yC];omega)
end
def hL9(a:UInt8):U:=.i .u8 (a.toNat:Int)
def gEb:LB→List U
 | []=>[]
 | a::l=>.i .u8 (a.toNat:Int)::gEb l
instance:Enc UInt8 hL9 gEb 1:=⟨fun l=>by induction l with | nil=>rfl | cons a l ih=>simp [gEb,ih,hL9],fun _=>rfl⟩
theorem hIz{l:LB}{k:Nat}{x:UInt8}(h:l[k]? =some x):(gEb l)[k]? =some (.i .u8 (x.toNat:Int)):=Enc.get h
structure gN where
 b:LB
 i:Int
 h:Int
def gZs(m n:Int):Int:=IntKind.i64.wrap (BitVec.ofInt 64 m &&& BitVec.ofInt 64 n).toNat
def hMa(m n:Int):Int:=IntKind.i64.wrap (BitVec.ofInt 64 m ^^^ BitVec.ofInt 64 n).toNat
def hFe(m n:Int):Int:=m.fdiv (2^(min n.toNat 64))
theorem gOv(m:Int):0≤gZs m 255∧gZs m 255≤255:=by
 have h:(BitVec.ofInt 64 m &&& BitVec.ofInt 64 255).toNat≤255:=by
  rw [BitVec.toNat_and];exact Nat.and_le_right
 unfold gZs;rw [gAb _ (by omega) (by omega)];omega
section
variable {P:Program}{A:Amb}{σ:St}{dst:Option Nat}{ty T T':TypeId}{pos:String}{af:Array Edge}{g:Option (Nat × Bool)}{x y:Operand}
theorem hBq:QR P σ ⟨dst,.assign (.const (.pointer none)),ty,pos,af,g⟩ .junk:=
 fun A fr' L' he _=>Quiet.pure fun S env a w hH ho=>⟨.pointer none,by simp [execOp,Act.eval],by simp only [SVr]⟩
theorem hBs{m n:Int}(hx:σ.ev x=.d (.i .i64 m):=by rfl)(hy:σ.ev y=.d (.i .i64 n):=by rfl):QR P σ ⟨dst,.binOp .and T x y T',ty,pos,af,g⟩ (.d (.i .i64 (gZs m n))):=
 fun A fr' L' he _=>Quiet.pure fun S env a w hH ho=>by
  have h1:=ho x (by simp [Op.operands]);have h2:=ho y (by simp [Op.operands]);rw [he x (by simp [Op.operands]),hx,SVr.int] at h1;rw [he y (by simp [Op.operands]),hy,SVr.int] at h2;exact⟨_,by simp [execOp,h1,h2,eqGuard,binOp,Op.intBits];rfl,SVr.int.2 rfl⟩
theorem hMb{m n:Int}(hx:σ.ev x=.d (.i .i64 m):=by rfl)(hy:σ.ev y=.d (.i .i64 n):=by rfl):QR P σ ⟨dst,.binOp .xor T x y T',ty,pos,af,g⟩ (.d (.i .i64 (hMa m n))):=
 fun A fr' L' he _=>Quiet.pure fun S env a w hH ho=>by
  have h1:=ho x (by simp [Op.operands]);have h2:=ho y (by simp [Op.operands]);rw [he x (by simp [Op.operands]),hx,SVr.int] at h1;rw [he y (by simp [Op.operands]),hy,SVr.int] at h2;exact⟨_,by simp [execOp,h1,h2,eqGuard,binOp,Op.intBits];rfl,SVr.int.2 rfl⟩
theorem hG6{m n:Int}{k:IntKind}(hx:σ.ev x=.d (.i .i64 m):=by rfl)(hy:σ.ev y=.d (.i k n):=by rfl)(hn:decide (0≤n)=true:=by rfl):QR P σ ⟨dst,.binOp .shr T x y T',ty,pos,af,g⟩ (.d (.i .i64 (hFe m n))):=
 fun A fr' L' he _=>Quiet.pure fun S env a w hH ho=>by
  have h1:=ho x (by simp [Op.operands]);have h2:=ho y (by simp [Op.operands]);rw [he x (by simp [Op.operands]),hx,SVr.int] at h1;rw [he y (by simp [Op.operands]),hy,SVr.int] at h2;have h0:¬n < 0:=by have:=of_decide_eq_true hn;omega
  exact⟨_,by simp [execOp,h1,h2,eqGuard,binOp,Op.shift,h0];rfl,SVr.int.2 rfl⟩
theorem hBt{m n:Int}(h0:n≠0)(hx:σ.ev x=.d (.i .i64 m):=by rfl)(hy:σ.ev y=.d (.i .i64 n):=by rfl):QR P σ ⟨dst,.binOp .rem T x y T',ty,pos,af,g⟩ (.d (.i .i64 (m.tmod n))):=
 fun A fr' L' he _=>Quiet.pure fun S env a w hH ho=>by
  have h1:=ho x (by simp [Op.operands]);have h2:=ho y (by simp [Op.operands]);rw [he x (by simp [Op.operands]),hx,SVr.int] at h1;rw [he y (by simp [Op.operands]),hy,SVr.int] at h2;exact⟨_,by simp [execOp,h1,h2,eqGuard,binOp,Op.intDiv,h0],SVr.int.2 rfl⟩
theorem hI3{T2:TypeId}{k k1 k2:IntKind}{m:Int}(h1:P.underlying T=some (.int k1))(h2:P.underlying T2=some (.int k2))(hx:σ.ev x=.d (.i k m):=by rfl):QR P σ ⟨dst,.convert T T2 x,ty,pos,af,g⟩ (.d (.i k2 (k2.wrap m))):=
 fun A fr' L' he _=>gWb (by rw [he x (by simp [Op.operands])];exact hx) h1 h2
end
theorem Rds.split{S:Nat→Prop}{w:World}:∀(us:List U)(vs:List U)(cs:List Value),Rds S w (us++vs) cs→∃c1 c2,cs=c1++c2∧Rds S w us c1∧Rds S w vs c2
 | [],vs,cs,h=>⟨[],cs,rfl,by simp only [Rds],h⟩
 | u::us,vs,cs,h=>by
   simp only [List.cons_append,Rds] at h;obtain⟨c1,c2,rfl,h1,h2⟩:=h;obtain⟨d1,d2,rfl,h3,h4⟩:=Rds.split us vs c2 h2;exact⟨c1++d1,d2,by rw [List.append_assoc],by simp only [Rds];exact⟨c1,d1,rfl,h1,h3⟩,h4⟩
section
variable {P:Program}{A:Amb}{σ:St}{K:St→Prop}{Q:Exit→St→Prop}
variable {ops:Array Oper}{rest:List Oper}{t:Nat}{ty:TypeId}{pos:String}{af:Array Edge}{x y:Operand}{sv:SV}{dst:Option Nat}{g:Option (Nat × Bool)}
end
section
variable {P:Program}{A:Amb}{ops:Array Oper}{K:St→Prop}{r:List (Nat × Bool)}{pf:PF}{fr:List (Nat × SV)}{L L1 L':List LO}{N i t m:Nat}
variable {ty:TypeId}{pos:String}{af:Array Edge}{x y:Operand}{T:TypeId}
theorem jJ {op:Op}{sv:SV}(hv:VY P A ops K r pf ⟨(t,sv)::fr,L,N⟩)(hi:ops[i]? =some ⟨some t,op,ty,pos,af,none⟩:=by rfl)(h:QF P ops ⟨some t,op,ty,pos,af,none⟩ ⟨fr,L,N⟩ t sv:=by(repeat(first | exact Rng.mk (by omega) (by omega) | constructor));first | done | fail)
  (hp:vE ops i L pf:=by(repeat(first | exact vE.nil | (apply vE.keep;focus ((repeat constructor);done)) | (apply vE.dep;focus kernel_rfl)))):VY P A ops K ((i,false)::r) pf ⟨fr,L,N⟩:=by
 refine gFo hi (fun fr' he' K' hK=>?_) hp hv;obtain⟨h1,_,h3 | h3⟩:=h.pst (A:=A)
 ·exact hLs (h3.2 fr' L he' (gP7.refl _)) (h1 t rfl) (gCz hK)
 ·exact absurd h3.1 (by simp [Gd])
end
section
variable {P:Program}{A:Amb}{σ:St}{K:St→Prop}{Q:Exit→St→Prop}
variable {ops:Array Oper}{rest:List Oper}{t:Nat}{ty:TypeId}{pos:String}{af:Array Edge}{x y:Operand}{sv:SV}{dst:Option Nat}{g:Option (Nat × Bool)}
theorem hBu{c:Code}{fr:List (Nat × SV)}{L L':List LO}{N e z ver:Nat}{es:List U}(t m:Nat)(h:V P A c ⟨(t,.sl m (ver+1))::fr,L',N⟩ Q)(ht:look fr t=.nilsl:=by rfl)(hL:L[m]? =some (.arr e z ver es):=by rfl)(hL':St1 (.arr e z (ver+1) []) m L L':=by repeat constructor):V P A c ⟨fr,L,N⟩ Q:=by
 have:=hL'.spec
 subst this;intro a w ⟨S,env,hH,hf,hN,hd⟩;refine h a w ?_;have hi:=(List.getElem?_eq_some_iff.1 hL).1;have hie:m < env.length:=by rw [hH.len];exact hi
 obtain⟨hv,hhv⟩:∃hv,env[m]? =some hv:=⟨_,List.getElem?_eq_getElem hie⟩
 have hob:=hH.objs m _ hv hL hhv;obtain⟨hH',C⟩:pQ A S (L.set m (.arr e z (ver+1) [])) (env.set m (.slice none 0 0)) w∧Carry S L env w S (L.set m (.arr e z (ver+1) [])) (env.set m (.slice none 0 0)) w:=by
  refine hH.eat [] m _ (.slice none 0 0) (by rw [List.length_set,List.length_set];exact hH.len) (fun j hj=>?_) (List.getElem?_set_self hi) (fun j hj=>List.getElem?_set_ne (fun e=>hj e.symm)) (List.getElem?_set_self hie) (fun _ _ _=>rfl) (fun o hv1 h1 h2=>?_) (Nat.le_refl _) rfl rfl rfl (fun k hk=>?_) (fun C=>?_)
  ·rw [List.getElem?_set_ne (fun e=>hj e.symm)];simp
  ·rw [hL] at h1;rw [hhv] at h2;cases h1;cases h2;refine⟨Nat.le_succ _,fun h=>absurd h (by simp [LO.ver]),fun b hb=>?_⟩;subst hb;rcases gTa hob with ⟨h,_⟩ | ⟨_,_,h⟩<;>cases h
  ·simp [LO.ft,blk] at hk
  ·exact⟨by simp [yC],by simp,[],World.ownsRow_nil w 0 e z,by simp [Rds]⟩
 refine⟨S,_,hH',fun t'=>?_,hN,hd⟩;have ht':=SVr.carry C _ _ (hf t');simp only at ht';by_cases he:t'=t
 ·subst he;simp only [Go.Eng.look,if_true];rw [ht] at ht';simp only [SVr] at ht' ⊢;rw [ht'];exact⟨.slice none 0 0,_,List.getElem?_set_self hie,List.getElem?_set_self hi,Nat.le_refl _,rfl,fun _=>rfl⟩
 ·simp only [Go.Eng.look,if_neg he];exact ht'
end
section
variable {P:Program}{A:Amb}{Q:Exit→St→Prop}{c:Code}
end
theorem VDs.same{σ σ':St}(hL:σ'.L=σ.L){l:List Operand}{us:List U}(h:VDs σ l us):(∀x∈l,σ'.ev x=σ.ev x)→VDs σ' l us:=by
 induction h with
 | nil=>exact fun _=>.nil
 | @cons x l u us h h2 ih=>exact fun he=>.cons (by rw [hL,he x (by simp)];exact h) (ih fun y hy=>he y (by simp [hy]))
section
variable {P:Program}{A:Amb}{ops:Array Oper}{K:St→Prop}{r:List (Nat × Bool)}{pf:PF}{fr:List (Nat × SV)}{L L1 L':List LO}{N i t m:Nat}
variable {ty:TypeId}{pos:String}{af:Array Edge}{x y:Operand}{T:TypeId}
theorem jT {e z bs n:Nat}{gg:Bool} [TE P T e] [TI P e gg z bs] {zs:List Value} [TZ P e zs] {us:List U} {ps:Array (Nat × Operand)} (h:VY P A ops K r pf ⟨(t,.sl m 0)::fr,L',N⟩) (hi:ops[i]? =some ⟨some t,.buildSlice T n ps,ty,pos,af,none⟩:=by rfl) (hps:ps.toList=((ps.toList.map Prod.snd).zipIdx 0).map (fun p=>(p.2,p.1)):=by rfl)
  (hy:VDs ⟨fr,L,N⟩ (ps.toList.map Prod.snd) us:=by(repeat(first | exact .nil | refine .cons (by((repeat(first | exact trivial | exact rfl | exact⟨_,rfl⟩ | refine And.intro ?_ ?_));first | done | fail)) ?_))) (hu:(us.all fun u=>u.sz==z)=true:=by rfl) (hn:((ps.toList.map Prod.snd).length==n && Nat.blt 0 n)=true:=by rfl)
  (hz:(Nat.blt 0 z && Nat.ble (n*z) 16777216 && zs.length==z)=true:=by rfl) (ht:Nat.blt t N=true:=by rfl) (hL':Sn (.arr e z 0 us) L m L':=by repeat constructor)
  (hp:vE ops i L' pf:=by(repeat(first | exact vE.nil | (apply vE.keep;focus ((repeat constructor);done)) | (apply vE.dep;focus kernel_rfl)))):VY P A ops K ((i,false)::r) pf ⟨fr,L,N⟩:=
 gFo hi (fun fr' he' K' hK=>gAg (gCz hK) hps (VDs.same (σ:=⟨fr,L,N⟩) (σ':=⟨fr',L,N⟩) rfl hy (fun x hx=>he' x (by simpa [Op.operands] using hx))) hu hn hz ht hL') hp h
theorem jR {α:Type}{en:α→U}{es:List α→List U}{z:Nat}[E:Enc α en es z]{l l2:List α}(hg:l.length+l2.length≤4294967296){e bs ver:Nat}{T':TypeId}{gg:Bool} [TE P T e] [TI P e gg z bs] {zs:List Value} [TZ P e zs]
  (h:VY P A ops K r pf ⟨(t,.sl m (ver+1))::fr,L',N⟩) (hi:ops[i]? =some ⟨some t,.call { callee:=.builtin .append,args:=#[x,y],argTypes:=#[T,T] },T',pos,af,none⟩:=by rfl) (hx:(St.mk fr L N).ev x=.sl m ver:=by rfl) (hL:L[m]? =some (.arr e z ver (es l)):=by rfl) (hs:SrcOf ⟨fr,L,N⟩ z (es l2) ((St.mk fr L N).ev y):=by first | exact⟨_,rfl⟩ | exact⟨rfl,rfl,Enc.all _⟩ | exact rfl)
  (hz:(Nat.blt 0 z && zs.length==z)=true:=by rfl) (hb:Nat.ble bs 32768=true:=by rfl) (ht:Nat.blt t N=true:=by rfl) (hL':L.set m (.arr e z (ver+1) (es (l++l2)))=L':=by rfl)
  (hp:vE ops i L' pf:=by(repeat(first | exact vE.nil | (apply vE.keep;focus ((repeat constructor);done)) | (apply vE.dep;focus kernel_rfl)))):VY P A ops K ((i,false)::r) pf ⟨fr,L,N⟩:=
 gFo hi (fun fr' he' K' hK=>gAi (l:=l) (r:=l2) hg (gCz hK) (by rw [he' x (by simp [Op.operands,Call.operands])];exact hx) hL (by rw [he' y (by simp [Op.operands,Call.operands])];exact hs) hz hb ht hL') hp h
end
section
variable {P:Program}{A:Amb}{ops:Array Oper}{K:St→Prop}{r:List (Nat × Bool)}{pf:PF}{o:Oper}{fr:List (Nat × SV)}{L L1 L':List LO}{N i t j:Nat}{sv:SV}
theorem mV.adoptA{a:Act}{w:World}{cs cs':List SV}{e z:Nat}(hL:L[j]? =some (.box cs))(k:Nat)(hc:cs[k]? =some .nilsl)(hcs:cs.set k (.sl L.length 0)=cs')(h:mV A ⟨fr,L,N⟩ a w):mV A ⟨fr,L.set j (.box cs')++[.arr e z 0 []],N⟩ a w:=by
 subst hcs;obtain⟨S,env,hH,hf,hN,hd⟩:=h;have hj:=(List.getElem?_eq_some_iff.1 hL).1;obtain⟨hH1,C1⟩:=hH.newO [] (.arr e z 0 []) (.slice none 0 0) (Nat.le_refl _) (fun _ _=>rfl) rfl rfl rfl (fun b hb=>by simp [LO.ft,blk] at hb) (fun _=>⟨by simp [yC],by simp,[],World.ownsRow_nil w 0 e z,by simp [Rds]⟩);rw [gS1] at hH1 C1;have hL1:(L++[LO.arr e z 0 []])[j]? =some (.box cs):=by rw [List.getElem?_append_left hj];exact hL
 have hje:j < (env++[Value.slice none 0 0]).length:=by rw [hH1.len];simp;omega
 obtain⟨hv,he⟩:∃hv,(env++[Value.slice none 0 0])[j]? =some hv:=⟨_,List.getElem?_eq_getElem hje⟩
 obtain⟨b,vals,e',r1,r2,r3,r4⟩:=hH1.objs j _ hv hL1 he
 obtain⟨hH2,C2⟩:=hH1.turnF (w':=w) j (.box cs) (.box (cs.set k (.sl L.length 0))) hv hL1 rfl he rfl rfl (fun _ _=>rfl) rfl rfl rfl (fun k hk=>hk) (fun C=>⟨b,vals,e',r1,r2,by
  have r3':=kK.carry C _ _ r3;rw [kK.iff] at r3' ⊢;obtain⟨v,v1,v2⟩:=yR.get ((kK.iff _ _).1 r3) k _ hc;simp only [SVr] at v2;subst v2
  have hset:=yR.set k (.sl L.length 0) (.slice none 0 0) r3' (by
   simp only [SVr];refine⟨.slice none 0 0,.arr e z 0 [],by rw [←hH.len];simp,?_,Nat.le_refl _,rfl,fun _=>rfl⟩;rw [List.getElem?_set_ne (by omega)]
   simp)
  have hk:k < vals.toList.length:=(List.getElem?_eq_some_iff.1 v1).1
  have:vals.toList.set k (.slice none 0 0)=vals.toList:=by
   apply List.ext_getElem?;intro m;rw [List.getElem?_set];by_cases hm:k=m
   ·subst hm;rw [if_pos rfl,if_pos hk,v1]
   ·rw [if_neg hm]
  rwa [this] at hset,r4⟩)
 have hse:(L++[LO.arr e z 0 []]).set j (.box (cs.set k (.sl L.length 0)))=L.set j (.box (cs.set k (.sl L.length 0)))++[.arr e z 0 []]:=by rw [List.set_append_left _ _ hj]
 rw [hse] at hH2 C2;exact⟨S,_,hH2,fun t=>SVr.carry C2 _ _ (SVr.carry C1 _ _ (hf t)),hN,hd⟩
theorem uO {Q:Exit→St→Prop}{c:Code}{cs cs':List SV}{n:Nat}(e z:Nat)(j k:Nat)(hL:L[j]? =some (.box cs))(hc:cs[k]? =some .nilsl)(hn:Ln L n)(hcs:St1 (.sl n 0) k cs cs')(h1:St1 (.box cs') j L L1)(h2:Jn L1 [.arr e z 0 []] L')
  (h:V P A c ⟨fr,L',N⟩ Q):V P A c ⟨fr,L,N⟩ Q:=by
 have e1:=hn.eq;have e2:=hcs.spec;have e3:=h1.spec;have e4:=h2.spec;subst e1;subst e2;subst e3;subst e4;exact fun a w hr=>h a w (mV.adoptA hL k hc rfl hr)
end
section
variable {P:Program}{A:Amb}{σ:St}{K:St→Prop}
variable {ops:Array Oper}{rest:List Oper}{t:Nat}{ty:TypeId}{pos:String}{af:Array Edge}{x y:Operand}{dst:Option Nat}{g:Option (Nat × Bool)}
theorem gWi{α:Type}{en:α→U}{es:List α→List U}{z:Nat}[E:Enc α en es z]{l:List α}{T:TypeId}{j ver k off e' f fo:Nat} [TF P T f fo](hx:σ.ev x=.ep j ver z k off:=by rfl)(hL:σ.L[j]? =some (.arr e' z ver (es l)):=by rfl):Quiet P A σ ⟨dst,.fieldAddr T x f,ty,pos,af,g⟩ (.ep j ver z k (off+fo)):=gY9 hx hL TF.h
end
theorem kE(l:List gB):(gK l).length=l.length:=Enc.len l
theorem jN(l:List gV):(jY l).length=l.length:=Enc.len l
section
variable {P:Program}{A:Amb}{ops:Array Oper}{K:St→Prop}{r:List (Nat × Bool)}{pf:PF}{fr:List (Nat × SV)}{L L1 L':List LO}{N i:Nat}{o:Oper}{sv:SV}
theorem gG2(zi:Nat){e z ver:Nat}{es:List U}(hz:L[zi]? =some (.own e z ver es))(hL1:L.set zi (.frz e z ver es)=L1)(h:VY P A ops K ((i,false)::r) pf ⟨fr,L1,N⟩):VY P A ops K ((i,false)::r) pf ⟨fr,L,N⟩:=by
 obtain⟨o,Z,h1,h2,h3⟩:=h;exact⟨o,Z,h1,fun fr' he K' hK=>gA8 zi hz hL1 (h2 fr' he K' hK),h3⟩
theorem mG(zi:Nat){e z ver:Nat}{es:List U}(hz:L[zi]? =some (.arr e z ver es))(hL1:L.set zi (.frz e z ver es)=L1)(h:VY P A ops K ((i,false)::r) pf ⟨fr,L1,N⟩):VY P A ops K ((i,false)::r) pf ⟨fr,L,N⟩:=by
 obtain⟨o,Z,h1,h2,h3⟩:=h;exact⟨o,Z,h1,fun fr' he K' hK=>mD zi hz hL1 (h2 fr' he K' hK),h3⟩
end
section
variable {P:Program}{σ:St}
theorem gCo {fn:Func}{Q:SV→List LO→Prop}{n:Nat}(svs:List SV)(Lo:List LO)(hq:Q (mkG svs) Lo)(hL:∃L2,σ.L=Lo++L2:=by exact⟨_,rfl⟩)(hl:(LO.lts Lo.length Lo && SV.lts Lo.length svs && Nat.ble n Lo.length)=true:=by rfl)
  (hr:gWc P σ fn.results.toList svs:=by((repeat(first | exact .nil | refine .data rfl rfl ?_ | refine .data rfl (by((repeat(first | exact trivial | exact rfl | exact⟨_,rfl⟩ | refine And.intro ?_ ?_));first | done | fail)) ?_ | refine .same rfl ?_ | refine .same (gHy rfl rfl TI.h rfl rfl) ?_ | refine .same (ResV_one rfl rfl TI.h rfl) ?_ | refine .data (gHy rfl rfl TI.h rfl rfl) (by((repeat(first | exact trivial | exact rfl | exact⟨_,rfl⟩ | refine And.intro ?_ ?_));first | done | fail)) ?_ | refine .data (ResV_one rfl rfl TI.h rfl) (by((repeat(first | exact trivial | exact rfl | exact⟨_,rfl⟩ | refine And.intro ?_ ?_));first | done | fail)) ?_));first | done | fail)):qB P fn Q n .ret σ:=hTu svs Lo hq hL hl hr
end
theorem Spec.nilF{P:Program}{f e z:Nat}{args:List SV}{es:List U}{u2:U}(h:Go.Eng.Spec P f (.sl 0 0::args) [.arr e z 0 []] (fun sv Lo=>∃v,sv=.tup [.sl 0 v,.d u2]∧Lo=[.arr e z v es]))(ha:SV.lts 0 args=true:=by rfl) :
  Go.Eng.Spec P f (.nilsl::args) [] (fun sv Lo=>sv=.tup [.d (.sl z es),.d u2]∧Lo=[]):=by
 refine⟨h.1,fun A S env w vs h1 h2 h3 h4 hH hargs=>?_⟩;have henv:env=[]:=List.eq_nil_of_length_eq_zero hH.len;subst henv;cases vs with
 | nil=>simp [kK] at hargs
 | cons v0 vs=>
   simp only [kK] at hargs;obtain⟨hv0,hargs⟩:=hargs;simp only [SVr] at hv0;subst hv0;have hob:∀S L env,gG9 S L env w (.arr e z 0 []) (.slice none 0 0):=fun _ _ _=>⟨by simp [yC],by simp,[],World.ownsRow_nil w 0 e z,by simp [Rds]⟩
   have hH2:pQ { A with L0:=[.arr e z 0 []],env0:=[.slice none 0 0] } S [.arr e z 0 []] [.slice none 0 0] w:=by
    refine⟨rfl,fun i o hv k1 k2=>?_,fun i o hv b k1 k2 k3 k4=>?_,fun i j o o' hv hv' b k1 k2 k3 k4 k5 k6 k7 k8=>?_,hH.sS,hH.sA,hH.frame,hH.size,hH.os,hH.tape,hH.output,Base.refl rfl rfl,hH.glob⟩
    ·cases i with
     | zero=>simp at k1 k2;subst k1;subst k2;exact hob _ _ _
     | succ i=>simp at k1
    ·cases i with
     | zero=>simp at k1 k3;subst k1;subst k3;simp [LO.ft,blk] at k4
     | succ i=>simp at k1
    ·cases i with
     | zero=>simp at k1 k5;subst k1;subst k5;simp [LO.ft,blk] at k7
     | succ i=>simp at k1
   refine(h.2 { A with L0:=[.arr e z 0 []],env0:=[.slice none 0 0] } S [.slice none 0 0] w (.slice none 0 0::vs) h1 h2 rfl rfl hH2 ?_).mono ?_
   ·simp only [kK];refine⟨?_,kK.bare _ _ ha hargs _ _⟩;simp only [SVr];exact⟨.slice none 0 0,.arr e z 0 [],rfl,rfl,Nat.le_refl _,rfl,fun _=>rfl⟩
   ·rintro ex w' ⟨r,sv,S',L',env',hr,⟨v,rfl,rfl⟩,hH',hsv⟩;obtain⟨hv,henv'⟩:∃hv,env'=[hv]:=by
     have:=hH'.len
     match env',this with
     | [hv],_=>exact⟨hv,rfl⟩
    subst henv';have hob':=hH'.objs 0 _ hv rfl rfl;have hex:∀b,blk hv=some b→¬S' b∧(A.E b∨A.w0.heap.size≤b)∧b < w'.heap.size:=fun b hb=>hH'.excl 0 _ hv b rfl rfl rfl hb;simp only [SVr] at hsv;obtain⟨xs,rfl,hxs⟩:=hsv
    match xs,hxs with
    | [x0,x1],hxs=>
      simp only [kK] at hxs;obtain⟨hx0,hx1,_⟩:=hxs;simp only [SVr] at hx0;obtain⟨hv1,o1,q1,q2,q3,q4,q5⟩:=hx0;simp at q1 q2;subst q1;subst q2;obtain rfl:=q5 rfl;refine⟨_,_,fun b=>S' b∨blk x0=some b,[],[],hr,⟨rfl,rfl⟩,⟨rfl,by simp,by simp,by simp,fun b hb=>hb.elim (hH'.sS b) (fun hb=>(hex b hb).2.2),fun b hb=>hb.elim (hH'.sA b) (fun hb=>.inr (hex b hb).2.1),hH'.frame,hH'.size,hH'.os,hH'.tape,hH'.output,Base.nil h3,hH'.glob⟩,?_⟩;simp only [SVr];refine⟨[x0,x1],rfl,?_⟩;simp only [kK];refine⟨?_,?_,trivial⟩
      ·simp only [SVr];obtain⟨hbg,hz,ys,m1,m2⟩:=hob';have hmono:Rds (fun b=>S' b∨blk x0=some b) w' es ys:=Rds.mono (fun b hb _=>.inl hb) (fun _ _ _=>rfl) _ _ m2;rcases m1.2 with ⟨rfl,h0⟩ | ⟨g,cap,cur,rfl,hg0,hg,hnc,hcm,hcs,htake⟩
       ·have:es=[]:=List.eq_nil_of_length_eq_zero h0
        subst this;exact⟨[_],rfl,by simp only [Rd];exact⟨hbg,none,0,rfl,.inl trivial⟩⟩
       ·refine⟨[.slice (some ⟨g,0,none⟩) es.length cap],rfl,?_⟩;simp only [Rd];exact⟨hbg,_,cap - es.length,by rw [Nat.add_sub_cancel' hnc],.inr ⟨g,0,rfl,.inr rfl,RdE.of_Rds es ys 0 hz hmono (gNr m1 rfl)⟩⟩
      ·simp only [SVr] at hx1 ⊢;exact RdV.mono (fun b hb _=>.inl hb) (fun _ _ _=>rfl) hx1
theorem RdE.take{S:Nat→Prop}{w:World}{z b:Nat}:∀(us:List U)(off k:Nat),RdE S w z b off us→RdE S w z b off (us.take k)
 | _,_,0,_=>by simp [RdE]
 | [],_,_+1,_=>by simp [RdE]
 | u::us,off,k+1,h=>by
   simp only [RdE] at h;simp only [List.take_succ_cons,RdE];exact⟨h.1,RdE.take us (off+z) k h.2⟩
section
variable {P:Program}{σ:St}{dst:Option Nat}{ty T:TypeId}{pos:String}{af:Array Edge}{g:Option (Nat × Bool)}{x y h:Operand}
theorem hMc{α:Type}{en:α→U}{es:List α→List U}{z:Nat}[E:Enc α en es z]{e bs:Nat}{gg:Bool}{l:List α}{k:Int}(hk:0≤k∧k≤l.length) [TE P T e] [TI P e gg z bs](hx:σ.ev x=.d (.sl z (es l)):=by rfl)(hh:σ.ev h=.d (.i .i64 k):=by rfl) :
  QR P σ ⟨dst,.slice T x none (some h) none,ty,pos,af,g⟩ (.d (.sl z (es (l.take k.toNat)))):=fun A fr' L' he _=>Quiet.pure fun S env a w hH ho=>by
 have h1:=ho x (by simp [Op.operands]);have h2:=ho h (by simp [Op.operands]);rw [he x (by simp [Op.operands]),hx] at h1;rw [he h (by simp [Op.operands]),hh,SVr.int] at h2;rw [SVr.slice] at h1;obtain⟨hbg,base,cap,h3,h4⟩:=h1;have hlen:(es l).length=l.length:=Enc.len l;have htk:es (l.take k.toNat)=(es l).take k.toNat:=by rw [E.h,E.h,List.map_take]
 have hT:P.underlying T=some (.slice e):=zB TE.h;have hel:P.elem T=e:=by simp [Program.elem,hT]
 have hT':P.underlying T=some (.slice (P.elem T)):=by rw [hel];exact hT
 obtain⟨hk0,hk1⟩:=hk;have hkn:k.toNat≤(es l).length:=by omega
 have hrun:=run_slice_h (w:=w) T base (es l).length ((es l).length+cap) hT' .i64 k hk0 (by omega);have hsz:=run_sizeOf (w:=w) (TI.h:tyI P e=some (gg,z,bs));rw [hel,hsz] at hrun;simp only [Result.andThen] at hrun;refine⟨sliced base 0 k.toNat ((es l).length+cap) z,?_,?_⟩
 ·simp [execOp,h3,h2,Instr.sliceAt,run_underlying hT,hrun]
 ·rw [SVr.slice,htk];have htl:((es l).take k.toNat).length=k.toNat:=by rw [List.length_take];omega
  refine⟨by omega,?_⟩;rcases h4 with h4 | ⟨b,off,rfl,h5,h6⟩
  ·have hl0:(es l).length=0:=by rw [h4];rfl
   have hk2:k.toNat=0:=by omega
   refine⟨if 0+cap=0 then base else base.map (·.add (0*z)),cap,?_,.inl (by rw [h4];simp)⟩;rw [htl,hl0,hk2];simp [sliced]
  ·by_cases hc:(es l).length+cap=0
   ·have hk2:k.toNat=0:=by omega
    have hnil:(es l).take k.toNat=[]:=List.eq_nil_of_length_eq_zero (by omega);refine⟨some ⟨b,off,none⟩,0,?_,.inl hnil⟩;rw [htl,hc,hk2];simp [sliced]
   ·refine⟨some ⟨b,off,none⟩,(es l).length+cap - k.toNat,?_,.inr ⟨b,off,rfl,h5,RdE.take _ _ _ h6⟩⟩;rw [htl]
    have:k.toNat+((es l).length+cap - k.toNat)=(es l).length+cap:=by omega
    rw [this];simp [sliced,hc,Addr.add_lit]
end
section
variable {P:Program}{A:Amb}{ops:Array Oper}{K:St→Prop}{r:List (Nat × Bool)}{pf:PF}{fr:List (Nat × SV)}{L L1 L':List LO}{N i t m:Nat}
variable {ty:TypeId}{pos:String}{af:Array Edge}{x y:Operand}{T:TypeId}
theorem gLj {α:Type}{en:α→U}{es:List α→List U}{z:Nat}[E:Enc α en es z]{l':List α}(hg:l'.length≤4294967296){e bs:Nat}{gg:Bool} [TE P T e] [TI P e gg z bs] {zs:List Value} [TZ P e zs] {js:List Nat} {T':TypeId}
  (h:VY P A ops K r pf ⟨(t,.sl m 0)::fr,L',N⟩) (hi:ops[i]? =some ⟨some t,.call { callee:=.builtin .append,args:=#[x,y],argTypes:=#[T,T] },T',pos,af,none⟩:=by rfl) (hx:(St.mk fr L N).ev x=.nilsl:=by rfl) (hs:gWa L z ((St.mk fr L N).ev y) (es l') js:=by first | exact .own rfl | exact .nil | exact .data (Enc.all _) (vQ _) | exact .data (Enc.all _) (vR _))
  (hjs:decide js.Nodup=true:=by decide) (hz:(Nat.blt 0 z && zs.length==z)=true:=by rfl) (hb:Nat.ble bs 32768=true:=by rfl) (ht:Nat.blt t N=true:=by rfl) (hk1:KR js L L1:=by repeat constructor) (hL':Sn (.own e z 0 (es l')) L1 m L':=by repeat constructor)
  (hp:vE ops i L' pf:=by(repeat(first | exact vE.nil | (apply vE.keep;focus ((repeat constructor);done)) | (apply vE.dep;focus kernel_rfl)))):VY P A ops K ((i,false)::r) pf ⟨fr,L,N⟩:=by
 have h2:(es l').length=l'.length:=Enc.len l';have hb:=Nat.le_of_ble_eq_true hb;refine gFo hi (gRi hx hs hjs TE.h TI.h TZ.h hz (by rw [yC];omega) ?_ ht hk1 hL') hp h;rw [h2];exact Nat.le_trans (Nat.mul_le_mul hg hb) (by decide)
end
end Go.Eng
