import Derived.Test.YtfpdlnkkcnmebaaGreatEng46
import Derived.Lib.SliceRun
namespace Go.Eng
open Go Go.RowKit
section
variable {P:Program}{A:Amb}{Q:Exit→St→Prop}{c:Code}{σ:St}
theorem hMp {α:Type}(I:α→St)(J:α→Prop)(μ:α→Nat)(x0:α)(h0:Le σ (I x0))(hJ:J x0)
  (round:∀x,J x→V P A c (I x) (thenS (fun s=>∃y,J y∧μ y < μ x∧∀a w,mY A s a w→mY A (I y) a w) Q)) (hA:∀x,A.L0.length≤(I x).L.length:=by intro x;rw [gDv.h (A:=A)];exact Nat.le_of_ble_eq_true rfl):V P A (.loop c) σ Q:=by
 intro a w hr;refine wp_loop_ghost (fun n a w=>∃x,μ x=n∧J x∧mY A (I x) a w) (μ x0) ⟨x0,rfl,hJ,hr.le h0 (hA _)⟩ ?_;intro n a w ⟨x,hn,hx,hr⟩;refine wp_mono (round x hx a w hr) ?_;intro e a' w' ⟨s,hq,hs⟩;cases e with
 | normal=>
   obtain⟨y,hJy,hlt,hle⟩:=hq;exact⟨μ y,hn▸hlt,y,rfl,hJy,hle _ _ hs⟩
 | exit id=>exact⟨s,hq,hs⟩
 | goto l=>exact⟨s,hq,hs⟩
 | ret=>exact⟨s,hq,hs⟩
 | panic ch=>exact⟨s,hq,hs⟩
 | outgrown=>exact⟨s,hq,hs⟩
theorem gY9 {α0 α1 α2 α3 α4 α5 α6:Type}(I:α0→α1→α2→α3→α4→α5→α6→St)(J:α0→α1→α2→α3→α4→α5→α6→Prop)(μ:α0→α1→α2→α3→α4→α5→α6→Nat)(x0:α0)(x1:α1)(x2:α2)(x3:α3)(x4:α4)(x5:α5)(x6:α6)(h0:Le σ (I x0 x1 x2 x3 x4 x5 x6))(hJ:J x0 x1 x2 x3 x4 x5 x6)
  (round:∀a0 a1 a2 a3 a4 a5 a6,J a0 a1 a2 a3 a4 a5 a6→V P A c (I a0 a1 a2 a3 a4 a5 a6) (thenS (fun s=>∃b0 b1 b2 b3 b4 b5 b6,J b0 b1 b2 b3 b4 b5 b6∧μ b0 b1 b2 b3 b4 b5 b6 < μ a0 a1 a2 a3 a4 a5 a6∧∀a w,mY A s a w→mY A (I b0 b1 b2 b3 b4 b5 b6) a w) Q)) (hA:∀a0 a1 a2 a3 a4 a5 a6,A.L0.length≤(I a0 a1 a2 a3 a4 a5 a6).L.length:=by intros;rw [gDv.h (A:=A)];exact Nat.le_of_ble_eq_true rfl):V P A (.loop c) σ Q:=
 hMp (α:=α0 × α1 × α2 × α3 × α4 × α5 × α6) (fun x=>I (x.1) (x.2.1) (x.2.2.1) (x.2.2.2.1) (x.2.2.2.2.1) (x.2.2.2.2.2.1) (x.2.2.2.2.2.2)) (fun x=>J (x.1) (x.2.1) (x.2.2.1) (x.2.2.2.1) (x.2.2.2.2.1) (x.2.2.2.2.2.1) (x.2.2.2.2.2.2)) (fun x=>μ (x.1) (x.2.1) (x.2.2.1) (x.2.2.2.1) (x.2.2.2.2.1) (x.2.2.2.2.2.1) (x.2.2.2.2.2.2)) (x0,x1,x2,x3,x4,x5,x6) h0 hJ (fun x hx=>V.mono (round (x.1) (x.2.1) (x.2.2.1) (x.2.2.2.1) (x.2.2.2.2.1) (x.2.2.2.2.2.1) (x.2.2.2.2.2.2) hx) (fun e s hq=>by
  cases e with
  | normal=>
    obtain⟨b0,b1,b2,b3,b4,b5,b6,h1,h2,h3⟩:=hq;exact⟨(b0,b1,b2,b3,b4,b5,b6),h1,h2,h3⟩
  | _=>exact hq)) (fun x=>hA (x.1) (x.2.1) (x.2.2.1) (x.2.2.2.1) (x.2.2.2.2.1) (x.2.2.2.2.2.1) (x.2.2.2.2.2.2))
inductive AdT (n:Nat):SV→SV→Prop
 | one:AdT n .nilsl (.sl n 0)
 | ag {cs:List SV} (k:Nat) (h:cs[k]? =some .nilsl):AdT n (.ag cs) (.ag (cs.set k (.sl n 0)))
theorem mY.adT{a:Act}{w:World}{fr:List (Nat × SV)}{L:List LO}{N e z t:Nat}{sv':SV}(hs:AdT L.length (look fr t) sv')(h:mY A ⟨fr,L,N⟩ a w):mY A ⟨(t,sv')::fr,L++[.own e z 0 []],N⟩ a w:=by
 obtain⟨S,env,hH,hf,hN,hd⟩:=h;obtain⟨hH1,C1⟩:=hH.newO [] (.own e z 0 []) (.slice none 0 0) (Nat.le_refl _) (fun _ _=>rfl) rfl rfl rfl (fun b hb=>by simp only [LO.ft] at hb;rw [(Tr.nil w z).2] at hb;cases hb) (fun _=>gW7 e z 0);rw [gPt] at hH1 C1;have hnil:SVr S (L++[LO.own e z 0 []]) (env++[Value.slice none 0 0]) w (.sl L.length 0) (.slice none 0 0):=by
  simp only [SVr];exact⟨.slice none 0 0,.own e z 0 [],by rw [←hH.len];simp,by simp,Nat.le_refl _,rfl,fun _=>rfl⟩
 refine⟨S,_,hH1,fun t'=>?_,hN,hd⟩;have ht:=SVr.carry C1 _ _ (hf t');simp only at ht;by_cases he:t'=t
 ·subst he;simp only [Go.Eng.look,if_true];generalize look fr t'=sv at hs ht;cases hs with
  | one=>
    simp only [SVr] at ht;rw [ht];exact hnil
  | ag k hk=>
    simp only [SVr] at ht ⊢;obtain⟨vs,h1,h2⟩:=ht;rw [kP.iff] at h2;obtain⟨v,v1,v2⟩:=yZ.get h2 k _ hk;simp only [SVr] at v2;subst v2;refine⟨vs,h1,?_⟩;rw [kP.iff];have hset:=yZ.set k (.sl L.length 0) (.slice none 0 0) h2 hnil;have hk':k < vs.length:=(List.getElem?_eq_some_iff.1 v1).1
    have:vs.set k (.slice none 0 0)=vs:=by
     apply List.ext_getElem?;intro m;rw [List.getElem?_set];by_cases hm:k=m
     ·subst hm;rw [if_pos rfl,if_pos hk',v1]
     ·rw [if_neg hm]
    rwa [this] at hset
 ·simp only [Go.Eng.look,if_neg he];exact ht
theorem hV4 {fr:List (Nat × SV)}{L L':List LO}{N n:Nat}{sv':SV}(e z t:Nat)(h:V P A c ⟨(t,sv')::fr,L',N⟩ Q)(hn:Ln L n:=by repeat constructor)(hs:AdT n (look fr t) sv':=by first | exact AdT.one | exact AdT.ag 0 rfl | exact AdT.ag 1 rfl | exact AdT.ag 2 rfl | exact AdT.ag 3 rfl | exact AdT.ag 4 rfl | exact AdT.ag 5 rfl | exact AdT.ag 6 rfl | exact AdT.ag 7 rfl | exact AdT.ag 8 rfl)
  (h2:Jn L [.own e z 0 []] L':=by repeat constructor):V P A c ⟨fr,L,N⟩ Q:=by
 have e1:=hn.eq;have e4:=h2.spec;subst e1;subst e4;exact fun a w hr=>h a w (hr.adT hs)
end
section
variable {P:Program}{A:Amb}{σ:St}{dst:Option Nat}{ty:TypeId}{pos:String}{af:Array Edge}{g:Option (Nat × Bool)}{x:Operand}
end
section
variable {P:Program}{σ:St}
theorem hMq {fn:Func}{Q:SV→List LO→Prop}{n:Nat}(svs:List SV)(Lo:List LO)(hq:Q (mkG svs) Lo)(hL:∃L2,σ.L=Lo++L2:=by exact⟨_,rfl⟩)(hl:(LO.lts Lo.length Lo && SV.lts Lo.length svs && Nat.ble n Lo.length)=true:=by rfl)
  (hr:gXb P σ fn.results.toList svs:=by((repeat(first | exact .nil | refine .data rfl rfl ?_ | refine .same rfl ?_ | refine .same (gIv rfl rfl TI.h rfl rfl) ?_ | refine .same (ResV_one rfl rfl TI.h rfl) ?_ | refine .data (gIv rfl rfl TI.h rfl rfl) (by((repeat(first | exact trivial | exact rfl | exact⟨_,rfl⟩ | refine And.intro ?_ ?_));first | done | fail)) ?_ | refine .data (ResV_one rfl rfl TI.h rfl) (by((repeat(first | exact trivial | exact rfl | exact⟨_,rfl⟩ | refine And.intro ?_ ?_));first | done | fail)) ?_));first | done | fail)):pX P fn Q n .normal σ:=hXf svs Lo hq hL hl hr
theorem gAg {fn:Func}{Q:SV→List LO→Prop}{n:Nat}(svs:List SV)(Lo:List LO)(hq:Q (mkG svs) Lo)(hL:∃L2,σ.L=Lo++L2:=by exact⟨_,rfl⟩)(hl:(LO.lts Lo.length Lo && SV.lts Lo.length svs && Nat.ble n Lo.length)=true:=by rfl)
  (hr:gXb P σ fn.results.toList svs:=by((repeat(first | exact .nil | refine .data rfl rfl ?_ | refine .same rfl ?_ | refine .same (gIv rfl rfl TI.h rfl rfl) ?_ | refine .same (ResV_one rfl rfl TI.h rfl) ?_ | refine .data (gIv rfl rfl TI.h rfl rfl) (by((repeat(first | exact trivial | exact rfl | exact⟨_,rfl⟩ | refine And.intro ?_ ?_));first | done | fail)) ?_ | refine .data (ResV_one rfl rfl TI.h rfl) (by((repeat(first | exact trivial | exact rfl | exact⟨_,rfl⟩ | refine And.intro ?_ ?_));first | done | fail)) ?_));first | done | fail)):pX P fn Q n .ret σ:=hXg svs Lo hq hL hl hr
end
end Go.Eng
set_option linter.unusedVariables false
set_option linter.unusedSimpArgs false
namespace Go.Eng
open Go Go.RowKit
mutual
inductive Rv (j v q:Nat):SV→SV→Prop
 | sl:Rv j v q (.sl j v) (.sl j q)
 | ne {i ver:Nat} (h:(i==j)=false):Rv j v q (.sl i ver) (.sl i ver)
 | d {u:U}:Rv j v q (.d u) (.d u)
 | ptr {i off:Nat}:Rv j v q (.ptr i off) (.ptr i off)
 | dp {u:U}:Rv j v q (.dp u) (.dp u)
 | nil:Rv j v q .nilsl .nilsl
 | ag {cs cs':List SV} (h:Rvs j v q cs cs'):Rv j v q (.ag cs) (.ag cs')
 | tup {cs cs':List SV} (h:Rvs j v q cs cs'):Rv j v q (.tup cs) (.tup cs')
 | fn {f:Nat} {cs cs':List SV} (h:Rvs j v q cs cs'):Rv j v q (.fn f cs) (.fn f cs')
inductive Rvs (j v q:Nat):List SV→List SV→Prop
 | nil:Rvs j v q [] []
 | cons {a b:SV} {az bs:List SV} (h:Rv j v q a b) (h2:Rvs j v q az bs):Rvs j v q (a::az) (b::bs)
end
inductive RvO (j v q:Nat):Nat→LO→LO→Prop
 | own {e z:Nat} {es:List U}:RvO j v q j (.own e z v es) (.own e z q es)
 | arrj {e z:Nat} {es:List U}:RvO j v q j (.arr e z v es) (.arr e z q es)
 | box {i:Nat} {cs cs':List SV} (hi:(i==j)=false) (h:Rvs j v q cs cs'):RvO j v q i (.box cs) (.box cs')
 | owns {i e z ver:Nat} {es:List U} (hi:(i==j)=false):RvO j v q i (.own e z ver es) (.own e z ver es)
 | arr {i e z ver:Nat} {es:List U} (hi:(i==j)=false):RvO j v q i (.arr e z ver es) (.arr e z ver es)
 | frz {i e z ver:Nat} {es:List U} (hi:(i==j)=false):RvO j v q i (.frz e z ver es) (.frz e z ver es)
 | dead {i ver:Nat} (hi:(i==j)=false):RvO j v q i (.dead ver) (.dead ver)
inductive RvL (j v q:Nat):Nat→List LO→List LO→Prop
 | nil {i:Nat}:RvL j v q i [] []
 | cons {i:Nat} {a b:LO} {az bs:List LO} (h:RvO j v q i a b) (h2:RvL j v q (i+1) az bs):RvL j v q i (a::az) (b::bs)
inductive RvF (j v q:Nat):List (Nat × SV)→List (Nat × SV)→Prop
 | nil:RvF j v q [] []
 | cons {t:Nat} {a b:SV} {az bs:List (Nat × SV)} (h:Rv j v q a b) (h2:RvF j v q az bs):RvF j v q ((t,a)::az) ((t,b)::bs)
section
variable {j v q:Nat}{S:Nat→Prop}{L L':List LO}{env:List Value}{w:World}
theorem RvL.get:∀{i:Nat}{az bs:List LO},RvL j v q i az bs→az.length=bs.length∧∀(m:Nat)(b:LO),bs[m]? =some b→∃a,az[m]? =some a∧RvO j v q (i+m) a b
 | i,_,_,.nil=>⟨rfl,fun m b h=>by simp at h⟩
 | i,_,_,.cons (a:=a0) (b:=b0) (az:=az) (bs:=bs) h h2=>by
   obtain⟨k1,k2⟩:=RvL.get h2;refine⟨by simp [k1],fun m b hb=>?_⟩;cases m with
   | zero=>simp at hb;subst hb;exact⟨a0,by simp,by simpa using h⟩
   | succ m=>
     obtain⟨a,q1,q2⟩:=k2 m b (by simpa using hb);exact⟨a,by simpa using q1,by rwa [show i+(m+1)=i+1+m by omega]⟩
theorem RvF.look:∀{az bs:List (Nat × SV)},RvF j v q az bs→∀t,Go.Eng.look bs t=.junk∨Rv j v q (Go.Eng.look az t) (Go.Eng.look bs t)
 | _,_,.nil,t=>.inl rfl
 | _,_,.cons (t:=t0) h h2,t=>by
   simp only [Go.Eng.look];by_cases ht:t=t0
   ·simp only [ht,if_true];exact .inr h
   ·simp only [if_neg ht];exact RvF.look h2 t
mutual
theorem Rv.r(hj:∃o o':LO,L[j]? =some o∧L'[j]? =some o'∧o.ver=v∧o'.ver=q)(ho:∀(i:Nat)(o:LO),i≠j→L[i]? =some o→∃o',L'[i]? =some o'∧o'.ver=o.ver):∀{a b:SV}{x:Value},Rv j v q a b→SVr S L env w a x→SVr S L' env w b x
 | _,_,x,.sl,h=>by
   obtain⟨o1,o2,h1,h2,h3,h4⟩:=hj;simp only [SVr] at h ⊢;obtain⟨hv,o,k1,k2,k3,k4,k5⟩:=h;rw [h1] at k2;obtain rfl:=Option.some.inj k2;exact⟨hv,_,k1,h2,Nat.le_of_eq h4.symm,k4,fun _=>k5 h3.symm⟩
 | _,_,x,.ne hi,h=>by
   simp only [SVr] at h ⊢;obtain⟨hv,o,k1,k2,k3,k4,k5⟩:=h;obtain⟨o',q1,q2⟩:=ho _ o (by simpa using hi) k2;exact⟨hv,o',k1,q1,by rw [q2];exact k3,k4,by rw [q2];exact k5⟩
 | _,_,x,.d,h=>by simpa only [SVr] using h
 | _,_,x,.ptr,h=>by simpa only [SVr] using h
 | _,_,x,.dp,h=>by simpa only [SVr] using h
 | _,_,x,.nil,h=>by simpa only [SVr] using h
 | _,_,x,.ag hs,h=>by
   simp only [SVr] at h ⊢;obtain⟨vs,h1,h2⟩:=h;exact⟨vs,h1,Rvs.r hj ho hs h2⟩
 | _,_,x,.tup hs,h=>by
   simp only [SVr] at h ⊢;obtain⟨vs,h1,h2⟩:=h;exact⟨vs,h1,Rvs.r hj ho hs h2⟩
 | _,_,x,.fn hs,h=>by
   simp only [SVr] at h ⊢;obtain⟨vs,h1,h2⟩:=h;exact⟨vs,h1,Rvs.r hj ho hs h2⟩
theorem Rvs.r(hj:∃o o':LO,L[j]? =some o∧L'[j]? =some o'∧o.ver=v∧o'.ver=q)(ho:∀(i:Nat)(o:LO),i≠j→L[i]? =some o→∃o',L'[i]? =some o'∧o'.ver=o.ver):∀{az bs:List SV}{xs:List Value},Rvs j v q az bs→kP S L env w az xs→kP S L' env w bs xs
 | _,_,[],.nil,h=>by simp only [kP]
 | _,_,_::_,.nil,h=>by simp only [kP] at h
 | _,_,[],.cons _ _,h=>by simp only [kP] at h
 | _,_,_::_,.cons h1 h2,h=>by
   simp only [kP] at h ⊢;exact⟨Rv.r hj ho h1 h.1,Rvs.r hj ho h2 h.2⟩
end
theorem mY.rv{A:Amb}{a:Act}{fr fr':List (Nat × SV)}{N n:Nat}[hb:gDv A n](hn:n≤j)(hjl:j < L.length)(hL:RvL j v q 0 L L')(hfr:RvF j v q fr fr')(h:mY A ⟨fr,L,N⟩ a w):mY A ⟨fr',L',N⟩ a w:=by
 obtain⟨S,env,hH,hf,hN,hd⟩:=h;obtain⟨hlen,hget⟩:=hL.get;have hback:∀(m:Nat)(o:LO),L[m]? =some o→∃o',L'[m]? =some o'∧RvO j v q m o o':=by
  intro m o ho;have hm:m < L'.length:=by rw [←hlen];exact(List.getElem?_eq_some_iff.1 ho).1
  obtain⟨o0,k1,k2⟩:=hget m _ (List.getElem?_eq_getElem hm);rw [ho] at k1;obtain rfl:=Option.some.inj k1;exact⟨_,List.getElem?_eq_getElem hm,by simpa using k2⟩
 have hj:∃o o':LO,L[j]? =some o∧L'[j]? =some o'∧o.ver=v∧o'.ver=q:=by
  obtain⟨o',k1,k2⟩:=hback j _ (List.getElem?_eq_getElem hjl);generalize ho:L[j]=o at k2;have hoj:L[j]? =some o:=by rw [List.getElem?_eq_getElem hjl,ho]
  cases k2 with
  | own=>exact⟨_,_,hoj,k1,rfl,rfl⟩
  | arrj=>exact⟨_,_,hoj,k1,rfl,rfl⟩
  | box hi=>simp at hi
  | owns hi=>simp at hi
  | arr hi=>simp at hi
  | frz hi=>simp at hi
  | dead hi=>simp at hi
 have ho:∀(i:Nat)(o:LO),i≠j→L[i]? =some o→∃o',L'[i]? =some o'∧o'.ver=o.ver:=by
  intro i o hi h;obtain⟨o',k1,k2⟩:=hback i o h;refine⟨o',k1,?_⟩;cases k2 with
  | own=>exact absurd rfl hi
  | arrj=>exact absurd rfl hi
  | _=>rfl
 have hlive:∀{i:Nat}{o o':LO},RvO j v q i o o'→o'.live=o.live∧∀hv b,o'.ft w hv b↔o.ft w hv b:=by
  intro i o o' h;cases h with
  | _=>exact⟨rfl,fun _ _=>Iff.rfl⟩
 refine⟨S,env,⟨by rw [←hlen];exact hH.len,fun i o' hv h1 h2=>?_,fun i o' hv b h1 h2 h3 h4=>?_,fun i k o1 o2 hv1 hv2 b h1 h2 h3 h4 h5 h6 h7 h8=>?_,hH.sS,hH.sA,hH.frame,hH.size,hH.os,hH.tape,hH.output,?_,hH.glob⟩,fun t=>?_,hN,hd⟩
 ·obtain⟨o,k1,k2⟩:=hget i o' h1;simp only [Nat.zero_add] at k2;have hob:=hH.objs i o hv k1 h2;cases k2 with
  | own=>exact hob
  | arrj=>exact hob
  | owns hi=>exact hob
  | arr hi=>exact hob
  | frz hi=>exact hob
  | dead hi=>exact hob
  | box hi hs=>
    obtain⟨b,vals,e,r1,r2,r3,r4⟩:=hob;exact⟨b,vals,e,r1,r2,Rvs.r hj ho hs r3,r4⟩
 ·obtain⟨o,k1,k2⟩:=hget i o' h1;obtain⟨q1,q2⟩:=hlive k2;exact hH.excl i o hv b k1 (by rw [←q1];exact h2) h3 ((q2 hv b).1 h4)
 ·obtain⟨p1,k1,k2⟩:=hget i o1 h1;obtain⟨p2,k3,k4⟩:=hget k o2 h2;obtain⟨q1,q2⟩:=hlive k2;obtain⟨q3,q4⟩:=hlive k4;exact hH.dist i k p1 p2 hv1 hv2 b k1 k3 (by rw [←q1];exact h3) (by rw [←q3];exact h4) h5 h6 ((q2 _ _).1 h7) ((q4 _ _).1 h8)
 ·refine⟨by rw [←hlen];exact hH.base.1,fun i hv o hv' o' h1 h2 h3 h4=>?_⟩;have hi:i < n:=by rw [←hb.h];exact(List.getElem?_eq_some_iff.1 h2).1
  obtain⟨o0,k1,k2⟩:=hget i o' h4;obtain⟨o1,k3,k4⟩:=ho i o0 (by omega) k1;rw [h4] at k3;obtain rfl:=Option.some.inj k3
  have:=hH.base.2 i hv o hv' o0 h1 h2 h3 k1
  rw [k4];exact this
 ·rcases hfr.look t with hjk | hr
  ·show SVr S L' env w (Go.Eng.look fr' t) _;rw [hjk];simp only [SVr]
  ·exact Rv.r hj ho hr (hf t)
end
theorem hR7 {P:Program}{A:Amb}{c:Code}{Q:Exit→St→Prop}{fr fr':List (Nat × SV)}{L L':List LO}{N v q:Nat}(n:Nat) [gDv A n] (j:Nat) (h:V P A c ⟨fr',L',N⟩ Q)
  (hL:RvL j v q 0 L L':=by(repeat(first | exact Rv.sl | exact Rv.ne rfl | exact Rv.d | exact RvO.own | exact RvO.arrj | refine RvO.box rfl ?_ | exact RvO.owns rfl | exact RvO.arr rfl | exact RvO.frz rfl | exact RvO.dead rfl | constructor));first | done | fail)
  (hfr:RvF j v q fr fr':=by(repeat(first | exact Rv.sl | exact Rv.ne rfl | exact Rv.d | constructor));first | done | fail) (hn:(Nat.ble n j && Nat.blt j L.length)=true:=by rfl):V P A c ⟨fr,L,N⟩ Q:=by
 simp only [Bool.and_eq_true,Nat.blt_eq] at hn;exact fun a w hr=>h a w (hr.rv (n:=n) (Nat.le_of_ble_eq_true hn.1) hn.2 hL hfr)
section
variable {P:Program}{A:Amb}{ops:Array Oper}{K:St→Prop}{r:List (Nat × Bool)}{pf:PF}{fr:List (Nat × SV)}{L L':List LO}{N i t:Nat}{sv:SV}
variable {ty:TypeId}{pos:String}{af:Array Edge}
theorem hEg {f:Operand}{fi:Nat}{caps:List SV}{args:Array Operand}{at_:Array TypeId}{cargs:List SV}{Lc Lo:List LO}{sv0:SV}(js:List Nat)(hspec:Spec P fi cargs Lc (fun sv Lo'=>sv=sv0∧Lo'=Lo))
  (hsv:sv0.ren (rn js L.length)=sv) (hL':gI1 js (Lo.map (LO.ren (rn js L.length))) L=L')
  (hf:(St.mk fr L N).ev f=.fn fi caps) (hp:gOr L (rn js L.length) 0 Lc)
  (hjs:(decide js.Nodup && (js.all fun j=>Nat.blt j L.length) && js.length==Lc.length && LO.lts Lc.length Lc)=true)
  (hargs:AGs L (rn js L.length) Lc.length (args.toList.map (St.mk fr L N).ev++caps) cargs) (ht:Nat.blt t N=true) :
  HSt P A ops ⟨fr,L,N⟩ ⟨some t,.call { callee:=.value f,args:=args,argTypes:=at_ },ty,pos,af,none⟩ sv L':=by
 intro fr' he K hK;have hm:args.toList.map (St.mk fr' L N).ev=args.toList.map (St.mk fr L N).ev:=List.map_congr_left fun x hx=>he x (by simp only [Op.operands,Call.operands];simp;exact .inr (by simpa using hx));refine gBz (caps:=caps) js hspec ?_ (by rw [he f (by simp [Op.operands,Call.operands])];exact hf) hp hjs (by rw [hm];exact hargs) ht;rintro _ _ ⟨rfl,rfl⟩;rw [hsv,hL'];exact gDc hK
theorem gDm {f:Operand}{fi:Nat}{caps:List SV}{args:Array Operand}{at_:Array TypeId}{cargs:List SV}{Lc Lo:List LO}{sv0:SV}(js:List Nat)(hspec:Spec P fi cargs Lc (fun sv Lo'=>sv=sv0∧Lo'=Lo))(h:VY P A ops K r pf ⟨(t,sv)::fr,L',N⟩)
  (hi:ops[i]? =some ⟨some t,.call { callee:=.value f,args:=args,argTypes:=at_ },ty,pos,af,none⟩:=by rfl) (hsv:sv0.ren (rn js L.length)=sv:=by rfl) (hL':gI1 js (Lo.map (LO.ren (rn js L.length))) L=L':=by rfl)
  (hf:(St.mk fr L N).ev f=.fn fi caps:=by rfl) (hp:gOr L (rn js L.length) 0 Lc:=by((repeat(first | exact trivial | exact rfl | refine And.intro ?_ ?_));first | done | fail))
  (hjs:(decide js.Nodup && (js.all fun j=>Nat.blt j L.length) && js.length==Lc.length && LO.lts Lc.length Lc)=true:=by rfl)
  (hargs:AGs L (rn js L.length) Lc.length (args.toList.map (St.mk fr L N).ev++caps) cargs:=by((repeat(first | exact trivial | exact .inl ⟨rfl,rfl⟩ | exact .inr ⟨_,rfl,by((repeat(first | exact trivial | exact rfl | exact⟨_,rfl⟩ | refine And.intro ?_ ?_));first | done | fail)⟩ | refine And.intro ?_ ?_));first | done | fail))
  (ht:Nat.blt t N=true:=by rfl) (hpf:vU ops i L' pf:=by(repeat(first | exact vU.nil | (apply vU.keep;focus ((repeat constructor);done)) | (apply vU.dep;focus kernel_rfl)))) :
  VY P A ops K ((i,false)::r) pf ⟨fr,L,N⟩:=gE5 hi (hEg js hspec hsv hL' hf hp hjs hargs ht) hpf h
end
section
variable {P:Program}{A:Amb}{ops:Array Oper}{K:St→Prop}{rest:List Oper}{fr:List (Nat × SV)}{L:List LO}{N t:Nat}{sv:SV}{ty:TypeId}{pos:String}{af:Array Edge}{op:Op}
end
section
variable {P:Program}{A:Amb}{σ:St}{dst:Option Nat}{ty T T':TypeId}{pos:String}{af:Array Edge}{g:Option (Nat × Bool)}{x y:Operand}
end
section
variable {P:Program}{A:Amb}{σ:St}{dst:Option Nat}{ty T T':TypeId}{pos:String}{af:Array Edge}{g:Option (Nat × Bool)}{x y:Operand}
theorem hKp{m n r:Int}(hr:IntKind.i64.wrap (m.tdiv n)=r)(hx:σ.ev x=.d (.i .i64 m):=by rfl)(hy:σ.ev y=.d (.i .i64 n):=by rfl)(hn:decide (0 < n)=true:=by rfl):Quiet P A σ ⟨dst,.binOp .quo T x y T',ty,pos,af,g⟩ (.d (.i .i64 r)):=Quiet.pure fun S env a w hH ho=>by
 have h1:=ho x (by simp [Op.operands]);have h2:=ho y (by simp [Op.operands]);rw [hx,SVr.int] at h1;rw [hy,SVr.int] at h2;have h0:¬n=0:=by have:=of_decide_eq_true hn;omega
 subst hr;exact⟨_,by simp [execOp,h1,h2,eqGuard,binOp,Op.intDiv,h0],SVr.int.2 rfl⟩
theorem hPc{m n:Int}(hx:σ.ev x=.d (.i .i64 m):=by rfl)(hy:σ.ev y=.d (.i .i64 n):=by rfl)(hn:decide (0 < n)=true:=by rfl):Quiet P A σ ⟨dst,.binOp .rem T x y T',ty,pos,af,g⟩ (.d (.i .i64 (m.tmod n))):=Quiet.pure fun S env a w hH ho=>by
 have h1:=ho x (by simp [Op.operands]);have h2:=ho y (by simp [Op.operands]);rw [hx,SVr.int] at h1;rw [hy,SVr.int] at h2;have h0:¬n=0:=by have:=of_decide_eq_true hn;omega
 exact⟨_,by simp [execOp,h1,h2,eqGuard,binOp,Op.intDiv,h0],SVr.int.2 rfl⟩
theorem zB{a b:LB}(hl:a.length+b.length≤4294967296)(hx:σ.ev x=.d (.s a):=by rfl)(hy:σ.ev y=.d (.s b):=by rfl):QR P σ ⟨dst,.binOp .add T x y T',ty,pos,af,g⟩ (.d (.s (a++b))):=
 fun A fr' L' he _=>hOx (by rw [he x (by simp [Op.operands])];exact hx) (by rw [he y (by simp [Op.operands])];exact hy) (by rw [yY];omega)
end
def hPd(a:UInt8):U:=.i .u8 (a.toNat:Int)
def gD6:LB→List U
 | []=>[]
 | a::l=>.i .u8 (a.toNat:Int)::gD6 l
instance:Enc UInt8 hPd gD6 1:=⟨fun l=>by induction l with | nil=>rfl | cons a l ih=>simp [gD6,ih,hPd],fun _=>rfl⟩
theorem hMr{l:LB}{k:Nat}{x:UInt8}(h:l[k]? =some x):(gD6 l)[k]? =some (.i .u8 (x.toNat:Int)):=Enc.get h
structure gK where
 b:LB
 i:Int
 h:Int
def hBs(m n:Int):Int:=IntKind.i64.wrap (BitVec.ofInt 64 m &&& BitVec.ofInt 64 n).toNat
def hPe(m n:Int):Int:=IntKind.i64.wrap (BitVec.ofInt 64 m ^^^ BitVec.ofInt 64 n).toNat
def hIm(m n:Int):Int:=m.fdiv (2^(min n.toNat 64))
theorem gPx(m:Int):0≤hBs m 255∧hBs m 255≤255:=by
 have h:(BitVec.ofInt 64 m &&& BitVec.ofInt 64 255).toNat≤255:=by
  rw [BitVec.toNat_and];exact Nat.and_le_right
 unfold hBs;rw [zV _ (by omega) (by omega)];omega
section
variable {P:Program}{A:Amb}{σ:St}{dst:Option Nat}{ty T T':TypeId}{pos:String}{af:Array Edge}{g:Option (Nat × Bool)}{x y:Operand}
theorem hEh:QR P σ ⟨dst,.assign (.const (.pointer none)),ty,pos,af,g⟩ .junk:=
 fun A fr' L' he _=>Quiet.pure fun S env a w hH ho=>⟨.pointer none,by simp [execOp,Act.eval],by simp only [SVr]⟩
theorem hEj{m n:Int}(hx:σ.ev x=.d (.i .i64 m):=by rfl)(hy:σ.ev y=.d (.i .i64 n):=by rfl):QR P σ ⟨dst,.binOp .and T x y T',ty,pos,af,g⟩ (.d (.i .i64 (hBs m n))):=
 fun A fr' L' he _=>Quiet.pure fun S env a w hH ho=>by
  have h1:=ho x (by simp [Op.operands]);have h2:=ho y (by simp [Op.operands]);rw [he x (by simp [Op.operands]),hx,SVr.int] at h1;rw [he y (by simp [Op.operands]),hy,SVr.int] at h2;exact⟨_,by simp [execOp,h1,h2,eqGuard,binOp,Op.intBits];rfl,SVr.int.2 rfl⟩
theorem hPf{m n:Int}(hx:σ.ev x=.d (.i .i64 m):=by rfl)(hy:σ.ev y=.d (.i .i64 n):=by rfl):QR P σ ⟨dst,.binOp .xor T x y T',ty,pos,af,g⟩ (.d (.i .i64 (hPe m n))):=
 fun A fr' L' he _=>Quiet.pure fun S env a w hH ho=>by
  have h1:=ho x (by simp [Op.operands]);have h2:=ho y (by simp [Op.operands]);rw [he x (by simp [Op.operands]),hx,SVr.int] at h1;rw [he y (by simp [Op.operands]),hy,SVr.int] at h2;exact⟨_,by simp [execOp,h1,h2,eqGuard,binOp,Op.intBits];rfl,SVr.int.2 rfl⟩
theorem hKq{m n:Int}{k:IntKind}(hx:σ.ev x=.d (.i .i64 m):=by rfl)(hy:σ.ev y=.d (.i k n):=by rfl)(hn:decide (0≤n)=true:=by rfl):QR P σ ⟨dst,.binOp .shr T x y T',ty,pos,af,g⟩ (.d (.i .i64 (hIm m n))):=
 fun A fr' L' he _=>Quiet.pure fun S env a w hH ho=>by
  have h1:=ho x (by simp [Op.operands]);have h2:=ho y (by simp [Op.operands]);rw [he x (by simp [Op.operands]),hx,SVr.int] at h1;rw [he y (by simp [Op.operands]),hy,SVr.int] at h2;have h0:¬n < 0:=by have:=of_decide_eq_true hn;omega
  exact⟨_,by simp [execOp,h1,h2,eqGuard,binOp,Op.shift,h0];rfl,SVr.int.2 rfl⟩
theorem hEm{m n:Int}(h0:n≠0)(hx:σ.ev x=.d (.i .i64 m):=by rfl)(hy:σ.ev y=.d (.i .i64 n):=by rfl):QR P σ ⟨dst,.binOp .rem T x y T',ty,pos,af,g⟩ (.d (.i .i64 (m.tmod n))):=
 fun A fr' L' he _=>Quiet.pure fun S env a w hH ho=>by
  have h1:=ho x (by simp [Op.operands]);have h2:=ho y (by simp [Op.operands]);rw [he x (by simp [Op.operands]),hx,SVr.int] at h1;rw [he y (by simp [Op.operands]),hy,SVr.int] at h2;exact⟨_,by simp [execOp,h1,h2,eqGuard,binOp,Op.intDiv,h0],SVr.int.2 rfl⟩
theorem hMu{T2:TypeId}{k k1 k2:IntKind}{m:Int}(h1:P.underlying T=some (.int k1))(h2:P.underlying T2=some (.int k2))(hx:σ.ev x=.d (.i k m):=by rfl):QR P σ ⟨dst,.convert T T2 x,ty,pos,af,g⟩ (.d (.i k2 (k2.wrap m))):=
 fun A fr' L' he _=>gXa (by rw [he x (by simp [Op.operands])];exact hx) h1 h2
end
theorem Rds.split{S:Nat→Prop}{w:World}:∀(us:List U)(vs:List U)(cs:List Value),Rds S w (us++vs) cs→∃c1 c2,cs=c1++c2∧Rds S w us c1∧Rds S w vs c2
 | [],vs,cs,h=>⟨[],cs,rfl,by simp only [Rds],h⟩
 | u::us,vs,cs,h=>by
   simp only [List.cons_append,Rds] at h;obtain⟨c1,c2,rfl,h1,h2⟩:=h;obtain⟨d1,d2,rfl,h3,h4⟩:=Rds.split us vs c2 h2;exact⟨c1++d1,d2,by rw [List.append_assoc],by simp only [Rds];exact⟨c1,d1,rfl,h1,h3⟩,h4⟩
section
variable {P:Program}{A:Amb}{σ:St}{K:St→Prop}{Q:Exit→St→Prop}
variable {ops:Array Oper}{rest:List Oper}{t:Nat}{ty:TypeId}{pos:String}{af:Array Edge}{x y:Operand}{sv:SV}{dst:Option Nat}{g:Option (Nat × Bool)}
theorem hIo{T T' e:TypeId}{z:Nat}{us:List U}{fr:List (Nat × SV)}{L:List LO}{N:Nat} [TE P T e](h:∀b:Bool,(b=true→us=[])→VO P A ops rest ⟨(t,.d (.b b))::fr,L,N⟩ K)(hx:(St.mk fr L N).ev x=.d (.sl z us):=by rfl)(ht:Nat.blt t N=true:=by rfl) :
  VO P A ops (⟨some t,.binOp .eql T x (.const (.slice none 0 0)) T',ty,pos,af,none⟩::rest) ⟨fr,L,N⟩ K:=by
 intro R hR a w ⟨S,env,hH,hf,hN,hd⟩;have h1:=mY.ev hf hH x;rw [hx,SVr.slice] at h1;obtain⟨_,base,cap,h1,h2⟩:=h1;refine wpList_plain rfl fun K' hK'=>?_;have hT:P.underlying T=some (.slice e):=zN TE.h;have hrun:(execOp a.eval ⟨some t,.binOp .eql T x (.const (.slice none 0 0)) T',ty,pos,af,none⟩).run P w=.ok (.value (.bool base.isNone)) w:=by
  have h0:a.eval (.const (.slice none 0 0))=.slice none 0 0:=rfl;simp [execOp,h1,h0,eqGuard,Lib.run_eql_slice_nil w T e base us.length (us.length+cap) 0 0 hT]
 unfold Oper.wp;rw [hrun];refine hK' _ _ (h base.isNone (fun hb=>?_) R hR _ _ (uU (σ:=⟨fr,L,N⟩) hf hN hd ht hH Carry.refl (SVr.bool.2 rfl)));rcases h2 with h2 | ⟨b,off,rfl,_⟩
 ·exact h2
 ·cases hb
end
section
variable {P:Program}{A:Amb}{ops:Array Oper}{K:St→Prop}{r:List (Nat × Bool)}{pf:PF}{fr:List (Nat × SV)}{L L1 L':List LO}{N i t m:Nat}
variable {ty:TypeId}{pos:String}{af:Array Edge}{x y:Operand}{T:TypeId}
theorem kF {op:Op}{sv:SV}(hv:VY P A ops K r pf ⟨(t,sv)::fr,L,N⟩)(hi:ops[i]? =some ⟨some t,op,ty,pos,af,none⟩:=by rfl)(h:QF P ops ⟨some t,op,ty,pos,af,none⟩ ⟨fr,L,N⟩ t sv:=by(repeat(first | exact Rng.mk (by omega) (by omega) | constructor));first | done | fail)
  (hp:vU ops i L pf:=by(repeat(first | exact vU.nil | (apply vU.keep;focus ((repeat constructor);done)) | (apply vU.dep;focus kernel_rfl)))):VY P A ops K ((i,false)::r) pf ⟨fr,L,N⟩:=by
 refine gE5 hi (fun fr' he' K' hK=>?_) hp hv;obtain⟨h1,_,h3 | h3⟩:=h.pst (A:=A)
 ·exact hO7 (h3.2 fr' L he' (gQ8.refl _)) (h1 t rfl) (gDc hK)
 ·exact absurd h3.1 (by simp [Gd])
end
end Go.Eng
