import Derived.Test.YtegahmhnmjnhhaaGreatEng35
import Derived.Test.YtegahmhnmjnhhaaGreatProg
set_option linter.unusedVariables false
set_option linter.unusedSimpArgs false
namespace Go.Eng
open Go Go.RowKit
theorem qA{α β:Type}{v:α}{k:α→β}{r:β}(h:lt_ v k=r):∃x,v=x∧k x=r:=⟨v,rfl,h⟩
section
variable {l:LB}{k n:Nat}
theorem hUu(h:decide ((k:Int) < (l.length:Int))=true):k < l.length:=by have h:=of_decide_eq_true h;omega
theorem hUv(h:decide ((k:Int) < (l.length:Int))=false):l.length≤k:=by have h:=of_decide_eq_false h;omega
theorem uR(h:decide ((k:Int) < (n:Int))=true):k < n:=by have h:=of_decide_eq_true h;omega
theorem uS(h:decide ((k:Int) < (n:Int))=false):n≤k:=by have h:=of_decide_eq_false h;omega
end
section
variable {P:Program}{A:Amb}{ops:Array Oper}{K:St→Prop}{Q:Exit→St→Prop}{rest:List Oper}{σ:St}{c:Code}
theorem jT(σJ:St)(h1:VO P A ops rest σ (fun s=>Le s σJ))(h2:K σJ)(hA:A.L0.length≤σJ.L.length:=by rw [gDl.h (A:=A)];exact Nat.le_of_ble_eq_true rfl):VO P A ops rest σ K:=
 fun R hR a w hr=>h1 R (fun σ' a' w' hle hr'=>hR σJ a' w' h2 (hr'.le hle hA)) a w hr
theorem hV5{x y:Code}(σJ:St)(h1:V P A x σ (thenS (fun s=>Le s σJ) Q))(h2:V P A y σJ Q)(hA:A.L0.length≤σJ.L.length:=by rw [gDl.h (A:=A)];exact Nat.le_of_ble_eq_true rfl):V P A (.seq x y) σ Q:=
 jY (V.mono h1 (fun e s hq=>by
  cases e with
  | normal=>exact jA9 hq h2 hA
  | _=>exact hq))
theorem mV {α0:Type}(I:α0→St)(J:α0→Prop)(μ:α0→Nat)(x0:α0)(h0:Le σ (I x0))(hJ:J x0)
  (round:∀a0,J a0→V P A c (I a0) (thenS (fun s=>∃b0,J b0∧μ b0 < μ a0∧Le s (I b0)) Q)) (hA:∀a0,A.L0.length≤(I a0).L.length:=by intros;rw [gDl.h (A:=A)];exact Nat.le_of_ble_eq_true rfl):V P A (.loop c) σ Q:=
 gQc (α:=α0) (fun x=>I (x)) (fun x=>J (x)) (fun x=>μ (x)) (x0) h0 hJ (fun x hx=>V.mono (round (x) hx) (fun e s hq=>by
  cases e with
  | normal=>
    obtain⟨b0,h1,h2,h3⟩:=hq;exact⟨(b0),h1,h2,h3⟩
  | _=>exact hq)) (fun x=>hA (x))
theorem gEe {α0 α1:Type}(I:α0→α1→St)(J:α0→α1→Prop)(μ:α0→α1→Nat)(x0:α0)(x1:α1)(h0:Le σ (I x0 x1))(hJ:J x0 x1)
  (round:∀a0 a1,J a0 a1→V P A c (I a0 a1) (thenS (fun s=>∃b0 b1,J b0 b1∧μ b0 b1 < μ a0 a1∧Le s (I b0 b1)) Q)) (hA:∀a0 a1,A.L0.length≤(I a0 a1).L.length:=by intros;rw [gDl.h (A:=A)];exact Nat.le_of_ble_eq_true rfl):V P A (.loop c) σ Q:=
 gQc (α:=α0 × α1) (fun x=>I (x.1) (x.2)) (fun x=>J (x.1) (x.2)) (fun x=>μ (x.1) (x.2)) (x0,x1) h0 hJ (fun x hx=>V.mono (round (x.1) (x.2) hx) (fun e s hq=>by
  cases e with
  | normal=>
    obtain⟨b0,b1,h1,h2,h3⟩:=hq;exact⟨(b0,b1),h1,h2,h3⟩
  | _=>exact hq)) (fun x=>hA (x.1) (x.2))
theorem kS {α0 α1 α2:Type}(I:α0→α1→α2→St)(J:α0→α1→α2→Prop)(μ:α0→α1→α2→Nat)(x0:α0)(x1:α1)(x2:α2)(h0:Le σ (I x0 x1 x2))(hJ:J x0 x1 x2)
  (round:∀a0 a1 a2,J a0 a1 a2→V P A c (I a0 a1 a2) (thenS (fun s=>∃b0 b1 b2,J b0 b1 b2∧μ b0 b1 b2 < μ a0 a1 a2∧Le s (I b0 b1 b2)) Q)) (hA:∀a0 a1 a2,A.L0.length≤(I a0 a1 a2).L.length:=by intros;rw [gDl.h (A:=A)];exact Nat.le_of_ble_eq_true rfl):V P A (.loop c) σ Q:=
 gQc (α:=α0 × α1 × α2) (fun x=>I (x.1) (x.2.1) (x.2.2)) (fun x=>J (x.1) (x.2.1) (x.2.2)) (fun x=>μ (x.1) (x.2.1) (x.2.2)) (x0,x1,x2) h0 hJ (fun x hx=>V.mono (round (x.1) (x.2.1) (x.2.2) hx) (fun e s hq=>by
  cases e with
  | normal=>
    obtain⟨b0,b1,b2,h1,h2,h3⟩:=hq;exact⟨(b0,b1,b2),h1,h2,h3⟩
  | _=>exact hq)) (fun x=>hA (x.1) (x.2.1) (x.2.2))
theorem gWe {α0 α1 α2 α3 α4:Type}(I:α0→α1→α2→α3→α4→St)(J:α0→α1→α2→α3→α4→Prop)(μ:α0→α1→α2→α3→α4→Nat)(x0:α0)(x1:α1)(x2:α2)(x3:α3)(x4:α4)(h0:Le σ (I x0 x1 x2 x3 x4))(hJ:J x0 x1 x2 x3 x4)
  (round:∀a0 a1 a2 a3 a4,J a0 a1 a2 a3 a4→V P A c (I a0 a1 a2 a3 a4) (thenS (fun s=>∃b0 b1 b2 b3 b4,J b0 b1 b2 b3 b4∧μ b0 b1 b2 b3 b4 < μ a0 a1 a2 a3 a4∧Le s (I b0 b1 b2 b3 b4)) Q)) (hA:∀a0 a1 a2 a3 a4,A.L0.length≤(I a0 a1 a2 a3 a4).L.length:=by intros;rw [gDl.h (A:=A)];exact Nat.le_of_ble_eq_true rfl):V P A (.loop c) σ Q:=
 gQc (α:=α0 × α1 × α2 × α3 × α4) (fun x=>I (x.1) (x.2.1) (x.2.2.1) (x.2.2.2.1) (x.2.2.2.2)) (fun x=>J (x.1) (x.2.1) (x.2.2.1) (x.2.2.2.1) (x.2.2.2.2)) (fun x=>μ (x.1) (x.2.1) (x.2.2.1) (x.2.2.2.1) (x.2.2.2.2)) (x0,x1,x2,x3,x4) h0 hJ (fun x hx=>V.mono (round (x.1) (x.2.1) (x.2.2.1) (x.2.2.2.1) (x.2.2.2.2) hx) (fun e s hq=>by
  cases e with
  | normal=>
    obtain⟨b0,b1,b2,b3,b4,h1,h2,h3⟩:=hq;exact⟨(b0,b1,b2,b3,b4),h1,h2,h3⟩
  | _=>exact hq)) (fun x=>hA (x.1) (x.2.1) (x.2.2.1) (x.2.2.2.1) (x.2.2.2.2))
theorem hJ4 {α0 α1 α2 α3 α4 α5 α6:Type}(I:α0→α1→α2→α3→α4→α5→α6→St)(J:α0→α1→α2→α3→α4→α5→α6→Prop)(μ:α0→α1→α2→α3→α4→α5→α6→Nat)(x0:α0)(x1:α1)(x2:α2)(x3:α3)(x4:α4)(x5:α5)(x6:α6)(h0:Le σ (I x0 x1 x2 x3 x4 x5 x6))(hJ:J x0 x1 x2 x3 x4 x5 x6)
  (round:∀a0 a1 a2 a3 a4 a5 a6,J a0 a1 a2 a3 a4 a5 a6→V P A c (I a0 a1 a2 a3 a4 a5 a6) (thenS (fun s=>∃b0 b1 b2 b3 b4 b5 b6,J b0 b1 b2 b3 b4 b5 b6∧μ b0 b1 b2 b3 b4 b5 b6 < μ a0 a1 a2 a3 a4 a5 a6∧Le s (I b0 b1 b2 b3 b4 b5 b6)) Q)) (hA:∀a0 a1 a2 a3 a4 a5 a6,A.L0.length≤(I a0 a1 a2 a3 a4 a5 a6).L.length:=by intros;rw [gDl.h (A:=A)];exact Nat.le_of_ble_eq_true rfl):V P A (.loop c) σ Q:=
 gQc (α:=α0 × α1 × α2 × α3 × α4 × α5 × α6) (fun x=>I (x.1) (x.2.1) (x.2.2.1) (x.2.2.2.1) (x.2.2.2.2.1) (x.2.2.2.2.2.1) (x.2.2.2.2.2.2)) (fun x=>J (x.1) (x.2.1) (x.2.2.1) (x.2.2.2.1) (x.2.2.2.2.1) (x.2.2.2.2.2.1) (x.2.2.2.2.2.2)) (fun x=>μ (x.1) (x.2.1) (x.2.2.1) (x.2.2.2.1) (x.2.2.2.2.1) (x.2.2.2.2.2.1) (x.2.2.2.2.2.2)) (x0,x1,x2,x3,x4,x5,x6) h0 hJ (fun x hx=>V.mono (round (x.1) (x.2.1) (x.2.2.1) (x.2.2.2.1) (x.2.2.2.2.1) (x.2.2.2.2.2.1) (x.2.2.2.2.2.2) hx) (fun e s hq=>by
  cases e with
  | normal=>
    obtain⟨b0,b1,b2,b3,b4,b5,b6,h1,h2,h3⟩:=hq;exact⟨(b0,b1,b2,b3,b4,b5,b6),h1,h2,h3⟩
  | _=>exact hq)) (fun x=>hA (x.1) (x.2.1) (x.2.2.1) (x.2.2.2.1) (x.2.2.2.2.1) (x.2.2.2.2.2.1) (x.2.2.2.2.2.2))
theorem hTm {α0 α1 α2 α3 α4 α5 α6 α7:Type}(I:α0→α1→α2→α3→α4→α5→α6→α7→St)(J:α0→α1→α2→α3→α4→α5→α6→α7→Prop)(μ:α0→α1→α2→α3→α4→α5→α6→α7→Nat)(x0:α0)(x1:α1)(x2:α2)(x3:α3)(x4:α4)(x5:α5)(x6:α6)(x7:α7)(h0:Le σ (I x0 x1 x2 x3 x4 x5 x6 x7))(hJ:J x0 x1 x2 x3 x4 x5 x6 x7)
  (round:∀a0 a1 a2 a3 a4 a5 a6 a7,J a0 a1 a2 a3 a4 a5 a6 a7→V P A c (I a0 a1 a2 a3 a4 a5 a6 a7) (thenS (fun s=>∃b0 b1 b2 b3 b4 b5 b6 b7,J b0 b1 b2 b3 b4 b5 b6 b7∧μ b0 b1 b2 b3 b4 b5 b6 b7 < μ a0 a1 a2 a3 a4 a5 a6 a7∧Le s (I b0 b1 b2 b3 b4 b5 b6 b7)) Q)) (hA:∀a0 a1 a2 a3 a4 a5 a6 a7,A.L0.length≤(I a0 a1 a2 a3 a4 a5 a6 a7).L.length:=by intros;rw [gDl.h (A:=A)];exact Nat.le_of_ble_eq_true rfl):V P A (.loop c) σ Q:=
 gQc (α:=α0 × α1 × α2 × α3 × α4 × α5 × α6 × α7) (fun x=>I (x.1) (x.2.1) (x.2.2.1) (x.2.2.2.1) (x.2.2.2.2.1) (x.2.2.2.2.2.1) (x.2.2.2.2.2.2.1) (x.2.2.2.2.2.2.2)) (fun x=>J (x.1) (x.2.1) (x.2.2.1) (x.2.2.2.1) (x.2.2.2.2.1) (x.2.2.2.2.2.1) (x.2.2.2.2.2.2.1) (x.2.2.2.2.2.2.2)) (fun x=>μ (x.1) (x.2.1) (x.2.2.1) (x.2.2.2.1) (x.2.2.2.2.1) (x.2.2.2.2.2.1) (x.2.2.2.2.2.2.1) (x.2.2.2.2.2.2.2)) (x0,x1,x2,x3,x4,x5,x6,x7) h0 hJ (fun x hx=>V.mono (round (x.1) (x.2.1) (x.2.2.1) (x.2.2.2.1) (x.2.2.2.2.1) (x.2.2.2.2.2.1) (x.2.2.2.2.2.2.1) (x.2.2.2.2.2.2.2) hx) (fun e s hq=>by
  cases e with
  | normal=>
    obtain⟨b0,b1,b2,b3,b4,b5,b6,b7,h1,h2,h3⟩:=hq;exact⟨(b0,b1,b2,b3,b4,b5,b6,b7),h1,h2,h3⟩
  | _=>exact hq)) (fun x=>hA (x.1) (x.2.1) (x.2.2.1) (x.2.2.2.1) (x.2.2.2.2.1) (x.2.2.2.2.2.1) (x.2.2.2.2.2.2.1) (x.2.2.2.2.2.2.2))
end
section
variable {P:Program}{A:Amb}{ops:Array Oper}{K:St→Prop}{Q:Exit→St→Prop}{rest:List Oper}{σ:St}{fr:List (Nat × SV)}{L L1 L':List LO}{N i t:Nat}{sv:SV}{o:Oper}{c:Code}
variable {ty T:TypeId}{pos:String}{af:Array Edge}{x y:Operand}{g:Option (Nat × Bool)}{dst:Option Nat}{op:Op}
theorem gLp{α:Type}{e:α→U}{es:List α→List U}{z z':Nat}[E:Enc α e es z]{el:TypeId} [TE P T el]{T':TypeId}{l:List α}(hx:σ.ev x=.d (.sl z' (es l)):=by rfl):QR P σ ⟨dst,.call { callee:=.builtin .len,args:=#[x],argTypes:=#[T] },T',pos,af,g⟩ (.d (.i .i64 (l.length:Int))):=
 fun A fr' L' he _=>by
  rw [←Enc.len (es:=es) l];exact hT4 (by rw [he x (by simp [Op.operands,Call.operands])];exact hx) TE.h
theorem hDa{α:Type}{e:α→U}{es:List α→List U}{z z':Nat}[E:Enc α e es z]{el:TypeId} [TE P T el]{T':TypeId}{l:List α}{i ver e':Nat}(hx:σ.ev x=.sl i ver:=by rfl)(hL:σ.L[i]? =some (.own e' z' ver (es l)):=by rfl):Quiet P A σ ⟨dst,.call { callee:=.builtin .len,args:=#[x],argTypes:=#[T] },T',pos,af,g⟩ (.d (.i .i64 (l.length:Int))):=by
 rw [←Enc.len (es:=es) l];exact gYr hx hL .own TE.h
theorem gLq{i off:Nat}(hx:σ.ev x=.ptr i off:=by rfl):QR P σ ⟨dst,.nilCheck x,ty,pos,af,g⟩ (.ptr i off):=fun A fr' L' he _=>Quiet.pure fun S env a w hH ho=>by
 have h1:=ho x (by simp [Op.operands]);rw [he x (by simp [Op.operands]),hx] at h1;refine⟨a.eval x,?_,h1⟩;simp only [SVr] at h1;obtain⟨b,_,hv⟩:=h1;simp [execOp,hv]
theorem hV6{j tj:Nat}{want x:Bool}{o':Oper}(h:VO P A ops rest ⟨(t,.tup [])::fr,L,N⟩ K)(hj:ops[j]? =some o':=by rfl)(hdst:o'.dst=some tj:=by rfl)(htj:Nat.blt tj N=true:=by rfl)(hb:look fr tj=.d (.b x):=by rfl)(hx:(x==want)=false:=by rfl)(ht:Nat.blt t N=true:=by rfl) :
  VO P A ops (⟨some t,op,ty,pos,af,some (j,want)⟩::rest) ⟨fr,L,N⟩ K:=by
 intro R hR a w ⟨S,env,hH,hf,hN,hd⟩;have h1:=h R hR (a.put (some t) undef) w (uA hf hN hd ht hH Carry.refl (by simp only [SVr];exact⟨[],rfl,by simp [kJ]⟩));have h2:=hf tj;rw [hb] at h2;have h3:=SVr.bool.1 h2;have ht':tj < a.tmps.size:=by rw [hN];simpa [Nat.blt_eq] using htj
 have hy:yielded ops a.tmps j=some x:=by
  simp only [yielded,hj,hdst,Option.bind_some]
  have:a.tmps[tj]? =some (.bool x):=by
   rw [Array.getD_eq_getD_getElem?,Array.getElem?_eq_getElem ht'] at h3;rw [Array.getElem?_eq_getElem ht'];have h3':a.tmps[tj]=.bool x:=by simpa using h3
   rw [h3']
  rw [this]
 unfold wpList;simp only [Region.wanted,hy];have hne:(some x==some want)=false:=by simpa using hx
 rw [hne];exact h1
theorem hV7{j tj:Nat}{want:Bool}{o':Oper}(h:VO P A ops rest ⟨(t,.tup [])::fr,L,N⟩ K)(hj:ops[j]? =some o':=by rfl)(hdst:o'.dst=some tj:=by rfl)(htj:Nat.blt tj N=true:=by rfl)(hb:look fr tj=.tup []:=by rfl)(ht:Nat.blt t N=true:=by rfl) :
  VO P A ops (⟨some t,op,ty,pos,af,some (j,want)⟩::rest) ⟨fr,L,N⟩ K:=by
 intro R hR a w ⟨S,env,hH,hf,hN,hd⟩;have h1:=h R hR (a.put (some t) undef) w (uA hf hN hd ht hH Carry.refl (by simp only [SVr];exact⟨[],rfl,by simp [kJ]⟩));have h2:=hf tj;rw [hb] at h2;simp only [SVr] at h2;obtain⟨vs,h3,h4⟩:=h2;have hvs:vs=[]:=by cases vs with
  | nil=>rfl
  | cons _ _=>simp [kJ] at h4
 subst hvs;have ht':tj < a.tmps.size:=by rw [hN];simpa [Nat.blt_eq] using htj
 have hy:yielded ops a.tmps j=none:=by
  simp only [yielded,hj,hdst,Option.bind_some]
  have:a.tmps[tj]? =some (.tuple #[]):=by
   rw [Array.getD_eq_getD_getElem?,Array.getElem?_eq_getElem ht'] at h3;rw [Array.getElem?_eq_getElem ht'];have h3':a.tmps[tj]=.tuple #[]:=by simpa using h3
   rw [h3']
  rw [this]
 unfold wpList;simp only [Region.wanted,hy];have hne:((none:Option Bool)==some want)=false:=by rfl
 rw [hne];exact h1
def gPy(L:List LO)(ρ:Nat→Nat):Nat→List LO→Prop
 | _,[]=>True
 | m,o::os=>L[ρ m]? =some (o.ren ρ)∧gPy L ρ (m+1) os
theorem gOl{L:List LO}{ρ:Nat→Nat}:∀{Lc:List LO}{n:Nat},gPy L ρ n Lc→∀(m:Nat)(o:LO),Lc[m]? =some o→L[ρ (n+m)]? =some (o.ren ρ)
 | [],_,_,m,o,h=>by simp at h
 | o0::os,n,hp,0,o,h=>by simp at h;subst h;exact hp.1
 | o0::os,n,hp,m+1,o,h=>by
   have:=gOl hp.2 m o (by simpa using h)
   rwa [show n+1+m=n+(m+1) by omega] at this
theorem yJ {f:Operand}{fi:Nat}{caps:List SV}{args:Array Operand}{at_:Array TypeId}{cargs:List SV}{Lc:List LO}{Q:SV→List LO→Prop}(js:List Nat)(hspec:Spec P fi cargs Lc Q)
  (h:∀(sv:SV)(Lo:List LO),Q sv Lo→VO P A ops rest ⟨(t,sv.ren (rn js L.length))::fr,gJd js (Lo.map (LO.ren (rn js L.length))) L,N⟩ K)
  (hf:(St.mk fr L N).ev f=.fn fi caps:=by rfl) (hp:gPy L (rn js L.length) 0 Lc:=by((repeat(first | exact trivial | exact rfl | refine And.intro ?_ ?_));first | done | fail))
  (hjs:(decide js.Nodup && (js.all fun j=>Nat.blt j L.length) && js.length==Lc.length && LO.lts Lc.length Lc)=true:=by rfl)
  (hargs:AGs L (rn js L.length) Lc.length (args.toList.map (St.mk fr L N).ev++caps) cargs:=by((repeat(first | exact trivial | exact .inl ⟨rfl,rfl⟩ | exact .inr ⟨_,rfl,by((repeat(first | exact trivial | exact rfl | exact⟨_,rfl⟩ | refine And.intro ?_ ?_));first | done | fail)⟩ | refine And.intro ?_ ?_));first | done | fail))
  (ht:Nat.blt t N=true:=by rfl) :
  VO P A ops (⟨some t,.call { callee:=.value f,args:=args,argTypes:=at_ },ty,pos,af,none⟩::rest) ⟨fr,L,N⟩ K:=by
 have hjs':=hjs;simp only [Bool.and_eq_true,decide_eq_true_eq,List.all_eq_true,Nat.blt_eq,beq_iff_eq] at hjs';obtain⟨⟨⟨hnd,hlt⟩,hn⟩,hlts⟩:=hjs';refine hOi js hf hspec ⟨fun m o ho=>by simpa using gOl hp m o ho,fun m m' _ _ he=>hJf hlt hnd he,hlts⟩ ?_ hargs ht h;simp only [Bool.and_eq_true,decide_eq_true_eq,List.all_eq_true,Nat.blt_eq,beq_iff_eq];exact⟨⟨hnd,hlt⟩,hn⟩
theorem jEs {fn:Func}{Q:SV→List LO→Prop}{n:Nat}(svs:List SV)(Lo:List LO)(hq:Q (mkG svs) Lo)(hL:∃L2,σ.L=Lo++L2:=by exact⟨_,rfl⟩)(hl:(LO.lts Lo.length Lo && SV.lts Lo.length svs && Nat.ble n Lo.length)=true:=by rfl)
  (hr:hAe P σ fn.results.toList svs:=by((repeat(first | exact .nil | refine .data rfl rfl ?_ | refine .same rfl ?_ | refine .data (gI8 rfl rfl TI.h rfl rfl) (by((repeat(first | exact trivial | exact rfl | exact⟨_,rfl⟩ | refine And.intro ?_ ?_));first | done | fail)) ?_));first | done | fail)):mG P fn Q n .normal σ:=by
 obtain⟨L2,hL⟩:=hL;exact⟨trivial,svs,Lo,L2,hL,hl,hq,hr⟩
theorem jEt {fn:Func}{Q:SV→List LO→Prop}{n:Nat}(svs:List SV)(Lo:List LO)(hq:Q (mkG svs) Lo)(hL:∃L2,σ.L=Lo++L2:=by exact⟨_,rfl⟩)(hl:(LO.lts Lo.length Lo && SV.lts Lo.length svs && Nat.ble n Lo.length)=true:=by rfl)
  (hr:hAe P σ fn.results.toList svs:=by((repeat(first | exact .nil | refine .data rfl rfl ?_ | refine .same rfl ?_ | refine .data (gI8 rfl rfl TI.h rfl rfl) (by((repeat(first | exact trivial | exact rfl | exact⟨_,rfl⟩ | refine And.intro ?_ ?_));first | done | fail)) ?_));first | done | fail)):mG P fn Q n .ret σ:=⟨trivial,(jEs svs Lo hq hL hl hr).2⟩
theorem qD{fn:Func}{us:List U}(h:hAa P σ fn.results.toList us:=by((repeat(first | exact trivial | exact⟨_,rfl,rfl⟩ | exact⟨_,rfl,⟨_,rfl⟩⟩ | exact⟨_,gI8 rfl rfl TI.h rfl rfl,(by(repeat(first | exact trivial | exact rfl | exact⟨_,rfl⟩ | refine And.intro ?_ ?_));first | done | fail)⟩ | exact⟨_,ResV_one rfl rfl TI.h rfl,rfl⟩ | refine And.intro ?_ ?_));first | done | fail)):mU P fn us .ret σ:=⟨trivial,h⟩
theorem gQd{fn:Func}{es:List TypeId}{us:List U}{ps:List (Option Nat)}(h:ROs P σ fn.results.toList us es ps:=by((repeat(first | exact rfl | exact gI8 rfl rfl TI.h rfl rfl | exact ResV_one rfl rfl TI.h rfl | constructor));first | done | fail))(hn:decide ((ps.filterMap id).Nodup)=true:=by rfl):mW P fn es us .ret σ:=⟨trivial,ps,h,hn⟩
theorem gOm {f:Operand}{fi:Nat}{caps:List SV}{args:Array Operand}{at_:Array TypeId}{dargs:List SV}{us:List U}(hspec:gY P fi (dargs++caps) us)(hc:SV.lts 0 caps=true)(hf:σ.ev f=.fn fi caps:=by rfl)
  (hargs:∀L',VAs L' (args.toList.map σ.ev) dargs:=by(intro L';(repeat(first | exact trivial | exact rfl | exact⟨_,rfl⟩ | refine And.intro ?_ ?_));first | done | fail)) :
  QR P σ ⟨dst,.call { callee:=.value f,args:=args,argTypes:=at_ },ty,pos,af,g⟩ (mkR us):=
 fun A fr' L' he _=>hTf (by rw [he f (by simp [Op.operands,Call.operands])];exact hf) hspec (by
  have:args.toList.map (St.ev ⟨fr',L',σ.N⟩)=args.toList.map σ.ev:=List.map_congr_left fun x hx=>he x (by simp only [Op.operands,Call.operands];simp;exact .inr (by simpa using hx))
  rw [this]
  exact hargs L') hc
theorem gGk{e z bs:Nat}{gg:Bool} [TE P T e] [TI P e gg z bs](h:VO P A ops rest ⟨(t,.sl i 0)::fr,L',N⟩ K)(ht:Nat.blt t N=true:=by rfl)(hL':Sn (.own e z 0 []) L i L':=by repeat constructor) :
  VO P A ops (⟨some t,.buildSlice T 0 #[],ty,pos,af,none⟩::rest) ⟨fr,L,N⟩ K:=hC4 TE.h TI.h ht hL' h
theorem hV8 {e z bs:Nat}{gg:Bool} [TE P T e] [TI P e gg z bs] {zs:List Value} [TZ P e zs] {u:U} {js:List Nat} (h:VO P A ops rest ⟨(t,.sl i 0)::fr,L',N⟩ K) (hy:OV L ((St.mk fr L N).ev x) u js:=by((repeat constructor);first | done | fail)) (hjs:decide js.Nodup=true:=by decide)
  (hz:(Nat.blt 0 z && Nat.blt z 16777216 && zs.length==z)=true:=by rfl) (hu:u.sz=z:=by rfl) (ht:Nat.blt t N=true:=by rfl) (hk1:KR js L L1:=by repeat constructor) (hL':Sn (.own e z 0 [u]) L1 i L':=by repeat constructor) :
  VO P A ops (⟨some t,.buildSlice T 1 #[(0,x)],ty,pos,af,none⟩::rest) ⟨fr,L,N⟩ K:=gV4 hy hjs TE.h TI.h TZ.h hz hu ht hk1 hL' h
theorem gAo {e z bs:Nat}{gg:Bool} [TE P T e] [TI P e gg z bs] {zs:List Value} [TZ P e zs] {u:U} (h:VO P A ops rest ⟨(t,.sl i 0)::fr,L',N⟩ K) (hy:VD L ((St.mk fr L N).ev x) u:=by((repeat(first | exact trivial | exact rfl | exact⟨_,rfl⟩ | refine And.intro ?_ ?_));first | done | fail))
  (hz:(Nat.blt 0 z && Nat.blt z 16777216 && zs.length==z)=true:=by rfl) (hu:u.sz=z:=by rfl) (ht:Nat.blt t N=true:=by rfl) (hL':Sn (.arr e z 0 [u]) L i L':=by repeat constructor) :
  VO P A ops (⟨some t,.buildSlice T 1 #[(0,x)],ty,pos,af,none⟩::rest) ⟨fr,L,N⟩ K:=by
 obtain⟨hi,hL''⟩:=hL'.spec;subst hi;subst hL'';have hT:tyE P T=some e:=TE.h;have he:tyI P e=some (gg,z,bs):=TI.h;have hZ:tyZ P e=some zs:=TZ.h;simp only [Bool.and_eq_true,Nat.blt_eq,beq_iff_eq] at hz;refine gDn rfl (fun S env a w hH hf hN hd=>?_) h;have hr:=VD.r hH hy (kZ.ev hf hH x);simp only [SVr] at hr;obtain⟨cs,c1,c2⟩:=hr;have hcells:(a.eval x).cells.toList=cs:=by rw [c1];exact gOo c2
 have hcl:=Rd.length _ _ c2;rw [hu] at hcl;obtain⟨zv,hrz,hzc⟩:=gOn hZ w;have hsz:(a.eval x).cells.size=z:=by rw [←hcl,←hcells];simp
 have hold:∀b,b < w.heap.size→(w.alloc (.cells (a.eval x).cells e)).heap[b]? =w.heap[b]? :=fun b hb=>heap_alloc_old w _ hb
 obtain⟨hH',C⟩:=hH.new (w':=w.alloc (.cells (a.eval x).cells e)) (.arr e z 0 [u]) (.slice (some ⟨w.heap.size,0,none⟩) 1 1) (by simp) hold rfl rfl rfl
  (fun b hb=>by simp [LO.ft,blk] at hb;subst hb;simp)
  (fun C=>⟨by simp [yI],by simpa using hu,cs,⟨by simp [hcl],.inr ⟨w.heap.size,1,_,rfl,Nat.zero_le _,heap_alloc_new w _,Nat.le_refl _,by simp [maxLen],by rw [hsz];simp,by rw [hcells];rw [List.take_of_length_le (by simp [hcl])]⟩⟩,by
   have:=c2.mono C.hS C.hw
   simp only [Rds]
   exact⟨cs,[],by simp,this,rfl⟩⟩)
 refine⟨.value (.slice (some ⟨w.heap.size,0,none⟩) 1 1),_,?_,.inl ⟨_,rfl,uA hf hN hd ht hH' C ?_⟩⟩
 ·have hzs:zv.cells.size=z:=by rw [←hz.2,←hzc];simp
  have hfill:Instr.fill (fun i=>some (i*z,z)) ((Array.range (1*z)).map (zv.cells[· % zv.cells.size]!)) [(0,a.eval x)]=some (a.eval x).cells:=by
   rw [gQ6 (off:=0) (n:=z) (by simp) hsz (by simp)];simp only [Instr.fill,Option.some.injEq,List.take_zero,List.nil_append,Nat.zero_add];apply Array.ext';simp
  have h1:¬z > 2^24:=by omega
  have h2:¬z=0:=by omega
  simp only [Nat.one_mul] at hfill;simp [execOp,Instr.buildSlice,run_underlying (wO hT),run_sizeOf he,hrz,h1,h2,newRow];simp only [gt_iff_lt] at h1;simp [hfill]
 ·simp only [SVr];exact⟨.slice (some ⟨w.heap.size,0,none⟩) 1 1,.arr e z 0 [u],by rw [←hH.len];simp,by simp,Nat.le_refl _,rfl,fun _=>rfl⟩
theorem gIe {α:Type}{en:α→U}{es:List α→List U}{z:Nat}[E:Enc α en es z]{l r:List α}(hg:l.length+r.length≤4294967296){e bs ver:Nat}{gg:Bool} [TE P T e] [TI P e gg z bs] {zs:List Value} [TZ P e zs] {js:List Nat} {T':TypeId}
  (h:VO P A ops rest ⟨(t,.sl i (ver+1))::fr,L',N⟩ K) (hx:(St.mk fr L N).ev x=.sl i ver:=by rfl) (hL:L[i]? =some (.own e z ver (es l)):=by rfl) (hs:hMu L z ((St.mk fr L N).ev y) (es r) js:=by first | exact .own rfl | exact .nil | exact .data (Enc.all _) (gPu _) | exact .data (Enc.all _) (gPv _))
  (hjs:(decide js.Nodup && !js.contains i)=true:=by decide) (hz:(Nat.blt 0 z && zs.length==z)=true:=by rfl) (hb:Nat.ble bs 32768=true:=by rfl)
  (ht:Nat.blt t N=true:=by rfl) (hk1:KR js L L1:=by repeat constructor) (hL':St1 (.own e z (ver+1) (es (l++r))) i L1 L':=by repeat constructor) :
  VO P A ops (⟨some t,.call { callee:=.builtin .append,args:=#[x,y],argTypes:=#[T,T] },T',pos,af,none⟩::rest) ⟨fr,L,N⟩ K:=by
 have h1:(es l).length=l.length:=Enc.len l;have h2:(es r).length=r.length:=Enc.len r;have hb:=Nat.le_of_ble_eq_true hb;rw [Enc.app (es:=es)] at hL';refine gX5 hx hL hs hjs TE.h TI.h TZ.h hz (by rw [yI];omega) ?_ ht hk1 hL' h;rw [h1,h2];exact Nat.le_trans (Nat.mul_le_mul hg hb) (by decide)
theorem kZ.freezeO{a:Act}{w:World}{i e z ver:Nat}{es:List U}(hL:σ.L[i]? =some (.own e z ver es))(h:kZ A σ a w):kZ A ⟨σ.fr,σ.L.set i (.frz e z ver es),σ.N⟩ a w:=by
 obtain⟨S,env,hH,hf,hN,hd⟩:=h;have hi:=(List.getElem?_eq_some_iff.1 hL).1;have hie:i < env.length:=by rw [hH.len];exact hi
 obtain⟨hv,he⟩:∃hv,env[i]? =some hv:=⟨_,List.getElem?_eq_getElem hie⟩
 have hob:=hH.objs i _ hv hL he;let S':Nat→Prop:=fun b=>S b∨b∈(U.sl z es).fp w [hv];have hset:∀(j:Nat)(o':LO),(σ.L.set i (.frz e z ver es))[j]? =some o'→(j=i∧o'=.frz e z ver es)∨(j≠i∧σ.L[j]? =some o'):=by
  intro j o' hj;by_cases hij:i=j
  ·subst hij;rw [List.getElem?_set_self hi] at hj;exact .inl ⟨rfl,(Option.some.inj hj).symm⟩
  ·rw [List.getElem?_set_ne hij] at hj;exact .inr ⟨fun e=>hij e.symm,hj⟩
 have C:Carry S σ.L env w S' (σ.L.set i (.frz e z ver es)) env w:=by
  refine⟨fun b hb _=>.inl hb,fun _ _ _=>rfl,fun _ _ h=>h,fun j hv' o' h1 h2=>?_⟩;by_cases hij:i=j
  ·subst hij;rw [hL] at h2;obtain rfl:=Option.some.inj h2;exact⟨hv',.frz e z ver es,h1,by rw [List.getElem?_set_self hi],Nat.le_refl _,fun _=>rfl⟩
  ·exact⟨hv',o',h1,by rw [List.getElem?_set_ne hij];exact h2,Nat.le_refl _,fun _=>rfl⟩
 refine⟨S',env,⟨by simp [hH.len],?_,?_,?_,?_,?_,hH.frame,hH.size,hH.os,hH.tape,hH.output,hH.base.carry C hH.len (by simp),hH.glob⟩,fun t=>SVr.carry C _ _ (hf t),hN,hd⟩
 ·intro j o' hv' h1 h2;rcases hset j o' h1 with ⟨rfl,rfl⟩ | ⟨hj,h3⟩
  ·rw [he] at h2;obtain rfl:=Option.some.inj h2;exact⟨[hv],rfl,Tr.rd _ _ (gSx hob) (fun b hb=>.inr hb)⟩
  ·exact gGd.carry C (fun _ _ _=>rfl) (hH.objs j o' hv' h3 h2)
 ·intro j o' hv' b h1 hl h2 hb;rcases hset j o' h1 with ⟨rfl,rfl⟩ | ⟨hj,h3⟩
  ·cases hl
  ·have:=hH.excl j o' hv' b h3 hl h2 hb
   refine⟨fun hs=>hs.elim this.1 (fun hs=>hj (hH.dist j i o' _ hv' hv b h3 hL hl rfl h2 he hb (show(LO.own e z ver es).ft w hv b from hs))),this.2⟩
 ·intro j j' o1 o1' hv1 hv1' k h1 h2 hl1 hl2 e1 e2 b1 b2;rcases hset j o1 h1 with ⟨rfl,rfl⟩ | ⟨hj,h3⟩
  ·cases hl1
  ·rcases hset j' o1' h2 with ⟨rfl,rfl⟩ | ⟨hj',h3'⟩
   ·cases hl2
   ·exact hH.dist j j' o1 o1' hv1 hv1' k h3 h3' hl1 hl2 e1 e2 b1 b2
 ·intro b hb;rcases hb with hb | hb
  ·exact hH.sS b hb
  ·exact(hH.excl i _ hv b hL rfl he hb).2.2
 ·intro b hb;rcases hb with hb | hb
  ·exact hH.sA b hb
  ·exact .inr (hH.excl i _ hv b hL rfl he hb).2.1
theorem qU(i:Nat){e z ver:Nat}{es:List U}(hL:L[i]? =some (.own e z ver es))(hL':L.set i (.frz e z ver es)=L')(h:V P A c ⟨fr,L',N⟩ Q):V P A c ⟨fr,L,N⟩ Q:=by
 subst hL';exact fun a w hr=>h a w (hr.freezeO (σ:=⟨fr,L,N⟩) hL)
theorem gJp(i:Nat){e z ver:Nat}{es:List U}(hL:L[i]? =some (.own e z ver es))(hL':L.set i (.frz e z ver es)=L')(h:VO P A ops rest ⟨fr,L',N⟩ K):VO P A ops rest ⟨fr,L,N⟩ K:=by
 subst hL';exact fun R hR a w hr=>h R hR a w (hr.freezeO (σ:=⟨fr,L,N⟩) hL)
theorem gB0{α:Type}{e:α→U}{es:List α→List U}{z:Nat}[E:Enc α e es z]{l:List α}{z':Nat}(j:Nat)(h:l.length≤140737488355328→V P A c ⟨fr,L,N⟩ Q)(hb:look fr j=.d (.sl z' (es l)):=by rfl):V P A c ⟨fr,L,N⟩ Q:=by
 intro a w hr;refine h ?_ a w hr;obtain⟨S,env,hH,hf,hN,hd⟩:=hr
 have:=hf j
 simp only at this;rw [hb] at this
 have:=(SVr.slice.1 this).1
 rwa [Enc.len,yI] at this
theorem wJ{α:Type}{e:α→U}{es:List α→List U}{z:Nat}[E:Enc α e es z]{l:List α}{z':Nat}{cs:List SV}(i j:Nat)(h:l.length≤140737488355328→V P A c ⟨fr,L,N⟩ Q)(hL:L[i]? =some (.box cs):=by rfl)(hb:cs[j]? =some (.d (.sl z' (es l))):=by rfl):V P A c ⟨fr,L,N⟩ Q:=by
 intro a w hr;refine h ?_ a w hr;obtain⟨S,env,hH,hf,hN,hd⟩:=hr;obtain⟨hv,he⟩:∃hv,env[i]? =some hv:=⟨_,List.getElem?_eq_getElem (by rw [hH.len];exact(List.getElem?_eq_some_iff.1 hL).1)⟩
 obtain⟨b,vals,e',r1,r2,r3,r4⟩:=hH.objs i _ hv hL he;obtain⟨v,v1,v2⟩:=kJ.get r3 j _ hb
 have:=(SVr.slice.1 v2).1
 rwa [Enc.len,yI] at this
theorem hJ5{l:LB}(j:Nat)(h:l.length≤140737488355328→V P A c ⟨fr,L,N⟩ Q)(hb:look fr j=.d (.s l):=by rfl):V P A c ⟨fr,L,N⟩ Q:=by
 intro a w hr;refine h ?_ a w hr;obtain⟨S,env,hH,hf,hN,hd⟩:=hr
 have:=hf j
 simp only at this;rw [hb] at this
 have:=(SVr.str.1 this).1
 rwa [yI] at this
theorem hV9{l:LB}{cs:List SV}(i j:Nat)(h:l.length≤140737488355328→V P A c ⟨fr,L,N⟩ Q)(hL:L[i]? =some (.box cs):=by rfl)(hb:cs[j]? =some (.d (.s l)):=by rfl):V P A c ⟨fr,L,N⟩ Q:=by
 intro a w hr;refine h ?_ a w hr;obtain⟨S,env,hH,hf,hN,hd⟩:=hr;obtain⟨hv,he⟩:∃hv,env[i]? =some hv:=⟨_,List.getElem?_eq_getElem (by rw [hH.len];exact(List.getElem?_eq_some_iff.1 hL).1)⟩
 obtain⟨b,vals,e',r1,r2,r3,r4⟩:=hH.objs i _ hv hL he;obtain⟨v,v1,v2⟩:=kJ.get r3 j _ hb
 have:=(SVr.str.1 v2).1
 rwa [yI] at this
end
theorem hFs{P:Program}{A:Amb}{ops:Array Oper}{K:St→Prop}{fr:List (Nat × SV)}{L:List LO}{N i t:Nat}{sv:SV}{op:Op}{ty:TypeId}{pos:String}{af:Array Edge}{r:List (Nat × Bool)}{pf:PF}(hi:ops[i]? =some ⟨some t,op,ty,pos,af,none⟩)(hq:QR P ⟨fr,L,N⟩ ⟨some t,op,ty,pos,af,none⟩ sv)(hv:VY P A ops K r ((i,L)::pf) ⟨(t,sv)::fr,L,N⟩)(ht:Nat.blt t N=true:=by rfl) :
  VY P A ops K ((i,true)::r) pf ⟨fr,L,N⟩:=jEo hq hv hi ht
theorem goY {X Y:Prop}(hy:Y)(h:Y→X:=by
  intro hy
  repeat(first | refine hFs rfl gLp ?_ | refine hFs rfl gLq ?_ | refine jA4 rfl ?_ (by(repeat constructor);first | done | fail) | refine hUs rfl (by repeat constructor) (by repeat(first | exact uY.nil | (apply uY.keep;focus ((repeat constructor);done)) | (apply uY.dep;focus kernel_rfl))) ?_)
  exact hy):X:=h hy
end Go.Eng
namespace Go.Proofs.YtegahmhnmjnhhaaGreat
open Go Go.Eng
instance ti3:TI Tryz.prog 3 false 1 8:=⟨by kernel_rfl⟩
instance tz3:TZ Tryz.prog 3 [.int .i64 0]:=⟨by kernel_rfl⟩
instance ti4:TI Tryz.prog 4 false 1 1:=⟨by kernel_rfl⟩
instance tb4:TB Tryz.prog 4:=⟨by kernel_rfl⟩
instance ti5:TI Tryz.prog 5 false 1 1:=⟨by kernel_rfl⟩
instance tz5:TZ Tryz.prog 5 [.int .u8 0]:=⟨by kernel_rfl⟩
instance ti9:TI Tryz.prog 9 false 1 16:=⟨by kernel_rfl⟩
instance jIi:TS Tryz.prog 9:=⟨by kernel_rfl⟩
instance tz9:TZ Tryz.prog 9 [.string ⟨#[]⟩]:=⟨by kernel_rfl⟩
instance jIj:TI Tryz.prog 22 false 1 24:=⟨by kernel_rfl⟩
instance jIk:TE Tryz.prog 22 5:=⟨by kernel_rfl⟩
instance jIl:TI Tryz.prog 24 false 1 24:=⟨by kernel_rfl⟩
instance jIm:TE Tryz.prog 24 110:=⟨by kernel_rfl⟩
instance jIn:TI Tryz.prog 26 true 1 24:=⟨by kernel_rfl⟩
instance jEu:TF Tryz.prog 26 0 0:=⟨by kernel_rfl⟩
instance jGi:TBd Tryz.prog 26:=⟨by kernel_rfl⟩
instance jIo:TZ Tryz.prog 26 [.slice none 0 0]:=⟨by kernel_rfl⟩
instance jIp:TI Tryz.prog 27 false 1 24:=⟨by kernel_rfl⟩
instance jIq:TE Tryz.prog 27 73:=⟨by kernel_rfl⟩
instance jIr:TI Tryz.prog 28 false 1 24:=⟨by kernel_rfl⟩
instance jIs:TE Tryz.prog 28 101:=⟨by kernel_rfl⟩
instance jIt:TI Tryz.prog 29 false 1 24:=⟨by kernel_rfl⟩
instance jIu:TE Tryz.prog 29 79:=⟨by kernel_rfl⟩
instance jIv:TI Tryz.prog 30 false 1 24:=⟨by kernel_rfl⟩
instance jIw:TE Tryz.prog 30 81:=⟨by kernel_rfl⟩
instance jIx:TI Tryz.prog 32 true 8 112:=⟨by kernel_rfl⟩
instance jEv:TF Tryz.prog 32 2 2:=⟨by kernel_rfl⟩
instance jEw:TF Tryz.prog 32 3 3:=⟨by kernel_rfl⟩
instance jEx:TF Tryz.prog 32 4 4:=⟨by kernel_rfl⟩
instance jEy:TF Tryz.prog 32 5 5:=⟨by kernel_rfl⟩
instance jEz:TF Tryz.prog 32 6 6:=⟨by kernel_rfl⟩
instance jE0:TF Tryz.prog 32 7 7:=⟨by kernel_rfl⟩
instance jGj:TBd Tryz.prog 32:=⟨by kernel_rfl⟩
instance jBk:TFS Tryz.prog 32 0 0 1:=⟨by kernel_rfl⟩
instance jBl:TFS Tryz.prog 32 2 2 1:=⟨by kernel_rfl⟩
instance jIy:TZ Tryz.prog 32 [.int .i64 0,.int .i64 0,.int .i64 0,.slice none 0 0,.slice none 0 0,.slice none 0 0,.int .i64 0,.int .i64 0]:=⟨by kernel_rfl⟩
instance jIz:TI Tryz.prog 33 false 1 24:=⟨by kernel_rfl⟩
instance jI0:TE Tryz.prog 33 35:=⟨by kernel_rfl⟩
instance jI1:TI Tryz.prog 35 true 3 48:=⟨by kernel_rfl⟩
instance jE1:TF Tryz.prog 35 0 0:=⟨by kernel_rfl⟩
instance jE2:TF Tryz.prog 35 1 1:=⟨by kernel_rfl⟩
instance jE3:TF Tryz.prog 35 2 2:=⟨by kernel_rfl⟩
instance jGk:TBd Tryz.prog 35:=⟨by kernel_rfl⟩
instance jBm:TFS Tryz.prog 35 0 0 1:=⟨by kernel_rfl⟩
instance jBn:TFS Tryz.prog 35 1 1 1:=⟨by kernel_rfl⟩
instance jBo:TFS Tryz.prog 35 2 2 1:=⟨by kernel_rfl⟩
instance jI2:TZ Tryz.prog 35 [.int .i64 0,.string ⟨#[]⟩,.slice none 0 0]:=⟨by kernel_rfl⟩
instance jI3:TI Tryz.prog 57 false 1 24:=⟨by kernel_rfl⟩
instance jI4:TE Tryz.prog 57 9:=⟨by kernel_rfl⟩
instance jI5:TZ Tryz.prog 57 [.slice none 0 0]:=⟨by kernel_rfl⟩
instance jE4:TF Tryz.prog 66 0 0:=⟨by kernel_rfl⟩
instance jE5:TF Tryz.prog 66 1 1:=⟨by kernel_rfl⟩
instance jE6:TF Tryz.prog 66 2 2:=⟨by kernel_rfl⟩
instance jGl:TBd Tryz.prog 66:=⟨by kernel_rfl⟩
instance jBp:TFS Tryz.prog 66 0 0 1:=⟨by kernel_rfl⟩
instance jBq:TFS Tryz.prog 66 2 2 1:=⟨by kernel_rfl⟩
instance jI6:TZ Tryz.prog 66 [.slice none 0 0,.int .i64 0,.int .i64 0]:=⟨by kernel_rfl⟩
instance jI7:TI Tryz.prog 73 true 4 64:=⟨by kernel_rfl⟩
instance jE7:TF Tryz.prog 73 0 0:=⟨by kernel_rfl⟩
instance jE8:TF Tryz.prog 73 1 1:=⟨by kernel_rfl⟩
instance jGm:TBd Tryz.prog 73:=⟨by kernel_rfl⟩
instance jBr:TFS Tryz.prog 73 0 0 1:=⟨by kernel_rfl⟩
instance jBs:TFS Tryz.prog 73 1 1 3:=⟨by kernel_rfl⟩
instance jI8:TZ Tryz.prog 73 [.string ⟨#[]⟩,.int .i64 0,.string ⟨#[]⟩,.slice none 0 0]:=⟨by kernel_rfl⟩
instance jI9:TI Tryz.prog 79 true 7 104:=⟨by kernel_rfl⟩
instance jE9:TF Tryz.prog 79 0 0:=⟨by kernel_rfl⟩
instance jFa:TF Tryz.prog 79 1 3:=⟨by kernel_rfl⟩
instance jFb:TF Tryz.prog 79 2 6:=⟨by kernel_rfl⟩
instance jGn:TBd Tryz.prog 79:=⟨by kernel_rfl⟩
instance jBt:TFS Tryz.prog 79 0 0 3:=⟨by kernel_rfl⟩
instance jBu:TFS Tryz.prog 79 1 3 3:=⟨by kernel_rfl⟩
instance jBv:TFS Tryz.prog 79 2 6 1:=⟨by kernel_rfl⟩
instance jJa:TZ Tryz.prog 79 [.int .i64 0,.string ⟨#[]⟩,.slice none 0 0,.int .i64 0,.string ⟨#[]⟩,.slice none 0 0,.int .i64 0]:=⟨by kernel_rfl⟩
instance jJb:TI Tryz.prog 81 true 5 72:=⟨by kernel_rfl⟩
instance jFc:TF Tryz.prog 81 0 0:=⟨by kernel_rfl⟩
instance jFd:TF Tryz.prog 81 1 4:=⟨by kernel_rfl⟩
instance jGo:TBd Tryz.prog 81:=⟨by kernel_rfl⟩
instance jBw:TFS Tryz.prog 81 0 0 4:=⟨by kernel_rfl⟩
instance jBx:TFS Tryz.prog 81 1 4 1:=⟨by kernel_rfl⟩
instance jJc:TZ Tryz.prog 81 [.string ⟨#[]⟩,.int .i64 0,.string ⟨#[]⟩,.slice none 0 0,.int .i64 0]:=⟨by kernel_rfl⟩
instance jJd:TI Tryz.prog 82 false 1 8:=⟨by kernel_rfl⟩
instance jJe:TI Tryz.prog 88 false 1 24:=⟨by kernel_rfl⟩
instance jJf:TE Tryz.prog 88 121:=⟨by kernel_rfl⟩
instance jFe:TF Tryz.prog 91 0 0:=⟨by kernel_rfl⟩
instance jFf:TF Tryz.prog 91 1 1:=⟨by kernel_rfl⟩
instance jGp:TBd Tryz.prog 91:=⟨by kernel_rfl⟩
instance jBy:TFS Tryz.prog 91 0 0 1:=⟨by kernel_rfl⟩
instance jBz:TFS Tryz.prog 91 1 1 1:=⟨by kernel_rfl⟩
instance jJg:TZ Tryz.prog 91 [.slice none 0 0,.slice none 0 0]:=⟨by kernel_rfl⟩
instance jGq:TI Tryz.prog 101 true 4 64:=⟨by kernel_rfl⟩
instance jB0:TF Tryz.prog 101 0 0:=⟨by kernel_rfl⟩
instance jB1:TF Tryz.prog 101 1 1:=⟨by kernel_rfl⟩
instance jFg:TBd Tryz.prog 101:=⟨by kernel_rfl⟩
instance hYh:TFS Tryz.prog 101 0 0 1:=⟨by kernel_rfl⟩
instance hYi:TFS Tryz.prog 101 1 1 3:=⟨by kernel_rfl⟩
instance jGr:TZ Tryz.prog 101 [.string ⟨#[]⟩,.int .i64 0,.string ⟨#[]⟩,.slice none 0 0]:=⟨by kernel_rfl⟩
instance jGs:TI Tryz.prog 105 false 1 24:=⟨by kernel_rfl⟩
instance jGt:TE Tryz.prog 105 173:=⟨by kernel_rfl⟩
instance jGu:TI Tryz.prog 106 false 1 24:=⟨by kernel_rfl⟩
instance jGv:TE Tryz.prog 106 195:=⟨by kernel_rfl⟩
instance jGw:TI Tryz.prog 107 false 1 24:=⟨by kernel_rfl⟩
instance jGx:TE Tryz.prog 107 181:=⟨by kernel_rfl⟩
instance jGy:TI Tryz.prog 108 false 1 24:=⟨by kernel_rfl⟩
instance jGz:TE Tryz.prog 108 205:=⟨by kernel_rfl⟩
instance jG0:TI Tryz.prog 110 true 6 136:=⟨by kernel_rfl⟩
instance jB2:TF Tryz.prog 110 0 0:=⟨by kernel_rfl⟩
instance jB3:TF Tryz.prog 110 1 1:=⟨by kernel_rfl⟩
instance jB4:TF Tryz.prog 110 2 2:=⟨by kernel_rfl⟩
instance jB5:TF Tryz.prog 110 3 3:=⟨by kernel_rfl⟩
instance jB6:TF Tryz.prog 110 4 4:=⟨by kernel_rfl⟩
instance jB7:TF Tryz.prog 110 5 5:=⟨by kernel_rfl⟩
instance jFh:TBd Tryz.prog 110:=⟨by kernel_rfl⟩
instance hYj:TFS Tryz.prog 110 0 0 1:=⟨by kernel_rfl⟩
instance hYk:TFS Tryz.prog 110 1 1 1:=⟨by kernel_rfl⟩
instance jG1:TZ Tryz.prog 110 [.string ⟨#[]⟩,.slice none 0 0,.slice none 0 0,.slice none 0 0,.slice none 0 0,.slice none 0 0]:=⟨by kernel_rfl⟩
instance jG2:TI Tryz.prog 119 false 1 24:=⟨by kernel_rfl⟩
instance jG3:TE Tryz.prog 119 3:=⟨by kernel_rfl⟩
instance jG4:TI Tryz.prog 121 true 6 96:=⟨by kernel_rfl⟩
instance jB8:TF Tryz.prog 121 0 0:=⟨by kernel_rfl⟩
instance jB9:TF Tryz.prog 121 1 4:=⟨by kernel_rfl⟩
instance jCa:TF Tryz.prog 121 2 5:=⟨by kernel_rfl⟩
instance jFi:TBd Tryz.prog 121:=⟨by kernel_rfl⟩
instance hYm:TFS Tryz.prog 121 0 0 4:=⟨by kernel_rfl⟩
instance hYn:TFS Tryz.prog 121 1 4 1:=⟨by kernel_rfl⟩
instance hYo:TFS Tryz.prog 121 2 5 1:=⟨by kernel_rfl⟩
instance jG5:TZ Tryz.prog 121 [.string ⟨#[]⟩,.int .i64 0,.string ⟨#[]⟩,.slice none 0 0,.int .i64 0,.slice none 0 0]:=⟨by kernel_rfl⟩
instance jG6:TI Tryz.prog 133 false 1 24:=⟨by kernel_rfl⟩
instance jG7:TE Tryz.prog 133 135:=⟨by kernel_rfl⟩
instance jG8:TI Tryz.prog 135 true 2 40:=⟨by kernel_rfl⟩
instance jCb:TF Tryz.prog 135 0 0:=⟨by kernel_rfl⟩
instance jCc:TF Tryz.prog 135 1 1:=⟨by kernel_rfl⟩
instance jFj:TBd Tryz.prog 135:=⟨by kernel_rfl⟩
instance hYp:TFS Tryz.prog 135 0 0 1:=⟨by kernel_rfl⟩
instance hYq:TFS Tryz.prog 135 1 1 1:=⟨by kernel_rfl⟩
instance jG9:TZ Tryz.prog 135 [.string ⟨#[]⟩,.slice none 0 0]:=⟨by kernel_rfl⟩
instance jHa:TI Tryz.prog 144 true 2 16:=⟨by kernel_rfl⟩
instance jCd:TF Tryz.prog 144 0 0:=⟨by kernel_rfl⟩
instance jCe:TF Tryz.prog 144 1 1:=⟨by kernel_rfl⟩
instance jFk:TBd Tryz.prog 144:=⟨by kernel_rfl⟩
instance hYr:TFS Tryz.prog 144 0 0 1:=⟨by kernel_rfl⟩
instance hYt:TFS Tryz.prog 144 1 1 1:=⟨by kernel_rfl⟩
instance jHb:TZ Tryz.prog 144 [.int .i64 0,.int .i64 0]:=⟨by kernel_rfl⟩
instance jHc:TI Tryz.prog 145 false 1 24:=⟨by kernel_rfl⟩
instance jHd:TE Tryz.prog 145 147:=⟨by kernel_rfl⟩
instance jHe:TI Tryz.prog 147 true 5 56:=⟨by kernel_rfl⟩
instance jCf:TF Tryz.prog 147 0 0:=⟨by kernel_rfl⟩
instance jCg:TF Tryz.prog 147 2 2:=⟨by kernel_rfl⟩
instance jCh:TF Tryz.prog 147 3 4:=⟨by kernel_rfl⟩
instance jFl:TBd Tryz.prog 147:=⟨by kernel_rfl⟩
instance hYu:TFS Tryz.prog 147 0 0 1:=⟨by kernel_rfl⟩
instance hYv:TFS Tryz.prog 147 1 1 1:=⟨by kernel_rfl⟩
instance hYw:TFS Tryz.prog 147 2 2 2:=⟨by kernel_rfl⟩
instance hYx:TFS Tryz.prog 147 3 4 1:=⟨by kernel_rfl⟩
instance jHf:TZ Tryz.prog 147 [.int .i64 0,.int .i64 0,.int .i64 0,.int .i64 0,.slice none 0 0]:=⟨by kernel_rfl⟩
instance jCi:TF Tryz.prog 159 0 0:=⟨by kernel_rfl⟩
instance jCj:TF Tryz.prog 159 1 1:=⟨by kernel_rfl⟩
instance jCk:TF Tryz.prog 159 2 2:=⟨by kernel_rfl⟩
instance jCl:TF Tryz.prog 159 3 3:=⟨by kernel_rfl⟩
instance jCm:TF Tryz.prog 159 4 4:=⟨by kernel_rfl⟩
instance jFm:TBd Tryz.prog 159:=⟨by kernel_rfl⟩
instance hYy:TFS Tryz.prog 159 0 0 1:=⟨by kernel_rfl⟩
instance jHg:TZ Tryz.prog 159 [.string ⟨#[]⟩,.int .i64 0,.int .i64 0,.int .i64 0,.bool false]:=⟨by kernel_rfl⟩
instance jHh:TI Tryz.prog 171 false 1 24:=⟨by kernel_rfl⟩
instance jHi:TE Tryz.prog 171 235:=⟨by kernel_rfl⟩
instance jHj:TI Tryz.prog 173 true 5 72:=⟨by kernel_rfl⟩
instance jCn:TF Tryz.prog 173 0 0:=⟨by kernel_rfl⟩
instance jCo:TF Tryz.prog 173 1 1:=⟨by kernel_rfl⟩
instance jCp:TF Tryz.prog 173 2 2:=⟨by kernel_rfl⟩
instance jCq:TF Tryz.prog 173 3 3:=⟨by kernel_rfl⟩
instance jCr:TF Tryz.prog 173 4 4:=⟨by kernel_rfl⟩
instance jFn:TBd Tryz.prog 173:=⟨by kernel_rfl⟩
instance hYz:TFS Tryz.prog 173 0 0 1:=⟨by kernel_rfl⟩
instance hY1:TFS Tryz.prog 173 1 1 1:=⟨by kernel_rfl⟩
instance hY3:TFS Tryz.prog 173 2 2 1:=⟨by kernel_rfl⟩
instance hY4:TFS Tryz.prog 173 3 3 1:=⟨by kernel_rfl⟩
instance jHk:TZ Tryz.prog 173 [.string ⟨#[]⟩,.slice none 0 0,.bool false,.bool false,.slice none 0 0]:=⟨by kernel_rfl⟩
instance jHl:TI Tryz.prog 179 false 1 24:=⟨by kernel_rfl⟩
instance jHm:TE Tryz.prog 179 242:=⟨by kernel_rfl⟩
instance jHn:TI Tryz.prog 181 true 12 192:=⟨by kernel_rfl⟩
instance jCs:TF Tryz.prog 181 0 0:=⟨by kernel_rfl⟩
instance jCt:TF Tryz.prog 181 1 1:=⟨by kernel_rfl⟩
instance jCu:TF Tryz.prog 181 2 2:=⟨by kernel_rfl⟩
instance jCv:TF Tryz.prog 181 3 5:=⟨by kernel_rfl⟩
instance jCw:TF Tryz.prog 181 4 6:=⟨by kernel_rfl⟩
instance jCx:TF Tryz.prog 181 5 7:=⟨by kernel_rfl⟩
instance jCy:TF Tryz.prog 181 6 8:=⟨by kernel_rfl⟩
instance jCz:TF Tryz.prog 181 7 11:=⟨by kernel_rfl⟩
instance jFo:TBd Tryz.prog 181:=⟨by kernel_rfl⟩
instance hY5:TFS Tryz.prog 181 0 0 1:=⟨by kernel_rfl⟩
instance hY6:TFS Tryz.prog 181 1 1 1:=⟨by kernel_rfl⟩
instance hY7:TFS Tryz.prog 181 2 2 3:=⟨by kernel_rfl⟩
instance hY8:TFS Tryz.prog 181 3 5 1:=⟨by kernel_rfl⟩
instance hY9:TFS Tryz.prog 181 4 6 1:=⟨by kernel_rfl⟩
instance jHo:TZ Tryz.prog 181 [.string ⟨#[]⟩,.slice none 0 0,.int .i64 0,.string ⟨#[]⟩,.slice none 0 0,.slice none 0 0,.bool false,.bool false,.int .i64 0,.string ⟨#[]⟩,.slice none 0 0,.slice none 0 0]:=⟨by kernel_rfl⟩
instance jHp:TI Tryz.prog 193 false 1 24:=⟨by kernel_rfl⟩
instance jHq:TE Tryz.prog 193 221:=⟨by kernel_rfl⟩
instance jHr:TI Tryz.prog 195 true 3 64:=⟨by kernel_rfl⟩
instance jC0:TF Tryz.prog 195 0 0:=⟨by kernel_rfl⟩
instance jC1:TF Tryz.prog 195 1 1:=⟨by kernel_rfl⟩
instance jC2:TF Tryz.prog 195 2 2:=⟨by kernel_rfl⟩
instance jFp:TBd Tryz.prog 195:=⟨by kernel_rfl⟩
instance hZa:TFS Tryz.prog 195 0 0 1:=⟨by kernel_rfl⟩
instance hZb:TFS Tryz.prog 195 1 1 1:=⟨by kernel_rfl⟩
instance jHs:TZ Tryz.prog 195 [.string ⟨#[]⟩,.slice none 0 0,.slice none 0 0]:=⟨by kernel_rfl⟩
instance jHt:TI Tryz.prog 199 false 1 24:=⟨by kernel_rfl⟩
instance jHu:TE Tryz.prog 199 245:=⟨by kernel_rfl⟩
instance jHv:TI Tryz.prog 200 false 1 24:=⟨by kernel_rfl⟩
instance jHw:TE Tryz.prog 200 203:=⟨by kernel_rfl⟩
instance jHx:TI Tryz.prog 201 false 1 24:=⟨by kernel_rfl⟩
instance jHy:TE Tryz.prog 201 266:=⟨by kernel_rfl⟩
instance jHz:TI Tryz.prog 203 true 9 144:=⟨by kernel_rfl⟩
instance jC3:TF Tryz.prog 203 0 0:=⟨by kernel_rfl⟩
instance jC4:TF Tryz.prog 203 1 1:=⟨by kernel_rfl⟩
instance jC5:TF Tryz.prog 203 2 2:=⟨by kernel_rfl⟩
instance jC6:TF Tryz.prog 203 3 3:=⟨by kernel_rfl⟩
instance jC7:TF Tryz.prog 203 4 4:=⟨by kernel_rfl⟩
instance jC8:TF Tryz.prog 203 5 7:=⟨by kernel_rfl⟩
instance jC9:TF Tryz.prog 203 6 8:=⟨by kernel_rfl⟩
instance jFq:TBd Tryz.prog 203:=⟨by kernel_rfl⟩
instance hZc:TFS Tryz.prog 203 0 0 1:=⟨by kernel_rfl⟩
instance hZd:TFS Tryz.prog 203 1 1 1:=⟨by kernel_rfl⟩
instance hZe:TFS Tryz.prog 203 2 2 1:=⟨by kernel_rfl⟩
instance hZf:TFS Tryz.prog 203 3 3 1:=⟨by kernel_rfl⟩
instance hZg:TFS Tryz.prog 203 4 4 3:=⟨by kernel_rfl⟩
instance hZh:TFS Tryz.prog 203 5 7 1:=⟨by kernel_rfl⟩
instance jH0:TZ Tryz.prog 203 [.int .i64 0,.string ⟨#[]⟩,.string ⟨#[]⟩,.int .i64 0,.int .i64 0,.string ⟨#[]⟩,.slice none 0 0,.slice none 0 0,.slice none 0 0]:=⟨by kernel_rfl⟩
instance jH1:TI Tryz.prog 205 true 16 280:=⟨by kernel_rfl⟩
instance jDa:TF Tryz.prog 205 0 0:=⟨by kernel_rfl⟩
instance jDb:TF Tryz.prog 205 1 1:=⟨by kernel_rfl⟩
instance jDc:TF Tryz.prog 205 2 2:=⟨by kernel_rfl⟩
instance jDd:TF Tryz.prog 205 3 3:=⟨by kernel_rfl⟩
instance jDe:TF Tryz.prog 205 4 4:=⟨by kernel_rfl⟩
instance jDf:TF Tryz.prog 205 5 7:=⟨by kernel_rfl⟩
instance jFr:TBd Tryz.prog 205:=⟨by kernel_rfl⟩
instance hZi:TFS Tryz.prog 205 0 0 1:=⟨by kernel_rfl⟩
instance hZj:TFS Tryz.prog 205 1 1 1:=⟨by kernel_rfl⟩
instance hZk:TFS Tryz.prog 205 2 2 1:=⟨by kernel_rfl⟩
instance hZl:TFS Tryz.prog 205 4 4 3:=⟨by kernel_rfl⟩
instance hZm:TFS Tryz.prog 205 5 7 9:=⟨by kernel_rfl⟩
instance jH2:TZ Tryz.prog 205 [.string ⟨#[]⟩,.slice none 0 0,.slice none 0 0,.slice none 0 0,.int .i64 0,.string ⟨#[]⟩,.slice none 0 0,.int .i64 0,.string ⟨#[]⟩,.string ⟨#[]⟩,.int .i64 0,.int .i64 0,.string ⟨#[]⟩,.slice none 0 0,.slice none 0 0,.slice none 0 0]:=⟨by kernel_rfl⟩
instance jH3:TI Tryz.prog 221 true 2 40:=⟨by kernel_rfl⟩
instance jDg:TF Tryz.prog 221 0 0:=⟨by kernel_rfl⟩
instance jDh:TF Tryz.prog 221 1 1:=⟨by kernel_rfl⟩
instance jFs:TBd Tryz.prog 221:=⟨by kernel_rfl⟩
instance hZn:TFS Tryz.prog 221 0 0 1:=⟨by kernel_rfl⟩
instance hZo:TFS Tryz.prog 221 1 1 1:=⟨by kernel_rfl⟩
instance jH4:TZ Tryz.prog 221 [.string ⟨#[]⟩,.slice none 0 0]:=⟨by kernel_rfl⟩
instance jH5:TE Tryz.prog 222 144:=⟨by kernel_rfl⟩
instance jH6:TI Tryz.prog 235 true 16 264:=⟨by kernel_rfl⟩
instance jDi:TF Tryz.prog 235 0 0:=⟨by kernel_rfl⟩
instance jDj:TF Tryz.prog 235 1 1:=⟨by kernel_rfl⟩
instance jDk:TF Tryz.prog 235 2 2:=⟨by kernel_rfl⟩
instance jDl:TF Tryz.prog 235 3 5:=⟨by kernel_rfl⟩
instance jDm:TF Tryz.prog 235 4 6:=⟨by kernel_rfl⟩
instance jDn:TF Tryz.prog 235 5 7:=⟨by kernel_rfl⟩
instance jFt:TBd Tryz.prog 235:=⟨by kernel_rfl⟩
instance hZp:TFS Tryz.prog 235 0 0 1:=⟨by kernel_rfl⟩
instance hZq:TFS Tryz.prog 235 1 1 1:=⟨by kernel_rfl⟩
instance hZr:TFS Tryz.prog 235 2 2 3:=⟨by kernel_rfl⟩
instance jH7:TZ Tryz.prog 235 [.string ⟨#[]⟩,.slice none 0 0,.int .i64 0,.string ⟨#[]⟩,.slice none 0 0,.bool false,.slice none 0 0,.int .i64 0,.string ⟨#[]⟩,.string ⟨#[]⟩,.int .i64 0,.int .i64 0,.string ⟨#[]⟩,.slice none 0 0,.slice none 0 0,.slice none 0 0]:=⟨by kernel_rfl⟩
instance jH8:TI Tryz.prog 242 true 11 184:=⟨by kernel_rfl⟩
instance jDo:TF Tryz.prog 242 0 0:=⟨by kernel_rfl⟩
instance jDp:TF Tryz.prog 242 1 1:=⟨by kernel_rfl⟩
instance jDq:TF Tryz.prog 242 2 2:=⟨by kernel_rfl⟩
instance jFu:TBd Tryz.prog 242:=⟨by kernel_rfl⟩
instance hZt:TFS Tryz.prog 242 0 0 1:=⟨by kernel_rfl⟩
instance hZu:TFS Tryz.prog 242 1 1 1:=⟨by kernel_rfl⟩
instance hZv:TFS Tryz.prog 242 2 2 9:=⟨by kernel_rfl⟩
instance jH9:TZ Tryz.prog 242 [.string ⟨#[]⟩,.slice none 0 0,.int .i64 0,.string ⟨#[]⟩,.string ⟨#[]⟩,.int .i64 0,.int .i64 0,.string ⟨#[]⟩,.slice none 0 0,.slice none 0 0,.slice none 0 0]:=⟨by kernel_rfl⟩
instance jIa:TI Tryz.prog 245 true 4 64:=⟨by kernel_rfl⟩
instance jDr:TF Tryz.prog 245 0 0:=⟨by kernel_rfl⟩
instance jDs:TF Tryz.prog 245 1 1:=⟨by kernel_rfl⟩
instance jFv:TBd Tryz.prog 245:=⟨by kernel_rfl⟩
instance hZw:TFS Tryz.prog 245 0 0 1:=⟨by kernel_rfl⟩
instance hZx:TFS Tryz.prog 245 1 1 3:=⟨by kernel_rfl⟩
instance jIb:TZ Tryz.prog 245 [.string ⟨#[]⟩,.int .i64 0,.string ⟨#[]⟩,.slice none 0 0]:=⟨by kernel_rfl⟩
instance jIc:TI Tryz.prog 266 true 11 184:=⟨by kernel_rfl⟩
instance jDt:TF Tryz.prog 266 0 0:=⟨by kernel_rfl⟩
instance jDu:TF Tryz.prog 266 1 1:=⟨by kernel_rfl⟩
instance jDv:TF Tryz.prog 266 2 2:=⟨by kernel_rfl⟩
instance jFw:TBd Tryz.prog 266:=⟨by kernel_rfl⟩
instance hZy:TFS Tryz.prog 266 0 0 1:=⟨by kernel_rfl⟩
instance hZz:TFS Tryz.prog 266 1 1 1:=⟨by kernel_rfl⟩
instance hZ0:TFS Tryz.prog 266 2 2 9:=⟨by kernel_rfl⟩
instance jId:TZ Tryz.prog 266 [.string ⟨#[]⟩,.slice none 0 0,.int .i64 0,.string ⟨#[]⟩,.string ⟨#[]⟩,.int .i64 0,.int .i64 0,.string ⟨#[]⟩,.slice none 0 0,.slice none 0 0,.slice none 0 0]:=⟨by kernel_rfl⟩
theorem jIe:Tryz.prog.follows .mixedOrders=true:=by kernel_rfl
instance:Mix Tryz.prog:=⟨jIe⟩
end Go.Proofs.YtegahmhnmjnhhaaGreat
namespace Go.Eng
open Go Go.RowKit
theorem hDb{z:Nat}(hz:0 < z):∀(vs:List Value)(k:Nat)(pre post:List Value),(∀v∈vs,v.cells.size=z)→pre.length=k*z→post.length=vs.length*z→
  Instr.fill (fun i=>some (i*z,z)) (pre++post).toArray ((vs.zipIdx k).map fun p=>(p.2,p.1))=some (pre++vs.flatMap fun v=>v.cells.toList).toArray
 | [],k,pre,post,_,_,hp=>by
   simp only [List.length_nil,Nat.zero_mul,List.length_eq_zero_iff] at hp;subst hp;simp [Instr.fill]
 | v::vs,k,pre,post,hv,h1,h2=>by
   have hvz:=hv v (by simp);have hpl:z≤post.length:=by rw [h2,List.length_cons,Nat.add_mul];omega
   simp only [List.zipIdx_cons,List.map_cons];rw [gQ6 (off:=k*z) (n:=z) rfl hvz (by simp only [List.size_toArray,List.length_append];omega)];have e1:(pre++post).toArray.toList.take (k*z)=pre:=by simp [←h1]
   have e2:(pre++post).toArray.toList.drop (k*z+z)=post.drop z:=by
    show(pre++post).drop (k*z+z)=_;rw [←h1,List.drop_append,List.drop_eq_nil_of_le (by omega),Nat.add_sub_cancel_left,List.nil_append]
   rw [e1,e2];have hcl:v.cells.toList.length=z:=by simpa using hvz
   have:=hDb hz vs (k+1) (pre++v.cells.toList) (post.drop z) (fun w hw=>hv w (by simp [hw])) (by simp [h1,hvz,Nat.add_mul]) (by simp [h2,Nat.add_mul])
   rw [this];simp
inductive VDs (σ:St):List Operand→List U→Prop
 | nil:VDs σ [] []
 | cons {x:Operand} {l:List Operand} {u:U} {us:List U} (h:VD σ.L (σ.ev x) u) (h2:VDs σ l us):VDs σ (x::l) (u::us)
theorem VDs.r{A:Amb}{S:Nat→Prop}{env:List Value}{a:Act}{w:World}{σ:St}{z:Nat}(hH:mQ A S σ.L env w)(hf:∀t,SVr S σ.L env w (look σ.fr t) (a.tmps.getD t undef)){l:List Operand}{us:List U}(h:VDs σ l us):(∀u∈us,u.sz=z)→
  l.length=us.length∧(∀v∈l.map a.eval,v.cells.size=z)∧Rds S w us ((l.map a.eval).flatMap fun v=>v.cells.toList):=by
 induction h with
 | nil=>intro _;exact⟨rfl,by simp,rfl⟩
 | @cons x l u us h h2 ih=>
   intro hz;obtain⟨k1,k2,k3⟩:=ih (fun u hu=>hz u (by simp [hu]));have hr:=VD.r hH h (kZ.ev hf hH x);simp only [SVr] at hr;obtain⟨cs,c1,c2⟩:=hr;have hcells:(a.eval x).cells.toList=cs:=by rw [c1];exact gOo c2
   have hcl:=Rd.length _ _ c2;rw [hz u (by simp)] at hcl;refine⟨by simp [k1],?_,?_⟩
   ·intro v hv;simp only [List.map_cons,List.mem_cons] at hv;rcases hv with rfl | hv
    ·rw [←hcl,←hcells];simp
    ·exact k2 v hv
   ·simp only [List.map_cons,List.flatMap_cons,Rds];exact⟨cs,_,by rw [hcells],c2,k3⟩
section
variable {P:Program}{A:Amb}{ops:Array Oper}{K:St→Prop}{Q:Exit→St→Prop}{rest:List Oper}{σ:St}{fr:List (Nat × SV)}{L L1 L':List LO}{N i t:Nat}{sv:SV}{o:Oper}{c:Code}
variable {ty T:TypeId}{pos:String}{af:Array Edge}{x y:Operand}{g:Option (Nat × Bool)}{dst:Option Nat}{op:Op}
theorem hOk {e z bs:Nat}{gg:Bool}{zs:List Value}{a:Act}{w:World}{n:Nat}{ps:Array (Nat × Operand)}{l:List Operand}(hT:tyE P T=some e)(he:tyI P e=some (gg,z,bs))(hZ:tyZ P e=some zs)(hz:(Nat.blt 0 z && Nat.ble (n*z) 16777216 && zs.length==z)=true)
  (hn:l.length=n) (h0:0 < n) (hps:ps.toList=(l.zipIdx 0).map fun p=>(p.2,p.1)) (hv:∀v∈l.map a.eval,v.cells.size=z) :
  (execOp a.eval ⟨dst,.buildSlice T n ps,ty,pos,af,g⟩).run P w=.ok (.value (.slice (some ⟨w.heap.size,0,none⟩) n n)) (w.alloc (.cells ((l.map a.eval).flatMap fun v=>v.cells.toList).toArray e)):=by
 simp only [Bool.and_eq_true,Nat.blt_eq,beq_iff_eq] at hz;obtain⟨⟨hz0,hz1⟩,hz2⟩:=hz;have hz1:=Nat.le_of_ble_eq_true hz1;obtain⟨zv,hrz,hzc⟩:=gOn hZ w;have hzs:zv.cells.size=z:=by rw [←hz2,←hzc];simp
 have hpar:(ps.map fun p=>(p.1,a.eval p.2)).toList=((l.map a.eval).zipIdx 0).map fun p=>(p.2,p.1):=by
  rw [Array.toList_map,hps,List.zipIdx_map,List.map_map,List.map_map];rfl
 have hfill:=hDb hz0 (l.map a.eval) 0 [] ((List.range (n*z)).map (zv.cells[· % zv.cells.size]!)) hv (by simp) (by simp [hn]);simp only [List.nil_append] at hfill;have hne:¬n*z=0:=by
  have:=Nat.mul_pos h0 hz0
  omega
 have harr:(Array.range (n*z)).map (zv.cells[· % zv.cells.size]!)=((List.range (n*z)).map (zv.cells[· % zv.cells.size]!)).toArray:=by
  apply Array.ext';simp
 have h2:¬n*z > 2^24:=by omega
 simp only [execOp,Instr.buildSlice,Sem.run_bind,run_underlying (wO hT),Result.andThen_ok,run_sizeOf he,h2,if_false,hne,hrz,Sem.run_pure,harr,hpar,hfill,newRow];simp
theorem jDw {e z bs n:Nat}{gg:Bool} [TE P T e] [TI P e gg z bs] {zs:List Value} [TZ P e zs] {us:List U} {ps:Array (Nat × Operand)} {l:List Operand} (h:VO P A ops rest ⟨(t,.sl i 0)::fr,L',N⟩ K) (hps:ps.toList=(l.zipIdx 0).map fun p=>(p.2,p.1):=by rfl)
  (hy:VDs ⟨fr,L,N⟩ l us:=by(repeat(first | exact .nil | refine .cons (by((repeat(first | exact trivial | exact rfl | exact⟨_,rfl⟩ | refine And.intro ?_ ?_));first | done | fail)) ?_))) (hu:(us.all fun u=>u.sz==z)=true:=by rfl) (hn:(l.length==n && Nat.blt 0 n)=true:=by rfl)
  (hz:(Nat.blt 0 z && Nat.ble (n*z) 16777216 && zs.length==z)=true:=by rfl) (ht:Nat.blt t N=true:=by rfl) (hL':Sn (.arr e z 0 us) L i L':=by repeat constructor) :
  VO P A ops (⟨some t,.buildSlice T n ps,ty,pos,af,none⟩::rest) ⟨fr,L,N⟩ K:=by
 obtain⟨hi,hL''⟩:=hL'.spec;subst hi;subst hL'';simp only [Bool.and_eq_true,beq_iff_eq,Nat.blt_eq] at hn;have hsz:∀u∈us,u.sz=z:=by simpa using hu
 refine gDn rfl (fun S env a w hH hf hN hd=>?_) h;obtain⟨k1,k2,k3⟩:=VDs.r hH hf hy hsz;have hlen:=Rds.length _ _ k3;have hszs:U.szs us=us.length*z:=by
  have:∀(us:List U),(∀u∈us,u.sz=z)→U.szs us=us.length*z:=by
   intro us
   induction us with
   | nil=>intro _;simp [U.szs]
   | cons u us ih=>intro h;simp only [U.szs,List.length_cons,Nat.add_mul];rw [h u (by simp),ih (fun v hv=>h v (by simp [hv]))];omega
  exact this us hsz
 have hbig:us.length≤16777216:=by
  simp only [Bool.and_eq_true,Nat.blt_eq] at hz;have h1:=Nat.le_of_ble_eq_true hz.1.2;have h2:n*1≤n*z:=Nat.mul_le_mul_left n hz.1.1;omega
 have hold:∀b,b < w.heap.size→(w.alloc (.cells ((l.map a.eval).flatMap fun v=>v.cells.toList).toArray e)).heap[b]? =w.heap[b]? :=fun b hb=>heap_alloc_old w _ hb
 obtain⟨hH',C⟩:=hH.new (w':=w.alloc (.cells ((l.map a.eval).flatMap fun v=>v.cells.toList).toArray e)) (.arr e z 0 us) (.slice (some ⟨w.heap.size,0,none⟩) n n) (by simp) hold rfl rfl rfl
  (fun b hb=>by simp [LO.ft,blk] at hb;subst hb;simp)
  (fun C=>⟨by rw [yI];omega,hsz,_,⟨by rw [hlen,hszs],.inr ⟨w.heap.size,n,_,by rw [←k1,hn.1],Nat.zero_le _,heap_alloc_new w _,by omega,by simp [maxLen];omega,by simp only [List.size_toArray];rw [hlen,hszs,←k1,hn.1],by
   rw [List.take_of_length_le]
   simp only [hlen,hszs,Nat.le_refl]⟩⟩,Rds.mono C.hS C.hw _ _ k3⟩)
 refine⟨.value (.slice (some ⟨w.heap.size,0,none⟩) n n),_,hOk TE.h TI.h TZ.h hz hn.1 hn.2 hps k2,.inl ⟨_,rfl,uA hf hN hd ht hH' C ?_⟩⟩;simp only [SVr];exact⟨.slice (some ⟨w.heap.size,0,none⟩) n n,.arr e z 0 us,by rw [←hH.len];simp,by simp,Nat.le_refl _,rfl,fun _=>rfl⟩
end
section
variable {P:Program}{A:Amb}{ops:Array Oper}{K:St→Prop}{Q:Exit→St→Prop}{rest:List Oper}{σ:St}{fr:List (Nat × SV)}{L L1 L' news:List LO}{N i t n:Nat}{sv:SV}{o:Oper}{c:Code}
variable {ty T:TypeId}{pos:String}{af:Array Edge}{x y:Operand}{g:Option (Nat × Bool)}{dst:Option Nat}{op:Op}{r:List (Nat × Bool)}{pf:PF}{j:Nat}
theorem gE3 {f:Operand}{fi:Nat}{args:Array Operand}{at_:Array TypeId}{dargs:List SV}{es:List TypeId}{us:List U}(hspec:kR P fi dargs es us)(h:VO P A ops rest ⟨(t,sv)::fr,L',N⟩ K)(hf:(St.mk fr L N).ev f=.fn fi []:=by rfl)
  (hargs:WCs L (args.toList.map (St.mk fr L N).ev) dargs:=by((repeat(first | exact trivial | exact rfl | exact⟨_,rfl⟩ | refine And.intro ?_ ?_));first | done | fail)) (hn:Ln L n:=by repeat constructor) (hy:OYr n es us sv news:=by((repeat constructor);first | done | fail)) (hj:Jn L news L':=by repeat constructor) (ht:Nat.blt t N=true:=by rfl) :
  VO P A ops (⟨some t,.call { callee:=.value f,args:=args,argTypes:=at_ },ty,pos,af,none⟩::rest) ⟨fr,L,N⟩ K:=hC3 hf hspec hargs hn hy hj ht h
theorem gMy {f:Operand}{fi:Nat}{args:Array Operand}{at_:Array TypeId}{dargs:List SV}{es:List TypeId}{us:List U}(hspec:kR P fi dargs es us)(h:VY P A ops K r pf ⟨(t,sv)::fr,L',N⟩)
  (hi:ops[i]? =some ⟨some t,.call { callee:=.value f,args:=args,argTypes:=at_ },ty,pos,af,none⟩:=by rfl) (hf:(St.mk fr L N).ev f=.fn fi []:=by rfl)
  (hargs:WCs L (args.toList.map (St.mk fr L N).ev) dargs:=by((repeat(first | exact trivial | exact rfl | exact⟨_,rfl⟩ | refine And.intro ?_ ?_));first | done | fail)) (hn:Ln L n:=by repeat constructor) (hy:OYr n es us sv news:=by((repeat constructor);first | done | fail)) (hj:Jn L news L':=by repeat constructor) (ht:Nat.blt t N=true:=by rfl)
  (hp:uY ops i L' pf:=by(repeat(first | exact uY.nil | (apply uY.keep;focus ((repeat constructor);done)) | (apply uY.dep;focus kernel_rfl)))) :
  VY P A ops K ((i,false)::r) pf ⟨fr,L,N⟩:=gJm hi (hI6 hf hspec hargs hn hy hj ht) hp h
theorem hJ6 {α:Type}{en:α→U}{es:List α→List U}{z:Nat}[E:Enc α en es z](a0:α){e bs m:Nat}{gg:Bool}(hg:m≤4294967296) [TE P T e] [TI P e gg z bs] {zs:List Value} [TZ P e zs] (h:VO P A ops rest ⟨(t,.sl i 0)::fr,L',N⟩ K)
  (hx:(St.mk fr L N).ev x=.d (.i .i64 (m:Int)):=by rfl) (hy:(St.mk fr L N).ev y=.d (.i .i64 (m:Int)):=by rfl) (hzu:hAc (en a0) zs:=by exact hV0 (by repeat constructor) (by repeat constructor)) (hz:(Nat.blt 0 z && zs.length==z)=true:=by rfl) (hb:Nat.ble bs 32768=true:=by rfl)
  (ht:Nat.blt t N=true:=by rfl) (hL':Sn (.own e z 0 (es (List.replicate m a0))) L i L':=by repeat constructor) :
  VO P A ops (⟨some t,.makeSlice T x y,ty,pos,af,none⟩::rest) ⟨fr,L,N⟩ K:=by
 have hb:=Nat.le_of_ble_eq_true hb;rw [Enc.rep (es:=es)] at hL';refine hTh hx hy TE.h TI.h TZ.h hz hzu (Int.natCast_nonneg m) (Int.le_refl _) (by rw [yI];omega) ?_ ht (by rwa [Int.toNat_natCast]) h
 have:bs*m≤32768*4294967296:=Nat.mul_le_mul hb hg
 omega
theorem hOl{α:Type}{en:α→U}{es:List α→List U}{z:Nat}[E:Enc α en es z]{e bs ver e':Nat}{gg:Bool}{l:List α}(k:Nat)(hk:k < l.length) [TE P T e] [TI P e gg z bs](hx:σ.ev x=.sl j ver:=by rfl)(hL:σ.L[j]? =some (.own e' z ver (es l)):=by rfl)(hy:σ.ev y=.d (.i .i64 (k:Int)):=by rfl) :
  Quiet P A σ ⟨dst,.indexAddr T x y,ty,pos,af,g⟩ (.ep j ver z k 0):=by
 have:=hAp (P:=P) (A:=A) (dst:=dst) (ty:=ty) (pos:=pos) (af:=af) (g:=g) hx hL .own hy (TE.h:tyE P T=some e) (TI.h:tyI P e=some (gg,z,bs)) (Int.natCast_nonneg k) (by rw [Enc.len];omega)
 simpa using this
theorem hTn {α:Type}{en:α→U}{es:List α→List U}{z:Nat}[E:Enc α en es z]{e bs ver k:Nat}{gg:Bool}{l:List α}(a:α){js:List Nat}(hk:k < l.length) [TI P T gg z bs] (h:VO P A ops rest ⟨fr,L',N⟩ K) (hx:(St.mk fr L N).ev x=.ep i ver z k 0:=by rfl) (hL:L[i]? =some (.own e z ver (es l)):=by rfl)
  (hy:OV L ((St.mk fr L N).ev y) (en a) js:=by((repeat constructor);first | done | fail)) (hjs:(decide js.Nodup && !js.contains i)=true:=by decide) (hk1:KR js L L1:=by repeat constructor) (hL':St1 (.own e z ver (es (l.set k a))) i L1 L':=by repeat constructor) :
  VO P A ops (⟨none,.store T x y,ty,pos,af,none⟩::rest) ⟨fr,L,N⟩ K:=by
 rw [Enc.set (es:=es)] at hL';exact hC6 hx hL hy hjs TI.h (Enc.hz a) (by rw [Enc.len];exact hk) hk1 hL' h
theorem gBc {α:Type}{en:α→U}{es:List α→List U}{z:Nat}[E:Enc α en es z](a:α){e bs:Nat}{gg:Bool} [TE P T e] [TI P e gg z bs] {zs:List Value} [TZ P e zs] {js:List Nat} (h:VO P A ops rest ⟨(t,.sl i 0)::fr,L',N⟩ K) (hy:OV L ((St.mk fr L N).ev x) (en a) js:=by((repeat constructor);first | done | fail)) (hjs:decide js.Nodup=true:=by decide)
  (hz:(Nat.blt 0 z && Nat.blt z 16777216 && zs.length==z)=true:=by rfl) (ht:Nat.blt t N=true:=by rfl) (hk1:KR js L L1:=by repeat constructor) (hL':Sn (.own e z 0 (es [a])) L1 i L':=by repeat constructor) :
  VO P A ops (⟨some t,.buildSlice T 1 #[(0,x)],ty,pos,af,none⟩::rest) ⟨fr,L,N⟩ K:=by
 have e1:es [a]=[en a]:=by rw [E.h];rfl
 rw [e1] at hL';exact gV4 hy hjs TE.h TI.h TZ.h hz (Enc.hz a) ht hk1 hL' h
theorem gYh {α:Type}{en:α→U}{es:List α→List U}{z:Nat}[E:Enc α en es z](a:α){e bs m:Nat}{gg:Bool} [TE P T e] [TI P e gg z bs] {zs:List Value} [TZ P e zs] {js:List Nat} (h:VY P A ops K r pf ⟨(t,.sl m 0)::fr,L',N⟩) (hi:ops[i]? =some ⟨some t,.buildSlice T 1 #[(0,x)],ty,pos,af,none⟩:=by rfl) (hy:OV L ((St.mk fr L N).ev x) (en a) js:=by((repeat constructor);first | done | fail)) (hjs:decide js.Nodup=true:=by decide)
  (hz:(Nat.blt 0 z && Nat.blt z 16777216 && zs.length==z)=true:=by rfl) (ht:Nat.blt t N=true:=by rfl) (hk1:KR js L L1:=by repeat constructor) (hL':Sn (.own e z 0 (es [a])) L1 m L':=by repeat constructor)
  (hp:uY ops i L' pf:=by(repeat(first | exact uY.nil | (apply uY.keep;focus ((repeat constructor);done)) | (apply uY.dep;focus kernel_rfl)))) :
  VY P A ops K ((i,false)::r) pf ⟨fr,L,N⟩:=by
 have e1:es [a]=[en a]:=by rw [E.h];rfl
 rw [e1] at hL';exact gJm hi (hI9 hy hjs TE.h TI.h TZ.h hz (Enc.hz a) ht hk1 hL') hp h
theorem hTo {e z bs m:Nat}{gg:Bool} [TE P T e] [TI P e gg z bs] (h:VY P A ops K r pf ⟨(t,.sl m 0)::fr,L',N⟩) (hi:ops[i]? =some ⟨some t,.buildSlice T 0 #[],ty,pos,af,none⟩:=by rfl) (ht:Nat.blt t N=true:=by rfl) (hL':Sn (.own e z 0 []) L m L':=by repeat constructor)
  (hp:uY ops i L' pf:=by(repeat(first | exact uY.nil | (apply uY.keep;focus ((repeat constructor);done)) | (apply uY.dep;focus kernel_rfl)))) :
  VY P A ops K ((i,false)::r) pf ⟨fr,L,N⟩:=gJm hi (hJa TE.h TI.h ht hL') hp h
theorem gWf {α:Type}{en:α→U}{es:List α→List U}{z:Nat}[E:Enc α en es z]{l l':List α}(hg:l.length+l'.length≤4294967296){e bs ver m:Nat}{gg:Bool} [TE P T e] [TI P e gg z bs] {zs:List Value} [TZ P e zs] {js:List Nat} {T':TypeId}
  (h:VY P A ops K r pf ⟨(t,.sl m (ver+1))::fr,L',N⟩) (hi:ops[i]? =some ⟨some t,.call { callee:=.builtin .append,args:=#[x,y],argTypes:=#[T,T] },T',pos,af,none⟩:=by rfl) (hx:(St.mk fr L N).ev x=.sl m ver:=by rfl) (hL:L[m]? =some (.own e z ver (es l)):=by rfl) (hs:hMu L z ((St.mk fr L N).ev y) (es l') js:=by first | exact .own rfl | exact .nil | exact .data (Enc.all _) (gPu _) | exact .data (Enc.all _) (gPv _))
  (hjs:(decide js.Nodup && !js.contains m)=true:=by decide) (hz:(Nat.blt 0 z && zs.length==z)=true:=by rfl) (hb:Nat.ble bs 32768=true:=by rfl)
  (ht:Nat.blt t N=true:=by rfl) (hk1:KR js L L1:=by repeat constructor) (hL':St1 (.own e z (ver+1) (es (l++l'))) m L1 L':=by repeat constructor)
  (hp:uY ops i L' pf:=by(repeat(first | exact uY.nil | (apply uY.keep;focus ((repeat constructor);done)) | (apply uY.dep;focus kernel_rfl)))) :
  VY P A ops K ((i,false)::r) pf ⟨fr,L,N⟩:=by
 have h1:(es l).length=l.length:=Enc.len l;have h2:(es l').length=l'.length:=Enc.len l';have hb:=Nat.le_of_ble_eq_true hb;rw [Enc.app (es:=es)] at hL';refine gJm hi (hFp hx hL hs hjs TE.h TI.h TZ.h hz (by rw [yI];omega) ?_ ht hk1 hL') hp h;rw [h1,h2];exact Nat.le_trans (Nat.mul_le_mul hg hb) (by decide)
end
end Go.Eng
