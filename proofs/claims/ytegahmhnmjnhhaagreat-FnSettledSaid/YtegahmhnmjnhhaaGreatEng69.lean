import Derived.Test.YtegahmhnmjnhhaaGreatEng63
set_option linter.unusedVariables false
set_option linter.unusedSimpArgs false
set_option linter.unusedSectionVars false
namespace Go.Eng
open Go
mutual
inductive DzS (L:List LO):SV→SV→Prop
 | frz {i v e z:Nat} {es:List U} (h:L[i]? =some (.frz e z v es)):DzS L (.sl i v) (.d (.sl z es))
 | same {sv:SV}:DzS L sv sv
 | ag {cs ds:List SV} (h:hLd L cs ds):DzS L (.ag cs) (.ag ds)
inductive hLd (L:List LO):List SV→List SV→Prop
 | nil:hLd L [] []
 | cons {a b:SV} {az bs:List SV} (h:DzS L a b) (h2:hLd L az bs):hLd L (a::az) (b::bs)
end
inductive DzO (L:List LO):LO→LO→Prop
 | box {cs ds:List SV} (h:hLd L cs ds):DzO L (.box cs) (.box ds)
 | same {o:LO}:DzO L o o
inductive DzL (L:List LO):List LO→List LO→Prop
 | nil:DzL L [] []
 | cons {a b:LO} {az bs:List LO} (h:DzO L a b) (h2:DzL L az bs):DzL L (a::az) (b::bs)
inductive DzF (L:List LO):List (Nat × SV)→List (Nat × SV)→Prop
 | nil:DzF L [] []
 | cons {t:Nat} {a b:SV} {az bs:List (Nat × SV)} (h:DzS L a b) (h2:DzF L az bs):DzF L ((t,a)::az) ((t,b)::bs)
section
variable {A:Amb} {S:Nat→Prop} {L L':List LO} {env:List Value} {w:World}
mutual
theorem DzS.r(hH:mO A S L env w):∀{a b:SV} {x:Value},DzS L a b→SVr S L env w a x→SVr S L env w b x
 | _,_,x,.frz h,hx=>by
   simp only [SVr] at hx;obtain⟨hv,o,k1,k2,k3,k4,k5⟩:=hx;rw [h] at k2;obtain rfl:=Option.some.inj k2
   have:=hH.objs _ _ _ h k1
   rw [k5 rfl];simp only [SVr];exact this
 | _,_,x,.same,hx=>hx
 | _,_,x,.ag hs,hx=>by
   simp only [SVr] at hx ⊢;obtain⟨vs,h1,h2⟩:=hx;exact⟨vs,h1,hLd.r hH hs h2⟩
theorem hLd.r(hH:mO A S L env w):∀{az bs:List SV} {xs:List Value},hLd L az bs→kK S L env w az xs→kK S L env w bs xs
 | _,_,[],.nil,h=>by simp only [kK]
 | _,_,_::_,.nil,h=>by simp only [kK] at h
 | _,_,[],.cons _ _,h=>by simp only [kK] at h
 | _,_,_::_,.cons h1 h2,h=>by
   simp only [kK] at h ⊢;exact⟨DzS.r hH h1 h.1,hLd.r hH h2 h.2⟩
end
theorem DzL.get{L0:List LO}:∀{az bs:List LO},DzL L0 az bs→az.length=bs.length∧∀(m:Nat) (b:LO),bs[m]? =some b→∃a,az[m]? =some a∧DzO L0 a b
 | _,_,.nil=>⟨rfl,fun m b h=>by simp at h⟩
 | _,_,.cons (a:=a0) h h2=>by
   obtain⟨k1,k2⟩:=DzL.get h2;refine⟨by simp [k1],fun m b hb=>?_⟩;cases m with
   | zero=>simp at hb;subst hb;exact⟨a0,by simp,h⟩
   | succ m=>
     obtain⟨a,q1,q2⟩:=k2 m b (by simpa using hb);exact⟨a,by simpa using q1,q2⟩
theorem DzF.look{L0:List LO}:∀{az bs:List (Nat × SV)},DzF L0 az bs→∀t,DzS L0 (Go.Eng.look az t) (Go.Eng.look bs t)
 | _,_,.nil,t=>.same
 | _,_,.cons (t:=t0) h h2,t=>by
   simp only [Go.Eng.look];by_cases ht:t=t0
   ·simp only [ht,if_true];exact h
   ·simp only [if_neg ht];exact DzF.look h2 t
theorem kZ.dz{a:Act}{fr fr':List (Nat × SV)}{N:Nat}(hL:DzL L L L')(hfr:DzF L fr fr')(h:kZ A ⟨fr,L,N⟩ a w):kZ A ⟨fr',L',N⟩ a w:=by
 obtain⟨S,env,hH,hf,hN,hd⟩:=h;obtain⟨hlen,hget⟩:=hL.get;have hback:∀(m:Nat) (o:LO),L[m]? =some o→∃o',L'[m]? =some o'∧DzO L o o':=by
  intro m o ho;have hm:m < L'.length:=by rw [←hlen];exact(List.getElem?_eq_some_iff.1 ho).1
  obtain⟨o0,k1,k2⟩:=hget m _ (List.getElem?_eq_getElem hm);rw [ho] at k1;obtain rfl:=Option.some.inj k1;exact⟨_,List.getElem?_eq_getElem hm,k2⟩
 have hver:∀{o o':LO},DzO L o o'→o'.ver=o.ver∧o'.live=o.live∧∀hv b,o'.ft w hv b↔o.ft w hv b:=by
  intro o o' h;cases h with
  | _=>exact⟨rfl,rfl,fun _ _=>Iff.rfl⟩
 have C:Carry S L env w S L' env w:=⟨fun _ h _=>h,fun _ _ _=>rfl,fun _ _ h=>h,fun i hv o h1 h2=>by
  obtain⟨o',k1,k2⟩:=hback i o h2
  exact⟨hv,o',h1,k1,by rw [(hver k2).1];exact Nat.le_refl _,fun _=>rfl⟩⟩
 refine⟨S,env,⟨by rw [←hlen];exact hH.len,fun i o' hv h1 h2=>?_,fun i o' hv b h1 h2 h3 h4=>?_,fun i k o1 o2 hv1 hv2 b h1 h2 h3 h4 h5 h6 h7 h8=>?_,hH.sS,hH.sA,hH.frame,hH.size,hH.os,hH.tape,hH.output,?_,hH.glob⟩,fun t=>SVr.carry C _ _ (DzS.r hH (hfr.look t) (hf t)),hN,hd⟩
 ·obtain⟨o,k1,k2⟩:=hget i o' h1;have hob:=hH.objs i o hv k1 h2;cases k2 with
  | same=>exact gF3.carry C (fun _ _ _=>rfl) hob
  | box hs=>
    obtain⟨b,vals,e,r1,r2,r3,r4⟩:=hob;exact gF3.carry C (fun _ _ _=>rfl) (show gF3 S L env w _ hv from⟨b,vals,e,r1,r2,hLd.r hH hs r3,r4⟩)
 ·obtain⟨o,k1,k2⟩:=hget i o' h1;obtain⟨_,q1,q2⟩:=hver k2;exact hH.excl i o hv b k1 (by rw [←q1];exact h2) h3 ((q2 hv b).1 h4)
 ·obtain⟨p1,k1,k2⟩:=hget i o1 h1;obtain⟨p2,k3,k4⟩:=hget k o2 h2;obtain⟨_,q1,q2⟩:=hver k2;obtain⟨_,q3,q4⟩:=hver k4;exact hH.dist i k p1 p2 hv1 hv2 b k1 k3 (by rw [←q1];exact h3) (by rw [←q3];exact h4) h5 h6 ((q2 _ _).1 h7) ((q4 _ _).1 h8)
 ·refine⟨by rw [←hlen];exact hH.base.1,fun i hv o hv' o' h1 h2 h3 h4=>?_⟩;obtain⟨o0,k1,k2⟩:=hget i o' h4
  have:=hH.base.2 i hv o hv' o0 h1 h2 h3 k1
  rw [(hver k2).1];exact this
end
section
variable {P:Program} {A:Amb} {ops:Array Oper} {K:St→Prop} {r:List (Nat × Bool)} {pf:PF} {fr fr':List (Nat × SV)} {L L':List LO} {N i m t:Nat} {rest:List Oper} {Q:Exit→St→Prop}
variable {ty T:TypeId} {pos:String} {af:Array Edge}
theorem hXx {c:Code} (h:V P A c ⟨fr',L',N⟩ Q) (hL:DzL L L L':=by(repeat(first | exact DzS.frz rfl | refine DzS.ag ?_ | exact DzS.same | refine DzO.box ?_ | exact DzO.same | constructor));first | done | fail)
  (hfr:DzF L fr fr':=by(repeat(first | exact DzS.frz rfl | refine DzS.ag ?_ | exact DzS.same | constructor));first | done | fail):V P A c ⟨fr,L,N⟩ Q:=fun a w hr=>h a w (hr.dz hL hfr)
theorem hI6 (h:VO P A ops rest ⟨fr',L',N⟩ K) (hL:DzL L L L':=by(repeat(first | exact DzS.frz rfl | refine DzS.ag ?_ | exact DzS.same | refine DzO.box ?_ | exact DzO.same | constructor));first | done | fail)
  (hfr:DzF L fr fr':=by(repeat(first | exact DzS.frz rfl | refine DzS.ag ?_ | exact DzS.same | constructor));first | done | fail):VO P A ops rest ⟨fr,L,N⟩ K:=fun R hR a w hr=>h R hR a w (hr.dz hL hfr)
theorem hCw {e z bs:Nat} {gg:Bool} [TE P T e] [TI P e gg z bs] (h:VY P A ops K r pf ⟨(t,.sl m 0)::fr,L',N⟩) (hi:ops[i]? =some ⟨some t,.buildSlice T 0 #[],ty,pos,af,none⟩:=by rfl) (ht:Nat.blt t N=true:=by rfl) (hL':Sn (.arr e z 0 []) L m L':=by repeat constructor)
  (hp:vV ops i L' pf:=by(repeat(first | exact vV.nil | (apply vV.keep;focus ((repeat constructor);done)) | (apply vV.dep;focus kernel_rfl)))):VY P A ops K ((i,false)::r) pf ⟨fr,L,N⟩:=
 gJc hi (fun fr' he' K' hK=>gAl (gFt hK) ht hL') hp h
end
section
variable {P:Program} {σ:St} {dst:Option Nat} {ty T:TypeId} {pos:String} {af:Array Edge} {g:Option (Nat × Bool)} {x:Operand}
theorem hI7{t:Bool}(hx:σ.ev x=.d (.b t):=by rfl):QR P σ ⟨dst,.unOp .not T x,ty,pos,af,g⟩ (.d (.b (!t))):=fun A fr' L' he _=>hQ2 (by rw [he x (by simp [Op.operands])];exact hx)
end
section
variable {P:Program} {A:Amb} {ops:Array Oper} {K:St→Prop} {Q:Exit→St→Prop} {rest:List Oper} {σ:St} {c:Code}
theorem gWb {α0 α1 α2 α3 α4 α5 α6 α7 α8:Type} (I:α0→α1→α2→α3→α4→α5→α6→α7→α8→St) (J:α0→α1→α2→α3→α4→α5→α6→α7→α8→Prop) (μ:α0→α1→α2→α3→α4→α5→α6→α7→α8→Nat) (x0:α0) (x1:α1) (x2:α2) (x3:α3) (x4:α4) (x5:α5) (x6:α6) (x7:α7) (x8:α8) (h0:Le σ (I x0 x1 x2 x3 x4 x5 x6 x7 x8)) (hJ:J x0 x1 x2 x3 x4 x5 x6 x7 x8)
  (round:∀a0 a1 a2 a3 a4 a5 a6 a7 a8,J a0 a1 a2 a3 a4 a5 a6 a7 a8→V P A c (I a0 a1 a2 a3 a4 a5 a6 a7 a8) (thenS (fun s=>∃b0 b1 b2 b3 b4 b5 b6 b7 b8,J b0 b1 b2 b3 b4 b5 b6 b7 b8∧μ b0 b1 b2 b3 b4 b5 b6 b7 b8 < μ a0 a1 a2 a3 a4 a5 a6 a7 a8∧Le s (I b0 b1 b2 b3 b4 b5 b6 b7 b8)) Q)) (hA:∀a0 a1 a2 a3 a4 a5 a6 a7 a8,A.L0.length≤(I a0 a1 a2 a3 a4 a5 a6 a7 a8).L.length:=by intros;rw [gCz.h (A:=A)];exact Nat.le_of_ble_eq_true rfl):V P A (.loop c) σ Q:=
 gPy (α:=α0 × α1 × α2 × α3 × α4 × α5 × α6 × α7 × α8) (fun x=>I (x.1) (x.2.1) (x.2.2.1) (x.2.2.2.1) (x.2.2.2.2.1) (x.2.2.2.2.2.1) (x.2.2.2.2.2.2.1) (x.2.2.2.2.2.2.2.1) (x.2.2.2.2.2.2.2.2)) (fun x=>J (x.1) (x.2.1) (x.2.2.1) (x.2.2.2.1) (x.2.2.2.2.1) (x.2.2.2.2.2.1) (x.2.2.2.2.2.2.1) (x.2.2.2.2.2.2.2.1) (x.2.2.2.2.2.2.2.2)) (fun x=>μ (x.1) (x.2.1) (x.2.2.1) (x.2.2.2.1) (x.2.2.2.2.1) (x.2.2.2.2.2.1) (x.2.2.2.2.2.2.1) (x.2.2.2.2.2.2.2.1) (x.2.2.2.2.2.2.2.2)) (x0,x1,x2,x3,x4,x5,x6,x7,x8) h0 hJ (fun x hx=>V.mono (round (x.1) (x.2.1) (x.2.2.1) (x.2.2.2.1) (x.2.2.2.2.1) (x.2.2.2.2.2.1) (x.2.2.2.2.2.2.1) (x.2.2.2.2.2.2.2.1) (x.2.2.2.2.2.2.2.2) hx) (fun e s hq=>by
  cases e with
  | normal=>
    obtain⟨b0,b1,b2,b3,b4,b5,b6,b7,b8,h1,h2,h3⟩:=hq;exact⟨(b0,b1,b2,b3,b4,b5,b6,b7,b8),h1,h2,h3⟩
  | _=>exact hq)) (fun x=>hA (x.1) (x.2.1) (x.2.2.1) (x.2.2.2.1) (x.2.2.2.2.1) (x.2.2.2.2.2.1) (x.2.2.2.2.2.2.1) (x.2.2.2.2.2.2.2.1) (x.2.2.2.2.2.2.2.2))
theorem hNg {α0 α1 α2 α3 α4 α5 α6 α7 α8 α9 α10 α11 α12:Type} (I:α0→α1→α2→α3→α4→α5→α6→α7→α8→α9→α10→α11→α12→St) (J:α0→α1→α2→α3→α4→α5→α6→α7→α8→α9→α10→α11→α12→Prop) (μ:α0→α1→α2→α3→α4→α5→α6→α7→α8→α9→α10→α11→α12→Nat) (x0:α0) (x1:α1) (x2:α2) (x3:α3) (x4:α4) (x5:α5) (x6:α6) (x7:α7) (x8:α8) (x9:α9) (x10:α10) (x11:α11) (x12:α12) (h0:Le σ (I x0 x1 x2 x3 x4 x5 x6 x7 x8 x9 x10 x11 x12)) (hJ:J x0 x1 x2 x3 x4 x5 x6 x7 x8 x9 x10 x11 x12)
  (round:∀a0 a1 a2 a3 a4 a5 a6 a7 a8 a9 a10 a11 a12,J a0 a1 a2 a3 a4 a5 a6 a7 a8 a9 a10 a11 a12→V P A c (I a0 a1 a2 a3 a4 a5 a6 a7 a8 a9 a10 a11 a12) (thenS (fun s=>∃b0 b1 b2 b3 b4 b5 b6 b7 b8 b9 b10 b11 b12,J b0 b1 b2 b3 b4 b5 b6 b7 b8 b9 b10 b11 b12∧μ b0 b1 b2 b3 b4 b5 b6 b7 b8 b9 b10 b11 b12 < μ a0 a1 a2 a3 a4 a5 a6 a7 a8 a9 a10 a11 a12∧Le s (I b0 b1 b2 b3 b4 b5 b6 b7 b8 b9 b10 b11 b12)) Q)) (hA:∀a0 a1 a2 a3 a4 a5 a6 a7 a8 a9 a10 a11 a12,A.L0.length≤(I a0 a1 a2 a3 a4 a5 a6 a7 a8 a9 a10 a11 a12).L.length:=by intros;rw [gCz.h (A:=A)];exact Nat.le_of_ble_eq_true rfl):V P A (.loop c) σ Q:=
 gPy (α:=α0 × α1 × α2 × α3 × α4 × α5 × α6 × α7 × α8 × α9 × α10 × α11 × α12) (fun x=>I (x.1) (x.2.1) (x.2.2.1) (x.2.2.2.1) (x.2.2.2.2.1) (x.2.2.2.2.2.1) (x.2.2.2.2.2.2.1) (x.2.2.2.2.2.2.2.1) (x.2.2.2.2.2.2.2.2.1) (x.2.2.2.2.2.2.2.2.2.1) (x.2.2.2.2.2.2.2.2.2.2.1) (x.2.2.2.2.2.2.2.2.2.2.2.1) (x.2.2.2.2.2.2.2.2.2.2.2.2)) (fun x=>J (x.1) (x.2.1) (x.2.2.1) (x.2.2.2.1) (x.2.2.2.2.1) (x.2.2.2.2.2.1) (x.2.2.2.2.2.2.1) (x.2.2.2.2.2.2.2.1) (x.2.2.2.2.2.2.2.2.1) (x.2.2.2.2.2.2.2.2.2.1) (x.2.2.2.2.2.2.2.2.2.2.1) (x.2.2.2.2.2.2.2.2.2.2.2.1) (x.2.2.2.2.2.2.2.2.2.2.2.2)) (fun x=>μ (x.1) (x.2.1) (x.2.2.1) (x.2.2.2.1) (x.2.2.2.2.1) (x.2.2.2.2.2.1) (x.2.2.2.2.2.2.1) (x.2.2.2.2.2.2.2.1) (x.2.2.2.2.2.2.2.2.1) (x.2.2.2.2.2.2.2.2.2.1) (x.2.2.2.2.2.2.2.2.2.2.1) (x.2.2.2.2.2.2.2.2.2.2.2.1) (x.2.2.2.2.2.2.2.2.2.2.2.2)) (x0,x1,x2,x3,x4,x5,x6,x7,x8,x9,x10,x11,x12) h0 hJ (fun x hx=>V.mono (round (x.1) (x.2.1) (x.2.2.1) (x.2.2.2.1) (x.2.2.2.2.1) (x.2.2.2.2.2.1) (x.2.2.2.2.2.2.1) (x.2.2.2.2.2.2.2.1) (x.2.2.2.2.2.2.2.2.1) (x.2.2.2.2.2.2.2.2.2.1) (x.2.2.2.2.2.2.2.2.2.2.1) (x.2.2.2.2.2.2.2.2.2.2.2.1) (x.2.2.2.2.2.2.2.2.2.2.2.2) hx) (fun e s hq=>by
  cases e with
  | normal=>
    obtain⟨b0,b1,b2,b3,b4,b5,b6,b7,b8,b9,b10,b11,b12,h1,h2,h3⟩:=hq;exact⟨(b0,b1,b2,b3,b4,b5,b6,b7,b8,b9,b10,b11,b12),h1,h2,h3⟩
  | _=>exact hq)) (fun x=>hA (x.1) (x.2.1) (x.2.2.1) (x.2.2.2.1) (x.2.2.2.2.1) (x.2.2.2.2.2.1) (x.2.2.2.2.2.2.1) (x.2.2.2.2.2.2.2.1) (x.2.2.2.2.2.2.2.2.1) (x.2.2.2.2.2.2.2.2.2.1) (x.2.2.2.2.2.2.2.2.2.2.1) (x.2.2.2.2.2.2.2.2.2.2.2.1) (x.2.2.2.2.2.2.2.2.2.2.2.2))
end
section
variable {P:Program} {A:Amb} {ops:Array Oper} {K:St→Prop} {r:List (Nat × Bool)} {pf:PF} {fr:List (Nat × SV)} {L:List LO} {N i t:Nat} {pos:String} {af:Array Edge} {x:Operand}
theorem hI8 {α:Type} {e:α→U} {es:List α→List U} {z z':Nat} [E:Enc α e es z] {el:TypeId} {T T':TypeId} [TE P T el] {l:List α} {j ver e':Nat} (h:VY P A ops K r pf ⟨(t,.d (.i .i64 (l.length:Int)))::fr,L,N⟩)
  (hi:ops[i]? =some ⟨some t,.call { callee:=.builtin .len,args:=#[x],argTypes:=#[T] },T',pos,af,none⟩:=by rfl) (hx:(St.mk fr L N).ev x=.sl j ver:=by rfl) (hL:L[j]? =some (.arr e' z' ver (es l)):=by rfl) (ht:Nat.blt t N=true:=by rfl)
  (hp:vV ops i L pf:=by(repeat(first | exact vV.nil | (apply vV.keep;focus ((repeat constructor);done)) | (apply vV.dep;focus kernel_rfl)))):VY P A ops K ((i,false)::r) pf ⟨fr,L,N⟩:=
 gJc hi (fun fr' he' K' hK=>gAq (gX7 (es:=es) (l:=l) (by rw [he' x (by simp [Op.operands,Call.operands])];exact hx) hL) (gFt hK) ht) hp h
end
def SV.isD:SV→Bool
 | .d _=>true
 | _=>false
theorem gWc{ρ:Nat→Nat}:∀{ds:List SV},ds.all SV.isD=true→SV.rens ρ ds=ds
 | [],_=>rfl
 | sv::ds,h=>by
   simp only [List.all_cons,Bool.and_eq_true] at h;have h1:SV.ren ρ sv=sv:=by
    cases sv with
    | d u=>rfl
    | _=>simp [SV.isD] at h
   simp only [SV.rens,h1,gWc h.2]
section
variable {P:Program} {A:Amb} {ops:Array Oper} {K:St→Prop} {r:List (Nat × Bool)} {pf:PF} {fr:List (Nat × SV)} {L L':List LO} {N i t:Nat} {rest:List Oper}
variable {ty:TypeId} {pos:String} {af:Array Edge}
theorem qX {f:Operand} {fi:Nat} {caps:List SV} {args:Array Operand} {at_:Array TypeId} {cargs ds0 ds:List SV} {sv:SV} (j:Nat) (hspec:Spec P fi cargs [.box ds0] (fun s Lo=>s=sv∧Lo=[.box ds])) (h:VY P A ops K r pf ⟨(t,sv)::fr,L',N⟩)
  (hL':St1 (.box ds) j L L':=by repeat constructor) (hi:ops[i]? =some ⟨some t,.call { callee:=.value f,args:=args,argTypes:=at_ },ty,pos,af,none⟩:=by rfl) (hsv:sv.ren (rn [j] L.length)=sv:=by rfl) (hds:ds.all SV.isD=true:=by rfl)
  (hf:(St.mk fr L N).ev f=.fn fi caps:=by rfl) (hp:gSm L (rn [j] L.length) 0 [.box ds0]:=by((repeat(first | exact trivial | exact rfl | refine And.intro ?_ ?_));first | done | fail))
  (hjs:(decide [j].Nodup && ([j].all fun j=>Nat.blt j L.length) && [j].length==[LO.box ds0].length && LO.lts [LO.box ds0].length [LO.box ds0])=true:=by rfl)
  (hargs:AGs L (rn [j] L.length) [LO.box ds0].length (args.toList.map (St.mk fr L N).ev++caps) cargs:=by((repeat(first | exact trivial | exact .inl ⟨rfl,rfl⟩ | exact .inr ⟨_,rfl,by((repeat(first | exact trivial | exact rfl | exact⟨_,rfl⟩ | refine And.intro ?_ ?_));first | done | fail)⟩ | refine And.intro ?_ ?_));first | done | fail))
  (ht:Nat.blt t N=true:=by rfl) (hpf:vV ops i L' pf:=by(repeat(first | exact vV.nil | (apply vV.keep;focus ((repeat constructor);done)) | (apply vV.dep;focus kernel_rfl)))) :
  VY P A ops K ((i,false)::r) pf ⟨fr,L,N⟩:=
 vH [j] hspec h hi hsv (by simp only [List.map_cons,List.map_nil,LO.ren,gWc hds,gKq,List.append_nil];exact hL'.spec) hf hp hjs hargs ht hpf
theorem gAr {f:Operand} {fi:Nat} {caps:List SV} {args:Array Operand} {at_:Array TypeId} {cargs ds0 ds:List SV} {sv:SV} (j:Nat) (hspec:Spec P fi cargs [.box ds0] (fun s Lo=>s=sv∧Lo=[.box ds])) (h:VO P A ops rest ⟨(t,sv)::fr,L',N⟩ K)
  (hL':St1 (.box ds) j L L':=by repeat constructor) (hsv:sv.ren (rn [j] L.length)=sv:=by rfl) (hds:ds.all SV.isD=true:=by rfl)
  (hf:(St.mk fr L N).ev f=.fn fi caps:=by rfl) (hp:gSm L (rn [j] L.length) 0 [.box ds0]:=by((repeat(first | exact trivial | exact rfl | refine And.intro ?_ ?_));first | done | fail))
  (hjs:(decide [j].Nodup && ([j].all fun j=>Nat.blt j L.length) && [j].length==[LO.box ds0].length && LO.lts [LO.box ds0].length [LO.box ds0])=true:=by rfl)
  (hargs:AGs L (rn [j] L.length) [LO.box ds0].length (args.toList.map (St.mk fr L N).ev++caps) cargs:=by((repeat(first | exact trivial | exact .inl ⟨rfl,rfl⟩ | exact .inr ⟨_,rfl,by((repeat(first | exact trivial | exact rfl | exact⟨_,rfl⟩ | refine And.intro ?_ ?_));first | done | fail)⟩ | refine And.intro ?_ ?_));first | done | fail))
  (ht:Nat.blt t N=true:=by rfl) :
  VO P A ops (⟨some t,.call { callee:=.value f,args:=args,argTypes:=at_ },ty,pos,af,none⟩::rest) ⟨fr,L,N⟩ K:=by
 refine yY [j] hspec ?_ hf hp hjs hargs ht;rintro _ _ ⟨rfl,rfl⟩;rw [hsv,show gKq [j] ([LO.box ds].map (LO.ren (rn [j] L.length))) L=L' from by simp only [List.map_cons,List.map_nil,LO.ren,gWc hds,gKq,List.append_nil];exact hL'.spec];exact h
theorem eJ{s t:St}(h:Le s t:=by refine⟨rfl,?_,⟨_,rfl⟩,rfl⟩;repeat(first | exact trivial | refine And.intro ⟨rfl,rfl⟩ ?_)):Le s t:=h
end
@[reducible] def SV.N(n:Nat):SV:=.d (.i .i64 (n:Int))
@[reducible] def SV.I(n:Int):SV:=.d (.i .i64 n)
@[reducible] def SV.S(s:List UInt8):SV:=.d (.s s)
@[reducible] def SV.L(t:Nat)(l:List U):SV:=.d (.sl t l)
@[reducible] def SV.B(b:Bool):SV:=.d (.b b)
section
variable {P:Program} {A:Amb} {ops:Array Oper} {K:St→Prop} {Q:Exit→St→Prop} {rest:List Oper} {σ σ' σJ:St} {fr:List (Nat × SV)} {L:List LO} {N t:Nat} {sv:SV}
variable {ty:TypeId} {pos:String} {af:Array Edge} {op:Op}
theorem goS {X Y:Prop} (hy:Y) (h:Y→X:=by
  intro hy;refine zA ?_;show V _ _ _ _ _
  exact goL hy):X:=h hy
theorem goX {X Y:Prop} (hy:Y) (h:Y→X:=by
  intro hy;refine gSn ?_;show V _ _ _ _ _
  exact goL hy):X:=h hy
theorem goR {X E:Prop} (h:E) (g:E→X:=by
  intro h;refine goL ?_;refine jK ?_;cases h
  exact qA):X:=g h
theorem noS {X Y:Prop} (hy:Y) (h:Y→X:=by
  intro hy;refine zA ?_;show V _ _ _ _ _
  exact hy):X:=h hy
theorem noX {X Y:Prop} (hy:Y) (h:Y→X:=by
  intro hy;refine gSn ?_;show V _ _ _ _ _
  exact hy):X:=h hy
theorem noB {X Y:Prop} (hy:Y) (h:Y→X:=by
  intro hy;refine jE ?_;show V _ _ _ _ _
  exact hy):X:=h hy
theorem gNc{x y:Code}{Q2:Exit→St→Prop}{σ:St}(σJ:Nat→St)(h1:V P A x σ (thenS (fun s=>∃v,Le s (σJ v)) Q))(h2:∀v,V P A y (σJ v) Q2)(hA:∀v,A.L0.length≤(σJ v).L.length:=by intro v;rw [gCz.h (A:=A)];exact Nat.le_of_ble_eq_true rfl):V P A x σ (thenS (fun s=>V P A y s Q2) Q):=
 V.mono h1 (fun e s hq=>by
  cases e with
  | normal=>
    obtain⟨v,h⟩:=hq;exact jBc h (h2 v) (hA v)
  | _=>exact hq)
theorem jL(hq:QR P ⟨fr,L,N⟩ ⟨some t,op,ty,pos,af,none⟩ sv){Y:Prop}(hy:Y)(h:Y→VO P A ops rest ⟨(t,sv)::fr,L,N⟩ K:=by intro hy;exact goL hy)(ht:Nat.blt t N=true:=by rfl):VO P A ops (⟨some t,op,ty,pos,af,none⟩::rest) ⟨fr,L,N⟩ K:=qI hq (h hy) ht
theorem gBn(hq:Quiet P A ⟨fr,L,N⟩ ⟨some t,op,ty,pos,af,none⟩ sv){Y:Prop}(hy:Y)(h:Y→VO P A ops rest ⟨(t,sv)::fr,L,N⟩ K:=by intro hy;exact goL hy)(ht:Nat.blt t N=true:=by rfl):VO P A ops (⟨some t,op,ty,pos,af,none⟩::rest) ⟨fr,L,N⟩ K:=gAq hq (h hy) ht
theorem jBs{α:Type}{b:Bool}{u v r:α}(h:cnd b u v=r){c:Operand}{x y:Code}(ht:b=true→u=r→V P A x σ Q)(hf:b=false→v=r→V P A y σ Q)(hc:σ.ev c=.d (.b b):=by rfl):V P A (.cond c x y) σ Q:=kX (fun e=>ht e (kD e h)) (fun e=>hf e (kE e h)) hc
theorem goC {α:Type} {b:Bool} {u v r:α} (h:cnd b u v=r) {X Y Z:Prop} (ht:b=true→u=r→Y) (hf:b=false→v=r→Z) (g:(b=true→u=r→Y)→(b=false→v=r→Z)→X:=by
  intro ht hf;refine goL ?_
  exact jBs h ht hf):X:=g ht hf
theorem hU0 {c:Code} {fr':List (Nat × SV)} {L':List LO} (h:V P A c ⟨fr',L',N⟩ Q) (hL:DzL L L L':=by(repeat(first | exact DzS.frz rfl | apply DzS.ag | exact DzS.same | apply DzO.box | exact DzO.same | constructor));first | done | fail)
  (hfr:DzF L fr fr':=by(repeat(first | exact DzS.frz rfl | apply DzS.ag | exact DzS.same | constructor));first | done | fail):V P A c ⟨fr,L,N⟩ Q:=hXx h hL hfr
theorem SpI {f:Nat} {fn:Func} {c:Code} {args:List SV} {us:List U} (hf:P.funcs[f]? =some fn) (h:∀A [gCz A 0],V P A c ⟨gLk 0 args,[],fn.ntmps⟩ (mU P fn us)) (hb:fn.body=some c:=by rfl) (hname:(fn.name== "runtime.NumGoroutine")=false:=by kernel_rfl)
  (hn:Nat.ble args.length fn.ntmps=true:=by rfl):jC P f args us:=gR9 hf hb hname hn h
end
@[reducible] def bTy(x0:Int)(x1:List UInt8)(x2:List gB):LO:=.box [.I x0,.S x1,.L 3 (jJ x2)]
@[reducible] def bIn(x0:List UInt8)(x1:List (List UInt8))(x2:Int)(x3:List UInt8)(x4:List gB)(x5:List gY)(x6:Bool)(x7:Bool)(x8:Int)(x9:List UInt8)(x10:List gB)(x11:List gC0):LO:=.box [.S x0,.L 1 (jP x1),.I x2,.S x3,.L 3 (jJ x4),.L 4 (kV x5),.B x6,.B x7,.I x8,.S x9,.L 3 (jJ x10),.L 11 (gGo x11)]
@[reducible] def bEx(x0:Int)(x1:List UInt8)(x2:List UInt8)(x3:Int)(x4:Int)(x5:List UInt8)(x6:List gB)(x7:List kJ)(x8:List gOv):LO:=.box [.I x0,.S x1,.S x2,.I x3,.I x4,.S x5,.L 3 (jJ x6),.L 9 (gB8 x7),.L 11 (gKw x8)]
@[reducible] def bSt(x0:Int)(x1:Int)(x2:Int)(x3:List gG)(x4:List jB)(x5:List jN)(x6:Int)(x7:Int):LO:=.box [.I x0,.I x1,.I x2,.L 4 (gN x3),.L 7 (gW x4),.L 5 (gT x5),.I x6,.I x7]
@[reducible] def bSx(x0:List UInt8)(x1:List gD):LO:=.box [.S x0,.L 2 (jA x1)]
@[reducible] def bSg(x0:List UInt8)(x1:List gB)(x2:Int)(x3:List UInt8)(x4:List gB)(x5:Bool)(x6:List (List UInt8))(x7:Int)(x8:List UInt8)(x9:List UInt8)(x10:Int)(x11:Int)(x12:List UInt8)(x13:List gB)(x14:List kJ)(x15:List gOv):LO:=.box [.S x0,.L 3 (jJ x1),.I x2,.S x3,.L 3 (jJ x4),.B x5,.L 1 (jP x6),.I x7,.S x8,.S x9,.I x10,.I x11,.S x12,.L 3 (jJ x13),.L 9 (gB8 x14),.L 11 (gKw x15)]
@[reducible] def bPk(x0:List UInt8)(x1:List (List UInt8))(x2:List qV)(x3:List mJ)(x4:List kG)(x5:List mH):LO:=.box [.S x0,.L 1 (jP x1),.L 5 (gBm x2),.L 3 (uM x3),.L 12 (uN x4),.L 16 (uO x5)]
@[reducible] def bTr(x0:List UInt8)(x1:List (List UInt8))(x2:Bool)(x3:Bool)(x4:List qJ):LO:=.box [.S x0,.L 1 (jP x1),.B x2,.B x3,.L 16 (gB9 x4)]
@[reducible] def bCu(x0:List UInt8)(x1:Int)(x2:Int):LO:=.box [.L 1 (gDs x0),.I x1,.I x2]
@[reducible] def bPr(x0:List kI):LO:=.box [.L 6 (gX x0)]
@[reducible] def bBd(x0:List UInt8)(x1:Int)(x2:List UInt8)(x3:List gB):LO:=.box [.S x0,.I x1,.S x2,.L 3 (jJ x3)]
@[reducible] def bDa(x0:List UInt8)(x1:List (List UInt8))(x2:List pU):LO:=.box [.S x0,.L 1 (jP x1),.L 2 (wR x2)]
@[reducible] def bIp(x0:List UInt8)(x1:Int)(x2:Int)(x3:Int)(x4:Bool):LO:=.box [.S x0,.I x1,.I x2,.I x3,.B x4]
section
variable {P:Program} {A:Amb} {ops:Array Oper} {K:St→Prop} {rest:List Oper} {fr:List (Nat × SV)} {L:List LO} {N:Nat}
variable {c:Bool} {α:Type} {u v r:α} {Y Z:Prop}
theorem gqA (tj:Nat) (h:cnd c u v=r) (ht:c=true→u=r→Y)
  (g:Y→VO P A ops rest ⟨(tj,.d (.b true))::fr,L,N⟩ K:=by
   intro hy;refine goL ?_
   first | (refine gQp ?_;exact hy) | exact hy)
  (hf:c=false→v=r→VO P A ops rest ⟨(tj,.d (.b false))::fr,L,N⟩ K:=by
   intro c h;refine goL ?_;cases h
   exact eJ)
  (hb:look fr tj=.d (.b c):=by rfl):VO P A ops rest ⟨fr,L,N⟩ K:=pX tj (fun e=>g (ht e (kD e h))) (fun e=>hf e (kE e h)) hb
theorem gqO (tj:Nat) (h:cnd c u v=r) (hf:c=false→v=r→Y)
  (g:Y→VO P A ops rest ⟨(tj,.d (.b false))::fr,L,N⟩ K:=by
   intro hy;refine goL ?_
   first | (refine gQp ?_;exact hy) | exact hy)
  (ht:c=true→u=r→VO P A ops rest ⟨(tj,.d (.b true))::fr,L,N⟩ K:=by
   intro c h;refine goL ?_;cases h
   exact eJ)
  (hb:look fr tj=.d (.b c):=by rfl):VO P A ops rest ⟨fr,L,N⟩ K:=pX tj (fun e=>ht e (kD e h)) (fun e=>g (hf e (kE e h))) hb
theorem gqZ (tj:Nat) (h:cnd c u v=r)
  (ht:c=true→u=r→VO P A ops rest ⟨(tj,.d (.b true))::fr,L,N⟩ K:=by
   intro c h;refine goL ?_;cases h
   exact eJ)
  (hf:c=false→v=r→VO P A ops rest ⟨(tj,.d (.b false))::fr,L,N⟩ K:=by
   intro c h;refine goL ?_;cases h
   exact eJ)
  (hb:look fr tj=.d (.b c):=by rfl):VO P A ops rest ⟨fr,L,N⟩ K:=pX tj (fun e=>ht e (kD e h)) (fun e=>hf e (kE e h)) hb
theorem gqV (tj:Nat) (h:cnd c u v=r) (ht:c=true→u=r→Y) (hf:c=false→v=r→Z)
  (g:Y→VO P A ops rest ⟨(tj,.d (.b true))::fr,L,N⟩ K:=by
   intro hy;refine goL ?_
   first | (refine gQp ?_;exact hy) | exact hy)
  (g':Z→VO P A ops rest ⟨(tj,.d (.b false))::fr,L,N⟩ K:=by
   intro hy;refine goL ?_
   first | (refine gQp ?_;exact hy) | exact hy)
  (hb:look fr tj=.d (.b c):=by rfl):VO P A ops rest ⟨fr,L,N⟩ K:=pX tj (fun e=>g (ht e (kD e h))) (fun e=>g' (hf e (kE e h))) hb
end
end Go.Eng
namespace Go.Eng
open Go Go.RowKit
structure kP where
 w:gI
 assumed:List gU
theorem kZ.swap {A:Amb} {a:Act} {w:World} {fr fr':List (Nat × SV)} {L Lc:List LO} {N n:Nat} [hb:gCz A n] (m:Nat) (js:List Nat) (hp:gTu (rn js L.length) L Lc) (hn:(js.length==Lc.length && Nat.ble n Lc.length && (List.range n).all fun i=>i==m || js[i]? ==some i)=true)
  {e z v e2 z2 v2:Nat} {es es2:List U} (h1:L[m]? =some (.arr e z v es)) (h2:Lc[m]? =some (.arr e2 z2 v2 es2)) (hv:v < v2) (hfr:hFs (rn js L.length) fr Lc.length fr') (h:kZ A ⟨fr,L,N⟩ a w):kZ A ⟨fr',Lc,N⟩ a w:=by
 obtain⟨S,env,hH,hf,hN,hd⟩:=h;simp only [Bool.and_eq_true,beq_iff_eq,List.all_eq_true,List.mem_range,Bool.or_eq_true] at hn;obtain⟨⟨hl,hle⟩,hid⟩:=hn;have hle':=Nat.le_of_ble_eq_true hle;have H:=hp.H hH;refine⟨S,_,hH.pick hp hH.size (fun m b hm ⟨o,hv,k1,k2,k3,k4⟩=>(hH.excl _ o hv b k1 k2 k3 k4).2.1) hH.sA hH.frame hH.os hH.tape hH.output ⟨by rw [hb.h];exact hle',fun i hv0 o hv' o' k1 k2 k3 k4=>?_⟩ hH.glob,fun t=>?_,hN,hd⟩
 ·have hi:i < n:=by rw [←hb.h];exact(List.getElem?_eq_some_iff.1 k2).1
  by_cases him:i=m
  ·subst him;rw [h2] at k4;cases k4;have hlen:i < env.length:=by rw [hH.len];exact(List.getElem?_eq_some_iff.1 h1).1
   obtain⟨b1,b2,b3⟩:=hH.base.2 i hv0 o env[i] _ k1 k2 (List.getElem?_eq_getElem hlen) h1;refine⟨by simp only [LO.ver] at *;omega,fun he=>?_,fun b hbp=>?_⟩
   ·simp only [LO.ver] at *;omega
   ·have hob:=hH.objs i _ _ h1 (List.getElem?_eq_getElem hlen);rw [b3 b hbp,hbp] at hob;obtain⟨_,_,⟨xs,m1,_⟩⟩:=hob;rcases m1.2 with ⟨q,_⟩ | ⟨g,cap,cur,q,_⟩<;>cases q
  ·have hr:rn js L.length i=i:=by
    rcases hid i hi with h0 | h0
    ·exact absurd h0 him
    ·simp [rn,h0]
   have q1:=hp.get i o' k4;have q2:=(H i (by omega)).1;rw [hr] at q1 q2
   have:=hH.base.2 i hv0 o hv' _ k1 k2 (by rw [q2];exact k3) q1
   rw [LO.ren_ver] at this;exact this
 ·rcases hFs.look hfr t with hj | ⟨h1,h2⟩
  ·rw [hj];simp only [SVr]
  ·have:=hf t
   simp only at this;rw [h1] at this;exact SVr.unren H _ _ h2 this
theorem hU1{P:Program}{σ:St}{dst:Option Nat}{ty:TypeId}{pos:String}{af:Array Edge}{g:Option (Nat × Bool)}{x:Operand}{n:Nat}{vs:List SV}{sv:SV}(hx:σ.ev x=.tup vs:=by rfl)(hn:vs[n]? =some sv:=by rfl):QR P σ ⟨dst,.extract x n,ty,pos,af,g⟩ sv:=
 fun A fr' L' he _=>gR8 (by rw [he x (by simp [Op.operands])];exact hx) hn
theorem Spec.nilF1{P:Program}{f e z:Nat}{a0:SV}{args:List SV}{es:List U}(h:Go.Eng.Spec P f (a0::.sl 0 0::args) [.arr e z 0 []] (fun sv Lo=>∃v,sv=.sl 0 v∧Lo=[.arr e z v es]))(ha0:a0.lt 0=true:=by rfl)(ha:SV.lts 0 args=true:=by rfl) :
  Go.Eng.Spec P f (a0::.nilsl::args) [] (fun sv Lo=>sv=.d (.sl z es)∧Lo=[]):=by
 refine⟨h.1,fun A S env w vs h1 h2 h3 h4 hH hargs=>?_⟩;have henv:env=[]:=List.eq_nil_of_length_eq_zero hH.len;subst henv
 match vs,hargs with
 | [],hargs=>simp [kK] at hargs
 | [_],hargs=>simp [kK] at hargs
 | va::v0::vs,hargs=>
   simp only [kK] at hargs;obtain⟨hva,hv0,hargs⟩:=hargs;simp only [SVr] at hv0;subst hv0;have hob:∀S L env,gF3 S L env w (.arr e z 0 []) (.slice none 0 0):=fun _ _ _=>⟨by simp [wY],by simp,[],World.ownsRow_nil w 0 e z,by simp [Rds]⟩
   have hH2:mO { A with L0:=[.arr e z 0 []],env0:=[.slice none 0 0] } S [.arr e z 0 []] [.slice none 0 0] w:=by
    refine⟨rfl,fun i o hv k1 k2=>?_,fun i o hv b k1 k2 k3 k4=>?_,fun i j o o' hv hv' b k1 k2 k3 k4 k5 k6 k7 k8=>?_,hH.sS,hH.sA,hH.frame,hH.size,hH.os,hH.tape,hH.output,Base.refl rfl rfl,hH.glob⟩
    ·cases i with
     | zero=>simp at k1 k2;subst k1;subst k2;exact hob _ _ _
     | succ i=>simp at k1
    ·cases i with
     | zero=>simp at k1 k3;subst k1;subst k3;simp [LO.ft,blk] at k4
     | succ i=>simp at k1
    ·cases i with
     | zero=>simp at k1 k5;subst k1;subst k5;simp [LO.ft,blk] at k7
     | succ i=>simp at k1
   refine(h.2 { A with L0:=[.arr e z 0 []],env0:=[.slice none 0 0] } S [.slice none 0 0] w (va::.slice none 0 0::vs) h1 h2 rfl rfl hH2 ?_).mono ?_
   ·simp only [kK];refine⟨SVr.bare _ _ ha0 hva _ _,?_,kK.bare _ _ ha hargs _ _⟩;simp only [SVr];exact⟨.slice none 0 0,.arr e z 0 [],rfl,rfl,Nat.le_refl _,rfl,fun _=>rfl⟩
   ·rintro ex w' ⟨r,sv,S',L',env',hr,⟨v,rfl,rfl⟩,hH',hsv⟩;obtain⟨hv,henv'⟩:∃hv,env'=[hv]:=by
     have:=hH'.len
     match env',this with
     | [hv],_=>exact⟨hv,rfl⟩
    subst henv';have hob':=hH'.objs 0 _ hv rfl rfl;have hex:∀b,blk hv=some b→¬S' b∧(A.E b∨A.w0.heap.size≤b)∧b < w'.heap.size:=fun b hb=>hH'.excl 0 _ hv b rfl rfl rfl hb;simp only [SVr] at hsv;obtain⟨hv1,o1,q1,q2,q3,q4,q5⟩:=hsv;simp at q1 q2;subst q1;subst q2;obtain rfl:=q5 rfl;refine⟨_,_,fun b=>S' b∨blk r=some b,[],[],hr,⟨rfl,rfl⟩,⟨rfl,by simp,by simp,by simp,fun b hb=>hb.elim (hH'.sS b) (fun hb=>(hex b hb).2.2),fun b hb=>hb.elim (hH'.sA b) (fun hb=>.inr (hex b hb).2.1),hH'.frame,hH'.size,hH'.os,hH'.tape,hH'.output,Base.nil h3,hH'.glob⟩,?_⟩;simp only [SVr];obtain⟨hbg,hz,ys,m1,m2⟩:=hob';have hmono:Rds (fun b=>S' b∨blk r=some b) w' es ys:=Rds.mono (fun b hb _=>.inl hb) (fun _ _ _=>rfl) _ _ m2;rcases m1.2 with ⟨rfl,h0⟩ | ⟨g,cap,cur,rfl,hg0,hg,hnc,hcm,hcs,htake⟩
    ·have:es=[]:=List.eq_nil_of_length_eq_zero h0
     subst this;exact⟨[_],rfl,by simp only [Rd];exact⟨hbg,none,0,rfl,.inl trivial⟩⟩
    ·refine⟨[.slice (some ⟨g,0,none⟩) es.length cap],rfl,?_⟩;simp only [Rd];exact⟨hbg,_,cap - es.length,by rw [Nat.add_sub_cancel' hnc],.inr ⟨g,0,rfl,.inr rfl,RdE.of_Rds es ys 0 hz hmono (gNb m1 rfl)⟩⟩
section
variable {P:Program} {A:Amb}
theorem jGf {c:Code} {Q:Exit→St→Prop} {fr fr':List (Nat × SV)} {L Lc:List LO} {N:Nat} (n:Nat) [gCz A n] (m:Nat) (js:List Nat) {e z v e2 z2 v2:Nat} {es es2:List U} (h:V P A c ⟨fr',Lc,N⟩ Q) (hp:gSm L (rn js L.length) 0 Lc:=by((repeat(first | exact trivial | exact rfl | refine And.intro ?_ ?_));first | done | fail))
  (hjs:(decide js.Nodup && (js.all fun j=>Nat.blt j L.length) && LO.lts Lc.length Lc)=true:=by rfl) (hn:(js.length==Lc.length && Nat.ble n Lc.length && (List.range n).all fun i=>i==m || js[i]? ==some i)=true:=by rfl)
  (h1:L[m]? =some (.arr e z v es):=by rfl) (h2:Lc[m]? =some (.arr e2 z2 v2 es2):=by rfl) (hv:v < v2:=by omega)
  (hfr:hFs (rn js L.length) fr Lc.length fr':=by((repeat(first | exact trivial | exact rfl | refine And.intro ?_ ?_));first | done | fail)):V P A c ⟨fr,L,N⟩ Q:=by
 simp only [Bool.and_eq_true,decide_eq_true_eq,List.all_eq_true,Nat.blt_eq] at hjs;obtain⟨⟨hnd,hlt⟩,hlts⟩:=hjs;exact fun a w hr=>h a w (hr.swap m js ⟨fun m o ho=>by simpa using gLp hp m o ho,fun m m' _ _ he=>hCm hlt hnd he,hlts⟩ hn h1 h2 hv hfr)
end
end Go.Eng
