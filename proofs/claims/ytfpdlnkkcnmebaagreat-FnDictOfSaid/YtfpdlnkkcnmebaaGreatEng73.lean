import Derived.Test.YtfpdlnkkcnmebaaGreatEng66
set_option linter.unusedVariables false
set_option linter.unusedSimpArgs false
set_option linter.unusedSectionVars false
namespace Go.Eng
open Go
@[reducible] def SV.N(n:Nat):SV:=.d (.i .i64 (n:Int))
@[reducible] def SV.I(n:Int):SV:=.d (.i .i64 n)
@[reducible] def SV.S(s:LB):SV:=.d (.s s)
@[reducible] def SV.L(t:Nat)(l:List U):SV:=.d (.sl t l)
@[reducible] def SV.B(b:Bool):SV:=.d (.b b)
section
variable {P:Program}{A:Amb}{ops:Array Oper}{K:St→Prop}{Q:Exit→St→Prop}{rest:List Oper}{σ σ' σJ:St}{fr:List (Nat × SV)}{L:List LO}{N t:Nat}{sv:SV}
variable {ty:TypeId}{pos:String}{af:Array Edge}{op:Op}
theorem goS {X Y:Prop}(hy:Y)(h:Y→X:=by
  intro hy;refine vN ?_;show V _ _ _ _ _
  exact goL hy):X:=h hy
theorem goX {X Y:Prop}(hy:Y)(h:Y→X:=by
  intro hy;refine gS5 ?_;show V _ _ _ _ _
  exact goL hy):X:=h hy
theorem goR {X E:Prop}(h:E)(g:E→X:=by
  intro h;refine goL ?_;refine jF ?_;cases h
  exact uM):X:=g h
theorem noS {X Y:Prop}(hy:Y)(h:Y→X:=by
  intro hy;refine vN ?_;show V _ _ _ _ _
  exact hy):X:=h hy
theorem noX {X Y:Prop}(hy:Y)(h:Y→X:=by
  intro hy;refine gS5 ?_;show V _ _ _ _ _
  exact hy):X:=h hy
theorem noB {X Y:Prop}(hy:Y)(h:Y→X:=by
  intro hy;refine jA ?_;show V _ _ _ _ _
  exact hy):X:=h hy
theorem gIx{x y:Code}{Q2:Exit→St→Prop}{σ:St}(σJ:Nat→St)(h1:V P A x σ (thenS (fun s=>∃v,Le s (σJ v)) Q))(h2:∀v,V P A y (σJ v) Q2)(hA:∀v,A.L0.length≤(σJ v).L.length:=by intro v;rw [gDv.h (A:=A)];exact Nat.le_of_ble_eq_true rfl):V P A x σ (thenS (fun s=>V P A y s Q2) Q):=
 V.mono h1 (fun e s hq=>by
  cases e with
  | normal=>
    obtain⟨v,h⟩:=hq;exact hVp h (h2 v) (hA v)
  | _=>exact hq)
theorem jP(hq:QR P ⟨fr,L,N⟩ ⟨some t,op,ty,pos,af,none⟩ sv){Y:Prop}(hy:Y)(h:Y→VO P A ops rest ⟨(t,sv)::fr,L,N⟩ K:=by intro hy;exact goL hy)(ht:Nat.blt t N=true:=by rfl):VO P A ops (⟨some t,op,ty,pos,af,none⟩::rest) ⟨fr,L,N⟩ K:=uN hq (h hy) ht
theorem yT(hq:Quiet P A ⟨fr,L,N⟩ ⟨some t,op,ty,pos,af,none⟩ sv){Y:Prop}(hy:Y)(h:Y→VO P A ops rest ⟨(t,sv)::fr,L,N⟩ K:=by intro hy;exact goL hy)(ht:Nat.blt t N=true:=by rfl):VO P A ops (⟨some t,op,ty,pos,af,none⟩::rest) ⟨fr,L,N⟩ K:=vP hq (h hy) ht
theorem hV5{α:Type}{b:Bool}{u v r:α}(h:cnd b u v=r){c:Operand}{x y:Code}(ht:b=true→u=r→V P A x σ Q)(hf:b=false→v=r→V P A y σ Q)(hc:σ.ev c=.d (.b b):=by rfl):V P A (.cond c x y) σ Q:=mR (fun e=>ht e (kU e h)) (fun e=>hf e (kV e h)) hc
theorem goC {α:Type}{b:Bool}{u v r:α}(h:cnd b u v=r){X Y Z:Prop}(ht:b=true→u=r→Y)(hf:b=false→v=r→Z)(g:(b=true→u=r→Y)→(b=false→v=r→Z)→X:=by
  intro ht hf;refine goL ?_
  exact hV5 h ht hf):X:=g ht hf
theorem hPl {c:Code}{fr':List (Nat × SV)}{L':List LO}(h:V P A c ⟨fr',L',N⟩ Q)(hL:DzL L L L':=by(repeat(first | exact DzS.frz rfl | apply DzS.ag | exact DzS.same | apply DzO.box | exact DzO.same | constructor));first | done | fail)
  (hfr:DzF L fr fr':=by(repeat(first | exact DzS.frz rfl | apply DzS.ag | exact DzS.same | constructor));first | done | fail):V P A c ⟨fr,L,N⟩ Q:=hR8 h hL hfr
theorem SpI {f:Nat}{fn:Func}{c:Code}{args:List SV}{us:List U}(hf:P.funcs[f]? =some fn)(h:∀A [gDv A 0],V P A c ⟨gLa 0 args,[],fn.ntmps⟩ (qE P fn us))(hb:fn.body=some c:=by rfl)(hname:(fn.name== "runtime.NumGoroutine")=false:=by kernel_rfl)
  (hn:Nat.ble args.length fn.ntmps=true:=by rfl):jI P f args us:=gQ2 hf hb hname hn h
end
@[reducible] def bTy(x0:Int)(x1:LB)(x2:List gB):LO:=.box [.I x0,.S x1,.L 3 (gN x2)]
@[reducible] def bIn(x0:LB)(x1:LS)(x2:Int)(x3:LB)(x4:List gB)(x5:List gP)(x6:Bool)(x7:Bool)(x8:Int)(x9:LB)(x10:List gB)(x11:List jG):LO:=.box [.S x0,.L 1 (gT x1),.I x2,.S x3,.L 3 (gN x4),.L 4 (kC x5),.B x6,.B x7,.I x8,.S x9,.L 3 (gN x10),.L 11 (mF x11)]
@[reducible] def bEx(x0:Int)(x1:LB)(x2:LB)(x3:Int)(x4:Int)(x5:LB)(x6:List gB)(x7:List gY)(x8:List gL8):LO:=.box [.I x0,.S x1,.S x2,.I x3,.I x4,.S x5,.L 3 (gN x6),.L 9 (kQ x7),.L 11 (uZ x8)]
@[reducible] def bSx(x0:LB)(x1:List gF):LO:=.box [.S x0,.L 2 (jB x1)]
@[reducible] def bSg(x0:LB)(x1:List gB)(x2:Int)(x3:LB)(x4:List gB)(x5:Bool)(x6:LS)(x7:Int)(x8:LB)(x9:LB)(x10:Int)(x11:Int)(x12:LB)(x13:List gB)(x14:List gY)(x15:List gL8):LO:=.box [.S x0,.L 3 (gN x1),.I x2,.S x3,.L 3 (gN x4),.B x5,.L 1 (gT x6),.I x7,.S x8,.S x9,.I x10,.I x11,.S x12,.L 3 (gN x13),.L 9 (kQ x14),.L 11 (uZ x15)]
@[reducible] def bPk(x0:LB)(x1:LS)(x2:List pM)(x3:List kG)(x4:List jD)(x5:List kX):LO:=.box [.S x0,.L 1 (gT x1),.L 5 (yM x2),.L 3 (qK x3),.L 12 (qL x4),.L 16 (qM x5)]
@[reducible] def bTr(x0:LB)(x1:LS)(x2:Bool)(x3:Bool)(x4:List jT):LO:=.box [.S x0,.L 1 (gT x1),.B x2,.B x3,.L 16 (kM x4)]
@[reducible] def bCu(x0:LB)(x1:Int)(x2:Int):LO:=.box [.L 1 (gD6 x0),.I x1,.I x2]
@[reducible] def bPr(x0:List jZ):LO:=.box [.L 6 (mE x0)]
@[reducible] def bBd(x0:LB)(x1:Int)(x2:LB)(x3:List gB):LO:=.box [.S x0,.I x1,.S x2,.L 3 (gN x3)]
@[reducible] def bDa(x0:LB)(x1:LS)(x2:List jC):LO:=.box [.S x0,.L 1 (gT x1),.L 2 (pO x2)]
@[reducible] def bIp(x0:LB)(x1:Int)(x2:Int)(x3:Int)(x4:Bool):LO:=.box [.S x0,.I x1,.I x2,.I x3,.B x4]
section
variable {P:Program}{A:Amb}{ops:Array Oper}{K:St→Prop}{rest:List Oper}{fr:List (Nat × SV)}{L:List LO}{N:Nat}
variable {c:Bool}{α:Type}{u v r:α}{Y Z:Prop}
theorem gqA (tj:Nat)(h:cnd c u v=r)(ht:c=true→u=r→Y)
  (g:Y→VO P A ops rest ⟨(tj,.d (.b true))::fr,L,N⟩ K:=by
   intro hy;refine goL ?_
   first | (refine gRd ?_;exact hy) | exact hy)
  (hf:c=false→v=r→VO P A ops rest ⟨(tj,.d (.b false))::fr,L,N⟩ K:=by
   intro c h;refine goL ?_;cases h
   exact eJ)
  (hb:look fr tj=.d (.b c):=by rfl):VO P A ops rest ⟨fr,L,N⟩ K:=wW tj (fun e=>g (ht e (kU e h))) (fun e=>hf e (kV e h)) hb
theorem gqO (tj:Nat)(h:cnd c u v=r)(hf:c=false→v=r→Y)
  (g:Y→VO P A ops rest ⟨(tj,.d (.b false))::fr,L,N⟩ K:=by
   intro hy;refine goL ?_
   first | (refine gRd ?_;exact hy) | exact hy)
  (ht:c=true→u=r→VO P A ops rest ⟨(tj,.d (.b true))::fr,L,N⟩ K:=by
   intro c h;refine goL ?_;cases h
   exact eJ)
  (hb:look fr tj=.d (.b c):=by rfl):VO P A ops rest ⟨fr,L,N⟩ K:=wW tj (fun e=>ht e (kU e h)) (fun e=>g (hf e (kV e h))) hb
theorem gqZ (tj:Nat)(h:cnd c u v=r)
  (ht:c=true→u=r→VO P A ops rest ⟨(tj,.d (.b true))::fr,L,N⟩ K:=by
   intro c h;refine goL ?_;cases h
   exact eJ)
  (hf:c=false→v=r→VO P A ops rest ⟨(tj,.d (.b false))::fr,L,N⟩ K:=by
   intro c h;refine goL ?_;cases h
   exact eJ)
  (hb:look fr tj=.d (.b c):=by rfl):VO P A ops rest ⟨fr,L,N⟩ K:=wW tj (fun e=>ht e (kU e h)) (fun e=>hf e (kV e h)) hb
theorem gqV (tj:Nat)(h:cnd c u v=r)(ht:c=true→u=r→Y)(hf:c=false→v=r→Z)
  (g:Y→VO P A ops rest ⟨(tj,.d (.b true))::fr,L,N⟩ K:=by
   intro hy;refine goL ?_
   first | (refine gRd ?_;exact hy) | exact hy)
  (g':Z→VO P A ops rest ⟨(tj,.d (.b false))::fr,L,N⟩ K:=by
   intro hy;refine goL ?_
   first | (refine gRd ?_;exact hy) | exact hy)
  (hb:look fr tj=.d (.b c):=by rfl):VO P A ops rest ⟨fr,L,N⟩ K:=wW tj (fun e=>g (ht e (kU e h))) (fun e=>g' (hf e (kV e h))) hb
end
end Go.Eng
namespace Go.Eng
open Go Go.RowKit
structure yO where
 w:gM
 assumed:List gX
theorem hPm{P:Program}{σ:St}{dst:Option Nat}{ty:TypeId}{pos:String}{af:Array Edge}{g:Option (Nat × Bool)}{x:Operand}{n:Nat}{vs:List SV}{sv:SV}(hx:σ.ev x=.tup vs:=by rfl)(hn:vs[n]? =some sv:=by rfl):QR P σ ⟨dst,.extract x n,ty,pos,af,g⟩ sv:=
 fun A fr' L' he _=>gQ1 (by rw [he x (by simp [Op.operands])];exact hx) hn
theorem Spec.nilF1{P:Program}{f e z:Nat}{a0:SV}{args:List SV}{es:List U}(h:Go.Eng.Spec P f (a0::.sl 0 0::args) [.arr e z 0 []] (fun sv Lo=>∃v,sv=.sl 0 v∧Lo=[.arr e z v es]))(ha0:a0.lt 0=true:=by rfl)(ha:SV.lts 0 args=true:=by rfl) :
  Go.Eng.Spec P f (a0::.nilsl::args) [] (fun sv Lo=>sv=.d (.sl z es)∧Lo=[]):=by
 refine⟨h.1,fun A S env w vs h1 h2 h3 h4 hH hargs=>?_⟩;have henv:env=[]:=List.eq_nil_of_length_eq_zero hH.len;subst henv
 match vs,hargs with
 | [],hargs=>simp [kP] at hargs
 | [_],hargs=>simp [kP] at hargs
 | va::v0::vs,hargs=>
   simp only [kP] at hargs;obtain⟨hva,hv0,hargs⟩:=hargs;simp only [SVr] at hv0;subst hv0;have hob:∀S L env,gH2 S L env w (.arr e z 0 []) (.slice none 0 0):=fun _ _ _=>⟨by simp [yY],by simp,[],World.ownsRow_nil w 0 e z,by simp [Rds]⟩
   have hH2:pW { A with L0:=[.arr e z 0 []],env0:=[.slice none 0 0] } S [.arr e z 0 []] [.slice none 0 0] w:=by
    refine⟨rfl,fun i o hv k1 k2=>?_,fun i o hv b k1 k2 k3 k4=>?_,fun i j o o' hv hv' b k1 k2 k3 k4 k5 k6 k7 k8=>?_,hH.sS,hH.sA,hH.frame,hH.size,hH.os,hH.tape,hH.output,Base.refl rfl rfl,hH.glob⟩
    ·cases i with
     | zero=>simp at k1 k2;subst k1;subst k2;exact hob _ _ _
     | succ i=>simp at k1
    ·cases i with
     | zero=>simp at k1 k3;subst k1;subst k3;simp [LO.ft,blk] at k4
     | succ i=>simp at k1
    ·cases i with
     | zero=>simp at k1 k5;subst k1;subst k5;simp [LO.ft,blk] at k7
     | succ i=>simp at k1
   refine(h.2 { A with L0:=[.arr e z 0 []],env0:=[.slice none 0 0] } S [.slice none 0 0] w (va::.slice none 0 0::vs) h1 h2 rfl rfl hH2 ?_).mono ?_
   ·simp only [kP];refine⟨SVr.bare _ _ ha0 hva _ _,?_,kP.bare _ _ ha hargs _ _⟩;simp only [SVr];exact⟨.slice none 0 0,.arr e z 0 [],rfl,rfl,Nat.le_refl _,rfl,fun _=>rfl⟩
   ·rintro ex w' ⟨r,sv,S',L',env',hr,⟨v,rfl,rfl⟩,hH',hsv⟩;obtain⟨hv,henv'⟩:∃hv,env'=[hv]:=by
     have:=hH'.len
     match env',this with
     | [hv],_=>exact⟨hv,rfl⟩
    subst henv';have hob':=hH'.objs 0 _ hv rfl rfl;have hex:∀b,blk hv=some b→¬S' b∧(A.E b∨A.w0.heap.size≤b)∧b < w'.heap.size:=fun b hb=>hH'.excl 0 _ hv b rfl rfl rfl hb;simp only [SVr] at hsv;obtain⟨hv1,o1,q1,q2,q3,q4,q5⟩:=hsv;simp at q1 q2;subst q1;subst q2;obtain rfl:=q5 rfl;refine⟨_,_,fun b=>S' b∨blk r=some b,[],[],hr,⟨rfl,rfl⟩,⟨rfl,by simp,by simp,by simp,fun b hb=>hb.elim (hH'.sS b) (fun hb=>(hex b hb).2.2),fun b hb=>hb.elim (hH'.sA b) (fun hb=>.inr (hex b hb).2.1),hH'.frame,hH'.size,hH'.os,hH'.tape,hH'.output,Base.nil h3,hH'.glob⟩,?_⟩;simp only [SVr];obtain⟨hbg,hz,ys,m1,m2⟩:=hob';have hmono:Rds (fun b=>S' b∨blk r=some b) w' es ys:=Rds.mono (fun b hb _=>.inl hb) (fun _ _ _=>rfl) _ _ m2;rcases m1.2 with ⟨rfl,h0⟩ | ⟨g,cap,cur,rfl,hg0,hg,hnc,hcm,hcs,htake⟩
    ·have:es=[]:=List.eq_nil_of_length_eq_zero h0
     subst this;exact⟨[_],rfl,by simp only [Rd];exact⟨hbg,none,0,rfl,.inl trivial⟩⟩
    ·refine⟨[.slice (some ⟨g,0,none⟩) es.length cap],rfl,?_⟩;simp only [Rd];exact⟨hbg,_,cap - es.length,by rw [Nat.add_sub_cancel' hnc],.inr ⟨g,0,rfl,.inr rfl,RdE.of_Rds es ys 0 hz hmono (gOt m1 rfl)⟩⟩
section
variable {P:Program}{A:Amb}
end
mutual
theorem hMy{w:World}:∀(u:U)(cs:List Value),u.noSl=true→u.fp w cs=[]
 | .i _ _,_,_=>rfl
 | .b _,_,_=>rfl
 | .s _,_,_=>rfl
 | .st us,cs,h=>by
   simp only [U.noSl] at h;simp only [U.fp];exact gHm us cs h
 | .sl _ _,_,h=>by cases h
theorem gHm{w:World}:∀(us:List U)(cs:List Value),U.noSls us=true→U.fps w us cs=[]
 | [],_,_=>by simp only [U.fps]
 | u::us,cs,h=>by
   simp only [U.noSls,Bool.and_eq_true] at h;simp only [U.fps];rw [hMy u _ h.1,gHm us _ h.2,List.append_nil]
end
theorem gVv:∀(us vs:List U),U.noSls (us++vs)=(U.noSls us && U.noSls vs)
 | [],vs=>by simp [U.noSls]
 | u::us,vs=>by simp only [List.cons_append,U.noSls,gVv us vs,Bool.and_assoc]
theorem gS9(us:List U)(k:Nat)(h:U.noSls us=true):U.noSls (us.take k)=true∧U.noSls (us.drop k)=true:=by
 have:=gVv (us.take k) (us.drop k)
 rw [List.take_append_drop,h] at this;simpa [Bool.and_eq_true] using this.symm
section
variable {P:Program}{A:Amb}{K:St→Prop}{ops:Array Oper}{rest:List Oper}{t:Nat}{ty ty2:TypeId}{pos pos2:String}{af af2:Array Edge}{x y:Operand}
theorem hPn {T e:TypeId}{gg:Bool}{z bs i ver k:Nat}{zs:List Value}{zu:U}{es:List U}{fr:List (Nat × SV)}{L L':List LO}{N:Nat} [TE P T e] [TI P e gg z bs] [TZ P e zs] (hk:k≤es.length) (hns:U.noSls es=true) (hzu:gW8 zu zs)
  (h:VO P A ops rest ⟨(t,.junk)::fr,L',N⟩ K) (hz:(Nat.blt 0 z && zs.length==z && zu.noSl && zs.all fun v=>v.oneCell')=true:=by rfl)
  (hx:(St.mk fr L N).ev x=.sl i ver:=by rfl) (hL:L[i]? =some (.own e z ver es):=by rfl) (hy:(St.mk fr L N).ev y=.d (.i .i64 (k:Int)):=by rfl) (ht:Nat.blt t N=true:=by rfl)
  (hL':St1 (.own e z ver (es.take k++List.replicate (es.length - k) zu)) i L L':=by repeat constructor) :
  VO P A ops (⟨some t,.slice T x (some y) none none,ty,pos,af,none⟩::⟨none,.call { callee:=.builtin .clear,args:=#[.tmp t],argTypes:=#[T] },ty2,pos2,af2,none⟩::rest) ⟨fr,L,N⟩ K:=by
 have:=hL'.spec
 subst this;intro R hR a w ⟨S,env,hH,hf,hN,hd⟩;have h1:=mY.ev hf hH x;have h2:=mY.ev hf hH y;rw [hx] at h1;rw [hy,SVr.int] at h2;simp only [SVr] at h1;obtain⟨hv,o,k1,k2,_,_,k3⟩:=h1;rw [hL] at k2;cases k2;have hxe:=k3 rfl;obtain⟨o1,o2,⟨xs,o3,o4⟩,o5⟩:=hH.objs i _ hv hL k1;simp only [Bool.and_eq_true,Nat.blt_eq,beq_iff_eq] at hz;obtain⟨⟨⟨hz0,hzl⟩,hzn⟩,hz1⟩:=hz;have hT:P.underlying T=some (.slice e):=zN TE.h;have hel:P.elem T=e:=by simp [Program.elem,hT]
 have hT':P.underlying T=some (.slice (P.elem T)):=by rw [hel];exact hT
 have hsz:=run_sizeOf (w:=w) (TI.h:tyI P e=some (gg,z,bs));obtain⟨inf,hi,his,hib⟩:=gPw (TI.h:tyI P e=some (gg,z,bs));have hZ:tyZ P e=some zs:=TZ.h;obtain⟨zv,hzv,hzc⟩:∃zv,inf.zero=some zv∧zv.cells.toList=zs:=by
  unfold tyZ at hZ;simp only [hi] at hZ;cases hz:inf.zero with
  | none=>simp [hz] at hZ
  | some zv=>exact⟨zv,rfl,by simpa [hz] using hZ⟩
 have hzsz:zv.cells.size=z:=by rw [←hzl,←hzc];simp
 have hzr:(zeroValue e).run P w=.ok zv w:=by simp [zeroValue,run_typeInfo hi,hzv]
 have htN:=Nat.lt_of_lt_of_eq (Nat.le_of_ble_eq_true ht) hN.symm;have hrunl:∀(base:Option Addr)(cap:Nat),(Instr.slice T (.slice base es.length cap) (some (.int .i64 (k:Int))) none none).run P w=.ok (sliced base k es.length cap z) w:=by
  intro base cap;have hrun:=run_slice_l (w:=w) T base es.length cap hT' .i64 (k:Int) (by omega) (by omega);rw [hel,hsz] at hrun;simpa [Result.andThen] using hrun
 have hput:∀v,(a.put (some t) v).eval (.tmp t)=v:=fun v=>by
  show(a.put (some t) v).tmps.getD t undef=v;rw [Act.getD_put a t v htN];simp
 have hst:∀v,(Instr.slice T hv (some (.int .i64 (k:Int))) none none).run P w=.ok v w→∀w2,(Builtin.clear_ #[T] ty2 #[v]).run P w=.ok (.tuple #[]) w2→
   mY A ⟨(t,.junk)::fr,L.set i (.own e z ver (es.take k++List.replicate (es.length - k) zu)),N⟩ (a.put (some t) v) w2→
   wpList P ops R (⟨some t,.slice T x (some y) none none,ty,pos,af,none⟩::⟨none,.call { callee:=.builtin .clear,args:=#[.tmp t],argTypes:=#[T] },ty2,pos2,af2,none⟩::rest) a w:=by
  intro v hv1 w2 hv2 hr;refine wpList_plain rfl fun K1 hK1=>?_;unfold Oper.wp;have e1:(execOp a.eval ⟨some t,.slice T x (some y) none none,ty,pos,af,none⟩).run P w=.ok (.value v) w:=by
   simp [execOp,hxe,h2,Instr.sliceAt,run_underlying hT,hv1]
  rw [e1];refine hK1 _ _ (wpList_plain rfl fun K2 hK2=>?_);unfold Oper.wp;have e2:(execOp (a.put (some t) v).eval ⟨none,.call { callee:=.builtin .clear,args:=#[.tmp t],argTypes:=#[T] },ty2,pos2,af2,none⟩).run P w=.ok (.value (.tuple #[])) w2:=by
   simp [execOp,resolve,invoke,builtin,hput,hv2]
  rw [e2];exact hK2 _ _ (h R hR _ _ hr)
 have hiL:=(List.getElem?_eq_some_iff.1 hL).1;rcases Nat.eq_or_lt_of_le hk with hke | hlt
 ·have hform:∃base cap,hv=.slice base es.length cap:=by
   rcases o3.2 with ⟨rfl,h0⟩ | ⟨g,cap,cur,rfl,_⟩
   ·exact⟨none,0,by rw [h0]⟩
   ·exact⟨_,cap,rfl⟩
  obtain⟨base,cap,rfl⟩:=hform;refine hst _ (hrunl base cap) w ?_ ?_
  ·have h0:∀(ad:Option Addr)(c:Nat),(Builtin.clear_ #[T] ty2 #[.slice ad 0 c]).run P w=.ok (.tuple #[]) w:=fun ad c=>by
    cases ad<;>simp [Builtin.clear_,run_underlying hT]
   unfold sliced;rw [hke,Nat.sub_self];exact h0 _ _
  ·have he:es.take k++List.replicate (es.length - k) zu=es:=by subst hke;simp
   have hs:L.set i (.own e z ver es)=L:=by
    apply List.ext_getElem?;intro j;by_cases hj:i=j
    ·subst hj;rw [List.getElem?_set_self hiL,hL]
    ·rw [List.getElem?_set_ne hj]
   rw [he,hs];exact uU hf hN hd ht hH Carry.refl (by simp only [SVr])
 ·rcases o3.2 with ⟨rfl,h0⟩ | ⟨g,cap,cur,rfl,hg0,hg,hnc,hcm,hcs,htake⟩
  ·omega
  have hkz:k*z+(es.length - k)*z=es.length*z:=by rw [←Nat.add_mul];congr 1;omega
  have hcap:es.length*z≤cap*z:=Nat.mul_le_mul_right _ hnc;have hxl:=o3.1;obtain⟨cs,hcsd⟩:∃cs,cs=(Builtin.zeroCells zv.cells (es.length - k)).toList:=⟨_,rfl⟩
  have hcl:cs.length=(es.length - k)*z:=by rw [hcsd];simp [Builtin.zeroCells,hzsz]
  have hce:∀j,j < (es.length - k)*z→cs[j]? =zs[j % z]? :=by
   intro j hj;have hjm:j % z < zv.cells.size:=by rw [hzsz];exact Nat.mod_lt _ hz0
   rw [hcsd,Array.getElem?_toList];simp only [Builtin.zeroCells,Array.getElem?_map,←hzc,Array.getElem?_toList];rw [Array.getElem?_eq_getElem (by simpa [hzsz] using hj)];simp only [Array.getElem_range,Option.map_some,hzsz];rw [Array.getElem?_eq_getElem hjm,getElem!_pos zv.cells (j % z) hjm]
  have hc1:∀v∈cs,v.oneCell'=true:=by
   intro v hv;obtain⟨j,hj⟩:=List.mem_iff_getElem?.1 hv;have hjl:=(List.getElem?_eq_some_iff.1 hj).1;rw [hce j (by omega)] at hj;exact List.all_eq_true.1 hz1 v (List.mem_of_getElem? hj)
  have hsc:=run_storeCells_at P g (k*z) e cs 0 cur w hg (by omega) hc1;rw [Nat.add_zero] at hsc;have hrow:=setRow_heap w g cur ((cur.toList.take (k*z)++cs++cur.toList.drop (k*z+cs.length)).toArray) e (0,0) hg;refine hst _ (hrunl _ _) (w.setRow g (cur.toList.take (k*z)++cs++cur.toList.drop (k*z+cs.length)).toArray) ?_ ?_
  ·obtain⟨m,hm⟩:∃m,es.length - k=m+1:=⟨es.length - k - 1,by omega⟩
   have hv0:sliced (some ⟨g,0,none⟩) k es.length cap z=.slice (some ⟨g,k*z,none⟩) (m+1) (cap - k):=by
    simp [sliced,show ¬cap=k by omega,Addr.add_lit,hm]
   rw [hv0];rw [hm] at hcsd;simp [Builtin.clear_,run_underlying hT,hzr,←hcsd,hsc]
  ·have hzs:zu.sz=z:=by rw [←Tr.len _ _ (hzu w).1,hzl]
   have hz1':∀v∈es.take k,v.sz=z:=fun v hv=>o2 v (List.mem_of_mem_take hv);have hz2':∀v∈es.take k++List.replicate (es.length - k) zu,v.sz=z:=fun v hv=>by
    rcases List.mem_append.1 hv with hv | hv
    ·exact hz1' v hv
    ·rw [(List.mem_replicate.1 hv).2];exact hzs
   have s1:U.szs (es.take k)=k*z:=by rw [gOp _ hz1',List.length_take,Nat.min_eq_left hk]
   have o4':=o4;rw [←List.take_append_drop k es] at o4';obtain⟨p1,_,_⟩:=Trs.split (es.take k) xs _ o4';rw [s1] at p1;obtain⟨n1,n2⟩:=gS9 es k hns;obtain⟨t1,t2⟩:=Trs.loc (w':=w.setRow g (cur.toList.take (k*z)++cs++cur.toList.drop (k*z+cs.length)).toArray) _ _ p1 (fun b hb=>by rw [gHm _ _ n1] at hb;simp at hb);obtain⟨t3,t4⟩:=hKk (w:=w.setRow g (cur.toList.take (k*z)++cs++cur.toList.drop (k*z+cs.length)).toArray) hzu hzs (es.length - k) cs hcl hce;obtain⟨r1,r2⟩:=Trs.append _ _ _ _ t1 t3;rw [t2,gHm _ _ n1,t4,List.append_nil] at r2;have hl':(es.take k++List.replicate (es.length - k) zu).length=es.length:=by simp;omega
   have hown':(w.setRow g (cur.toList.take (k*z)++cs++cur.toList.drop (k*z+cs.length)).toArray).ownsRow 0 e z (.slice (some ⟨g,0,none⟩) es.length cap) (es.take k++List.replicate (es.length - k) zu).length (xs.take (k*z)++cs):=by
    refine⟨by simp only [List.length_append,List.length_take,hl',hxl,hcl];omega,.inr ⟨g,cap,_,by rw [hl'],hg0,hrow,by rw [hl'];exact hnc,hcm,by simp only [List.size_toArray,List.length_append,List.length_take,List.length_drop,Array.length_toList,hcl];omega,?_⟩⟩;rw [hl',←htake]
    have:=gJz cur.toList (k*z) (es.length*z) cs (by rw [hcl];omega) (by simp only [Array.length_toList];omega)
    rw [this,List.drop_eq_nil_of_le (by simp only [List.length_take,Array.length_toList,hcl];omega),List.append_nil]
   have hfp:=gVf o2 o3 g rfl;have hfp':=gVf hz2' hown' g rfl;rw [r2] at hfp';rw [gHm _ _ hns] at hfp
   obtain⟨hH',C⟩:=hH.eat (w':=w.setRow g (cur.toList.take (k*z)++cs++cur.toList.drop (k*z+cs.length)).toArray) [] i (.own e z ver (es.take k++List.replicate (es.length - k) zu)) (.slice (some ⟨g,0,none⟩) es.length cap) (L':=L.set i (.own e z ver (es.take k++List.replicate (es.length - k) zu))) (env':=env)
    (by rw [List.length_set];exact hH.len) (fun j hj=>by rw [List.getElem?_set_ne (fun e=>hj e.symm)];simp) (List.getElem?_set_self hiL) (fun _ _=>rfl) k1
    (fun k' hk' hno=>setRow_other w g k' _ (fun e=>hno _ _ hL k1 ⟨rfl,by simp only [LO.ft];rw [hfp,e];simp⟩))
    (fun o hv h1 h2=>by rw [hL] at h1;cases h1;rw [k1] at h2;cases h2;exact⟨Nat.le_refl _,fun _=>rfl,fun _ _=>rfl⟩)
    (by rw [setRow_size];exact Nat.le_refl _) rfl rfl rfl
    (fun b hb=>by
     simp only [LO.ft] at hb;rw [hfp'] at hb;simp only [List.mem_singleton] at hb;subst hb
     exact⟨by rw [setRow_size];exact(Array.getElem?_eq_some_iff.1 hg).1,.inr ⟨i,_,_,.inl rfl,hL,rfl,k1,by simp only [LO.ft];rw [hfp];simp⟩⟩)
    (fun C=>⟨by rw [hl'];exact o1,hz2',⟨_,hown',r1⟩,by rw [hfp'];simp⟩)
   exact uU hf hN hd ht hH' C (by simp only [SVr])
theorem hMz {T e:TypeId}{gg:Bool}{zz bs i ver k:Nat}{es:List U}{fr:List (Nat × SV)}{L L':List LO}{N:Nat} [TE P T e] [TI P e gg zz bs] (hk:k≤es.length) (hns:U.noSls es=true)
  (h:VO P A ops rest ⟨(t,.sl i (ver+1))::fr,L',N⟩ K)
  (hx:(St.mk fr L N).ev x=.sl i ver:=by rfl) (hL:L[i]? =some (.own e zz ver es):=by rfl) (hy:(St.mk fr L N).ev y=.d (.i .i64 (k:Int)):=by rfl) (ht:Nat.blt t N=true:=by rfl) (hL':St1 (.own e zz (ver+1) (es.take k)) i L L':=by repeat constructor) :
  VO P A ops (⟨some t,.slice T x none (some y) none,ty,pos,af,none⟩::rest) ⟨fr,L,N⟩ K:=by
 have:=hL'.spec
 subst this;refine gDd rfl (fun S env a w hH hf hN hd=>?_) h;have h1:=mY.ev hf hH x;have h2:=mY.ev hf hH y;rw [hx] at h1;rw [hy,SVr.int] at h2;simp only [SVr] at h1;obtain⟨hv,o,k1,k2,_,_,k3⟩:=h1;rw [hL] at k2;cases k2;have hxe:=k3 rfl;have hob:=hH.objs i _ hv hL k1;obtain⟨o1,o2,⟨xs,o3,o4⟩,o5⟩:=hob;have hi:=(List.getElem?_eq_some_iff.1 hL).1;have hie:i < env.length:=by rw [hH.len];exact hi
 have hT:P.underlying T=some (.slice e):=zN TE.h;have hel:P.elem T=e:=by simp [Program.elem,hT]
 have hT':P.underlying T=some (.slice (P.elem T)):=by rw [hel];exact hT
 have hsz:=run_sizeOf (w:=w) (TI.h:tyI P e=some (gg,zz,bs));have hrunh:∀(base:Option Addr)(cap:Nat),es.length≤cap→(Instr.slice T (.slice base es.length cap) none (some (.int .i64 (k:Int))) none).run P w=.ok (.slice base k cap) w:=by
  intro base cap hc;have hrun:=run_slice_h (w:=w) T base es.length cap hT' .i64 (k:Int) (by omega) (by omega);rw [hel,hsz] at hrun;simp only [Result.andThen] at hrun;rw [hrun];cases base<;>simp [sliced,Addr.add_lit];rename_i a0;obtain⟨b0,o0,p0⟩:=a0;cases p0<;>simp [Addr.add]
 have htl:(es.take k).length=k:=by rw [List.length_take];omega
 have hz1':∀v∈es.take k,v.sz=zz:=fun v hv=>o2 v (List.mem_of_mem_take hv);have s1:U.szs (es.take k)=k*zz:=by rw [gOp _ hz1',htl]
 have o4':=o4;rw [←List.take_append_drop k es] at o4';obtain⟨p1,_,_⟩:=Trs.split (es.take k) xs _ o4';rw [s1] at p1;obtain⟨n1,n2⟩:=gS9 es k hns;have form:∃base cap,hv=.slice base es.length cap∧es.length≤cap∧(base=none∧cap=0∨∃g cur,base=some ⟨g,0,none⟩∧w.heap[g]? =some (.cells cur e (0,0))∧cap≤maxLen∧cur.size=cap*zz∧cur.toList.take (es.length*zz)=xs∧g∈(U.sl zz es).fp w [hv]):=by
  rcases o3.2 with ⟨rfl,h0⟩ | ⟨g,cap,cur,rfl,_,r1,r2,r3,r4,r5⟩
  ·exact⟨none,0,by rw [h0],by omega,.inl ⟨rfl,rfl⟩⟩
  ·exact⟨some ⟨g,0,none⟩,cap,rfl,r2,.inr ⟨g,cur,rfl,r1,r3,r4,r5,by simp [U.fp]⟩⟩
 obtain⟨base,cap,f1,f0,f3⟩:=form;obtain⟨hH',C⟩:pW A S (L.set i (.own e zz (ver+1) (es.take k))) (env.set i (.slice base k cap)) w∧Carry S L env w S (L.set i (.own e zz (ver+1) (es.take k))) (env.set i (.slice base k cap)) w:=by
  refine hH.eat [] i _ (.slice base k cap) (by rw [List.length_set,List.length_set];exact hH.len) (fun j hj=>?_) (List.getElem?_set_self hi) (fun j hj=>List.getElem?_set_ne (fun e=>hj e.symm)) (List.getElem?_set_self hie) (fun _ _ _=>rfl) (fun o hv1 h1 h2=>?_) (Nat.le_refl _) rfl rfl rfl (fun k' hk'=>?_) (fun C=>?_)
  ·rw [List.getElem?_set_ne (fun e=>hj e.symm)];simp
  ·rw [hL] at h1;rw [k1] at h2;cases h1;cases h2;refine⟨Nat.le_succ _,fun h=>absurd h (by simp [LO.ver]),fun b hb=>?_⟩;rw [f1] at hb;cases hb
  ·rcases f3 with ⟨rfl,rfl⟩ | ⟨g,cur,rfl,r1,r2,r3,r5,r4⟩
   ·simp [LO.ft,U.fp] at hk'
   ·simp only [LO.ft,U.fp] at hk';rw [gHm _ _ n1] at hk';simp at hk';subst hk';exact⟨(Array.getElem?_eq_some_iff.1 r1).1,.inr ⟨i,_,hv,.inl rfl,hL,rfl,k1,r4⟩⟩
  ·rcases f3 with ⟨rfl,rfl⟩ | ⟨g,cur,rfl,r1,r2,r3,r5,r4⟩
   ·have hes:es=[]:=List.eq_nil_of_length_eq_zero (by omega);subst hes;obtain rfl:k=0:=by simpa using hk
    exact⟨by simp [yY],by simp,⟨[],World.ownsRow_nil w 0 e zz,by simp [Trs]⟩,by simp [U.fp]⟩
   ·refine⟨by rw [htl];omega,hz1',⟨xs.take (k*zz),⟨by rw [htl,List.length_take,o3.1,Nat.min_eq_left (Nat.mul_le_mul_right _ hk)],.inr ⟨g,cap,cur,by rw [htl],Nat.zero_le _,r1,by rw [htl];omega,r2,r3,?_⟩⟩,p1⟩,?_⟩
    ·rw [htl,←r5,List.take_take,Nat.min_eq_left (Nat.mul_le_mul_right _ hk)]
    ·simp only [U.fp];rw [gHm _ _ n1];simp
 refine⟨.value (.slice base k cap),w,?_,.inl ⟨_,rfl,uU hf hN hd ht hH' C ?_⟩⟩
 ·have hxe':a.eval x=.slice base es.length cap:=by rw [hxe,f1]
  simp [execOp,hxe',h2,Instr.sliceAt,run_underlying hT,hrunh base cap f0]
 ·simp only [SVr];exact⟨.slice base k cap,_,List.getElem?_set_self hie,List.getElem?_set_self hi,Nat.le_refl _,rfl,fun _=>rfl⟩
end
end Go.Eng
namespace Go.Eng
open Go
end Go.Eng
namespace Go.Eng
open Go Go.RowKit
section
variable {P:Program}{A:Amb}{K:St→Prop}{ops:Array Oper}{rest:List Oper}{t i:Nat}{ty ty2:TypeId}{pos pos2:String}{af af2:Array Edge}{x y:Operand}{fr:List (Nat × SV)}{L L':List LO}{N:Nat}
variable {α:Type}{en:α→U}{es:List α→List U}{z:Nat}[E:Enc α en es z]{ver:Nat}{T e bs:Nat}{gg:Bool}
theorem St1.mk{β:Type}{x:β}:∀{i:Nat}{l:List β},i < l.length→St1 x i l (l.set i x)
 | 0,_::_,_=>.z
 | i+1,_::l,h=>.s (St1.mk (by simpa using h))
theorem gZe{α:Type}{en:α→U}{es:List α→List U}{z:Nat}[E:Enc α en es z](hn:∀a:α,(en a).noSl=true)(l:List α):U.noSls (es l)=true:=by
 rw [E.h]
 induction l with
 | nil=>rfl
 | cons a l ih=>simp [U.noSls,hn a,ih]
theorem hM3{es:List U}(i:Nat)(h:VO P A ops rest ⟨fr,L',N⟩ K)(hL:L[i]? =some (.own e z ver es):=by rfl)(hL':L.set i (.arr e z ver es)=L':=by rfl):VO P A ops rest ⟨fr,L,N⟩ K:=by
 subst hL';exact fun R hR a w hr=>h R hR a w (hr.share hL)
theorem hM4 {l:List α}(a0:α){zs:List Value}{k:Int}(hk:0≤k∧k≤(l.length:Int)) [TE P T e] [TI P e gg z bs] [TZ P e zs]
  (h:VO P A ops rest ⟨(t,.junk)::fr,L',N⟩ K)
  (hx:(St.mk fr L N).ev x=.sl i ver:=by rfl) (hL:L[i]? =some (.arr e z ver (es l)):=by rfl) (hy:(St.mk fr L N).ev y=.d (.i .i64 k):=by rfl) (ht:Nat.blt t N=true:=by rfl)
  (hn:∀a:α,(en a).noSl=true:=by exact fun _=>rfl) (hzu:gW8 (en a0) zs:=by exact hOy (by repeat constructor) (by repeat constructor)) (hz:(Nat.blt 0 z && zs.length==z && (en a0).noSl && zs.all fun v=>v.oneCell')=true:=by rfl)
  (hL':L.set i (.arr e z ver (es (l.take k.toNat++List.replicate (l.length - k.toNat) a0)))=L':=by rfl) :
  VO P A ops (⟨some t,.slice T x (some y) none none,ty,pos,af,none⟩::⟨none,.call { callee:=.builtin .clear,args:=#[.tmp t],argTypes:=#[T] },ty2,pos2,af2,none⟩::rest) ⟨fr,L,N⟩ K:=by
 have hi:=(List.getElem?_eq_some_iff.1 hL).1;subst hL';rw [show k=((k.toNat:Nat):Int) by omega] at hy;refine hMv i ?_ hL (gZe (es:=es) hn l) (St1.mk hi);refine hPn (k:=k.toNat) (by rw [Enc.len];omega) (gZe (es:=es) hn l) hzu ?_ hz hx (List.getElem?_set_self hi) hy ht (St1.mk (by simpa using hi));refine hM3 i ?_ (by rw [List.set_set];exact List.getElem?_set_self hi) rfl;rw [List.set_set,List.set_set];rw [Enc.app (es:=es),Enc.rep (es:=es)] at h;have e1:(es l).take k.toNat=es (l.take k.toNat):=by rw [Enc.h (es:=es),Enc.h (es:=es),List.map_take]
 rw [e1,Enc.len];exact h
theorem hEu {l:List α}{k:Int}(hk:0≤k∧k≤(l.length:Int)) [TE P T e] [TI P e gg z bs]
  (h:VO P A ops rest ⟨(t,.sl i (ver+1))::fr,L',N⟩ K)
  (hx:(St.mk fr L N).ev x=.sl i ver:=by rfl) (hL:L[i]? =some (.arr e z ver (es l)):=by rfl) (hy:(St.mk fr L N).ev y=.d (.i .i64 k):=by rfl) (ht:Nat.blt t N=true:=by rfl)
  (hn:∀a:α,(en a).noSl=true:=by exact fun _=>rfl) (hL':L.set i (.arr e z (ver+1) (es (l.take k.toNat)))=L':=by rfl) :
  VO P A ops (⟨some t,.slice T x none (some y) none,ty,pos,af,none⟩::rest) ⟨fr,L,N⟩ K:=by
 have hi:=(List.getElem?_eq_some_iff.1 hL).1;subst hL';rw [show k=((k.toNat:Nat):Int) by omega] at hy;refine hMv i ?_ hL (gZe (es:=es) hn l) (St1.mk hi);refine hMz (k:=k.toNat) (by rw [Enc.len];omega) (gZe (es:=es) hn l) ?_ hx (List.getElem?_set_self hi) hy ht (St1.mk (by simpa using hi));refine hM3 i ?_ (by rw [List.set_set];exact List.getElem?_set_self hi) rfl;rw [List.set_set,List.set_set];have e1:(es l).take k.toNat=es (l.take k.toNat):=by rw [Enc.h (es:=es),Enc.h (es:=es),List.map_take]
 rw [e1];exact h
theorem hPo {l:List α}{k:Nat}(a:α)(hk:k < l.length) [TI P T gg z bs] (h:VO P A ops rest ⟨fr,L',N⟩ K) (hx:(St.mk fr L N).ev x=.ep i ver z k 0:=by rfl) (hL:L[i]? =some (.arr e z ver (es l)):=by rfl)
  (hy:VD L ((St.mk fr L N).ev y) (en a):=by((repeat(first | exact trivial | exact rfl | exact⟨_,rfl⟩ | refine And.intro ?_ ?_));first | done | fail)) (hL':L.set i (.arr e z ver (es (l.set k a)))=L':=by rfl) :
  VO P A ops (⟨none,.store T x y,ty,pos,af,none⟩::rest) ⟨fr,L,N⟩ K:=by
 rw [Enc.set (es:=es)] at hL';exact gXp hx hL hy TI.h (Enc.hz a) (by rw [Enc.len];exact hk) hL' h
theorem jAq {σ:St}{dst:Option Nat}{g:Option (Nat × Bool)}{f:Operand}{fi:Nat}{caps caps':List SV}{args:Array Operand}{at_:Array TypeId}{dargs:List SV}{u:U}
  (hspec:jI P fi (dargs++caps') [u]) (hu:u.scal=true:=by rfl) (hf:σ.ev f=.fn fi caps:=by rfl) (hargs:WCs σ.L (args.toList.map σ.ev) dargs:=by((repeat(first | exact trivial | exact rfl | exact⟨_,rfl⟩ | refine Exists.intro _ (And.intro rfl ?_) | refine And.intro ?_ ?_));first | done | fail)) (hcaps:VBs σ.L caps caps':=by((repeat(first | exact trivial | exact rfl | exact⟨_,rfl⟩ | refine Exists.intro _ (And.intro rfl ?_) | refine And.intro ?_ ?_));first | done | fail)) :
  Quiet P A σ ⟨dst,.call { callee:=.value f,args:=args,argTypes:=at_ },ty,pos,af,g⟩ (.d u):=by
 intro S env a w hH hx next R hn
 have h1:=hx f (by simp [Op.operands,Call.operands]);rw [hf] at h1;simp only [SVr] at h1;obtain⟨cvs,h1,h2⟩:=h1;have h3:kP S σ.L env w (args.toList.map σ.ev) (args.toList.map a.eval):=kP.evals _ fun x hx'=>hx x (by simp [Op.operands,Call.operands];exact .inr (by simpa using hx'));have h4:=WCs.r hH hargs h3;have h5:kP (gS2 S σ.L env w) [] [] w (dargs++caps') (args.toList.map a.eval++cvs):=by
  have k:kP (gS2 S σ.L env w) [] [] w caps' cvs:=kP.carry ⟨fun b hb _=>gS3 hb,fun _ _ _=>rfl,fun _ _ h=>h,fun _ _ _ h1 h2=>⟨_,_,h1,h2,Nat.le_refl _,fun _=>rfl⟩⟩ _ _ (VBs.r hH hcaps h2);rw [kP.iff] at h4 k ⊢;exact yZ.append h4 k
 obtain⟨⟨fn,c1,c2,c3⟩,hs⟩:=hspec;have hrun:(execOp a.eval ⟨dst,.call { callee:=.value f,args:=args,argTypes:=at_ },ty,pos,af,g⟩).run P w=.ok (.enter fi (args.toList.map a.eval++cvs).toArray) w:=by
  have harr:args.map a.eval++cvs.toArray=(args.toList.map a.eval++cvs).toArray:=by apply Array.ext';simp
  simp only [execOp,resolve,h1,Deferred.ofValue,Sem.run_bind,Sem.run_pure,Result.andThen_ok,invoke,callFunc,run_program,c1,c2,c3,Bool.false_eq_true,if_false,Array.empty_append,harr]
 unfold Oper.wp;rw [hrun];simp only [Oper.upon];refine(hs ⟨w,gS2 S σ.L env w,fun _=>False,[],[]⟩ (gS2 S σ.L env w) [] w _ rfl rfl rfl rfl hH.lend h5).mono ?_;rintro e w' ⟨r,sv',S',Lc,envc,rfl,⟨rfl,rfl⟩,hH',hr⟩;obtain⟨hj,C⟩:=hH.join hH' (fun o ho=>by cases ho);have henvc:envc=[]:=List.eq_nil_of_length_eq_zero (by simpa using hH'.len);subst henvc;simp only [List.append_nil] at hj C;exact hn r w' S hj C (gF5 hu hr)
end
theorem gVw{L:List LO}{ρ:Nat→Nat}:∀(js:List Nat)(Lc:List LO)(n:Nat),js.length=Lc.length→(∀(m:Nat)(h:m < js.length),ρ (n+m)=js[m])→gOr L ρ n Lc→gI1 js (Lc.map (LO.ren ρ)) L=L
 | [],[],n,_,_,_=>by simp [gI1]
 | [],o::os,n,h,_,_=>by simp at h
 | j::js,[],n,h,_,_=>by simp at h
 | j::js,o::os,n,h,hr,hp=>by
   have h0:ρ n=j:=hr 0 (by simp);have h1:=hp.1;rw [h0] at h1;have hs:L.set j (o.ren ρ)=L:=by
    obtain⟨hj,e⟩:=List.getElem?_eq_some_iff.1 h1;rw [←e];exact List.set_getElem_self hj
   simp only [List.map_cons,gI1,hs]
   exact gVw js os (n+1) (by simpa using h) (fun m hm=>by
    have:=hr (m+1) (by simpa using hm)
    rw [show n+1+m=n+(m+1) by omega,this]
    simp) hp.2
theorem hEv{L Lc:List LO}{js:List Nat}(hp:gOr L (rn js L.length) 0 Lc)(hjs:(decide js.Nodup && (js.all fun j=>Nat.blt j L.length) && js.length==Lc.length && LO.lts Lc.length Lc)=true):gI1 js (Lc.map (LO.ren (rn js L.length))) L=L:=by
 simp only [Bool.and_eq_true,beq_iff_eq] at hjs;refine gVw js Lc 0 hjs.1.2 (fun m hm=>?_) hp;unfold rn;rw [Nat.zero_add,List.getElem?_eq_getElem hm];rfl
section
variable {P:Program}{A:Amb}{ops:Array Oper}{K:St→Prop}{r:List (Nat × Bool)}{pf:PF}{fr:List (Nat × SV)}{L:List LO}{N i t:Nat}
variable {ty:TypeId}{pos:String}{af:Array Edge}{sv:SV}
theorem gRm {f:Operand}{fi:Nat}{caps:List SV}{args:Array Operand}{at_:Array TypeId}{cargs:List SV}{Lc:List LO}{sv0:SV}(js:List Nat)(hspec:Spec P fi cargs Lc (fun sv Lo'=>sv=sv0∧Lo'=Lc))(h:VY P A ops K r pf ⟨(t,sv)::fr,L,N⟩)
  (hi:ops[i]? =some ⟨some t,.call { callee:=.value f,args:=args,argTypes:=at_ },ty,pos,af,none⟩:=by rfl) (hsv:sv0.ren (rn js L.length)=sv:=by rfl)
  (hf:(St.mk fr L N).ev f=.fn fi caps:=by rfl) (hp:gOr L (rn js L.length) 0 Lc:=by((repeat(first | exact trivial | exact rfl | refine And.intro ?_ ?_));first | done | fail))
  (hjs:(decide js.Nodup && (js.all fun j=>Nat.blt j L.length) && js.length==Lc.length && LO.lts Lc.length Lc)=true:=by rfl)
  (hargs:AGs L (rn js L.length) Lc.length (args.toList.map (St.mk fr L N).ev++caps) cargs:=by((repeat(first | exact trivial | exact .inl ⟨rfl,rfl⟩ | exact .inr ⟨_,rfl,by((repeat(first | exact trivial | exact rfl | exact⟨_,rfl⟩ | refine And.intro ?_ ?_));first | done | fail)⟩ | refine And.intro ?_ ?_));first | done | fail))
  (ht:Nat.blt t N=true:=by rfl) (hpf:vU ops i L pf:=by(repeat(first | exact vU.nil | (apply vU.keep;focus ((repeat constructor);done)) | (apply vU.dep;focus kernel_rfl)))) :
  VY P A ops K ((i,false)::r) pf ⟨fr,L,N⟩:=gDm js hspec h hi hsv (hEv hp hjs) hf hp hjs hargs ht hpf
end
end Go.Eng
