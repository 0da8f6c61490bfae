import Derived.Test.YtfpdlnkkcnmebaaGreatEng51
import Derived.MapKept
import Derived.Lib.AppendZeros
set_option linter.unusedVariables false
set_option linter.unusedSimpArgs false
namespace Go.Eng
open Go Go.RowKit
section
variable {P:Program}{A:Amb}{σ:St}{K:St→Prop}{Q:Exit→St→Prop}
variable {ops:Array Oper}{rest:List Oper}{t:Nat}{ty:TypeId}{pos:String}{af:Array Edge}{x y:Operand}{sv:SV}{dst:Option Nat}{g:Option (Nat × Bool)}
theorem hEn{c:Code}{fr:List (Nat × SV)}{L L':List LO}{N e z ver:Nat}{es:List U}(t m:Nat)(h:V P A c ⟨(t,.sl m (ver+1))::fr,L',N⟩ Q)(ht:look fr t=.nilsl:=by rfl)(hL:L[m]? =some (.arr e z ver es):=by rfl)(hL':St1 (.arr e z (ver+1) []) m L L':=by repeat constructor):V P A c ⟨fr,L,N⟩ Q:=by
 have:=hL'.spec
 subst this;intro a w ⟨S,env,hH,hf,hN,hd⟩;refine h a w ?_;have hi:=(List.getElem?_eq_some_iff.1 hL).1;have hie:m < env.length:=by rw [hH.len];exact hi
 obtain⟨hv,hhv⟩:∃hv,env[m]? =some hv:=⟨_,List.getElem?_eq_getElem hie⟩
 have hob:=hH.objs m _ hv hL hhv;obtain⟨hH',C⟩:pW A S (L.set m (.arr e z (ver+1) [])) (env.set m (.slice none 0 0)) w∧Carry S L env w S (L.set m (.arr e z (ver+1) [])) (env.set m (.slice none 0 0)) w:=by
  refine hH.eat [] m _ (.slice none 0 0) (by rw [List.length_set,List.length_set];exact hH.len) (fun j hj=>?_) (List.getElem?_set_self hi) (fun j hj=>List.getElem?_set_ne (fun e=>hj e.symm)) (List.getElem?_set_self hie) (fun _ _ _=>rfl) (fun o hv1 h1 h2=>?_) (Nat.le_refl _) rfl rfl rfl (fun k hk=>?_) (fun C=>?_)
  ·rw [List.getElem?_set_ne (fun e=>hj e.symm)];simp
  ·rw [hL] at h1;rw [hhv] at h2;cases h1;cases h2;refine⟨Nat.le_succ _,fun h=>absurd h (by simp [LO.ver]),fun b hb=>?_⟩;subst hb;rcases gUg hob with ⟨h,_⟩ | ⟨_,_,h⟩<;>cases h
  ·simp [LO.ft,blk] at hk
  ·exact⟨by simp [yY],by simp,[],World.ownsRow_nil w 0 e z,by simp [Rds]⟩
 refine⟨S,_,hH',fun t'=>?_,hN,hd⟩;have ht':=SVr.carry C _ _ (hf t');simp only at ht';by_cases he:t'=t
 ·subst he;simp only [Go.Eng.look,if_true];rw [ht] at ht';simp only [SVr] at ht' ⊢;rw [ht'];exact⟨.slice none 0 0,_,List.getElem?_set_self hie,List.getElem?_set_self hi,Nat.le_refl _,rfl,fun _=>rfl⟩
 ·simp only [Go.Eng.look,if_neg he];exact ht'
end
section
variable {P:Program}{A:Amb}{Q:Exit→St→Prop}{c:Code}
end
theorem VDs.same{σ σ':St}(hL:σ'.L=σ.L){l:List Operand}{us:List U}(h:VDs σ l us):(∀x∈l,σ'.ev x=σ.ev x)→VDs σ' l us:=by
 induction h with
 | nil=>exact fun _=>.nil
 | @cons x l u us h h2 ih=>exact fun he=>.cons (by rw [hL,he x (by simp)];exact h) (ih fun y hy=>he y (by simp [hy]))
section
variable {P:Program}{A:Amb}{ops:Array Oper}{K:St→Prop}{r:List (Nat × Bool)}{pf:PF}{fr:List (Nat × SV)}{L L1 L':List LO}{N i t m:Nat}
variable {ty:TypeId}{pos:String}{af:Array Edge}{x y:Operand}{T:TypeId}
theorem kT {e z bs n:Nat}{gg:Bool} [TE P T e] [TI P e gg z bs] {zs:List Value} [TZ P e zs] {us:List U} {ps:Array (Nat × Operand)} (h:VY P A ops K r pf ⟨(t,.sl m 0)::fr,L',N⟩) (hi:ops[i]? =some ⟨some t,.buildSlice T n ps,ty,pos,af,none⟩:=by rfl) (hps:ps.toList=((ps.toList.map Prod.snd).zipIdx 0).map (fun p=>(p.2,p.1)):=by rfl)
  (hy:VDs ⟨fr,L,N⟩ (ps.toList.map Prod.snd) us:=by(repeat(first | exact .nil | refine .cons (by((repeat(first | exact trivial | exact rfl | exact⟨_,rfl⟩ | refine And.intro ?_ ?_));first | done | fail)) ?_))) (hu:(us.all fun u=>u.sz==z)=true:=by rfl) (hn:((ps.toList.map Prod.snd).length==n && Nat.blt 0 n)=true:=by rfl)
  (hz:(Nat.blt 0 z && Nat.ble (n*z) 16777216 && zs.length==z)=true:=by rfl) (ht:Nat.blt t N=true:=by rfl) (hL':Sn (.arr e z 0 us) L m L':=by repeat constructor)
  (hp:vU ops i L' pf:=by(repeat(first | exact vU.nil | (apply vU.keep;focus ((repeat constructor);done)) | (apply vU.dep;focus kernel_rfl)))):VY P A ops K ((i,false)::r) pf ⟨fr,L,N⟩:=
 gE5 hi (fun fr' he' K' hK=>yQ (gDc hK) hps (VDs.same (σ:=⟨fr,L,N⟩) (σ':=⟨fr',L,N⟩) rfl hy (fun x hx=>he' x (by simpa [Op.operands] using hx))) hu hn hz ht hL') hp h
theorem kN {α:Type}{en:α→U}{es:List α→List U}{z:Nat}[E:Enc α en es z]{l l2:List α}(hg:l.length+l2.length≤4294967296){e bs ver:Nat}{T':TypeId}{gg:Bool} [TE P T e] [TI P e gg z bs] {zs:List Value} [TZ P e zs]
  (h:VY P A ops K r pf ⟨(t,.sl m (ver+1))::fr,L',N⟩) (hi:ops[i]? =some ⟨some t,.call { callee:=.builtin .append,args:=#[x,y],argTypes:=#[T,T] },T',pos,af,none⟩:=by rfl) (hx:(St.mk fr L N).ev x=.sl m ver:=by rfl) (hL:L[m]? =some (.arr e z ver (es l)):=by rfl) (hs:SrcOf ⟨fr,L,N⟩ z (es l2) ((St.mk fr L N).ev y):=by first | exact⟨_,rfl⟩ | exact⟨rfl,rfl,Enc.all _⟩ | exact rfl)
  (hz:(Nat.blt 0 z && zs.length==z)=true:=by rfl) (hb:Nat.ble bs 32768=true:=by rfl) (ht:Nat.blt t N=true:=by rfl) (hL':L.set m (.arr e z (ver+1) (es (l++l2)))=L':=by rfl)
  (hp:vU ops i L' pf:=by(repeat(first | exact vU.nil | (apply vU.keep;focus ((repeat constructor);done)) | (apply vU.dep;focus kernel_rfl)))):VY P A ops K ((i,false)::r) pf ⟨fr,L,N⟩:=
 gE5 hi (fun fr' he' K' hK=>gAd (l:=l) (r:=l2) hg (gDc hK) (by rw [he' x (by simp [Op.operands,Call.operands])];exact hx) hL (by rw [he' y (by simp [Op.operands,Call.operands])];exact hs) hz hb ht hL') hp h
end
section
variable {P:Program}{A:Amb}{ops:Array Oper}{K:St→Prop}{r:List (Nat × Bool)}{pf:PF}{o:Oper}{fr:List (Nat × SV)}{L L1 L':List LO}{N i t j:Nat}{sv:SV}
theorem mY.adoptA{a:Act}{w:World}{cs cs':List SV}{e z:Nat}(hL:L[j]? =some (.box cs))(k:Nat)(hc:cs[k]? =some .nilsl)(hcs:cs.set k (.sl L.length 0)=cs')(h:mY A ⟨fr,L,N⟩ a w):mY A ⟨fr,L.set j (.box cs')++[.arr e z 0 []],N⟩ a w:=by
 subst hcs;obtain⟨S,env,hH,hf,hN,hd⟩:=h;have hj:=(List.getElem?_eq_some_iff.1 hL).1;obtain⟨hH1,C1⟩:=hH.newO [] (.arr e z 0 []) (.slice none 0 0) (Nat.le_refl _) (fun _ _=>rfl) rfl rfl rfl (fun b hb=>by simp [LO.ft,blk] at hb) (fun _=>⟨by simp [yY],by simp,[],World.ownsRow_nil w 0 e z,by simp [Rds]⟩);rw [gPt] at hH1 C1;have hL1:(L++[LO.arr e z 0 []])[j]? =some (.box cs):=by rw [List.getElem?_append_left hj];exact hL
 have hje:j < (env++[Value.slice none 0 0]).length:=by rw [hH1.len];simp;omega
 obtain⟨hv,he⟩:∃hv,(env++[Value.slice none 0 0])[j]? =some hv:=⟨_,List.getElem?_eq_getElem hje⟩
 obtain⟨b,vals,e',r1,r2,r3,r4⟩:=hH1.objs j _ hv hL1 he
 obtain⟨hH2,C2⟩:=hH1.turnF (w':=w) j (.box cs) (.box (cs.set k (.sl L.length 0))) hv hL1 rfl he rfl rfl (fun _ _=>rfl) rfl rfl rfl (fun k hk=>hk) (fun C=>⟨b,vals,e',r1,r2,by
  have r3':=kP.carry C _ _ r3;rw [kP.iff] at r3' ⊢;obtain⟨v,v1,v2⟩:=yZ.get ((kP.iff _ _).1 r3) k _ hc;simp only [SVr] at v2;subst v2
  have hset:=yZ.set k (.sl L.length 0) (.slice none 0 0) r3' (by
   simp only [SVr];refine⟨.slice none 0 0,.arr e z 0 [],by rw [←hH.len];simp,?_,Nat.le_refl _,rfl,fun _=>rfl⟩;rw [List.getElem?_set_ne (by omega)]
   simp)
  have hk:k < vals.toList.length:=(List.getElem?_eq_some_iff.1 v1).1
  have:vals.toList.set k (.slice none 0 0)=vals.toList:=by
   apply List.ext_getElem?;intro m;rw [List.getElem?_set];by_cases hm:k=m
   ·subst hm;rw [if_pos rfl,if_pos hk,v1]
   ·rw [if_neg hm]
  rwa [this] at hset,r4⟩)
 have hse:(L++[LO.arr e z 0 []]).set j (.box (cs.set k (.sl L.length 0)))=L.set j (.box (cs.set k (.sl L.length 0)))++[.arr e z 0 []]:=by rw [List.set_append_left _ _ hj]
 rw [hse] at hH2 C2;exact⟨S,_,hH2,fun t=>SVr.carry C2 _ _ (SVr.carry C1 _ _ (hf t)),hN,hd⟩
theorem qZ {Q:Exit→St→Prop}{c:Code}{cs cs':List SV}{n:Nat}(e z:Nat)(j k:Nat)(hL:L[j]? =some (.box cs))(hc:cs[k]? =some .nilsl)(hn:Ln L n)(hcs:St1 (.sl n 0) k cs cs')(h1:St1 (.box cs') j L L1)(h2:Jn L1 [.arr e z 0 []] L')
  (h:V P A c ⟨fr,L',N⟩ Q):V P A c ⟨fr,L,N⟩ Q:=by
 have e1:=hn.eq;have e2:=hcs.spec;have e3:=h1.spec;have e4:=h2.spec;subst e1;subst e2;subst e3;subst e4;exact fun a w hr=>h a w (mY.adoptA hL k hc rfl hr)
end
section
variable {P:Program}{A:Amb}{σ:St}{K:St→Prop}
variable {ops:Array Oper}{rest:List Oper}{t:Nat}{ty:TypeId}{pos:String}{af:Array Edge}{x y:Operand}{dst:Option Nat}{g:Option (Nat × Bool)}
theorem gXi{α:Type}{en:α→U}{es:List α→List U}{z:Nat}[E:Enc α en es z]{l:List α}{T:TypeId}{j ver k off e' f fo:Nat} [TF P T f fo](hx:σ.ev x=.ep j ver z k off:=by rfl)(hL:σ.L[j]? =some (.arr e' z ver (es l)):=by rfl):Quiet P A σ ⟨dst,.fieldAddr T x f,ty,pos,af,g⟩ (.ep j ver z k (off+fo)):=hAu hx hL TF.h
end
theorem kE(l:List gB):(gN l).length=l.length:=Enc.len l
theorem jO(l:List gU):(jY l).length=l.length:=Enc.len l
section
variable {P:Program}{A:Amb}{ops:Array Oper}{K:St→Prop}{r:List (Nat × Bool)}{pf:PF}{fr:List (Nat × SV)}{L L1 L':List LO}{N i:Nat}{o:Oper}{sv:SV}
theorem gGi(zi:Nat){e z ver:Nat}{es:List U}(hz:L[zi]? =some (.own e z ver es))(hL1:L.set zi (.frz e z ver es)=L1)(h:VY P A ops K ((i,false)::r) pf ⟨fr,L1,N⟩):VY P A ops K ((i,false)::r) pf ⟨fr,L,N⟩:=by
 obtain⟨o,Z,h1,h2,h3⟩:=h;exact⟨o,Z,h1,fun fr' he K' hK=>gBv zi hz hL1 (h2 fr' he K' hK),h3⟩
theorem qC(zi:Nat){e z ver:Nat}{es:List U}(hz:L[zi]? =some (.arr e z ver es))(hL1:L.set zi (.frz e z ver es)=L1)(h:VY P A ops K ((i,false)::r) pf ⟨fr,L1,N⟩):VY P A ops K ((i,false)::r) pf ⟨fr,L,N⟩:=by
 obtain⟨o,Z,h1,h2,h3⟩:=h;exact⟨o,Z,h1,fun fr' he K' hK=>kS zi hz hL1 (h2 fr' he K' hK),h3⟩
end
section
variable {P:Program}{σ:St}
theorem gB5 {fn:Func}{Q:SV→List LO→Prop}{n:Nat}(svs:List SV)(Lo:List LO)(hq:Q (mkG svs) Lo)(hL:∃L2,σ.L=Lo++L2:=by exact⟨_,rfl⟩)(hl:(LO.lts Lo.length Lo && SV.lts Lo.length svs && Nat.ble n Lo.length)=true:=by rfl)
  (hr:gXb P σ fn.results.toList svs:=by((repeat(first | exact .nil | refine .data rfl rfl ?_ | refine .data rfl (by((repeat(first | exact trivial | exact rfl | exact⟨_,rfl⟩ | refine And.intro ?_ ?_));first | done | fail)) ?_ | refine .same rfl ?_ | refine .same (gIv rfl rfl TI.h rfl rfl) ?_ | refine .same (ResV_one rfl rfl TI.h rfl) ?_ | refine .data (gIv rfl rfl TI.h rfl rfl) (by((repeat(first | exact trivial | exact rfl | exact⟨_,rfl⟩ | refine And.intro ?_ ?_));first | done | fail)) ?_ | refine .data (ResV_one rfl rfl TI.h rfl) (by((repeat(first | exact trivial | exact rfl | exact⟨_,rfl⟩ | refine And.intro ?_ ?_));first | done | fail)) ?_));first | done | fail)):pX P fn Q n .ret σ:=hXg svs Lo hq hL hl hr
end
theorem Spec.nilF{P:Program}{f e z:Nat}{args:List SV}{es:List U}{u2:U}(h:Go.Eng.Spec P f (.sl 0 0::args) [.arr e z 0 []] (fun sv Lo=>∃v,sv=.tup [.sl 0 v,.d u2]∧Lo=[.arr e z v es]))(ha:SV.lts 0 args=true:=by rfl) :
  Go.Eng.Spec P f (.nilsl::args) [] (fun sv Lo=>sv=.tup [.d (.sl z es),.d u2]∧Lo=[]):=by
 refine⟨h.1,fun A S env w vs h1 h2 h3 h4 hH hargs=>?_⟩;have henv:env=[]:=List.eq_nil_of_length_eq_zero hH.len;subst henv;cases vs with
 | nil=>simp [kP] at hargs
 | cons v0 vs=>
   simp only [kP] at hargs;obtain⟨hv0,hargs⟩:=hargs;simp only [SVr] at hv0;subst hv0;have hob:∀S L env,gH2 S L env w (.arr e z 0 []) (.slice none 0 0):=fun _ _ _=>⟨by simp [yY],by simp,[],World.ownsRow_nil w 0 e z,by simp [Rds]⟩
   have hH2:pW { A with L0:=[.arr e z 0 []],env0:=[.slice none 0 0] } S [.arr e z 0 []] [.slice none 0 0] w:=by
    refine⟨rfl,fun i o hv k1 k2=>?_,fun i o hv b k1 k2 k3 k4=>?_,fun i j o o' hv hv' b k1 k2 k3 k4 k5 k6 k7 k8=>?_,hH.sS,hH.sA,hH.frame,hH.size,hH.os,hH.tape,hH.output,Base.refl rfl rfl,hH.glob⟩
    ·cases i with
     | zero=>simp at k1 k2;subst k1;subst k2;exact hob _ _ _
     | succ i=>simp at k1
    ·cases i with
     | zero=>simp at k1 k3;subst k1;subst k3;simp [LO.ft,blk] at k4
     | succ i=>simp at k1
    ·cases i with
     | zero=>simp at k1 k5;subst k1;subst k5;simp [LO.ft,blk] at k7
     | succ i=>simp at k1
   refine(h.2 { A with L0:=[.arr e z 0 []],env0:=[.slice none 0 0] } S [.slice none 0 0] w (.slice none 0 0::vs) h1 h2 rfl rfl hH2 ?_).mono ?_
   ·simp only [kP];refine⟨?_,kP.bare _ _ ha hargs _ _⟩;simp only [SVr];exact⟨.slice none 0 0,.arr e z 0 [],rfl,rfl,Nat.le_refl _,rfl,fun _=>rfl⟩
   ·rintro ex w' ⟨r,sv,S',L',env',hr,⟨v,rfl,rfl⟩,hH',hsv⟩;obtain⟨hv,henv'⟩:∃hv,env'=[hv]:=by
     have:=hH'.len
     match env',this with
     | [hv],_=>exact⟨hv,rfl⟩
    subst henv';have hob':=hH'.objs 0 _ hv rfl rfl;have hex:∀b,blk hv=some b→¬S' b∧(A.E b∨A.w0.heap.size≤b)∧b < w'.heap.size:=fun b hb=>hH'.excl 0 _ hv b rfl rfl rfl hb;simp only [SVr] at hsv;obtain⟨xs,rfl,hxs⟩:=hsv
    match xs,hxs with
    | [x0,x1],hxs=>
      simp only [kP] at hxs;obtain⟨hx0,hx1,_⟩:=hxs;simp only [SVr] at hx0;obtain⟨hv1,o1,q1,q2,q3,q4,q5⟩:=hx0;simp at q1 q2;subst q1;subst q2;obtain rfl:=q5 rfl;refine⟨_,_,fun b=>S' b∨blk x0=some b,[],[],hr,⟨rfl,rfl⟩,⟨rfl,by simp,by simp,by simp,fun b hb=>hb.elim (hH'.sS b) (fun hb=>(hex b hb).2.2),fun b hb=>hb.elim (hH'.sA b) (fun hb=>.inr (hex b hb).2.1),hH'.frame,hH'.size,hH'.os,hH'.tape,hH'.output,Base.nil h3,hH'.glob⟩,?_⟩;simp only [SVr];refine⟨[x0,x1],rfl,?_⟩;simp only [kP];refine⟨?_,?_,trivial⟩
      ·simp only [SVr];obtain⟨hbg,hz,ys,m1,m2⟩:=hob';have hmono:Rds (fun b=>S' b∨blk x0=some b) w' es ys:=Rds.mono (fun b hb _=>.inl hb) (fun _ _ _=>rfl) _ _ m2;rcases m1.2 with ⟨rfl,h0⟩ | ⟨g,cap,cur,rfl,hg0,hg,hnc,hcm,hcs,htake⟩
       ·have:es=[]:=List.eq_nil_of_length_eq_zero h0
        subst this;exact⟨[_],rfl,by simp only [Rd];exact⟨hbg,none,0,rfl,.inl trivial⟩⟩
       ·refine⟨[.slice (some ⟨g,0,none⟩) es.length cap],rfl,?_⟩;simp only [Rd];exact⟨hbg,_,cap - es.length,by rw [Nat.add_sub_cancel' hnc],.inr ⟨g,0,rfl,.inr rfl,RdE.of_Rds es ys 0 hz hmono (gOt m1 rfl)⟩⟩
      ·simp only [SVr] at hx1 ⊢;exact RdV.mono (fun b hb _=>.inl hb) (fun _ _ _=>rfl) hx1
theorem RdE.take{S:Nat→Prop}{w:World}{z b:Nat}:∀(us:List U)(off k:Nat),RdE S w z b off us→RdE S w z b off (us.take k)
 | _,_,0,_=>by simp [RdE]
 | [],_,_+1,_=>by simp [RdE]
 | u::us,off,k+1,h=>by
   simp only [RdE] at h;simp only [List.take_succ_cons,RdE];exact⟨h.1,RdE.take us (off+z) k h.2⟩
section
variable {P:Program}{σ:St}{dst:Option Nat}{ty T:TypeId}{pos:String}{af:Array Edge}{g:Option (Nat × Bool)}{x y h:Operand}
theorem hPg{α:Type}{en:α→U}{es:List α→List U}{z:Nat}[E:Enc α en es z]{e bs:Nat}{gg:Bool}{l:List α}{k:Int}(hk:0≤k∧k≤l.length) [TE P T e] [TI P e gg z bs](hx:σ.ev x=.d (.sl z (es l)):=by rfl)(hh:σ.ev h=.d (.i .i64 k):=by rfl) :
  QR P σ ⟨dst,.slice T x none (some h) none,ty,pos,af,g⟩ (.d (.sl z (es (l.take k.toNat)))):=fun A fr' L' he _=>Quiet.pure fun S env a w hH ho=>by
 have h1:=ho x (by simp [Op.operands]);have h2:=ho h (by simp [Op.operands]);rw [he x (by simp [Op.operands]),hx] at h1;rw [he h (by simp [Op.operands]),hh,SVr.int] at h2;rw [SVr.slice] at h1;obtain⟨hbg,base,cap,h3,h4⟩:=h1;have hlen:(es l).length=l.length:=Enc.len l;have htk:es (l.take k.toNat)=(es l).take k.toNat:=by rw [E.h,E.h,List.map_take]
 have hT:P.underlying T=some (.slice e):=zN TE.h;have hel:P.elem T=e:=by simp [Program.elem,hT]
 have hT':P.underlying T=some (.slice (P.elem T)):=by rw [hel];exact hT
 obtain⟨hk0,hk1⟩:=hk;have hkn:k.toNat≤(es l).length:=by omega
 have hrun:=run_slice_h (w:=w) T base (es l).length ((es l).length+cap) hT' .i64 k hk0 (by omega);have hsz:=run_sizeOf (w:=w) (TI.h:tyI P e=some (gg,z,bs));rw [hel,hsz] at hrun;simp only [Result.andThen] at hrun;refine⟨sliced base 0 k.toNat ((es l).length+cap) z,?_,?_⟩
 ·simp [execOp,h3,h2,Instr.sliceAt,run_underlying hT,hrun]
 ·rw [SVr.slice,htk];have htl:((es l).take k.toNat).length=k.toNat:=by rw [List.length_take];omega
  refine⟨by omega,?_⟩;rcases h4 with h4 | ⟨b,off,rfl,h5,h6⟩
  ·have hl0:(es l).length=0:=by rw [h4];rfl
   have hk2:k.toNat=0:=by omega
   refine⟨if 0+cap=0 then base else base.map (·.add (0*z)),cap,?_,.inl (by rw [h4];simp)⟩;rw [htl,hl0,hk2];simp [sliced]
  ·by_cases hc:(es l).length+cap=0
   ·have hk2:k.toNat=0:=by omega
    have hnil:(es l).take k.toNat=[]:=List.eq_nil_of_length_eq_zero (by omega);refine⟨some ⟨b,off,none⟩,0,?_,.inl hnil⟩;rw [htl,hc,hk2];simp [sliced]
   ·refine⟨some ⟨b,off,none⟩,(es l).length+cap - k.toNat,?_,.inr ⟨b,off,rfl,h5,RdE.take _ _ _ h6⟩⟩;rw [htl]
    have:k.toNat+((es l).length+cap - k.toNat)=(es l).length+cap:=by omega
    rw [this];simp [sliced,hc,Addr.add_lit]
end
section
variable {P:Program}{A:Amb}{ops:Array Oper}{K:St→Prop}{r:List (Nat × Bool)}{pf:PF}{fr:List (Nat × SV)}{L L1 L':List LO}{N i t m:Nat}
variable {ty:TypeId}{pos:String}{af:Array Edge}{x y:Operand}{T:TypeId}
theorem gZa {α:Type}{en:α→U}{es:List α→List U}{z:Nat}[E:Enc α en es z]{l':List α}(hg:l'.length≤4294967296){e bs:Nat}{gg:Bool} [TE P T e] [TI P e gg z bs] {zs:List Value} [TZ P e zs] {js:List Nat} {T':TypeId}
  (h:VY P A ops K r pf ⟨(t,.sl m 0)::fr,L',N⟩) (hi:ops[i]? =some ⟨some t,.call { callee:=.builtin .append,args:=#[x,y],argTypes:=#[T,T] },T',pos,af,none⟩:=by rfl) (hx:(St.mk fr L N).ev x=.nilsl:=by rfl) (hs:gW9 L z ((St.mk fr L N).ev y) (es l') js:=by first | exact .own rfl | exact .nil | exact .data (Enc.all _) (gCz _) | exact .data (Enc.all _) (gC0 _))
  (hjs:decide js.Nodup=true:=by decide) (hz:(Nat.blt 0 z && zs.length==z)=true:=by rfl) (hb:Nat.ble bs 32768=true:=by rfl) (ht:Nat.blt t N=true:=by rfl) (hk1:KR js L L1:=by repeat constructor) (hL':Sn (.own e z 0 (es l')) L1 m L':=by repeat constructor)
  (hp:vU ops i L' pf:=by(repeat(first | exact vU.nil | (apply vU.keep;focus ((repeat constructor);done)) | (apply vU.dep;focus kernel_rfl)))):VY P A ops K ((i,false)::r) pf ⟨fr,L,N⟩:=by
 have h2:(es l').length=l'.length:=Enc.len l';have hb:=Nat.le_of_ble_eq_true hb;refine gE5 hi (gSn hx hs hjs TE.h TI.h TZ.h hz (by rw [yY];omega) ?_ ht hk1 hL') hp h;rw [h2];exact Nat.le_trans (Nat.mul_le_mul hg hb) (by decide)
end
end Go.Eng
namespace Go.Eng
open Go Go.RowKit Go.MapKept
section
variable {P:Program}{A:Amb}{σ:St}{K:St→Prop}
variable {ops:Array Oper}{rest:List Oper}{t:Nat}{dst:Option Nat}{g:Option (Nat × Bool)}{ty:TypeId}{pos:String}{af:Array Edge}{x y z:Operand}{sv:SV}{T:TypeId}
end
theorem RdE.drop{S:Nat→Prop}{w:World}{z b:Nat}:∀(us:List U)(off k:Nat),RdE S w z b off us→RdE S w z b (off+k*z) (us.drop k)
 | us,off,0,h=>by simpa using h
 | [],_,_+1,_=>by simp [RdE]
 | u::us,off,k+1,h=>by
   simp only [RdE] at h;simp only [List.drop_succ_cons]
   have:=RdE.drop us (off+z) k h.2
   rwa [show off+(k+1)*z=off+z+k*z by rw [Nat.add_mul];omega]
section
variable {P:Program}{σ:St}{dst:Option Nat}{ty T:TypeId}{pos:String}{af:Array Edge}{g:Option (Nat × Bool)}{x y h:Operand}
theorem gMp{α:Type}{en:α→U}{es:List α→List U}{z:Nat}[E:Enc α en es z]{e bs:Nat}{gg:Bool}{l:List α}{k:Int}(hk:0≤k∧k≤l.length) [TE P T e] [TI P e gg z bs](hx:σ.ev x=.d (.sl z (es l)):=by rfl)(hh:σ.ev h=.d (.i .i64 k):=by rfl) :
  QR P σ ⟨dst,.slice T x (some h) none none,ty,pos,af,g⟩ (.d (.sl z (es (l.drop k.toNat)))):=fun A fr' L' he _=>Quiet.pure fun S env a w hH ho=>by
 have h1:=ho x (by simp [Op.operands]);have h2:=ho h (by simp [Op.operands]);rw [he x (by simp [Op.operands]),hx] at h1;rw [he h (by simp [Op.operands]),hh,SVr.int] at h2;rw [SVr.slice] at h1;obtain⟨hbg,base,cap,h3,h4⟩:=h1;have hlen:(es l).length=l.length:=Enc.len l;have htk:es (l.drop k.toNat)=(es l).drop k.toNat:=by rw [E.h,E.h,List.map_drop]
 have hT:P.underlying T=some (.slice e):=zN TE.h;have hel:P.elem T=e:=by simp [Program.elem,hT]
 have hT':P.underlying T=some (.slice (P.elem T)):=by rw [hel];exact hT
 obtain⟨hk0,hk1⟩:=hk;have hkn:k.toNat≤(es l).length:=by omega
 have hrun:=run_slice_l (w:=w) T base (es l).length ((es l).length+cap) hT' .i64 k hk0 (by omega);have hsz:=run_sizeOf (w:=w) (TI.h:tyI P e=some (gg,z,bs));rw [hel,hsz] at hrun;simp only [Result.andThen] at hrun;refine⟨sliced base k.toNat (es l).length ((es l).length+cap) z,?_,?_⟩
 ·simp [execOp,h3,h2,Instr.sliceAt,run_underlying hT,hrun]
 ·rw [SVr.slice,htk];have htl:((es l).drop k.toNat).length=(es l).length - k.toNat:=by rw [List.length_drop]
  refine⟨by omega,?_⟩;have hcap:(es l).length+cap - k.toNat=(es l).length - k.toNat+cap:=by omega
  refine⟨if (es l).length+cap=k.toNat then base else base.map (·.add (k.toNat*z)),cap,?_,?_⟩
  ·rw [htl,←hcap];rfl
  ·by_cases hnil:(es l).drop k.toNat=[]
   ·exact .inl hnil
   ·right;rcases h4 with h4 | ⟨b,off,rfl,h5,h6⟩
    ·rw [h4] at hnil;simp at hnil
    ·have hne:¬ (es l).length+cap=k.toNat:=fun e=>hnil (List.drop_eq_nil_of_le (by omega));refine⟨b,off+k.toNat*z,by rw [if_neg hne];simp [Addr.add_lit],h5,RdE.drop _ _ _ h6⟩
end
section
variable {P:Program}{σ:St}
end
section
variable {P:Program}{A:Amb}{ops:Array Oper}{K:St→Prop}{r:List (Nat × Bool)}{pf:PF}{fr:List (Nat × SV)}{L L':List LO}{N i t:Nat}{sv:SV}
variable {ty:TypeId}{pos:String}{af:Array Edge}
theorem gS6(hp:vU ops i L' pf)(h:VY P A ops K r pf ⟨(t,sv)::fr,L',N⟩):vU ops i L' pf∧VY P A ops K r pf ⟨(t,sv)::fr,L',N⟩:=⟨hp,h⟩
theorem gVq {f:Operand}{fi:Nat}{caps:List SV}{args:Array Operand}{at_:Array TypeId}{cargs:List SV}{Lc:List LO}{Q:SV→List LO→Prop}(js:List Nat)(hspec:Spec P fi cargs Lc Q)
  (h:∀sv Lo,Q sv Lo→vU ops i (gI1 js (Lo.map (LO.ren (rn js L.length))) L) pf∧VY P A ops K r pf ⟨(t,sv.ren (rn js L.length))::fr,gI1 js (Lo.map (LO.ren (rn js L.length))) L,N⟩)
  (hi:ops[i]? =some ⟨some t,.call { callee:=.value f,args:=args,argTypes:=at_ },ty,pos,af,none⟩:=by rfl)
  (hf:(St.mk fr L N).ev f=.fn fi caps:=by rfl) (hp:gOr L (rn js L.length) 0 Lc:=by((repeat(first | exact trivial | exact rfl | refine And.intro ?_ ?_));first | done | fail))
  (hjs:(decide js.Nodup && (js.all fun j=>Nat.blt j L.length) && js.length==Lc.length && LO.lts Lc.length Lc)=true:=by rfl)
  (hargs:AGs L (rn js L.length) Lc.length (args.toList.map (St.mk fr L N).ev++caps) cargs:=by((repeat(first | exact trivial | exact .inl ⟨rfl,rfl⟩ | exact .inr ⟨_,rfl,by((repeat(first | exact trivial | exact rfl | exact⟨_,rfl⟩ | refine And.intro ?_ ?_));first | done | fail)⟩ | refine And.intro ?_ ?_));first | done | fail))
  (ht:Nat.blt t N=true:=by rfl):VY P A ops K ((i,false)::r) pf ⟨fr,L,N⟩:=by
 refine⟨_,fun s l=>∃sv Lo,Q sv Lo∧s=sv.ren (rn js L.length)∧l=gI1 js (Lo.map (LO.ren (rn js L.length))) L,hi,?_,?_⟩
 ·intro fr' he K' hK;have hm:args.toList.map (St.mk fr' L N).ev=args.toList.map (St.mk fr L N).ev:=List.map_congr_left fun x hx=>he x (by simp only [Op.operands,Call.operands];simp;exact .inr (by simpa using hx));refine gBz (caps:=caps) js hspec ?_ (by rw [he f (by simp [Op.operands,Call.operands])];exact hf) hp hjs (by rw [hm];exact hargs) ht;intro sv Lo hq;exact gDc (hK _ _ ⟨sv,Lo,hq,rfl,rfl⟩)
 ·rintro _ _ ⟨sv,Lo,hq,rfl,rfl⟩;obtain⟨h1,h2⟩:=h sv Lo hq;exact⟨h1.ok,h2⟩
theorem qD {f:Operand}{fi:Nat}{caps:List SV}{args:Array Operand}{at_:Array TypeId}{dargs:List SV}{us:List U}(hspec:jI P fi dargs us)(hv:VY P A ops K r pf ⟨(t,mkR us)::fr,L,N⟩)
  (hi:ops[i]? =some ⟨some t,.call { callee:=.value f,args:=args,argTypes:=at_ },ty,pos,af,none⟩:=by rfl) (hf:(St.mk fr L N).ev f=.fn fi caps:=by rfl)
  (hargs:VAs L (args.toList.map (St.mk fr L N).ev++caps) dargs:=by((repeat(first | exact trivial | exact rfl | exact⟨_,rfl⟩ | exact(‹∀n,SV.lts n _=true› _) | refine And.intro ?_ ?_));first | done | fail))
  (ht:Nat.blt t N=true:=by rfl) (hp:vU ops i L pf:=by(repeat(first | exact vU.nil | (apply vU.keep;focus ((repeat constructor);done)) | (apply vU.dep;focus kernel_rfl)))):VY P A ops K ((i,false)::r) pf ⟨fr,L,N⟩:=by
 refine gE5 hi (fun fr' he K' hK=>?_) hp hv;have hm:args.toList.map (St.mk fr' L N).ev=args.toList.map (St.mk fr L N).ev:=List.map_congr_left fun x hx=>he x (by simp only [Op.operands,Call.operands];simp;exact .inr (by simpa using hx));exact hO7 (hC6 (by rw [he f (by simp [Op.operands,Call.operands])];exact hf) hspec (by simp only;rw [hm];exact hargs)) ht (gDc hK)
end
end Go.Eng
namespace Go.Eng
open Go Go.RowKit
theorem gVr{w:World}{S:Nat→Prop}{L:List LO}{env:List Value}{e z ver:Nat}{es:List U}{hv:Value}(hn:U.noSls es=true)(h:gH2 S L env w (.arr e z ver es) hv):(∀S' L' env',gH2 S' L' env' w (.own e z ver es) hv)∧∀b,(LO.own e z ver es).ft w hv b↔(LO.arr e z ver es).ft w hv b:=by
 obtain⟨h1,h2,xs,h3,h4⟩:=h;obtain⟨k1,k2⟩:=Rds.tr (w':=w) _ _ hn h4;have hf:=gGm h2 h3;constructor
 ·intro S' L' env';refine⟨h1,h2,⟨xs,h3,k1⟩,?_⟩;rcases hf with ⟨_,_,hf⟩ | ⟨g,cap,_,hf⟩
  ·rw [hf];exact List.nodup_nil
  ·rw [hf,k2];simp
 ·intro b;simp only [LO.ft];rcases hf with ⟨rfl,_,hf⟩ | ⟨g,cap,rfl,hf⟩
  ·rw [hf];simp [blk]
  ·rw [hf,k2];simp [blk,eq_comm]
section
variable {P:Program}{A:Amb}{σ:St}{K:St→Prop}{Q:Exit→St→Prop}{ops:Array Oper}{rest:List Oper}{r:List (Nat × Bool)}{pf:PF}
theorem mY.arrOwn{a:Act}{w:World}{fr:List (Nat × SV)}{L:List LO}{N i e z ver:Nat}{es:List U}(hL:L[i]? =some (.arr e z ver es))(hn:U.noSls es=true)(h:mY A ⟨fr,L,N⟩ a w):mY A ⟨fr,L.set i (.own e z ver es),N⟩ a w:=by
 obtain⟨S,env,hH,hf,hN,hd⟩:=h;have hi:=(List.getElem?_eq_some_iff.1 hL).1;obtain⟨hv,hhv⟩:∃hv,env[i]? =some hv:=⟨_,List.getElem?_eq_getElem (by rw [hH.len];exact hi)⟩
 have hob:=hH.objs i _ hv hL hhv;obtain⟨hH',C⟩:pW A S (L.set i (.own e z ver es)) env w∧Carry S L env w S (L.set i (.own e z ver es)) env w:=by
  refine hH.eat [] i _ hv (by rw [List.length_set];exact hH.len) (fun j hj=>?_) (List.getElem?_set_self hi) (fun _ _=>rfl) hhv (fun _ _ _=>rfl) (fun o hv1 h1 h2=>?_) (Nat.le_refl _) rfl rfl rfl (fun k hk=>?_) (fun C=>(gVr hn hob).1 _ _ _)
  ·rw [List.getElem?_set_ne (fun e=>hj e.symm)];simp
  ·rw [hL] at h1;rw [hhv] at h2;cases h1;cases h2;exact⟨Nat.le_refl _,fun _=>rfl,fun _ _=>rfl⟩
  ·have:=((gVr hn hob).2 k).1 hk
   exact⟨(hH.excl i _ hv k hL rfl hhv this).2.2,.inr ⟨i,_,hv,.inl rfl,hL,rfl,hhv,this⟩⟩
 exact⟨S,env,hH',fun t=>SVr.carry C _ _ (hf t),hN,hd⟩
theorem hMv{fr:List (Nat × SV)}{L L':List LO}{N e z ver:Nat}{es:List U}(i:Nat)(h:VO P A ops rest ⟨fr,L',N⟩ K)(hL:L[i]? =some (.arr e z ver es):=by rfl)(hn:U.noSls es=true:=by first | exact gCz _ | exact gC0 _)(hL':St1 (.own e z ver es) i L L':=by repeat constructor):VO P A ops rest ⟨fr,L,N⟩ K:=by
 have:=hL'.spec
 subst this;exact fun R hR a w hr=>h R hR a w (hr.arrOwn hL hn)
theorem hIp{fr:List (Nat × SV)}{L L':List LO}{N e z ver j:Nat}{es:List U}(i:Nat)(hL:L[i]? =some (.arr e z ver es))(hL':L.set i (.own e z ver es)=L')(hn:U.noSls es=true)(h:VY P A ops K ((j,false)::r) pf ⟨fr,L',N⟩):VY P A ops K ((j,false)::r) pf ⟨fr,L,N⟩:=by
 subst hL';obtain⟨o,Z,h1,h2,h3⟩:=h;exact⟨o,Z,h1,fun fr' he K' hK R hR a w hr=>h2 fr' he K' hK R hR a w (hr.arrOwn hL hn),h3⟩
end
section
variable {P:Program}{A:Amb}{σ:St}{K:St→Prop}{Q:Exit→St→Prop}
variable {ops:Array Oper}{rest:List Oper}{t:Nat}{ty:TypeId}{pos:String}{af:Array Edge}{x y:Operand}{sv:SV}{dst:Option Nat}{g:Option (Nat × Bool)}
theorem hAp {T:TypeId}{gg:Bool}{i ver z k off e bs zu:Nat}{es pre post:List U}{old u:U}{fr:List (Nat × SV)}{L L':List LO}{N:Nat}(hx:(St.mk fr L N).ev x=.ep i ver z k off)(hL:L[i]? =some (.arr e z ver es))(hk:es[k]? =some (.st (pre++old::post)))(hoff:U.szs pre=off)
  (hy:VD L ((St.mk fr L N).ev y) u) (hT:tyI P T=some (gg,zu,bs)) (hu:u.sz=zu) (hou:old.sz=zu) (hL':L.set i (.arr e z ver (es.set k (.st (pre++u::post))))=L')
  (h:VO P A ops rest ⟨fr,L',N⟩ K) :
  VO P A ops (⟨none,.store T x y,ty,pos,af,none⟩::rest) ⟨fr,L,N⟩ K:=by
 subst hL';refine gDd rfl (fun S env a w hH hf hN hd=>?_) h;have h1:=mY.ev hf hH x;have h2:=VD.r hH hy (mY.ev hf hH y);rw [hx] at h1;simp only [SVr] at h1 h2;obtain⟨hv,o,k1,k2,k3,k5,k4⟩:=h1;rw [hL] at k2;obtain rfl:=Option.some.inj k2;obtain⟨b,e1,e2⟩:=k4 rfl;obtain⟨hbg,hz,xs,m1,m2⟩:=hH.objs i _ hv hL k1;obtain⟨cs,c1,c2⟩:=h2;have hcl:=Rd.length _ _ c2;rw [hu] at hcl;rcases m1.2 with ⟨rfl,_⟩ | ⟨g,cap,cur,rfl,hg0,hg,hnc,hcm,hcs,htake⟩
 ·simp [blk] at e1
 simp only [blk,Option.some.injEq] at e1;subst e1;have hk':k < es.length:=(List.getElem?_eq_some_iff.1 hk).1;have h5:=Rds.get es xs k _ hz m2 hk;simp only [Rd] at h5;obtain⟨p1,p23,hxs,h6,h8⟩:=Rds.split pre (old::post) _ h5;obtain⟨p2,p3,hp23,h7,h9⟩:=Rds.split [old] post _ h8;subst hp23;have hp3:=Rds.length _ _ h9;have hp1:=Rds.length _ _ h6;have hp2:=Rds.length _ _ h7;simp only [U.szs,Nat.add_zero,hou] at hp2;have hzz:(U.st (pre++old::post)).sz=z:=hz _ (List.mem_of_getElem? hk);have hszapp:∀(us vs:List U),U.szs (us++vs)=U.szs us+U.szs vs:=by
  intro us vs
  induction us with
  | nil=>simp [U.szs]
  | cons a us ih=>simp only [List.cons_append,U.szs,ih];omega
 have hzo:z=off+zu+U.szs post:=by
  simp only [U.sz,hszapp,U.szs,hou,hoff] at hzz;omega
 have hkz:(k+1)*z≤es.length*z:=Nat.mul_le_mul_right _ hk';have hcap:es.length*z≤cap*z:=Nat.mul_le_mul_right _ hnc;have hkz1:(k+1)*z=k*z+z:=by rw [Nat.add_mul];omega
 have hxl:=m1.1;have hst:=run_storeCells_at P g (k*z+off) e cs 0 cur w hg (by omega) (Rd.oneCell _ _ c2);rw [Nat.add_zero,hcl] at hst;have hel:(xs.drop (k*z)).take z=p1++(p2++p3):=hxs;have hcurk:(cur.toList.drop (k*z)).take z=p1++(p2++p3):=by
  rw [←hel,←htake,List.drop_take,List.take_take,Nat.min_eq_left (by omega)]
 have hsplit:cur.toList=cur.toList.take (k*z)++(p1++(p2++(p3++cur.toList.drop (k*z+z)))):=by
  conv=>lhs;rw [←List.take_append_drop (k*z) cur.toList,←List.take_append_drop z (cur.toList.drop (k*z)),hcurk,List.drop_drop]
  simp
 have hTl:(cur.toList.take (k*z)).length=k*z:=by rw [List.length_take,Array.length_toList];omega
 have hnew:cur.toList.take (k*z+off)++cs++cur.toList.drop (k*z+off+zu)=cur.toList.take (k*z)++(p1++(cs++p3))++cur.toList.drop (k*z+z):=by
  generalize hA1:cur.toList.take (k*z)=A1 at hsplit hTl;generalize hD1:cur.toList.drop (k*z+z)=D1 at hsplit;have e3:(A1++(p1++(p2++(p3++D1)))).take (k*z+off)=A1++p1:=by
   rw [←List.append_assoc,List.take_left' (by simp only [List.length_append];omega)]
  have e4:(A1++(p1++(p2++(p3++D1)))).drop (k*z+off+zu)=p3++D1:=by
   rw [←List.append_assoc,←List.append_assoc,List.drop_left' (by simp only [List.length_append];omega)]
  rw [hsplit,e3,e4];simp
 rw [hnew] at hst;have hpl:(p1++(cs++p3)).length=z:=by simp only [List.length_append];omega
 have hrd:Rd S w (.st (pre++u::post)) (p1++(cs++p3)):=by
  simp only [Rd];exact Rds.append pre p1 (u::post) (cs++p3) h6 (Rds.append [u] cs post p3 (by simp only [Rds];exact⟨cs,[],by simp,c2,rfl⟩) h9)
 have hus:(U.st (pre++u::post)).sz=z:=by simp only [U.sz,hszapp,U.szs];omega
 have hrow:=setRow_heap w g cur ((cur.toList.take (k*z)++(p1++(cs++p3))++cur.toList.drop (k*z+z)).toArray) e (0,0) hg
 obtain⟨hH',C⟩:=hH.turn (w':=w.setRow g (cur.toList.take (k*z)++(p1++(cs++p3))++cur.toList.drop (k*z+z)).toArray) i _ (.arr e z ver (es.set k (.st (pre++u::post)))) _ g hL rfl k1 rfl rfl rfl
  (setRow_size _ _ _) (fun k hk=>setRow_other w g k _ hk) rfl rfl rfl
  (fun C=>⟨by simpa using hbg,fun v hv=>by
    rcases List.mem_or_eq_of_mem_set hv with hv | rfl
    ·exact hz v hv
    ·exact hus,
   xs.take (k*z)++(p1++(cs++p3))++xs.drop ((k+1)*z),⟨by simp only [List.length_append,List.length_take,List.length_drop,List.length_set,hxl] at hpl ⊢;omega,.inr ⟨g,cap,_,by simp,hg0,hrow,by simpa using hnc,hcm,by simp only [List.size_toArray,List.length_append,List.length_take,List.length_drop,Array.length_toList] at hpl ⊢;omega,by
    rw [List.length_set,←htake,hkz1]
    have:=gJz cur.toList (k*z) (es.length*z) (p1++(cs++p3)) (by rw [hpl];omega) (by simp only [Array.length_toList];omega)
    rw [hpl] at this
    exact this⟩⟩,
   Rds.set es xs k _ (p1++(cs++p3)) hz (Rds.mono C.hS C.hw _ _ m2) (hrd.mono C.hS C.hw) hk'⟩)
 refine⟨.skip,_,?_,.inr ⟨rfl,gBw hf hN hd hH' C⟩⟩;have hcells:(a.eval y).cells.toList=cs:=by rw [c1];exact gLg c2
 have hsz:(a.eval y).cells.size=zu:=by rw [←hcl,←hcells];simp
 have e2':a.eval x=.pointer (some ⟨g,k*z+off,none⟩):=e2;simp [execOp,Instr.storeAt,e2',Instr.sureAddr,storeVar,run_sizeOf hT,hsz,hcells,hst]
theorem gRj {α:Type}{en:α→U}{es:List α→List U}{z:Nat}[E:Enc α en es z]{l:List α}{T:TypeId}{i ver k off e:Nat}{gg:Bool}{zu bs:Nat}{fr:List (Nat × SV)}{L L':List LO}{N:Nat}(pre post:List U)(old u:U)(a a':α)(ha:l[k]? =some a) [TI P T gg zu bs]
  (h:VO P A ops rest ⟨fr,L',N⟩ K) (hx:(St.mk fr L N).ev x=.ep i ver z k off:=by rfl) (hL:L[i]? =some (.arr e z ver (es l)):=by rfl) (hea:en a=.st (pre++old::post):=by rfl) (hea':en a'=.st (pre++u::post):=by rfl) (hoff:U.szs pre=off:=by rfl)
  (hy:VD L ((St.mk fr L N).ev y) u:=by((repeat(first | exact trivial | exact rfl | exact⟨_,rfl⟩ | refine And.intro ?_ ?_));first | done | fail)) (hu:u.sz=zu:=by rfl) (hou:old.sz=zu:=by rfl) (hL':L.set i (.arr e z ver (es (l.set k a')))=L':=by rfl) :
  VO P A ops (⟨none,.store T x y,ty,pos,af,none⟩::rest) ⟨fr,L,N⟩ K:=by
 rw [Enc.set (es:=es),hea'] at hL';exact hAp hx hL (by rw [Enc.get (es:=es) ha,hea]) hoff hy TI.h hu hou hL' h
theorem gZb{α:Type}{en:α→U}{es:List α→List U}{z:Nat}[E:Enc α en es z]{e bs ver j:Nat}{T:TypeId}{i:Int}{gg:Bool}{l:List α}(h0:0≤i)(hk:i.toNat < l.length) [TE P T e] [TI P e gg z bs](hx:σ.ev x=.sl j ver:=by rfl)(hL:σ.L[j]? =some (.arr e z ver (es l)):=by rfl)(hy:σ.ev y=.d (.i .i64 i):=by rfl) :
  Quiet P A σ ⟨dst,.indexAddr T x y,ty,pos,af,g⟩ (.ep j ver z i.toNat 0):=by
 have:=gRl (P:=P) (A:=A) (dst:=dst) (ty:=ty) (pos:=pos) (af:=af) (g:=g) hx hL hy (TE.h:tyE P T=some e) (TI.h:tyI P e=some (gg,z,bs)) h0 (by rw [Enc.len];omega)
 simpa using this
end
section
variable {P:Program}{A:Amb}{ops:Array Oper}{K:St→Prop}{r:List (Nat × Bool)}{pf:PF}{fr:List (Nat × SV)}{L L1 L':List LO}{N i t m:Nat}
variable {ty:TypeId}{pos:String}{af:Array Edge}{x y:Operand}{T:TypeId}
theorem gAo {α:Type}{en:α→U}{es:List α→List U}{z:Nat}[E:Enc α en es z]{e bs ver:Nat}{gg:Bool}{l:List α}(k:Nat)(hk:k < l.length) [TE P T e] [TI P e gg z bs] (h:VY P A ops K r pf ⟨(t,.ep m ver z k 0)::fr,L,N⟩)
  (hi:ops[i]? =some ⟨some t,.indexAddr T x y,ty,pos,af,none⟩:=by rfl) (hx:(St.mk fr L N).ev x=.sl m ver:=by rfl) (hL:L[m]? =some (.arr e z ver (es l)):=by rfl) (hy:(St.mk fr L N).ev y=.d (.i .i64 (k:Int)):=by rfl) (ht:Nat.blt t N=true:=by rfl)
  (hp:vU ops i L pf:=by(repeat(first | exact vU.nil | (apply vU.keep;focus ((repeat constructor);done)) | (apply vU.dep;focus kernel_rfl)))):VY P A ops K ((i,false)::r) pf ⟨fr,L,N⟩:=
 gE5 hi (fun fr' he' K' hK=>vP (gXh (j:=m) k hk (by rw [he' x (by simp [Op.operands])];exact hx) hL (by rw [he' y (by simp [Op.operands])];exact hy)) (gDc hK) ht) hp h
theorem gA6 {α:Type}{en:α→U}{es:List α→List U}{z:Nat}[E:Enc α en es z]{l:List α}{ver k off e' f fo:Nat} [TF P T f fo] (h:VY P A ops K r pf ⟨(t,.ep m ver z k (off+fo))::fr,L,N⟩)
  (hi:ops[i]? =some ⟨some t,.fieldAddr T x f,ty,pos,af,none⟩:=by rfl) (hx:(St.mk fr L N).ev x=.ep m ver z k off:=by rfl) (hL:L[m]? =some (.arr e' z ver (es l)):=by rfl) (ht:Nat.blt t N=true:=by rfl)
  (hp:vU ops i L pf:=by(repeat(first | exact vU.nil | (apply vU.keep;focus ((repeat constructor);done)) | (apply vU.dep;focus kernel_rfl)))):VY P A ops K ((i,false)::r) pf ⟨fr,L,N⟩:=
 gE5 hi (fun fr' he' K' hK=>vP (gXi (j:=m) (by rw [he' x (by simp [Op.operands])];exact hx) hL) (gDc hK) ht) hp h
theorem gA7 {α:Type}{en:α→U}{es:List α→List U}{z:Nat}[E:Enc α en es z]{l:List α}{ver k off e:Nat}{gg:Bool}{zu bs:Nat}(pre post:List U)(old u:U)(a a':α)(ha:l[k]? =some a) [TI P T gg zu bs]
  (h:VY P A ops K r pf ⟨fr,L',N⟩)
  (hi:ops[i]? =some ⟨none,.store T x y,ty,pos,af,none⟩:=by rfl) (hx:(St.mk fr L N).ev x=.ep m ver z k off:=by rfl) (hL:L[m]? =some (.arr e z ver (es l)):=by rfl) (hea:en a=.st (pre++old::post):=by rfl) (hea':en a'=.st (pre++u::post):=by rfl) (hoff:U.szs pre=off:=by rfl)
  (hy:VD L ((St.mk fr L N).ev y) u:=by((repeat(first | exact trivial | exact rfl | exact⟨_,rfl⟩ | refine And.intro ?_ ?_));first | done | fail)) (hu:u.sz=zu:=by rfl) (hou:old.sz=zu:=by rfl) (hL':L.set m (.arr e z ver (es (l.set k a')))=L':=by rfl)
  (hp:vU ops i L' pf:=by(repeat(first | exact vU.nil | (apply vU.keep;focus ((repeat constructor);done)) | (apply vU.dep;focus kernel_rfl)))):VY P A ops K ((i,false)::r) pf ⟨fr,L,N⟩:=
 gE5 (sv:=.junk) hi (fun fr' he' K' hK=>gRj pre post old u a a' ha (gDc hK) (by rw [he' x (by simp [Op.operands])];exact hx) hL hea hea' hoff (by rw [he' y (by simp [Op.operands])];exact hy) hu hou hL') hp h
end
end Go.Eng
