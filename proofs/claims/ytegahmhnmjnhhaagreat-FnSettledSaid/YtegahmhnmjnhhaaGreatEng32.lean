import Derived.Test.YtegahmhnmjnhhaaGreatEng24
namespace Go.Eng
open Go Go.RowKit
section
variable {A:Amb} {S:Nat→Prop} {L:List LO} {env:List Value} {w:World}
end
section
variable {P:Program} {A:Amb} {σ:St} {K:St→Prop}
variable {ops:Array Oper} {rest:List Oper} {t:Nat} {ty:TypeId} {pos:String} {af:Array Edge} {x y:Operand} {sv:SV}
end
section
variable {P:Program} {A:Amb} {σ:St} {K:St→Prop} {Q:Exit→St→Prop}
variable {dst:Option Nat} {ty:TypeId} {pos:String} {af:Array Edge} {g:Option (Nat × Bool)} {x y:Operand} {sv:SV}
theorem gZz{T T2:TypeId}{k k1 k2:IntKind}{m:Int}(hx:σ.ev x=.d (.i k m))(h1:P.underlying T=some (.int k1))(h2:P.underlying T2=some (.int k2)):Quiet P A σ ⟨dst,.convert T T2 x,ty,pos,af,g⟩ (.d (.i k2 (k2.wrap m))):=Quiet.pure fun S env a w hH ho=>by
 have h3:=ho x (by simp [Op.operands]);rw [hx,SVr.int] at h3;exact⟨.int k2 (k2.wrap m),by simp [execOp,h3,convert,run_underlying h1,run_underlying h2,Conv.intToInt],SVr.int.2 rfl⟩
theorem hCk{T T2 e:TypeId}{j ver e':Nat}{m:Int}(hx:σ.ev x=.sl j ver)(hL:σ.L[j]? =some (.own e' 1 ver [.i .u8 m]))(h1:P.underlying T=some (.slice e))(h2:P.underlying e=some (.int .u8))(h3:P.underlying T2=some .string) :
  Quiet P A σ ⟨dst,.convert T T2 x,ty,pos,af,g⟩ (.d (.s [UInt8.ofNat m.toNat])):=Quiet.pure fun S env a w hH ho=>by
 have h4:=ho x (by simp [Op.operands]);rw [hx] at h4;simp only [SVr] at h4;obtain⟨hv,o,k1,k2,k3,k5,k4⟩:=h4;rw [hL] at k2;obtain rfl:=Option.some.inj k2;have k6:=k4 rfl;obtain⟨_,_,⟨xs,h5,h6⟩,_⟩:=hH.objs j _ hv hL k1;simp only [Trs,Tr,U.sz] at h6;have hl:=h5.1
 match xs,hl with
 | [c],_=>
   simp only [List.take_succ_cons,List.take_zero,List.cons.injEq,and_true] at h6;obtain⟨rfl,_⟩:=h6;rcases h5.2 with ⟨_,h0⟩ | ⟨b,cap,cur,rfl,r⟩
   ·simp at h0
   ·refine⟨.string ⟨#[UInt8.ofNat m.toNat]⟩,?_,SVr.str.2 ⟨by simp [wY],rfl⟩⟩;have hld:=run_loadCells_list (P:=P) (w:=w) ⟨b,0,none⟩ [.int .u8 m] (fun j u hu=>h5.cells (g:=b) rfl j u hu);simp only [List.length_cons,List.length_nil,Nat.zero_add] at hld;simp [execOp,k6,convert,run_underlying h1,run_underlying h2,run_underlying h3,Conv.bytesToString,hld];rfl
theorem hUe{T T':TypeId}{a b:List UInt8}(hx:σ.ev x=.d (.s a))(hy:σ.ev y=.d (.s b))(hl:a.length+b.length≤big):Quiet P A σ ⟨dst,.binOp .add T x y T',ty,pos,af,g⟩ (.d (.s (a++b))):=Quiet.pure fun S env ac w hH ho=>by
 have h1:=ho x (by simp [Op.operands]);have h2:=ho y (by simp [Op.operands]);rw [hx,SVr.str] at h1;rw [hy,SVr.str] at h2;refine⟨.string ⟨(a++b).toArray⟩,?_,SVr.str.2 ⟨by rw [List.length_append];exact hl,rfl⟩⟩;rw [wY] at hl;have hs:(⟨a.toArray⟩:ByteArray).size=a.length:=rfl;have hs':(⟨b.toArray⟩:ByteArray).size=b.length:=rfl;have happ:(⟨a.toArray⟩:ByteArray)++⟨b.toArray⟩=⟨(a++b).toArray⟩:=by
  apply ByteArray.ext;simp [ByteArray.data_append]
 simp [execOp,h1.2,h2.2,eqGuard,binOp,Op.stringOp,hs,hs',happ];omega
end
inductive KR:List Nat→List LO→List LO→Prop
 | nil {L:List LO}:KR [] L L
 | cons {j:Nat} {js:List Nat} {o:LO} {L L1 L':List LO} (h:L[j]? =some o) (hs:St1 (.dead (o.ver+1)) j L L1) (r:KR js L1 L'):KR (j::js) L L'
theorem KR.spec{js:List Nat}{L L':List LO}(h:KR js L L')(hn:js.Nodup):kill js 0 L=L':=by
 have key:∀{js:List Nat} {L L':List LO},KR js L L'→js.Nodup→L'.length=L.length∧∀i,L'[i]? =L[i]?.map (fun o=>if js.contains i then .dead (o.ver+1)else o):=by
  intro js L L' h
  induction h with
  | nil=>intro _;exact⟨rfl,fun i=>by cases h:(_:List LO)[i]? <;>simp⟩
  | @cons j js o L L1 L' h hs r ih=>
    intro hn;have h1:=hs.spec;subst h1;obtain⟨n1,n2⟩:=List.nodup_cons.1 hn;obtain⟨i1,i2⟩:=ih n2;refine⟨by rw [i1,List.length_set],fun i=>?_⟩;rw [i2 i];by_cases hij:j=i
    ·subst hij;have hlt:=(List.getElem?_eq_some_iff.1 h).1;have hc:js.contains j=false:=by simpa using n1
     rw [List.getElem?_set_self hlt,h];simp only [Option.map_some,hc,List.contains_cons,beq_self_eq_true,Bool.true_or,if_true,Bool.false_eq_true,if_false]
    ·rw [List.getElem?_set_ne hij]
     have:(j::js).contains i=js.contains i:=by
      have:(i==j)=false:=by simpa using fun e=>hij e.symm
      simp only [List.contains_cons,this,Bool.false_or]
     rw [this]
 obtain⟨k1,k2⟩:=key h hn;apply List.ext_getElem?;intro i;rw [gMe,Nat.zero_add,k2 i]
section
variable {P:Program} {A:Amb} {σ:St} {K:St→Prop}
variable {ops:Array Oper} {rest:List Oper} {t:Nat} {ty:TypeId} {pos:String} {af:Array Edge} {x y:Operand} {sv:SV}
theorem hCl {T:TypeId} {gg:Bool} {i ver z k e bs:Nat} {es:List U} {u:U} {js:List Nat} {fr:List (Nat × SV)} {L L1 L':List LO} {N:Nat} (hx:(St.mk fr L N).ev x=.ep i ver z k 0) (hL:L[i]? =some (.own e z ver es)) (hy:OV L ((St.mk fr L N).ev y) u js)
  (hjs:(decide js.Nodup && !js.contains i)=true) (hT:tyI P T=some (gg,z,bs)) (hu:u.sz=z) (hk:k < es.length) (hk1:KR js L L1) (hL':St1 (.own e z ver (es.set k u)) i L1 L')
  (h:VO P A ops rest ⟨fr,L',N⟩ K):VO P A ops (⟨none,.store T x y,ty,pos,af,none⟩::rest) ⟨fr,L,N⟩ K:=by
 have hjs':=hjs;simp only [Bool.and_eq_true,decide_eq_true_eq] at hjs';exact hHg hx hL hy hjs hT hu hk (by rw [hk1.spec hjs'.1];exact hL'.spec) h
theorem hQz {T e:TypeId} {gg:Bool} {z bs:Nat} {zs:List Value} {zu:U} {k k':IntKind} {l c:Int} {fr:List (Nat × SV)} {L L':List LO} {N i:Nat} (hx:(St.mk fr L N).ev x=.d (.i k l)) (hy:(St.mk fr L N).ev y=.d (.i k' c))
  (hT:tyE P T=some e) (he:tyI P e=some (gg,z,bs)) (hZ:tyZ P e=some zs) (hz:(Nat.blt 0 z && zs.length==z)=true) (hzu:gZy zu zs)
  (h0:0≤l) (hlc:l≤c) (hc:c≤big) (hbytes:(bs:Int)*c≤281474976710656) (ht:Nat.blt t N=true) (hL':Sn (.own e z 0 (List.replicate l.toNat zu)) L i L')
  (h:VO P A ops rest ⟨(t,.sl i 0)::fr,L',N⟩ K):VO P A ops (⟨some t,.makeSlice T x y,ty,pos,af,none⟩::rest) ⟨fr,L,N⟩ K:=hMy hx hy hT he hZ hz hzu h0 hlc hc hbytes ht hL'.spec.1 hL' h
theorem gXv {T e T':TypeId} {gg:Bool} {z bs i ver:Nat} {zs:List Value} {es us:List U} {js:List Nat} {fr:List (Nat × SV)} {L L1 L':List LO} {N:Nat} (hx:(St.mk fr L N).ev x=.sl i ver) (hL:L[i]? =some (.own e z ver es)) (hs:hLb L z ((St.mk fr L N).ev y) us js)
  (hjs:(decide js.Nodup && !js.contains i)=true) (hT:tyE P T=some e) (he:tyI P e=some (gg,z,bs)) (hZ:tyZ P e=some zs) (hz:(Nat.blt 0 z && zs.length==z)=true)
  (hbig:es.length+us.length≤big) (hbytes:(es.length+us.length)*bs≤140737488355328) (ht:Nat.blt t N=true) (hk1:KR js L L1) (hL':St1 (.own e z (ver+1) (es++us)) i L1 L')
  (h:VO P A ops rest ⟨(t,.sl i (ver+1))::fr,L',N⟩ K):VO P A ops (⟨some t,.call { callee:=.builtin .append,args:=#[x,y],argTypes:=#[T,T] },T',pos,af,none⟩::rest) ⟨fr,L,N⟩ K:=by
 simp only [Bool.and_eq_true,decide_eq_true_eq] at hjs;exact hEu hx hL hs hjs.2 hT he hZ hz hbig hbytes ht (by rw [hk1.spec hjs.1];exact hL'.spec) h
theorem gV0 {T e:TypeId} {gg:Bool} {z bs i:Nat} {zs:List Value} {u:U} {js:List Nat} {fr:List (Nat × SV)} {L L1 L':List LO} {N:Nat} (hy:OV L ((St.mk fr L N).ev x) u js) (hjs:decide js.Nodup=true) (hT:tyE P T=some e) (he:tyI P e=some (gg,z,bs)) (hZ:tyZ P e=some zs)
  (hz:(Nat.blt 0 z && Nat.blt z 16777216 && zs.length==z)=true) (hu:u.sz=z) (ht:Nat.blt t N=true) (hk1:KR js L L1) (hL':Sn (.own e z 0 [u]) L1 i L')
  (h:VO P A ops rest ⟨(t,.sl i 0)::fr,L',N⟩ K):VO P A ops (⟨some t,.buildSlice T 1 #[(0,x)],ty,pos,af,none⟩::rest) ⟨fr,L,N⟩ K:=by
 have hk:=hk1.spec (of_decide_eq_true hjs);obtain⟨h1,h2⟩:=hL'.spec;exact hMz hy hjs hT he hZ hz hu ht (by rw [←h1,←hk,zZ]) (by rw [hk];exact h2) h
end
theorem tI:∀w,Tr w (.i .i64 0) [.int .i64 0]∧(U.i .i64 0).fp w [.int .i64 0]=[]:=fun w=>⟨by simp [Tr],rfl⟩
theorem tB:∀w,Tr w (.b false) [.bool false]∧(U.b false).fp w [.bool false]=[]:=fun w=>⟨by simp [Tr],rfl⟩
theorem tS:∀w,Tr w (.s []) [.string ⟨#[]⟩]∧(U.s []).fp w [.string ⟨#[]⟩]=[]:=fun w=>⟨by simp [Tr,big],rfl⟩
theorem tL(z:Nat):∀w,Tr w (.sl z []) [.slice none 0 0]∧(U.sl z []).fp w [.slice none 0 0]=[]:=fun w=>Tr.nil w z
inductive ZL:List U→List Value→Prop
 | nil:ZL [] []
 | i {us:List U} {vs:List Value} (h:ZL us vs):ZL (.i .i64 0::us) (.int .i64 0::vs)
 | b {us:List U} {vs:List Value} (h:ZL us vs):ZL (.b false::us) (.bool false::vs)
 | s {us:List U} {vs:List Value} (h:ZL us vs):ZL (.s []::us) (.string ⟨#[]⟩::vs)
 | l {z:Nat} {us:List U} {vs:List Value} (h:ZL us vs):ZL (.sl z []::us) (.slice none 0 0::vs)
theorem ZL.r{us:List U}{vs:List Value}(h:ZL us vs)(w:World):vE (fun u c=>Tr w u [c]) us vs∧fpl w us vs=[]:=by
 induction h with
 | nil=>exact⟨trivial,rfl⟩
 | i h ih=>exact⟨⟨(tI w).1,ih.1⟩,by simp only [fpl,(tI w).2,ih.2,List.nil_append]⟩
 | b h ih=>exact⟨⟨(tB w).1,ih.1⟩,by simp only [fpl,(tB w).2,ih.2,List.nil_append]⟩
 | s h ih=>exact⟨⟨(tS w).1,ih.1⟩,by simp only [fpl,(tS w).2,ih.2,List.nil_append]⟩
 | l h ih=>exact⟨⟨(tL _ w).1,ih.1⟩,by simp only [fpl,(tL _ w).2,ih.2,List.nil_append]⟩
theorem hUf{u:U}{fl:List U}{vs:List Value}(hl:Lv u fl)(h:ZL fl vs):gZy u vs:=fun w=>by
 have:=hl.eq
 subst this;obtain⟨h1,h2⟩:=h.r w;exact⟨Tr.of_leafs _ _ h1,by rw [gVy _ _ (by rw [←h1.length,U.flat_len]),h2]⟩
section
variable {P:Program} {A:Amb} {σ:St} {K:St→Prop}
variable {ops:Array Oper} {rest:List Oper} {t:Nat} {ty:TypeId} {pos:String} {af:Array Edge} {x y:Operand} {sv:SV}
end
section
variable {P:Program} {A:Amb} {ops:Array Oper} {K:St→Prop} {r:List (Nat × Bool)} {pf:PF} {o:Oper} {fr:List (Nat × SV)} {L L1 L':List LO} {N i t j:Nat} {sv:SV}
variable {ty:TypeId} {pos:String} {af:Array Edge} {x y:Operand}
theorem gJc(hi:ops[i]? =some o)(h:HSt P A ops ⟨fr,L,N⟩ o sv L')(hp:vV ops i L' pf)(hv:VY P A ops K r pf (St.setO ⟨fr,L',N⟩ o.dst sv)):VY P A ops K ((i,false)::r) pf ⟨fr,L,N⟩:=hUd ⟨hi,h,hp.ok,hv⟩
theorem hEv {T e T':TypeId} {gg:Bool} {z bs ver:Nat} {zs:List Value} {es us:List U} {js:List Nat} (hx:(St.mk fr L N).ev x=.sl i ver) (hL:L[i]? =some (.own e z ver es)) (hs:hLb L z ((St.mk fr L N).ev y) us js)
  (hjs:(decide js.Nodup && !js.contains i)=true) (hT:tyE P T=some e) (he:tyI P e=some (gg,z,bs)) (hZ:tyZ P e=some zs) (hz:(Nat.blt 0 z && zs.length==z)=true)
  (hbig:es.length+us.length≤big) (hbytes:(es.length+us.length)*bs≤140737488355328) (ht:Nat.blt t N=true) (hk1:KR js L L1) (hL':St1 (.own e z (ver+1) (es++us)) i L1 L') :
  HSt P A ops ⟨fr,L,N⟩ ⟨some t,.call { callee:=.builtin .append,args:=#[x,y],argTypes:=#[T,T] },T',pos,af,none⟩ (.sl i (ver+1)) L':=fun _ he' _ hK=>
 gXv (by rw [he' x (by simp [Op.operands,Call.operands])];exact hx) hL (by rw [he' y (by simp [Op.operands,Call.operands])];exact hs) hjs hT he hZ hz hbig hbytes ht hk1 hL' (gFt hK)
theorem hHr {T e:TypeId} {gg:Bool} {z bs:Nat} {zs:List Value} {u:U} {js:List Nat} (hy:OV L ((St.mk fr L N).ev x) u js) (hjs:decide js.Nodup=true) (hT:tyE P T=some e) (he:tyI P e=some (gg,z,bs)) (hZ:tyZ P e=some zs)
  (hz:(Nat.blt 0 z && Nat.blt z 16777216 && zs.length==z)=true) (hu:u.sz=z) (ht:Nat.blt t N=true) (hk1:KR js L L1) (hL':Sn (.own e z 0 [u]) L1 i L') :
  HSt P A ops ⟨fr,L,N⟩ ⟨some t,.buildSlice T 1 #[(0,x)],ty,pos,af,none⟩ (.sl i 0) L':=fun _ he' _ hK=>
 gV0 (by rw [he' x (by simp [Op.operands])];exact hy) hjs hT he hZ hz hu ht hk1 hL' (gFt hK)
theorem hHs{T e:TypeId}{gg:Bool}{z bs:Nat}(hT:tyE P T=some e)(he:tyI P e=some (gg,z,bs))(ht:Nat.blt t N=true)(hL':Sn (.own e z 0 []) L i L') :
  HSt P A ops ⟨fr,L,N⟩ ⟨some t,.buildSlice T 0 #[],ty,pos,af,none⟩ (.sl i 0) L':=fun _ _ _ hK=>hCi hT he ht hL' (gFt hK)
theorem kZ.adopt{a:Act}{w:World}{cs cs':List SV}{e z:Nat}(hL:L[j]? =some (.box cs))(k:Nat)(hc:cs[k]? =some .nilsl)(hcs:cs.set k (.sl L.length 0)=cs')(h:kZ A ⟨fr,L,N⟩ a w):kZ A ⟨fr,L.set j (.box cs')++[.own e z 0 []],N⟩ a w:=by
 subst hcs;obtain⟨S,env,hH,hf,hN,hd⟩:=h;have hj:=(List.getElem?_eq_some_iff.1 hL).1;obtain⟨hH1,C1⟩:=hH.newO [] (.own e z 0 []) (.slice none 0 0) (Nat.le_refl _) (fun _ _=>rfl) rfl rfl rfl (fun b hb=>by simp only [LO.ft] at hb;rw [(Tr.nil w z).2] at hb;cases hb) (fun _=>gZx e z 0);rw [gQn] at hH1 C1;have hL1:(L++[LO.own e z 0 []])[j]? =some (.box cs):=by rw [List.getElem?_append_left hj];exact hL
 have hje:j < (env++[Value.slice none 0 0]).length:=by rw [hH1.len];simp;omega
 obtain⟨hv,he⟩:∃hv,(env++[Value.slice none 0 0])[j]? =some hv:=⟨_,List.getElem?_eq_getElem hje⟩
 obtain⟨b,vals,e',r1,r2,r3,r4⟩:=hH1.objs j _ hv hL1 he
 obtain⟨hH2,C2⟩:=hH1.turnF (w':=w) j (.box cs) (.box (cs.set k (.sl L.length 0))) hv hL1 rfl he rfl rfl (fun _ _=>rfl) rfl rfl rfl (fun k hk=>hk) (fun C=>⟨b,vals,e',r1,r2,by
  have r3':=kK.carry C _ _ r3;rw [kK.iff] at r3' ⊢;obtain⟨v,v1,v2⟩:=vE.get ((kK.iff _ _).1 r3) k _ hc;simp only [SVr] at v2;subst v2
  have hset:=vE.set k (.sl L.length 0) (.slice none 0 0) r3' (by
   simp only [SVr];refine⟨.slice none 0 0,.own e z 0 [],by rw [←hH.len];simp,?_,Nat.le_refl _,rfl,fun _=>rfl⟩;rw [List.getElem?_set_ne (by omega)]
   simp)
  have hk:k < vals.toList.length:=(List.getElem?_eq_some_iff.1 v1).1
  have:vals.toList.set k (.slice none 0 0)=vals.toList:=by
   apply List.ext_getElem?;intro m;rw [List.getElem?_set];by_cases hm:k=m
   ·subst hm;rw [if_pos rfl,if_pos hk,v1]
   ·rw [if_neg hm]
  rwa [this] at hset,r4⟩)
 have hse:(L++[LO.own e z 0 []]).set j (.box (cs.set k (.sl L.length 0)))=L.set j (.box (cs.set k (.sl L.length 0)))++[.own e z 0 []]:=by rw [List.set_append_left _ _ hj]
 rw [hse] at hH2 C2;exact⟨S,_,hH2,fun t=>SVr.carry C2 _ _ (SVr.carry C1 _ _ (hf t)),hN,hd⟩
theorem hHt {Q:Exit→St→Prop} {c:Code} {cs cs':List SV} {n:Nat} (e z:Nat) (j k:Nat) (hL:L[j]? =some (.box cs)) (hc:cs[k]? =some .nilsl) (hn:Ln L n) (hcs:St1 (.sl n 0) k cs cs') (h1:St1 (.box cs') j L L1) (h2:Jn L1 [.own e z 0 []] L')
  (h:V P A c ⟨fr,L',N⟩ Q):V P A c ⟨fr,L,N⟩ Q:=by
 have e1:=hn.eq;have e2:=hcs.spec;have e3:=h1.spec;have e4:=h2.spec;subst e1;subst e2;subst e3;subst e4;exact fun a w hr=>h a w (kZ.adopt hL k hc rfl hr)
end
section
variable {P:Program} {A:Amb} {ops:Array Oper} {K:St→Prop} {r:List (Nat × Bool)} {pf:PF} {fr:List (Nat × SV)} {L:List LO} {N i t:Nat}
variable {ty:TypeId} {pos:String} {af:Array Edge} {x y:Operand}
theorem hYp{o:Oper}{sv:SV}(hi:ops[i]? =some o)(hd:o.dst=some t)(hg:o.guard=none)(h:∀fr' L',(∀x∈o.op.operands.toList,St.ev ⟨fr',L',N⟩ x=St.ev ⟨fr,L,N⟩ x)→gSe L L'→Quiet P A ⟨fr',L',N⟩ o sv)(ht:Nat.blt t N=true)(hv:VY P A ops K r ((i,L)::pf) ⟨(t,sv)::fr,L,N⟩):VY P A ops K ((i,true)::r) pf ⟨fr,L,N⟩:=by
 refine⟨o,sv,hi,⟨fun d h'=>(by rw [hd] at h';cases h';exact ht),gSe.refl _,.inl ⟨by unfold Gd;simp only [hg],h⟩⟩,?_⟩;rw [hd];exact hv
end
end Go.Eng
set_option linter.unusedVariables false
set_option linter.unusedSimpArgs false
namespace Go.Eng
open Go Go.RowKit
mutual
def SV.ren(ρ:Nat→Nat):SV→SV
 | .junk=>.junk
 | .d u=>.d u
 | .ag cs=>.ag (SV.rens ρ cs)
 | .ptr i off=>.ptr (ρ i) off
 | .sl i ver=>.sl (ρ i) ver
 | .dp u=>.dp u
 | .ep i ver z k off=>.ep (ρ i) ver z k off
 | .fn f cs=>.fn f (SV.rens ρ cs)
 | .tup cs=>.tup (SV.rens ρ cs)
 | .nilsl=>.nilsl
def SV.rens(ρ:Nat→Nat):List SV→List SV
 | []=>[]
 | c::cs=>SV.ren ρ c::SV.rens ρ cs
end
def LO.ren(ρ:Nat→Nat):LO→LO
 | .box cs=>.box (SV.rens ρ cs)
 | o=>o
section
variable {ρ:Nat→Nat} {S:Nat→Prop} {L L':List LO} {env env':List Value} {w:World}
theorem LO.ren_ver(o:LO):(o.ren ρ).ver=o.ver:=by cases o<;>rfl
theorem LO.ren_live(o:LO):(o.ren ρ).live=o.live:=by cases o<;>rfl
theorem LO.ren_ft(o:LO)(hv:Value)(b:Nat):(o.ren ρ).ft w hv b↔o.ft w hv b:=by cases o<;>exact Iff.rfl
theorem gV1{o:LO}{i:Nat}(h:(L'[ρ i]?).map LO.ver=(L[i]?).map LO.ver)(ho:L[i]? =some o):∃o',L'[ρ i]? =some o'∧o'.ver=o.ver:=by
 rw [ho] at h;cases h':L'[ρ i]? with
 | none=>rw [h'] at h;cases h
 | some o'=>rw [h'] at h;exact⟨o',rfl,by simpa using h⟩
mutual
theorem SVr.ren(H:∀i,i < env.length→env'[ρ i]? =env[i]? ∧(L'[ρ i]?).map LO.ver=(L[i]?).map LO.ver):∀(sv:SV) (v:Value),SVr S L env w sv v→SVr S L' env' w (sv.ren ρ) v
 | .junk,v,_=>by simp only [SV.ren,SVr]
 | .d u,v,h=>by simpa only [SV.ren,SVr] using h
 | .ag cs,v,h=>by
   simp only [SV.ren,SVr] at h ⊢;obtain⟨vs,h1,h2⟩:=h;exact⟨vs,h1,kK.ren H cs vs h2⟩
 | .ptr i off,v,h=>by
   simp only [SV.ren,SVr] at h ⊢;obtain⟨b,h1,h2⟩:=h;exact⟨b,by rw [(H i (List.getElem?_eq_some_iff.1 h1).1).1];exact h1,h2⟩
 | .sl i ver,v,h=>by
   simp only [SV.ren,SVr] at h ⊢;obtain⟨hv,o,h1,h2,h3,h5,h4⟩:=h;obtain⟨k1,k2⟩:=H i (List.getElem?_eq_some_iff.1 h1).1;obtain⟨o',k3,k4⟩:=gV1 k2 h2;exact⟨hv,o',by rw [k1];exact h1,k3,by omega,h5,fun he=>h4 (by omega)⟩
 | .dp u,v,h=>by simpa only [SV.ren,SVr] using h
 | .ep i ver z k off,v,h=>by
   simp only [SV.ren,SVr] at h ⊢;obtain⟨hv,o,h1,h2,h3,h5,h4⟩:=h;obtain⟨k1,k2⟩:=H i (List.getElem?_eq_some_iff.1 h1).1;obtain⟨o',k3,k4⟩:=gV1 k2 h2;exact⟨hv,o',by rw [k1];exact h1,k3,by omega,h5,fun he=>h4 (by omega)⟩
 | .fn f cs,v,h=>by
   simp only [SV.ren,SVr] at h ⊢;obtain⟨vs,h1,h2⟩:=h;exact⟨vs,h1,kK.ren H cs vs h2⟩
 | .tup cs,v,h=>by
   simp only [SV.ren,SVr] at h ⊢;obtain⟨vs,h1,h2⟩:=h;exact⟨vs,h1,kK.ren H cs vs h2⟩
 | .nilsl,v,h=>by simpa only [SV.ren,SVr] using h
theorem kK.ren(H:∀i,i < env.length→env'[ρ i]? =env[i]? ∧(L'[ρ i]?).map LO.ver=(L[i]?).map LO.ver):∀(svs:List SV) (vs:List Value),kK S L env w svs vs→kK S L' env' w (SV.rens ρ svs) vs
 | [],[],_=>by simp only [SV.rens,kK]
 | sv::svs,v::vs,h=>by
   simp only [SV.rens,kK] at h ⊢;exact⟨SVr.ren H sv v h.1,kK.ren H svs vs h.2⟩
 | [],_::_,h=>by simp [kK] at h
 | _::_,[],h=>by simp [kK] at h
end
mutual
theorem SVr.unren{n:Nat}(H:∀i,i < n→env'[ρ i]? =env[i]? ∧(L'[ρ i]?).map LO.ver=(L[i]?).map LO.ver):∀(sv:SV) (v:Value),sv.lt n=true→SVr S L' env' w (sv.ren ρ) v→SVr S L env w sv v
 | .junk,v,_,_=>by simp only [SVr]
 | .d u,v,_,h=>by simpa only [SV.ren,SVr] using h
 | .ag cs,v,hl,h=>by
   simp only [SV.ren,SVr] at h ⊢;obtain⟨vs,h1,h2⟩:=h;exact⟨vs,h1,kK.unren H cs vs (by simpa only [SV.lt] using hl) h2⟩
 | .ptr i off,v,hl,h=>by
   simp only [SV.lt,Nat.blt_eq] at hl;simp only [SV.ren,SVr] at h ⊢;obtain⟨b,h1,h2⟩:=h;exact⟨b,by rw [← (H i hl).1];exact h1,h2⟩
 | .sl i ver,v,hl,h=>by
   simp only [SV.lt,Nat.blt_eq] at hl;simp only [SV.ren,SVr] at h ⊢;obtain⟨hv,o,h1,h2,h3,h5,h4⟩:=h;obtain⟨k1,k2⟩:=H i hl;obtain⟨o',k3,k4⟩:=gV1 (L':=L) (L:=L') (ρ:=fun _=>i) (i:=ρ i) k2.symm h2;exact⟨hv,o',by rw [←k1];exact h1,k3,by omega,h5,fun he=>h4 (by omega)⟩
 | .dp u,v,_,h=>by simpa only [SV.ren,SVr] using h
 | .ep i ver z k off,v,hl,h=>by
   simp only [SV.lt,Nat.blt_eq] at hl;simp only [SV.ren,SVr] at h ⊢;obtain⟨hv,o,h1,h2,h3,h5,h4⟩:=h;obtain⟨k1,k2⟩:=H i hl;obtain⟨o',k3,k4⟩:=gV1 (L':=L) (L:=L') (ρ:=fun _=>i) (i:=ρ i) k2.symm h2;exact⟨hv,o',by rw [←k1];exact h1,k3,by omega,h5,fun he=>h4 (by omega)⟩
 | .fn f cs,v,hl,h=>by
   simp only [SV.ren,SVr] at h ⊢;obtain⟨vs,h1,h2⟩:=h;exact⟨vs,h1,kK.unren H cs vs (by simpa only [SV.lt] using hl) h2⟩
 | .tup cs,v,hl,h=>by
   simp only [SV.ren,SVr] at h ⊢;obtain⟨vs,h1,h2⟩:=h;exact⟨vs,h1,kK.unren H cs vs (by simpa only [SV.lt] using hl) h2⟩
 | .nilsl,v,_,h=>by simpa only [SV.ren,SVr] using h
theorem kK.unren{n:Nat}(H:∀i,i < n→env'[ρ i]? =env[i]? ∧(L'[ρ i]?).map LO.ver=(L[i]?).map LO.ver):∀(svs:List SV) (vs:List Value),SV.lts n svs=true→kK S L' env' w (SV.rens ρ svs) vs→kK S L env w svs vs
 | [],[],_,_=>by simp only [kK]
 | sv::svs,v::vs,hl,h=>by
   simp only [SV.lts,Bool.and_eq_true] at hl;simp only [SV.rens,kK] at h ⊢;exact⟨SVr.unren H sv v hl.1 h.1,kK.unren H svs vs hl.2 h.2⟩
 | [],_::_,_,h=>by simp [SV.rens,kK] at h
 | _::_,[],_,h=>by simp [SV.rens,kK] at h
end
end
structure gTu (ρ:Nat→Nat) (L Lc:List LO):Prop where
 get:∀(m:Nat) (o:LO),Lc[m]? =some o→L[ρ m]? =some (o.ren ρ)
 inj:∀(m m':Nat),m < Lc.length→m' < Lc.length→ρ m=ρ m'→m=m'
 lt:LO.lts Lc.length Lc=true
def gSh(ρ:Nat→Nat)(n:Nat)(env:List Value):List Value:=(List.range n).map fun m=>env.getD (ρ m) undef
section
variable {ρ:Nat→Nat} {A A':Amb} {S:Nat→Prop} {L Lc:List LO} {env:List Value} {w:World}
theorem gSi{n:Nat}(hH:mO A S L env w){m:Nat}(hm:m < n){o:LO}(ho:L[ρ m]? =some o):(gSh ρ n env)[m]? =env[ρ m]? :=by
 have hj:=(List.getElem?_eq_some_iff.1 ho).1;rw [←hH.len] at hj;simp only [gSh,List.getElem?_map,List.getElem?_range hm,Option.map_some];rw [List.getElem?_eq_getElem hj];simp [List.getD_eq_getElem?_getD,List.getElem?_eq_getElem hj]
theorem gTu.H(hH:mO A S L env w)(hp:gTu ρ L Lc):∀i,i < Lc.length→env[ρ i]? =(gSh ρ Lc.length env)[i]? ∧(L[ρ i]?).map LO.ver=(Lc[i]?).map LO.ver:=by
 intro i hi;obtain⟨o,ho⟩:∃o,Lc[i]? =some o:=⟨_,List.getElem?_eq_getElem hi⟩
 have h1:=hp.get i o ho;exact⟨(gSi hH hi h1).symm,by rw [h1,ho];simp [LO.ren_ver]⟩
theorem mO.pick (hH:mO A S L env w) (hp:gTu ρ L Lc) (hw:A'.w0.heap.size≤w.heap.size)
  (hexcl:∀(m:Nat) (b:Nat),m < Lc.length→gTt L env w (ρ m) b→A'.E b∨A'.w0.heap.size≤b) (hsA:∀b,S b→A'.S0 b∨A'.E b∨A'.w0.heap.size≤b)
  (hframe:∀b,b < A'.w0.heap.size→¬A'.E b→w.heap[b]? =A'.w0.heap[b]?) (hos:w.os=A'.w0.os) (htape:w.tape=A'.w0.tape) (hout:w.output=A'.w0.output)
  (hbase:Base A' Lc (gSh ρ Lc.length env)) (hglob:Gok A'.E A'.w0):mO A' S Lc (gSh ρ Lc.length env) w:=by
 have H:=hp.H hH;have key:∀(m:Nat) (o:LO) (hv:Value),Lc[m]? =some o→(gSh ρ Lc.length env)[m]? =some hv→m < Lc.length∧L[ρ m]? =some (o.ren ρ)∧env[ρ m]? =some hv:=by
  intro m o hv h1 h2;have hm:=(List.getElem?_eq_some_iff.1 h1).1;exact⟨hm,hp.get m o h1,by rw [(H m hm).1];exact h2⟩
 refine⟨by simp [gSh],?_,?_,?_,hH.sS,hsA,hframe,hw,hos,htape,hout,hbase,hglob⟩
 ·intro m o hv h1 h2;obtain⟨hm,k1,k2⟩:=key m o hv h1 h2;have hob:=hH.objs _ _ _ k1 k2;cases o with
  | box cs=>
    obtain⟨b,vals,e,r1,r2,r3,r4⟩:=hob;refine⟨b,vals,e,r1,r2,kK.unren H _ _ ?_ r3,r4⟩
    have:=LO.lts_get Lc hp.lt m _ h1
    simpa only [LO.lt] using this
  | arr e z ver es=>exact hob
  | frz e z ver es=>exact hob
  | own e z ver es=>exact hob
  | dead ver=>exact hob
  | ownp h e z es=>exact hob
  | mix e z ver fs es=>exact hob
  | set ks=>exact hob
  | bld e T l=>exact hob
 ·intro m o hv b h1 hl h2 hb;obtain⟨hm,k1,k2⟩:=key m o hv h1 h2;have hl':(o.ren ρ).live=true:=by rw [LO.ren_live];exact hl
  have hb':=(LO.ren_ft (ρ:=ρ) o hv b).2 hb
  have:=hH.excl _ _ _ b k1 hl' k2 hb'
  exact⟨this.1,hexcl m b hm ⟨_,_,k1,hl',k2,hb'⟩,this.2.2⟩
 ·intro m m' o o' hv hv' b h1 h2 hl1 hl2 e1 e2 b1 b2;obtain⟨hm,k1,k2⟩:=key m o hv h1 e1;obtain⟨hm',k1',k2'⟩:=key m' o' hv' h2 e2;exact hp.inj m m' hm hm' (hH.dist _ _ _ _ _ _ b k1 k1' (by rw [LO.ren_live];exact hl1) (by rw [LO.ren_live];exact hl2) k2 k2' ((LO.ren_ft o hv b).2 b1) ((LO.ren_ft o' hv' b).2 b2))
end
def gKq{α:Type}:List Nat→List α→List α→List α
 | [],new,old=>old++new
 | j::js,x::new,old=>gKq js new (old.set j x)
 | _::_,[],old=>old
def rn(js:List Nat)(n0 m:Nat):Nat:=(js[m]?).getD (n0+(m - js.length))
section
variable {α:Type}
theorem gQo:∀(js:List Nat) (new old:List α),js.length≤new.length→(gKq js new old).length=old.length+(new.length - js.length)
 | [],new,old,_=>by simp [gKq]
 | j::js,x::new,old,h=>by
   simp only [gKq];rw [gQo js new (old.set j x) (by simpa using h)];simp
 | _::_,[],_,h=>by simp at h
theorem gJ1:∀(js:List Nat) (new old:List α) (j:Nat),j < old.length→j∉js→(gKq js new old)[j]? =old[j]?
 | [],new,old,j,h,_=>by simp only [gKq];exact List.getElem?_append_left h
 | i::js,x::new,old,j,h,hn=>by
   simp only [List.mem_cons,not_or] at hn;simp only [gKq];rw [gJ1 js new (old.set i x) j (by simpa using h) hn.2,List.getElem?_set_ne (fun e=>hn.1 e.symm)]
 | _::_,[],_,_,_,_=>rfl
theorem gV2:∀(js:List Nat) (new old:List α) (m:Nat),js.length≤new.length→(∀j∈js,j < old.length)→js.Nodup→(gKq js new old)[rn js old.length m]? =new[m]?
 | [],new,old,m,_,_,_=>by
   simp only [gKq,rn,List.getElem?_nil,Option.getD_none,List.length_nil,Nat.sub_zero];rw [List.getElem?_append_right (by omega)];congr 1;omega
 | j::js,x::new,old,m,hl,hlt,hnd=>by
   simp only [gKq];simp only [List.nodup_cons] at hnd;cases m with
   | zero=>
     simp only [rn,List.getElem?_cons_zero,Option.getD_some];rw [gJ1 js new _ j (by simpa using hlt j (by simp)) hnd.1];simp [hlt j (by simp)]
   | succ m=>
     have:=gV2 js new (old.set j x) m (by simpa using hl) (fun i hi=>by simpa using hlt i (by simp [hi])) hnd.2
     simp only [List.length_set] at this;rw [List.getElem?_cons_succ,←this];congr 1;simp only [rn,List.getElem?_cons_succ,List.length_cons];congr 2;omega
 | _::_,[],_,_,h,_,_=>by simp at h
theorem hEw(js:List Nat)(new old:List α)(hl:js.length≤new.length)(i:Nat)(hi:i < (gKq js new old).length):(i < old.length∧i∉js)∨∃m,m < new.length∧rn js old.length m=i:=by
 rw [gQo _ _ _ hl] at hi;by_cases h1:i∈js
 ·obtain⟨m,hm,rfl⟩:=List.mem_iff_getElem.1 h1;exact .inr ⟨m,by omega,by simp [rn,List.getElem?_eq_getElem hm]⟩
 ·by_cases h2:i < old.length
  ·exact .inl ⟨h2,h1⟩
  ·refine .inr ⟨js.length+(i - old.length),by omega,?_⟩;simp only [rn];rw [List.getElem?_eq_none (by omega)];simp only [Option.getD_none];omega
theorem hHu{l:List Nat}(h:l.Nodup){i j:Nat}(hi:i < l.length)(hj:j < l.length)(he:l[i]=l[j]):i=j:=by
 have hp:=List.pairwise_iff_getElem.1 h;rcases Nat.lt_trichotomy i j with h1 | h1 | h1
 ·exact absurd he (hp i j hi hj h1)
 ·exact h1
 ·exact absurd he.symm (hp j i hj hi h1)
theorem hCm{js:List Nat}{n0:Nat}(hlt:∀j∈js,j < n0)(hnd:js.Nodup){m m':Nat}(h:rn js n0 m=rn js n0 m'):m=m':=by
 simp only [rn] at h;by_cases h1:m < js.length<;>by_cases h2:m' < js.length
 ·rw [List.getElem?_eq_getElem h1,List.getElem?_eq_getElem h2] at h;exact hHu hnd h1 h2 (by simpa using h)
 ·rw [List.getElem?_eq_getElem h1,List.getElem?_eq_none (by omega)] at h
  have:=hlt _ (List.getElem_mem h1)
  simp at h;omega
 ·rw [List.getElem?_eq_getElem h2,List.getElem?_eq_none (by omega)] at h
  have:=hlt _ (List.getElem_mem h2)
  simp at h;omega
 ·rw [List.getElem?_eq_none (by omega),List.getElem?_eq_none (by omega)] at h;simp at h;omega
end
end Go.Eng
