import Derived.Test.YtegahmhnmjnhhaaGreatEng26
import Derived.KernelRfl
namespace Go.Eng
open Go Go.RowKit
inductive KR:List Nat→List LO→List LO→Prop
 | nil {L:List LO}:KR [] L L
 | cons {j:Nat} {js:List Nat} {o:LO} {L L1 L':List LO} (h:L[j]? =some o) (hs:St1 (.dead (o.ver+1)) j L L1) (r:KR js L1 L'):KR (j::js) L L'
theorem KR.spec{js:List Nat}{L L':List LO}(h:KR js L L')(hn:js.Nodup):kill js 0 L=L':=by
 have key:∀{js:List Nat}{L L':List LO},KR js L L'→js.Nodup→L'.length=L.length∧∀i,L'[i]? =L[i]?.map (fun o=>if js.contains i then .dead (o.ver+1)else o):=by
  intro js L L' h
  induction h with
  | nil=>intro _;exact⟨rfl,fun i=>by cases h:(_:List LO)[i]? <;>simp⟩
  | @cons j js o L L1 L' h hs r ih=>
    intro hn;have h1:=hs.spec;subst h1;obtain⟨n1,n2⟩:=List.nodup_cons.1 hn;obtain⟨i1,i2⟩:=ih n2;refine⟨by rw [i1,List.length_set],fun i=>?_⟩;rw [i2 i];by_cases hij:j=i
    ·subst hij;have hlt:=(List.getElem?_eq_some_iff.1 h).1;have hc:js.contains j=false:=by simpa using n1
     rw [List.getElem?_set_self hlt,h];simp only [Option.map_some,hc,List.contains_cons,beq_self_eq_true,Bool.true_or,if_true,Bool.false_eq_true,if_false]
    ·rw [List.getElem?_set_ne hij]
     have:(j::js).contains i=js.contains i:=by
      have:(i==j)=false:=by simpa using fun e=>hij e.symm
      simp only [List.contains_cons,this,Bool.false_or]
     rw [this]
 obtain⟨k1,k2⟩:=key h hn;apply List.ext_getElem?;intro i;rw [gMh,Nat.zero_add,k2 i]
section
variable {P:Program}{A:Amb}{σ:St}{K:St→Prop}
variable {ops:Array Oper}{rest:List Oper}{t:Nat}{ty:TypeId}{pos:String}{af:Array Edge}{x y:Operand}{sv:SV}
theorem hC6 {T:TypeId}{gg:Bool}{i ver z k e bs:Nat}{es:List U}{u:U}{js:List Nat}{fr:List (Nat × SV)}{L L1 L':List LO}{N:Nat}(hx:(St.mk fr L N).ev x=.ep i ver z k 0)(hL:L[i]? =some (.own e z ver es))(hy:OV L ((St.mk fr L N).ev y) u js)
  (hjs:(decide js.Nodup && !js.contains i)=true) (hT:tyI P T=some (gg,z,bs)) (hu:u.sz=z) (hk:k < es.length) (hk1:KR js L L1) (hL':St1 (.own e z ver (es.set k u)) i L1 L')
  (h:VO P A ops rest ⟨fr,L',N⟩ K):VO P A ops (⟨none,.store T x y,ty,pos,af,none⟩::rest) ⟨fr,L,N⟩ K:=by
 have hjs':=hjs;simp only [Bool.and_eq_true,decide_eq_true_eq] at hjs';exact hI4 hx hL hy hjs hT hu hk (by rw [hk1.spec hjs'.1];exact hL'.spec) h
theorem hTh {T e:TypeId}{gg:Bool}{z bs:Nat}{zs:List Value}{zu:U}{k k':IntKind}{l c:Int}{fr:List (Nat × SV)}{L L':List LO}{N i:Nat}(hx:(St.mk fr L N).ev x=.d (.i k l))(hy:(St.mk fr L N).ev y=.d (.i k' c))
  (hT:tyE P T=some e) (he:tyI P e=some (gg,z,bs)) (hZ:tyZ P e=some zs) (hz:(Nat.blt 0 z && zs.length==z)=true) (hzu:hAc zu zs)
  (h0:0≤l) (hlc:l≤c) (hc:c≤big) (hbytes:(bs:Int)*c≤281474976710656) (ht:Nat.blt t N=true) (hL':Sn (.own e z 0 (List.replicate l.toNat zu)) L i L')
  (h:VO P A ops rest ⟨(t,.sl i 0)::fr,L',N⟩ K):VO P A ops (⟨some t,.makeSlice T x y,ty,pos,af,none⟩::rest) ⟨fr,L,N⟩ K:=hOg hx hy hT he hZ hz hzu h0 hlc hc hbytes ht hL'.spec.1 hL' h
theorem gX5 {T e T':TypeId}{gg:Bool}{z bs i ver:Nat}{zs:List Value}{es us:List U}{js:List Nat}{fr:List (Nat × SV)}{L L1 L':List LO}{N:Nat}(hx:(St.mk fr L N).ev x=.sl i ver)(hL:L[i]? =some (.own e z ver es))(hs:hMu L z ((St.mk fr L N).ev y) us js)
  (hjs:(decide js.Nodup && !js.contains i)=true) (hT:tyE P T=some e) (he:tyI P e=some (gg,z,bs)) (hZ:tyZ P e=some zs) (hz:(Nat.blt 0 z && zs.length==z)=true)
  (hbig:es.length+us.length≤big) (hbytes:(es.length+us.length)*bs≤140737488355328) (ht:Nat.blt t N=true) (hk1:KR js L L1) (hL':St1 (.own e z (ver+1) (es++us)) i L1 L')
  (h:VO P A ops rest ⟨(t,.sl i (ver+1))::fr,L',N⟩ K):VO P A ops (⟨some t,.call { callee:=.builtin .append,args:=#[x,y],argTypes:=#[T,T] },T',pos,af,none⟩::rest) ⟨fr,L,N⟩ K:=by
 simp only [Bool.and_eq_true,decide_eq_true_eq] at hjs;exact hFo hx hL hs hjs.2 hT he hZ hz hbig hbytes ht (by rw [hk1.spec hjs.1];exact hL'.spec) h
theorem gV4 {T e:TypeId}{gg:Bool}{z bs i:Nat}{zs:List Value}{u:U}{js:List Nat}{fr:List (Nat × SV)}{L L1 L':List LO}{N:Nat}(hy:OV L ((St.mk fr L N).ev x) u js)(hjs:decide js.Nodup=true)(hT:tyE P T=some e)(he:tyI P e=some (gg,z,bs))(hZ:tyZ P e=some zs)
  (hz:(Nat.blt 0 z && Nat.blt z 16777216 && zs.length==z)=true) (hu:u.sz=z) (ht:Nat.blt t N=true) (hk1:KR js L L1) (hL':Sn (.own e z 0 [u]) L1 i L')
  (h:VO P A ops rest ⟨(t,.sl i 0)::fr,L',N⟩ K):VO P A ops (⟨some t,.buildSlice T 1 #[(0,x)],ty,pos,af,none⟩::rest) ⟨fr,L,N⟩ K:=by
 have hk:=hk1.spec (of_decide_eq_true hjs);obtain⟨h1,h2⟩:=hL'.spec;exact hOh hy hjs hT he hZ hz hu ht (by rw [←h1,←hk,zY]) (by rw [hk];exact h2) h
end
theorem tI:∀w,Tr w (.i .i64 0) [.int .i64 0]∧(U.i .i64 0).fp w [.int .i64 0]=[]:=fun w=>⟨by simp [Tr],rfl⟩
theorem tB:∀w,Tr w (.b false) [.bool false]∧(U.b false).fp w [.bool false]=[]:=fun w=>⟨by simp [Tr],rfl⟩
theorem tS:∀w,Tr w (.s []) [.string ⟨#[]⟩]∧(U.s []).fp w [.string ⟨#[]⟩]=[]:=fun w=>⟨by simp [Tr,big],rfl⟩
theorem tL(z:Nat):∀w,Tr w (.sl z []) [.slice none 0 0]∧(U.sl z []).fp w [.slice none 0 0]=[]:=fun w=>Tr.nil w z
inductive ZL:List U→List Value→Prop
 | nil:ZL [] []
 | i {us:List U} {vs:List Value} (h:ZL us vs):ZL (.i .i64 0::us) (.int .i64 0::vs)
 | b {us:List U} {vs:List Value} (h:ZL us vs):ZL (.b false::us) (.bool false::vs)
 | s {us:List U} {vs:List Value} (h:ZL us vs):ZL (.s []::us) (.string ⟨#[]⟩::vs)
 | l {z:Nat} {us:List U} {vs:List Value} (h:ZL us vs):ZL (.sl z []::us) (.slice none 0 0::vs)
theorem ZL.r{us:List U}{vs:List Value}(h:ZL us vs)(w:World):vE (fun u c=>Tr w u [c]) us vs∧fpl w us vs=[]:=by
 induction h with
 | nil=>exact⟨trivial,rfl⟩
 | i h ih=>exact⟨⟨(tI w).1,ih.1⟩,by simp only [fpl,(tI w).2,ih.2,List.nil_append]⟩
 | b h ih=>exact⟨⟨(tB w).1,ih.1⟩,by simp only [fpl,(tB w).2,ih.2,List.nil_append]⟩
 | s h ih=>exact⟨⟨(tS w).1,ih.1⟩,by simp only [fpl,(tS w).2,ih.2,List.nil_append]⟩
 | l h ih=>exact⟨⟨(tL _ w).1,ih.1⟩,by simp only [fpl,(tL _ w).2,ih.2,List.nil_append]⟩
theorem hV0{u:U}{fl:List U}{vs:List Value}(hl:Lv u fl)(h:ZL fl vs):hAc u vs:=fun w=>by
 have:=hl.eq
 subst this;obtain⟨h1,h2⟩:=h.r w;exact⟨Tr.of_leafs _ _ h1,by rw [gV3 _ _ (by rw [←h1.length,U.flat_len]),h2]⟩
section
variable {P:Program}{A:Amb}{σ:St}{K:St→Prop}
variable {ops:Array Oper}{rest:List Oper}{t:Nat}{ty:TypeId}{pos:String}{af:Array Edge}{x y:Operand}{sv:SV}
end
section
variable {P:Program}{A:Amb}{ops:Array Oper}{K:St→Prop}{r:List (Nat × Bool)}{pf:PF}{o:Oper}{fr:List (Nat × SV)}{L L1 L':List LO}{N i t j:Nat}{sv:SV}
variable {ty:TypeId}{pos:String}{af:Array Edge}{x y:Operand}
theorem gJm(hi:ops[i]? =some o)(h:HSt P A ops ⟨fr,L,N⟩ o sv L')(hp:uY ops i L' pf)(hv:VY P A ops K r pf (St.setO ⟨fr,L',N⟩ o.dst sv)):VY P A ops K ((i,false)::r) pf ⟨fr,L,N⟩:=hVy ⟨hi,h,hp.ok,hv⟩
theorem hFp {T e T':TypeId}{gg:Bool}{z bs ver:Nat}{zs:List Value}{es us:List U}{js:List Nat}(hx:(St.mk fr L N).ev x=.sl i ver)(hL:L[i]? =some (.own e z ver es))(hs:hMu L z ((St.mk fr L N).ev y) us js)
  (hjs:(decide js.Nodup && !js.contains i)=true) (hT:tyE P T=some e) (he:tyI P e=some (gg,z,bs)) (hZ:tyZ P e=some zs) (hz:(Nat.blt 0 z && zs.length==z)=true)
  (hbig:es.length+us.length≤big) (hbytes:(es.length+us.length)*bs≤140737488355328) (ht:Nat.blt t N=true) (hk1:KR js L L1) (hL':St1 (.own e z (ver+1) (es++us)) i L1 L') :
  HSt P A ops ⟨fr,L,N⟩ ⟨some t,.call { callee:=.builtin .append,args:=#[x,y],argTypes:=#[T,T] },T',pos,af,none⟩ (.sl i (ver+1)) L':=fun _ he' _ hK=>
 gX5 (by rw [he' x (by simp [Op.operands,Call.operands])];exact hx) hL (by rw [he' y (by simp [Op.operands,Call.operands])];exact hs) hjs hT he hZ hz hbig hbytes ht hk1 hL' (gFw hK)
theorem hI9 {T e:TypeId}{gg:Bool}{z bs:Nat}{zs:List Value}{u:U}{js:List Nat}(hy:OV L ((St.mk fr L N).ev x) u js)(hjs:decide js.Nodup=true)(hT:tyE P T=some e)(he:tyI P e=some (gg,z,bs))(hZ:tyZ P e=some zs)
  (hz:(Nat.blt 0 z && Nat.blt z 16777216 && zs.length==z)=true) (hu:u.sz=z) (ht:Nat.blt t N=true) (hk1:KR js L L1) (hL':Sn (.own e z 0 [u]) L1 i L') :
  HSt P A ops ⟨fr,L,N⟩ ⟨some t,.buildSlice T 1 #[(0,x)],ty,pos,af,none⟩ (.sl i 0) L':=fun _ he' _ hK=>
 gV4 (by rw [he' x (by simp [Op.operands])];exact hy) hjs hT he hZ hz hu ht hk1 hL' (gFw hK)
theorem hJa{T e:TypeId}{gg:Bool}{z bs:Nat}(hT:tyE P T=some e)(he:tyI P e=some (gg,z,bs))(ht:Nat.blt t N=true)(hL':Sn (.own e z 0 []) L i L') :
  HSt P A ops ⟨fr,L,N⟩ ⟨some t,.buildSlice T 0 #[],ty,pos,af,none⟩ (.sl i 0) L':=fun _ _ _ hK=>hC4 hT he ht hL' (gFw hK)
theorem kZ.adopt{a:Act}{w:World}{cs cs':List SV}{e z:Nat}(hL:L[j]? =some (.box cs))(k:Nat)(hc:cs[k]? =some .nilsl)(hcs:cs.set k (.sl L.length 0)=cs')(h:kZ A ⟨fr,L,N⟩ a w):kZ A ⟨fr,L.set j (.box cs')++[.own e z 0 []],N⟩ a w:=by
 subst hcs;obtain⟨S,env,hH,hf,hN,hd⟩:=h;have hj:=(List.getElem?_eq_some_iff.1 hL).1;obtain⟨hH1,C1⟩:=hH.newO [] (.own e z 0 []) (.slice none 0 0) (Nat.le_refl _) (fun _ _=>rfl) rfl rfl rfl (fun b hb=>by simp only [LO.ft] at hb;rw [(Tr.nil w z).2] at hb;cases hb) (fun _=>hAb e z 0);rw [gQ7] at hH1 C1;have hL1:(L++[LO.own e z 0 []])[j]? =some (.box cs):=by rw [List.getElem?_append_left hj];exact hL
 have hje:j < (env++[Value.slice none 0 0]).length:=by rw [hH1.len];simp;omega
 obtain⟨hv,he⟩:∃hv,(env++[Value.slice none 0 0])[j]? =some hv:=⟨_,List.getElem?_eq_getElem hje⟩
 obtain⟨b,vals,e',r1,r2,r3,r4⟩:=hH1.objs j _ hv hL1 he
 obtain⟨hH2,C2⟩:=hH1.turnF (w':=w) j (.box cs) (.box (cs.set k (.sl L.length 0))) hv hL1 rfl he rfl rfl (fun _ _=>rfl) rfl rfl rfl (fun k hk=>hk) (fun C=>⟨b,vals,e',r1,r2,by
  have r3':=kJ.carry C _ _ r3;rw [kJ.iff] at r3' ⊢;obtain⟨v,v1,v2⟩:=vE.get ((kJ.iff _ _).1 r3) k _ hc;simp only [SVr] at v2;subst v2
  have hset:=vE.set k (.sl L.length 0) (.slice none 0 0) r3' (by
   simp only [SVr];refine⟨.slice none 0 0,.own e z 0 [],by rw [←hH.len];simp,?_,Nat.le_refl _,rfl,fun _=>rfl⟩;rw [List.getElem?_set_ne (by omega)]
   simp)
  have hk:k < vals.toList.length:=(List.getElem?_eq_some_iff.1 v1).1
  have:vals.toList.set k (.slice none 0 0)=vals.toList:=by
   apply List.ext_getElem?;intro m;rw [List.getElem?_set];by_cases hm:k=m
   ·subst hm;rw [if_pos rfl,if_pos hk,v1]
   ·rw [if_neg hm]
  rwa [this] at hset,r4⟩)
 have hse:(L++[LO.own e z 0 []]).set j (.box (cs.set k (.sl L.length 0)))=L.set j (.box (cs.set k (.sl L.length 0)))++[.own e z 0 []]:=by rw [List.set_append_left _ _ hj]
 rw [hse] at hH2 C2;exact⟨S,_,hH2,fun t=>SVr.carry C2 _ _ (SVr.carry C1 _ _ (hf t)),hN,hd⟩
theorem hJb {Q:Exit→St→Prop}{c:Code}{cs cs':List SV}{n:Nat}(e z:Nat)(j k:Nat)(hL:L[j]? =some (.box cs))(hc:cs[k]? =some .nilsl)(hn:Ln L n)(hcs:St1 (.sl n 0) k cs cs')(h1:St1 (.box cs') j L L1)(h2:Jn L1 [.own e z 0 []] L')
  (h:V P A c ⟨fr,L',N⟩ Q):V P A c ⟨fr,L,N⟩ Q:=by
 have e1:=hn.eq;have e2:=hcs.spec;have e3:=h1.spec;have e4:=h2.spec;subst e1;subst e2;subst e3;subst e4;exact fun a w hr=>h a w (kZ.adopt hL k hc rfl hr)
end
section
variable {P:Program}{A:Amb}{ops:Array Oper}{K:St→Prop}{r:List (Nat × Bool)}{pf:PF}{fr:List (Nat × SV)}{L:List LO}{N i t:Nat}
variable {ty:TypeId}{pos:String}{af:Array Edge}{x y:Operand}
theorem jA5{o:Oper}{sv:SV}(hi:ops[i]? =some o)(hd:o.dst=some t)(hg:o.guard=none)(h:∀fr' L',(∀x∈o.op.operands.toList,St.ev ⟨fr',L',N⟩ x=St.ev ⟨fr,L,N⟩ x)→gSq L L'→Quiet P A ⟨fr',L',N⟩ o sv)(ht:Nat.blt t N=true)(hv:VY P A ops K r ((i,L)::pf) ⟨(t,sv)::fr,L,N⟩):VY P A ops K ((i,true)::r) pf ⟨fr,L,N⟩:=by
 refine⟨o,sv,hi,⟨fun d h'=>(by rw [hd] at h';cases h';exact ht),gSq.refl _,.inl ⟨by unfold Gd;simp only [hg],h⟩⟩,?_⟩;rw [hd];exact hv
end
end Go.Eng
set_option linter.unusedVariables false
set_option linter.unusedSimpArgs false
namespace Go.Eng
open Go Go.RowKit
mutual
def SV.ren(ρ:Nat→Nat):SV→SV
 | .junk=>.junk
 | .d u=>.d u
 | .ag cs=>.ag (SV.rens ρ cs)
 | .ptr i off=>.ptr (ρ i) off
 | .sl i ver=>.sl (ρ i) ver
 | .dp u=>.dp u
 | .ep i ver z k off=>.ep (ρ i) ver z k off
 | .fn f cs=>.fn f (SV.rens ρ cs)
 | .tup cs=>.tup (SV.rens ρ cs)
 | .nilsl=>.nilsl
def SV.rens(ρ:Nat→Nat):List SV→List SV
 | []=>[]
 | c::cs=>SV.ren ρ c::SV.rens ρ cs
end
def LO.ren(ρ:Nat→Nat):LO→LO
 | .box cs=>.box (SV.rens ρ cs)
 | o=>o
section
variable {ρ:Nat→Nat}{S:Nat→Prop}{L L':List LO}{env env':List Value}{w:World}
theorem LO.ren_ver(o:LO):(o.ren ρ).ver=o.ver:=by cases o<;>rfl
theorem LO.ren_live(o:LO):(o.ren ρ).live=o.live:=by cases o<;>rfl
theorem LO.ren_ft(o:LO)(hv:Value)(b:Nat):(o.ren ρ).ft w hv b↔o.ft w hv b:=by cases o<;>exact Iff.rfl
theorem gV5{o:LO}{i:Nat}(h:(L'[ρ i]?).map LO.ver=(L[i]?).map LO.ver)(ho:L[i]? =some o):∃o',L'[ρ i]? =some o'∧o'.ver=o.ver:=by
 rw [ho] at h;cases h':L'[ρ i]? with
 | none=>rw [h'] at h;cases h
 | some o'=>rw [h'] at h;exact⟨o',rfl,by simpa using h⟩
mutual
theorem SVr.ren(H:∀i,i < env.length→env'[ρ i]? =env[i]? ∧(L'[ρ i]?).map LO.ver=(L[i]?).map LO.ver):∀(sv:SV)(v:Value),SVr S L env w sv v→SVr S L' env' w (sv.ren ρ) v
 | .junk,v,_=>by simp only [SV.ren,SVr]
 | .d u,v,h=>by simpa only [SV.ren,SVr] using h
 | .ag cs,v,h=>by
   simp only [SV.ren,SVr] at h ⊢;obtain⟨vs,h1,h2⟩:=h;exact⟨vs,h1,kJ.ren H cs vs h2⟩
 | .ptr i off,v,h=>by
   simp only [SV.ren,SVr] at h ⊢;obtain⟨b,h1,h2⟩:=h;exact⟨b,by rw [(H i (List.getElem?_eq_some_iff.1 h1).1).1];exact h1,h2⟩
 | .sl i ver,v,h=>by
   simp only [SV.ren,SVr] at h ⊢;obtain⟨hv,o,h1,h2,h3,h5,h4⟩:=h;obtain⟨k1,k2⟩:=H i (List.getElem?_eq_some_iff.1 h1).1;obtain⟨o',k3,k4⟩:=gV5 k2 h2;exact⟨hv,o',by rw [k1];exact h1,k3,by omega,h5,fun he=>h4 (by omega)⟩
 | .dp u,v,h=>by simpa only [SV.ren,SVr] using h
 | .ep i ver z k off,v,h=>by
   simp only [SV.ren,SVr] at h ⊢;obtain⟨hv,o,h1,h2,h3,h5,h4⟩:=h;obtain⟨k1,k2⟩:=H i (List.getElem?_eq_some_iff.1 h1).1;obtain⟨o',k3,k4⟩:=gV5 k2 h2;exact⟨hv,o',by rw [k1];exact h1,k3,by omega,h5,fun he=>h4 (by omega)⟩
 | .fn f cs,v,h=>by
   simp only [SV.ren,SVr] at h ⊢;obtain⟨vs,h1,h2⟩:=h;exact⟨vs,h1,kJ.ren H cs vs h2⟩
 | .tup cs,v,h=>by
   simp only [SV.ren,SVr] at h ⊢;obtain⟨vs,h1,h2⟩:=h;exact⟨vs,h1,kJ.ren H cs vs h2⟩
 | .nilsl,v,h=>by simpa only [SV.ren,SVr] using h
theorem kJ.ren(H:∀i,i < env.length→env'[ρ i]? =env[i]? ∧(L'[ρ i]?).map LO.ver=(L[i]?).map LO.ver):∀(svs:List SV)(vs:List Value),kJ S L env w svs vs→kJ S L' env' w (SV.rens ρ svs) vs
 | [],[],_=>by simp only [SV.rens,kJ]
 | sv::svs,v::vs,h=>by
   simp only [SV.rens,kJ] at h ⊢;exact⟨SVr.ren H sv v h.1,kJ.ren H svs vs h.2⟩
 | [],_::_,h=>by simp [kJ] at h
 | _::_,[],h=>by simp [kJ] at h
end
mutual
theorem SVr.unren{n:Nat}(H:∀i,i < n→env'[ρ i]? =env[i]? ∧(L'[ρ i]?).map LO.ver=(L[i]?).map LO.ver):∀(sv:SV)(v:Value),sv.lt n=true→SVr S L' env' w (sv.ren ρ) v→SVr S L env w sv v
 | .junk,v,_,_=>by simp only [SVr]
 | .d u,v,_,h=>by simpa only [SV.ren,SVr] using h
 | .ag cs,v,hl,h=>by
   simp only [SV.ren,SVr] at h ⊢;obtain⟨vs,h1,h2⟩:=h;exact⟨vs,h1,kJ.unren H cs vs (by simpa only [SV.lt] using hl) h2⟩
 | .ptr i off,v,hl,h=>by
   simp only [SV.lt,Nat.blt_eq] at hl;simp only [SV.ren,SVr] at h ⊢;obtain⟨b,h1,h2⟩:=h;exact⟨b,by rw [← (H i hl).1];exact h1,h2⟩
 | .sl i ver,v,hl,h=>by
   simp only [SV.lt,Nat.blt_eq] at hl;simp only [SV.ren,SVr] at h ⊢;obtain⟨hv,o,h1,h2,h3,h5,h4⟩:=h;obtain⟨k1,k2⟩:=H i hl;obtain⟨o',k3,k4⟩:=gV5 (L':=L) (L:=L') (ρ:=fun _=>i) (i:=ρ i) k2.symm h2;exact⟨hv,o',by rw [←k1];exact h1,k3,by omega,h5,fun he=>h4 (by omega)⟩
 | .dp u,v,_,h=>by simpa only [SV.ren,SVr] using h
 | .ep i ver z k off,v,hl,h=>by
   simp only [SV.lt,Nat.blt_eq] at hl;simp only [SV.ren,SVr] at h ⊢;obtain⟨hv,o,h1,h2,h3,h5,h4⟩:=h;obtain⟨k1,k2⟩:=H i hl;obtain⟨o',k3,k4⟩:=gV5 (L':=L) (L:=L') (ρ:=fun _=>i) (i:=ρ i) k2.symm h2;exact⟨hv,o',by rw [←k1];exact h1,k3,by omega,h5,fun he=>h4 (by omega)⟩
 | .fn f cs,v,hl,h=>by
   simp only [SV.ren,SVr] at h ⊢;obtain⟨vs,h1,h2⟩:=h;exact⟨vs,h1,kJ.unren H cs vs (by simpa only [SV.lt] using hl) h2⟩
 | .tup cs,v,hl,h=>by
   simp only [SV.ren,SVr] at h ⊢;obtain⟨vs,h1,h2⟩:=h;exact⟨vs,h1,kJ.unren H cs vs (by simpa only [SV.lt] using hl) h2⟩
 | .nilsl,v,_,h=>by simpa only [SV.ren,SVr] using h
theorem kJ.unren{n:Nat}(H:∀i,i < n→env'[ρ i]? =env[i]? ∧(L'[ρ i]?).map LO.ver=(L[i]?).map LO.ver):∀(svs:List SV)(vs:List Value),SV.lts n svs=true→kJ S L' env' w (SV.rens ρ svs) vs→kJ S L env w svs vs
 | [],[],_,_=>by simp only [kJ]
 | sv::svs,v::vs,hl,h=>by
   simp only [SV.lts,Bool.and_eq_true] at hl;simp only [SV.rens,kJ] at h ⊢;exact⟨SVr.unren H sv v hl.1 h.1,kJ.unren H svs vs hl.2 h.2⟩
 | [],_::_,_,h=>by simp [SV.rens,kJ] at h
 | _::_,[],_,h=>by simp [SV.rens,kJ] at h
end
end
structure gV6 (ρ:Nat→Nat)(L Lc:List LO):Prop where
 get:∀(m:Nat)(o:LO),Lc[m]? =some o→L[ρ m]? =some (o.ren ρ)
 inj:∀(m m':Nat),m < Lc.length→m' < Lc.length→ρ m=ρ m'→m=m'
 lt:LO.lts Lc.length Lc=true
def gSs(ρ:Nat→Nat)(n:Nat)(env:List Value):List Value:=(List.range n).map fun m=>env.getD (ρ m) undef
section
variable {ρ:Nat→Nat}{A A':Amb}{S:Nat→Prop}{L Lc:List LO}{env:List Value}{w:World}
theorem gSt{n:Nat}(hH:mQ A S L env w){m:Nat}(hm:m < n){o:LO}(ho:L[ρ m]? =some o):(gSs ρ n env)[m]? =env[ρ m]? :=by
 have hj:=(List.getElem?_eq_some_iff.1 ho).1;rw [←hH.len] at hj;simp only [gSs,List.getElem?_map,List.getElem?_range hm,Option.map_some];rw [List.getElem?_eq_getElem hj];simp [List.getD_eq_getElem?_getD,List.getElem?_eq_getElem hj]
theorem gV6.H(hH:mQ A S L env w)(hp:gV6 ρ L Lc):∀i,i < Lc.length→env[ρ i]? =(gSs ρ Lc.length env)[i]? ∧(L[ρ i]?).map LO.ver=(Lc[i]?).map LO.ver:=by
 intro i hi;obtain⟨o,ho⟩:∃o,Lc[i]? =some o:=⟨_,List.getElem?_eq_getElem hi⟩
 have h1:=hp.get i o ho;exact⟨(gSt hH hi h1).symm,by rw [h1,ho];simp [LO.ren_ver]⟩
theorem mQ.pick (hH:mQ A S L env w)(hp:gV6 ρ L Lc)(hw:A'.w0.heap.size≤w.heap.size)
  (hexcl:∀(m:Nat)(b:Nat),m < Lc.length→gT2 L env w (ρ m) b→A'.E b∨A'.w0.heap.size≤b) (hsA:∀b,S b→A'.S0 b∨A'.E b∨A'.w0.heap.size≤b)
  (hframe:∀b,b < A'.w0.heap.size→¬A'.E b→w.heap[b]? =A'.w0.heap[b]?) (hos:w.os=A'.w0.os) (htape:w.tape=A'.w0.tape) (hout:w.output=A'.w0.output)
  (hbase:Base A' Lc (gSs ρ Lc.length env)) (hglob:Gok A'.E A'.w0):mQ A' S Lc (gSs ρ Lc.length env) w:=by
 have H:=hp.H hH;have key:∀(m:Nat)(o:LO)(hv:Value),Lc[m]? =some o→(gSs ρ Lc.length env)[m]? =some hv→m < Lc.length∧L[ρ m]? =some (o.ren ρ)∧env[ρ m]? =some hv:=by
  intro m o hv h1 h2;have hm:=(List.getElem?_eq_some_iff.1 h1).1;exact⟨hm,hp.get m o h1,by rw [(H m hm).1];exact h2⟩
 refine⟨by simp [gSs],?_,?_,?_,hH.sS,hsA,hframe,hw,hos,htape,hout,hbase,hglob⟩
 ·intro m o hv h1 h2;obtain⟨hm,k1,k2⟩:=key m o hv h1 h2;have hob:=hH.objs _ _ _ k1 k2;cases o with
  | box cs=>
    obtain⟨b,vals,e,r1,r2,r3,r4⟩:=hob;refine⟨b,vals,e,r1,r2,kJ.unren H _ _ ?_ r3,r4⟩
    have:=LO.lts_get Lc hp.lt m _ h1
    simpa only [LO.lt] using this
  | arr e z ver es=>exact hob
  | frz e z ver es=>exact hob
  | own e z ver es=>exact hob
  | dead ver=>exact hob
  | ownp h e z es=>exact hob
  | mix e z ver fs es=>exact hob
  | set ks=>exact hob
  | bld e T l=>exact hob
 ·intro m o hv b h1 hl h2 hb;obtain⟨hm,k1,k2⟩:=key m o hv h1 h2;have hl':(o.ren ρ).live=true:=by rw [LO.ren_live];exact hl
  have hb':=(LO.ren_ft (ρ:=ρ) o hv b).2 hb
  have:=hH.excl _ _ _ b k1 hl' k2 hb'
  exact⟨this.1,hexcl m b hm ⟨_,_,k1,hl',k2,hb'⟩,this.2.2⟩
 ·intro m m' o o' hv hv' b h1 h2 hl1 hl2 e1 e2 b1 b2;obtain⟨hm,k1,k2⟩:=key m o hv h1 e1;obtain⟨hm',k1',k2'⟩:=key m' o' hv' h2 e2;exact hp.inj m m' hm hm' (hH.dist _ _ _ _ _ _ b k1 k1' (by rw [LO.ren_live];exact hl1) (by rw [LO.ren_live];exact hl2) k2 k2' ((LO.ren_ft o hv b).2 b1) ((LO.ren_ft o' hv' b).2 b2))
end
def gJd{α:Type}:List Nat→List α→List α→List α
 | [],new,old=>old++new
 | j::js,x::new,old=>gJd js new (old.set j x)
 | _::_,[],old=>old
def rn(js:List Nat)(n0 m:Nat):Nat:=(js[m]?).getD (n0+(m - js.length))
section
variable {α:Type}
theorem gQ8:∀(js:List Nat)(new old:List α),js.length≤new.length→(gJd js new old).length=old.length+(new.length - js.length)
 | [],new,old,_=>by simp [gJd]
 | j::js,x::new,old,h=>by
   simp only [gJd];rw [gQ8 js new (old.set j x) (by simpa using h)];simp
 | _::_,[],_,h=>by simp at h
theorem gJ9:∀(js:List Nat)(new old:List α)(j:Nat),j < old.length→j∉js→(gJd js new old)[j]? =old[j]?
 | [],new,old,j,h,_=>by simp only [gJd];exact List.getElem?_append_left h
 | i::js,x::new,old,j,h,hn=>by
   simp only [List.mem_cons,not_or] at hn;simp only [gJd];rw [gJ9 js new (old.set i x) j (by simpa using h) hn.2,List.getElem?_set_ne (fun e=>hn.1 e.symm)]
 | _::_,[],_,_,_,_=>rfl
theorem gV7:∀(js:List Nat)(new old:List α)(m:Nat),js.length≤new.length→(∀j∈js,j < old.length)→js.Nodup→(gJd js new old)[rn js old.length m]? =new[m]?
 | [],new,old,m,_,_,_=>by
   simp only [gJd,rn,List.getElem?_nil,Option.getD_none,List.length_nil,Nat.sub_zero];rw [List.getElem?_append_right (by omega)];congr 1;omega
 | j::js,x::new,old,m,hl,hlt,hnd=>by
   simp only [gJd];simp only [List.nodup_cons] at hnd;cases m with
   | zero=>
     simp only [rn,List.getElem?_cons_zero,Option.getD_some];rw [gJ9 js new _ j (by simpa using hlt j (by simp)) hnd.1];simp [hlt j (by simp)]
   | succ m=>
     have:=gV7 js new (old.set j x) m (by simpa using hl) (fun i hi=>by simpa using hlt i (by simp [hi])) hnd.2
     simp only [List.length_set] at this;rw [List.getElem?_cons_succ,←this];congr 1;simp only [rn,List.getElem?_cons_succ,List.length_cons];congr 2;omega
 | _::_,[],_,_,h,_,_=>by simp at h
theorem hFq(js:List Nat)(new old:List α)(hl:js.length≤new.length)(i:Nat)(hi:i < (gJd js new old).length):(i < old.length∧i∉js)∨∃m,m < new.length∧rn js old.length m=i:=by
 rw [gQ8 _ _ _ hl] at hi;by_cases h1:i∈js
 ·obtain⟨m,hm,rfl⟩:=List.mem_iff_getElem.1 h1;exact .inr ⟨m,by omega,by simp [rn,List.getElem?_eq_getElem hm]⟩
 ·by_cases h2:i < old.length
  ·exact .inl ⟨h2,h1⟩
  ·refine .inr ⟨js.length+(i - old.length),by omega,?_⟩;simp only [rn];rw [List.getElem?_eq_none (by omega)];simp only [Option.getD_none];omega
theorem hJc{l:List Nat}(h:l.Nodup){i j:Nat}(hi:i < l.length)(hj:j < l.length)(he:l[i]=l[j]):i=j:=by
 have hp:=List.pairwise_iff_getElem.1 h;rcases Nat.lt_trichotomy i j with h1 | h1 | h1
 ·exact absurd he (hp i j hi hj h1)
 ·exact h1
 ·exact absurd he.symm (hp j i hj hi h1)
theorem hJf{js:List Nat}{n0:Nat}(hlt:∀j∈js,j < n0)(hnd:js.Nodup){m m':Nat}(h:rn js n0 m=rn js n0 m'):m=m':=by
 simp only [rn] at h;by_cases h1:m < js.length<;>by_cases h2:m' < js.length
 ·rw [List.getElem?_eq_getElem h1,List.getElem?_eq_getElem h2] at h;exact hJc hnd h1 h2 (by simpa using h)
 ·rw [List.getElem?_eq_getElem h1,List.getElem?_eq_none (by omega)] at h
  have:=hlt _ (List.getElem_mem h1)
  simp at h;omega
 ·rw [List.getElem?_eq_getElem h2,List.getElem?_eq_none (by omega)] at h
  have:=hlt _ (List.getElem_mem h2)
  simp at h;omega
 ·rw [List.getElem?_eq_none (by omega),List.getElem?_eq_none (by omega)] at h;simp at h;omega
end
section
variable {A:Amb}{S S':Nat→Prop}{L Lc Lo:List LO}{env envo:List Value}{w w':World}{js:List Nat}
def given(js:List Nat)(L:List LO)(env:List Value)(w:World)(n b:Nat):Prop:=∃m,m < n∧gT2 L env w (rn js L.length m) b
theorem mQ.hand(hH:mQ A S L env w)(hp:gV6 (rn js L.length) L Lc):mQ ⟨w,S,given js L env w Lc.length,Lc,gSs (rn js L.length) Lc.length env⟩ S Lc (gSs (rn js L.length) Lc.length env) w:=
 hH.pick hp (Nat.le_refl _) (fun m b hm h=>.inl ⟨m,hm,h⟩) (fun b hb=>.inl hb) (fun _ _ _=>rfl) rfl rfl rfl (Base.refl rfl rfl) (hH.gok fun b ⟨m,_,o,hv,k1,k2,k3,k4⟩=>(hH.excl _ o hv b k1 k2 k3 k4).2.1)
theorem mQ.back (hH:mQ A S L env w)(hp:gV6 (rn js L.length) L Lc)(hn:js.length=Lc.length)(hlt:∀j∈js,j < L.length)(hnd:js.Nodup)
  (hC:mQ ⟨w,S,given js L env w Lc.length,Lc,gSs (rn js L.length) Lc.length env⟩ S' Lo envo w') :
  mQ A (fun b=>S b∨S' b) (gJd js (Lo.map (LO.ren (rn js L.length))) L) (gJd js envo env) w'∧
  Carry S L env w (fun b=>S b∨S' b) (gJd js (Lo.map (LO.ren (rn js L.length))) L) (gJd js envo env) w'∧
  ∀(sv:SV)(v:Value),SVr S' Lo envo w' sv v→SVr (fun b=>S b∨S' b) (gJd js (Lo.map (LO.ren (rn js L.length))) L) (gJd js envo env) w' (sv.ren (rn js L.length)) v:=by
 have hlen:=hH.len;have hleno:=hC.len;have hge:js.length≤Lo.length:=by rw [hn];exact hC.base.1
 generalize hρ:rn js L.length=ρ at hp hC ⊢;have hltE:∀j∈js,j < env.length:=fun j hj=>by rw [hlen];exact hlt j hj
 have gL:∀m,(gJd js (Lo.map (LO.ren ρ)) L)[ρ m]? =(Lo[m]?).map (LO.ren ρ):=fun m=>by
  have:=gV7 js (Lo.map (LO.ren ρ)) L m (by simpa using hge) hlt hnd
  rw [hρ] at this;rw [this,List.getElem?_map]
 have gE:∀m,(gJd js envo env)[ρ m]? =envo[m]? :=fun m=>by
  have:=gV7 js envo env m (by omega) hltE hnd
  rw [hlen,hρ] at this;exact this
 have H:∀i,i < envo.length→(gJd js envo env)[ρ i]? =envo[i]? ∧((gJd js (Lo.map (LO.ren ρ)) L)[ρ i]?).map LO.ver=(Lo[i]?).map LO.ver:=fun i _=>by
  refine⟨gE i,?_⟩;rw [gL i];cases Lo[i]? with
  | none=>rfl
  | some o=>simp [LO.ren_ver]
 have split:∀(J:Nat)(o:LO)(hv:Value),(gJd js (Lo.map (LO.ren ρ)) L)[J]? =some o→(gJd js envo env)[J]? =some hv→
   (J < L.length∧J∉js∧L[J]? =some o∧env[J]? =some hv)∨∃m oo,ρ m=J∧Lo[m]? =some oo∧o=oo.ren ρ∧envo[m]? =some hv:=by
  intro J o hv h1 h2;rcases hFq js (Lo.map (LO.ren ρ)) L (by simpa using hge) J (List.getElem?_eq_some_iff.1 h1).1 with ⟨k1,k2⟩ | ⟨m,k1,k2⟩
  ·rw [gJ9 _ _ _ _ k1 k2] at h1;rw [gJ9 _ _ _ _ (by omega) k2] at h2;exact .inl ⟨k1,k2,h1,h2⟩
  ·rw [hρ] at k2;subst k2;rw [gL m] at h1;rw [gE m] at h2;cases hm:Lo[m]? with
   | none=>rw [hm] at h1;cases h1
   | some oo=>
     rw [hm] at h1;exact .inr ⟨m,oo,rfl,hm,by simpa using h1.symm,h2⟩
 have giv:∀(J:Nat)(b:Nat),given js L env w Lc.length b→gT2 L env w J b→J∈js:=by
  rintro J b ⟨m,hm,h1⟩ h2
  have:=gT2.inj hH h1 h2
  subst this;simp only [rn];rw [List.getElem?_eq_getElem (by omega)];exact List.getElem_mem _
 have keep:∀b,b < w.heap.size→¬given js L env w Lc.length b→w'.heap[b]? =w.heap[b]? :=fun b h1 h2=>hC.frame b h1 h2;have C:Carry S L env w (fun b=>S b∨S' b) (gJd js (Lo.map (LO.ren ρ)) L) (gJd js envo env) w':=by
  refine⟨fun b hb _=>.inl hb,fun b hb hlt=>keep b hlt (fun⟨m,_,o,hv,k1,k2,k3,k4⟩=>(hH.excl _ o hv b k1 k2 k3 k4).1 hb),fun i b hi=>?_,fun i hv o h1 h2=>?_⟩
  ·by_cases hj:i∈js
   ·obtain⟨m,hm,rfl⟩:=List.mem_iff_getElem.1 hj;have hr:ρ m=js[m]:=by rw [←hρ];simp [rn,List.getElem?_eq_getElem hm]
    have hmc:m < Lc.length:=by omega
    obtain⟨o,ho⟩:∃o,Lc[m]? =some o:=⟨_,List.getElem?_eq_getElem hmc⟩
    have q1:=hp.get m o ho;have q2:=gSt hH hmc q1;rw [hr] at q2;obtain⟨oo,hoo⟩:∃oo,Lo[m]? =some oo:=⟨_,List.getElem?_eq_getElem (by omega)⟩
    obtain⟨vv,hvv⟩:∃vv,envo[m]? =some vv:=⟨_,List.getElem?_eq_getElem (by omega)⟩
    have q3:=(hC.base.2 m _ o vv oo (by rw [q2];exact hi) ho hvv hoo).2.2 b rfl;subst q3
    have:=gE m
    rw [hr] at this;rw [this];exact hvv
   ·rw [gJ9 _ _ _ _ (List.getElem?_eq_some_iff.1 hi).1 hj];exact hi
  ·by_cases hj:i∈js
   ·obtain⟨m,hm,rfl⟩:=List.mem_iff_getElem.1 hj;have hr:ρ m=js[m]:=by rw [←hρ];simp [rn,List.getElem?_eq_getElem hm]
    have hmc:m < Lc.length:=by omega
    obtain⟨oc,hoc⟩:∃o,Lc[m]? =some o:=⟨_,List.getElem?_eq_getElem hmc⟩
    have q1:=hp.get m oc hoc;have q2:=gSt hH hmc q1;rw [hr] at q1 q2;rw [h2] at q1;have q1':=Option.some.inj q1;obtain⟨oo,hoo⟩:∃oo,Lo[m]? =some oo:=⟨_,List.getElem?_eq_getElem (by omega)⟩
    obtain⟨vv,hvv⟩:∃vv,envo[m]? =some vv:=⟨_,List.getElem?_eq_getElem (by omega)⟩
    obtain⟨b1,b2,_⟩:=hC.base.2 m hv oc vv oo (by rw [q2];exact h1) hoc hvv hoo;have hver:o.ver=oc.ver:=by rw [q1',LO.ren_ver]
    refine⟨vv,oo.ren ρ,?_,?_,by rw [LO.ren_ver];omega,fun he=>b2 (by rw [LO.ren_ver] at he;omega)⟩
    ·have:=gE m
     rw [hr] at this;rw [this];exact hvv
    ·have:=gL m
     rw [hr] at this;rw [this,hoo];rfl
   ·have hi:=(List.getElem?_eq_some_iff.1 h2).1;exact⟨hv,o,by rw [gJ9 _ _ _ _ (by omega) hj];exact h1,by rw [gJ9 _ _ _ _ hi hj];exact h2,Nat.le_refl _,fun _=>rfl⟩
 have hkeep:∀(J:Nat)(o:LO)(hv:Value),J∉js→L[J]? =some o→o.live=true→env[J]? =some hv→∀b,o.ft w hv b→w'.heap[b]? =w.heap[b]? :=fun J o hv hj h1 hl h2 b hb=>
  keep b (hH.excl J o hv b h1 hl h2 hb).2.2 (fun hg=>hj (giv J b hg ⟨o,hv,h1,hl,h2,hb⟩))
 have hfe:∀(J:Nat)(o:LO)(hv:Value),J∉js→L[J]? =some o→o.live=true→env[J]? =some hv→∀b,o.ft w' hv b→o.ft w hv b:=fun J o hv hj h1 hl h2 b hb=>
  (LO.ft_eq (hH.objs J o hv h1 h2) (hkeep J o hv hj h1 hl h2) b).1 hb
 have C2:Carry S' Lo envo w' (fun b=>S b∨S' b) Lo envo w':=⟨fun b hb _=>.inr hb,fun _ _ _=>rfl,fun _ _ h=>h,fun _ _ _ h1 h2=>⟨_,_,h1,h2,Nat.le_refl _,fun _=>rfl⟩⟩
 have back:∀(sv:SV)(v:Value),SVr S' Lo envo w' sv v→SVr (fun b=>S b∨S' b) (gJd js (Lo.map (LO.ren ρ)) L) (gJd js envo env) w' (sv.ren ρ) v:=fun sv v h=>
  SVr.ren (S:=fun b=>S b∨S' b) H sv v (SVr.carry C2 _ _ h)
 have hlenN:(gJd js (Lo.map (LO.ren ρ)) L).length=L.length+(Lo.length - js.length):=by rw [gQ8 _ _ _ (by simpa using hge)];simp
 have howner:∀(m:Nat)(oo:LO)(hv:Value)(b:Nat),Lo[m]? =some oo→oo.live=true→envo[m]? =some hv→oo.ft w' hv b→given js L env w Lc.length b∨w.heap.size≤b:=fun m oo hv b h1 hl h2 hb=>(hC.excl m oo hv b h1 hl h2 hb).2.1;have hnS:∀b,given js L env w Lc.length b→¬S b:=fun b ⟨m,_,o,hv,k1,k2,k3,k4⟩=>(hH.excl _ o hv b k1 k2 k3 k4).1;refine⟨⟨by rw [hlenN,gQ8 _ _ _ (by omega)];omega,?_,?_,?_,?_,?_,?_,Nat.le_trans hH.size hC.size,hC.os.trans hH.os,hC.tape.trans hH.tape,hC.output.trans hH.output,hH.base.carry C hlen (by rw [hlenN];omega),hH.glob⟩,C,back⟩
 ·intro J o hv h1 h2;rcases split J o hv h1 h2 with ⟨k1,k2,k3,k4⟩ | ⟨m,oo,rfl,k2,rfl,k4⟩
  ·exact gGd.carry C (fun b hl hb=>hkeep J o hv k2 k3 hl k4 b hb) (hH.objs J o hv k3 k4)
  ·have hob:=hC.objs m oo hv k2 k4;cases oo with
   | box cs=>
     obtain⟨b,vals,e,r1,r2,r3,r4⟩:=hob;exact⟨b,vals,e,r1,r2,kJ.ren (S:=fun b=>S b∨S' b) H _ _ (kJ.carry C2 _ _ r3),r4⟩
   | arr e z ver es=>exact gGd.carry C2 (fun _ _ _=>rfl) hob
   | frz e z ver es=>exact gGd.carry C2 (fun _ _ _=>rfl) hob
   | own e z ver es=>exact gGd.carry C2 (fun _ _ _=>rfl) hob
   | dead ver=>exact hob
   | ownp h e z es=>exact gGd.carry C2 (fun _ _ _=>rfl) hob
   | mix e z ver fs es=>exact gGd.carry C2 (fun _ _ _=>rfl) hob
   | set ks=>exact gGd.carry C2 (fun _ _ _=>rfl) hob
   | bld e T l=>exact gGd.carry C2 (fun _ _ _=>rfl) hob
 ·intro J o hv b h1 hl h2 hb;rcases split J o hv h1 h2 with ⟨k1,k2,k3,k4⟩ | ⟨m,oo,rfl,k2,rfl,k4⟩
  ·have hb':=hfe J o hv k2 k3 hl k4 b hb
   have:=hH.excl J o hv b k3 hl k4 hb'
   refine⟨fun hs=>hs.elim this.1 (fun hs=>?_),this.2.1,Nat.lt_of_lt_of_le this.2.2 hC.size⟩;rcases hC.sA b hs with h | h | h
   ·exact this.1 h
   ·exact k2 (giv J b h ⟨o,hv,k3,hl,k4,hb'⟩)
   ·have h':w.heap.size≤b:=h;omega
  ·rw [LO.ren_live] at hl;rw [LO.ren_ft] at hb
   have:=hC.excl m oo hv b k2 hl k4 hb
   refine⟨fun hs=>hs.elim (fun hs=>?_) this.1,?_,this.2.2⟩
   ·rcases this.2.1 with h | h
    ·exact hnS b h hs
    ·have:=hH.sS b hs
     have h':w.heap.size≤b:=h;omega
   ·rcases this.2.1 with ⟨m',_,o',hv',q1,q2,q3,q4⟩ | h
    ·exact(hH.excl _ o' hv' b q1 q2 q3 q4).2.1
    ·exact .inr (Nat.le_trans hH.size h)
 ·intro J J' o o' hv hv' b h1 h2 hl1 hl2 e1 e2 b1 b2;have mix:∀(J:Nat)(o:LO)(hv:Value)(m:Nat)(oo:LO)(hv':Value),J∉js→L[J]? =some o→o.live=true→env[J]? =some hv→o.ft w' hv b→Lo[m]? =some oo→oo.live=true→envo[m]? =some hv'→oo.ft w' hv' b→False:=by
   intro J o hv m oo hv' k2 k3 hl k4 hb m1 ml m2 mb;have hb':=hfe J o hv k2 k3 hl k4 b hb;rcases howner m oo hv' b m1 ml m2 mb with h | h
   ·exact k2 (giv J b h ⟨o,hv,k3,hl,k4,hb'⟩)
   ·have:=(hH.excl J o hv b k3 hl k4 hb').2.2
    omega
  rcases split J o hv h1 e1 with ⟨k1,k2,k3,k4⟩ | ⟨m,oo,rfl,k2,rfl,k4⟩<;>rcases split J' o' hv' h2 e2 with ⟨k1',k2',k3',k4'⟩ | ⟨m',oo',rfl,k2',rfl,k4'⟩
  ·exact hH.dist J J' o o' hv hv' b k3 k3' hl1 hl2 k4 k4' (hfe J o hv k2 k3 hl1 k4 b b1) (hfe J' o' hv' k2' k3' hl2 k4' b b2)
  ·rw [LO.ren_live] at hl2;rw [LO.ren_ft] at b2;exact(mix J o hv m' oo' hv' k2 k3 hl1 k4 b1 k2' hl2 k4' b2).elim
  ·rw [LO.ren_live] at hl1;rw [LO.ren_ft] at b1;exact(mix J' o' hv' m oo hv k2' k3' hl2 k4' b2 k2 hl1 k4 b1).elim
  ·rw [LO.ren_live] at hl1 hl2;rw [LO.ren_ft] at b1 b2;rw [hC.dist m m' oo oo' hv hv' b k2 k2' hl1 hl2 k4 k4' b1 b2]
 ·rintro b (hb | hb)
  ·exact Nat.lt_of_lt_of_le (hH.sS b hb) hC.size
  ·exact hC.sS b hb
 ·rintro b (hb | hb)
  ·exact hH.sA b hb
  ·rcases hC.sA b hb with h | ⟨m',_,o',hv',q1,q2,q3,q4⟩ | h
   ·exact hH.sA b h
   ·exact .inr (hH.excl _ o' hv' b q1 q2 q3 q4).2.1
   ·exact .inr (.inr (Nat.le_trans hH.size h))
 ·intro b h1 h2;have hlt':b < w.heap.size:=Nat.lt_of_lt_of_le h1 hH.size;rw [keep b hlt' ?_]
  ·exact hH.frame b h1 h2
  ·rintro⟨m',_,o',hv',q1,q2,q3,q4⟩;rcases(hH.excl _ o' hv' b q1 q2 q3 q4).2.1 with h | h
   ·exact h2 h
   ·omega
end
def AG(L:List LO)(ρ:Nat→Nat)(n:Nat)(sv sv':SV):Prop:=(sv'.ren ρ=sv∧sv'.lt n=true)∨∃u,sv'=.d u∧VD L sv u
def AGs(L:List LO)(ρ:Nat→Nat)(n:Nat):List SV→List SV→Prop
 | [],[]=>True
 | a::az,b::bs=>AG L ρ n a b∧AGs L ρ n az bs
 | _,_=>False
theorem AGs.r{A:Amb}{S:Nat→Prop}{L Lc:List LO}{env:List Value}{w:World}{ρ:Nat→Nat}(hH:mQ A S L env w)(hp:gV6 ρ L Lc):∀{svs svs':List SV}{vs:List Value},AGs L ρ Lc.length svs svs'→kJ S L env w svs vs→kJ S Lc (gSs ρ Lc.length env) w svs' vs
 | [],[],[],_,_=>by simp [kJ]
 | sv::svs,sv'::svs',v::vs,h,hv=>by
   simp only [kJ] at hv ⊢;refine⟨?_,AGs.r hH hp h.2 hv.2⟩;rcases h.1 with ⟨h1,h2⟩ | ⟨u,rfl,h2⟩
   ·rw [←h1] at hv;exact SVr.unren (hp.H hH) _ _ h2 hv.1
   ·have:=VD.r hH h2 hv.1
    simpa only [SVr] using this
 | [],_::_,_,h,_=>h.elim
 | _::_,[],_,h,_=>h.elim
 | [],[],_::_,_,h=>by simp [kJ] at h
 | _::_,_::_,[],_,h=>by simp [kJ] at h
section
variable {P:Program}{A:Amb}{K:St→Prop}{ops:Array Oper}{rest:List Oper}
variable {t:Nat}{ty:TypeId}{pos:String}{af:Array Edge}{dst:Option Nat}{g:Option (Nat × Bool)}
theorem hJg{a:Act}{w:World}{f:Operand}{fi:Nat}{cvs:List Value}{args:Array Operand}{at_:Array TypeId}(h1:a.eval f=.func (.func fi) #[] cvs.toArray)(hc:hJq P fi) :
  (execOp a.eval ⟨dst,.call { callee:=.value f,args:=args,argTypes:=at_ },ty,pos,af,g⟩).run P w=.ok (.enter fi (args.toList.map a.eval++cvs).toArray) w:=by
 obtain⟨fn,c1,c2,c3⟩:=hc;have harr:args.map a.eval++cvs.toArray=(args.toList.map a.eval++cvs).toArray:=by apply Array.ext';simp
 simp only [execOp,resolve,h1,Deferred.ofValue,Sem.run_bind,Sem.run_pure,Result.andThen_ok,invoke,callFunc,run_program,c1,c2,c3,Bool.false_eq_true,if_false,Array.empty_append,harr]
theorem hOi {f:Operand}{fi:Nat}{caps:List SV}{args:Array Operand}{at_:Array TypeId}{cargs:List SV}{Lc:List LO}{Q:SV→List LO→Prop}{fr:List (Nat × SV)}{L:List LO}{N:Nat}(js:List Nat)(hf:(St.mk fr L N).ev f=.fn fi caps)
  (hspec:Spec P fi cargs Lc Q) (hp:gV6 (rn js L.length) L Lc) (hjs:(decide js.Nodup && (js.all fun j=>Nat.blt j L.length) && js.length==Lc.length)=true) (hargs:AGs L (rn js L.length) Lc.length (args.toList.map (St.mk fr L N).ev++caps) cargs) (ht:Nat.blt t N=true)
  (h:∀(sv:SV)(Lo:List LO),Q sv Lo→VO P A ops rest ⟨(t,sv.ren (rn js L.length))::fr,gJd js (Lo.map (LO.ren (rn js L.length))) L,N⟩ K) :
  VO P A ops (⟨some t,.call { callee:=.value f,args:=args,argTypes:=at_ },ty,pos,af,none⟩::rest) ⟨fr,L,N⟩ K:=by
 simp only [Bool.and_eq_true,decide_eq_true_eq,List.all_eq_true,Nat.blt_eq,beq_iff_eq] at hjs;obtain⟨⟨hnd,hlt⟩,hn⟩:=hjs;intro R hR a w ⟨S,env,hH,hfr,hN,hd⟩;refine wpList_plain rfl fun K' hK'=>?_;have h1:=kZ.ev hfr hH f;rw [hf] at h1;simp only [SVr] at h1;obtain⟨cvs,h1,h2⟩:=h1;have h3:kJ S L env w (args.toList.map (St.mk fr L N).ev) (args.toList.map a.eval):=kJ.evals (σ:=⟨fr,L,N⟩) _ fun x _=>kZ.ev hfr hH x;have h4:kJ S L env w (args.toList.map (St.mk fr L N).ev++caps) (args.toList.map a.eval++cvs):=by
  rw [kJ.iff] at h2 h3 ⊢;exact vE.append h3 h2
 have h5:=AGs.r hH hp hargs h4;obtain⟨hc,hs⟩:=hspec;unfold Oper.wp;rw [hJg h1 hc];simp only [Oper.upon];refine(hs _ S _ w _ rfl rfl rfl rfl (hH.hand hp) h5).mono ?_;rintro e w' ⟨r,sv',S',Lo,envo,rfl,hq,hH',hr⟩;obtain⟨b1,b2,b3⟩:=hH.back hp hn hlt hnd hH';exact hK' _ _ (h _ _ hq R hR _ _ (uA (σ:=⟨fr,L,N⟩) hfr hN hd ht b1 b2 (b3 _ _ hr)))
end
inductive hAe (P:Program)(σ:St):List ResultVar→List SV→Prop
 | nil:hAe P σ [] []
 | data {r:ResultVar} {rs:List ResultVar} {sv0:SV} {u:U} {svs:List SV} (h:hFl P σ r sv0) (hu:VD σ.L sv0 u) (h2:hAe P σ rs svs):hAe P σ (r::rs) (.d u::svs)
 | same {r:ResultVar} {rs:List ResultVar} {sv:SV} {svs:List SV} (h:hFl P σ r sv) (h2:hAe P σ rs svs):hAe P σ (r::rs) (sv::svs)
 | junk {r:ResultVar} {rs:List ResultVar} {sv0:SV} {svs:List SV} (h:hFl P σ r sv0) (h2:hAe P σ rs svs):hAe P σ (r::rs) (.junk::svs)
def mkG:List SV→SV
 | [sv]=>sv
 | svs=>.tup svs
def mG(P:Program)(fn:Func)(Q:SV→List LO→Prop)(n:Nat)(e:Exit)(σ:St):Prop:=
 (match e with | .normal=>True | .ret=>True | _=>False)∧∃svs Lo L2,σ.L=Lo++L2∧(LO.lts Lo.length Lo && SV.lts Lo.length svs && Nat.ble n Lo.length)=true∧Q (mkG svs) Lo∧hAe P σ fn.results.toList svs
theorem jA6{S:Nat→Prop}{L:List LO}{env:List Value}{w:World}{svs:List SV}{vs:List Value}(h:kJ S L env w svs vs):SVr S L env w (mkG svs) (if h:vs.toArray.size=1 then vs.toArray[0] else .tuple vs.toArray):=by
 match svs,vs,h with
 | [],[],_=>simp only [mkG,SVr];exact⟨[],by simp,by simp [kJ]⟩
 | [u],[v],h=>simpa [mkG,kJ] using h
 | u::u'::us,v::v'::vs,h=>simp only [mkG,SVr];exact⟨v::v'::vs,by simp,h⟩
 | [_],[],h=>simp [kJ] at h
 | [_],_::_::_,h=>simp [kJ] at h
 | _::_::_,[_],h=>simp [kJ] at h
 | [],_::_,h=>simp [kJ] at h
 | _::_::_,[],h=>simp [kJ] at h
theorem hAe.run{P:Program}{A:Amb}{σ:St}{S:Nat→Prop}{env:List Value}{a:Act}{w:World}(hH:mQ A S σ.L env w)(hf:∀t,SVr S σ.L env w (look σ.fr t) (a.tmps.getD t undef)){rs:List ResultVar}{svs:List SV}(h:hAe P σ rs svs) :
  ∃vs:List Value,(rs.mapM (hTb a.tmps)).run P w=.ok vs w∧kJ S σ.L env w svs vs:=by
 induction h with
 | nil=>exact⟨[],by simp,by simp [kJ]⟩
 | data h hu _ ih=>
   obtain⟨v,k1,k2⟩:=hFl.run hH hf h;obtain⟨vs,k3,k4⟩:=ih;refine⟨v::vs,?_,?_⟩
   ·simp only [List.mapM_cons,Sem.run_bind];rw [k1];simp only [Result.andThen_ok];rw [k3];rfl
   ·simp only [kJ];exact⟨VD.r hH hu k2,k4⟩
 | same h _ ih=>
   obtain⟨v,k1,k2⟩:=hFl.run hH hf h;obtain⟨vs,k3,k4⟩:=ih;refine⟨v::vs,?_,?_⟩
   ·simp only [List.mapM_cons,Sem.run_bind];rw [k1];simp only [Result.andThen_ok];rw [k3];rfl
   ·simp only [kJ];exact⟨k2,k4⟩
 | junk h _ ih=>
   obtain⟨v,k1,k2⟩:=hFl.run hH hf h;obtain⟨vs,k3,k4⟩:=ih;refine⟨v::vs,?_,?_⟩
   ·simp only [List.mapM_cons,Sem.run_bind];rw [k1];simp only [Result.andThen_ok];rw [k3];rfl
   ·simp only [kJ];exact⟨trivial,k4⟩
theorem kF {P:Program}{f:Nat}{fn:Func}{c:Code}{args:List SV}{L:List LO}{Q:SV→List LO→Prop}(n:Nat)(hf:P.funcs[f]? =some fn)(hb:fn.body=some c)(hname:(fn.name== "runtime.NumGoroutine")=false)
  (hn:Nat.ble args.length fn.ntmps=true) (hL:L.length=n) (h:∀A [gDl A n],V P A c ⟨gLm 0 args,L,fn.ntmps⟩ (mG P fn Q n)):Spec P f args L Q:=by
 refine⟨⟨fn,hf,hname,by rw [hb];rfl⟩,?_⟩;intro A S env w vs hw hS hA0 he hH hargs;have hb0:gDl A n:=⟨by rw [hA0];exact hL⟩
 have hlen:=kJ.length hargs;have hn':=Nat.le_of_ble_eq_true hn;refine calls_of_wp hf hb ?_;refine wp_mono (h A _ w ⟨S,env,hH,fun t=>?_,?_,rfl⟩) ?_
 ·have:=gIn args vs 0 [] (List.replicate (fn.ntmps - vs.length) undef) rfl hargs t
  have e:vs.toArray++Array.replicate (fn.ntmps - vs.toArray.size) undef=([]++vs++List.replicate (fn.ntmps - vs.length) undef).toArray:=by apply Array.ext';simp
  rw [e];exact this
 ·simp;omega
 ·rintro e a' w' ⟨σ',⟨hex,svs,Lo,L2,hLe,hlts,hq,hres⟩,S',env',hH',hf',hN',hd'⟩;simp only [Bool.and_eq_true] at hlts;obtain⟨rvs,k1,k2⟩:=hres.run hH' hf';have hrun:(results fn a'.tmps).run P w'=.ok (if h:rvs.toArray.size=1 then rvs.toArray[0] else .tuple rvs.toArray) w':=by
   rw [gPt];simp only [Sem.run_bind];rw [←Array.toArray_toList (xs:=fn.results)];simp only [List.mapM_toArray,Sem.run_map];rw [k1];rfl
  rw [hLe] at hH' k2;have hcut:=kJ.cut hH'.len svs rvs hlts.1.2 k2
  have fin:∃r sv S'' L' env'',(Ending.returned (if h:rvs.toArray.size=1 then rvs.toArray[0] else .tuple rvs.toArray))=.returned r∧Q sv L'∧mQ A S'' L' env'' w'∧SVr S'' L' env'' w' sv r:=
   ⟨_,mkG svs,S',Lo,env'.take Lo.length,rfl,hq,hH'.cut hlts.1.1 (by rw [hb0.h];exact Nat.le_of_ble_eq_true hlts.2),jA6 hcut⟩
  cases e with
  | normal=>exact⟨hd',_,hrun,fin⟩
  | ret=>exact⟨hd',_,hrun,fin⟩
  | exit id=>exact hex.elim
  | goto l=>exact hex.elim
  | panic c=>exact hex.elim
  | outgrown=>exact hex.elim
def hOj(ρ:Nat→Nat)(fr:List (Nat × SV))(n:Nat):List (Nat × SV)→Prop
 | []=>True
 | p::r=>(look fr p.1=p.2.ren ρ∧p.2.lt n=true)∧hOj ρ fr n r
theorem hOj.look{ρ:Nat→Nat}{fr:List (Nat × SV)}{n:Nat}:∀{fr':List (Nat × SV)},hOj ρ fr n fr'→∀t,look fr' t=.junk∨(look fr t=(look fr' t).ren ρ∧(look fr' t).lt n=true)
 | [],_,t=>.inl rfl
 | p::r,h,t=>by
   simp only [Go.Eng.look];by_cases ht:t=p.1
   ·simp only [ht,if_true];exact .inr h.1
   ·simp only [if_neg ht];exact hOj.look h.2 t
theorem kZ.pick{A:Amb}{a:Act}{w:World}{fr fr':List (Nat × SV)}{L Lc:List LO}{N n:Nat}[hb:gDl A n](js:List Nat)(hp:gV6 (rn js L.length) L Lc)(hn:(js.length==Lc.length && Nat.ble n Lc.length && (List.range n).all fun i=>js[i]? ==some i)=true)(hfr:hOj (rn js L.length) fr Lc.length fr')(h:kZ A ⟨fr,L,N⟩ a w):kZ A ⟨fr',Lc,N⟩ a w:=by
 obtain⟨S,env,hH,hf,hN,hd⟩:=h;simp only [Bool.and_eq_true,beq_iff_eq,List.all_eq_true,List.mem_range] at hn;obtain⟨⟨hl,hle⟩,hid⟩:=hn;have hle':=Nat.le_of_ble_eq_true hle;have H:=hp.H hH;refine⟨S,_,hH.pick hp hH.size (fun m b hm ⟨o,hv,k1,k2,k3,k4⟩=>(hH.excl _ o hv b k1 k2 k3 k4).2.1) hH.sA hH.frame hH.os hH.tape hH.output ⟨by rw [hb.h];exact hle',fun i hv o hv' o' k1 k2 k3 k4=>?_⟩ hH.glob,fun t=>?_,hN,hd⟩
 ·have hi:i < n:=by rw [←hb.h];exact(List.getElem?_eq_some_iff.1 k2).1
  have hr:rn js L.length i=i:=by simp [rn,hid i hi]
  have q1:=hp.get i o' k4;have q2:=(H i (by omega)).1;rw [hr] at q1 q2
  have:=hH.base.2 i hv o hv' _ k1 k2 (by rw [q2];exact k3) q1
  rw [LO.ren_ver] at this;exact this
 ·rcases hOj.look hfr t with hj | ⟨h1,h2⟩
  ·rw [hj];simp only [SVr]
  ·have:=hf t
   simp only at this;rw [h1] at this;exact SVr.unren H _ _ h2 this
theorem hV3{P:Program}{A:Amb}{c:Code}{Q:Exit→St→Prop}{fr fr':List (Nat × SV)}{L Lc:List LO}{N n:Nat} [gDl A n](js:List Nat)(h:V P A c ⟨fr',Lc,N⟩ Q)(hp:gV6 (rn js L.length) L Lc)(hn:(js.length==Lc.length && Nat.ble n Lc.length && (List.range n).all fun i=>js[i]? ==some i)=true)(hfr:hOj (rn js L.length) fr Lc.length fr'):V P A c ⟨fr,L,N⟩ Q:=fun a w hr=>h a w (hr.pick js hp hn hfr)
class Mix (P:Program):Prop where
 h:P.follows .mixedOrders=true
theorem hC7{P:Program}{A:Amb}{σ:St}{Q:Exit→St→Prop}{x y z:Code}(h:V P A (.seq x y) σ (thenS (fun s=>V P A z s Q) Q)):V P A (.seq (.seq x y) z) σ Q:=jY h
def cnd{α:Type}(c:Bool)(x y:α):α:=match c with
 | true=>x
 | false=>y
def bnd{α β:Type}(o:Option α)(k:α→Option β):Option β:=match o with
 | some x=>k x
 | none=>none
def lt_{α β:Type}(x:α)(k:α→β):β:=k x
def gd{α:Type}(c:Prop) [Decidable c](k:Option α):Option α:=if c then k else none
theorem kD{α:Type}{c:Bool}{x y r:α}(hc:c=true)(h:cnd c x y=r):x=r:=by subst hc;exact h
theorem kE{α:Type}{c:Bool}{x y r:α}(hc:c=false)(h:cnd c x y=r):y=r:=by subst hc;exact h
theorem gM{α β:Type}{o:Option α}{k:α→Option β}{r:β}(h:bnd o k=some r):∃x,o=some x∧k x=some r:=by
 cases o with
 | none=>cases h
 | some x=>exact⟨x,rfl,h⟩
theorem jO{α β:Type}{o:Option α}{k:α→Option β}{x:α}(h:o=some x):bnd o k=k x:=by subst h;rfl
theorem mY{α:Type}{c:Prop} [Decidable c]{k:Option α}{r:α}(h:gd c k=some r):c∧k=some r:=by
 unfold gd at h;split at h
 ·exact⟨by assumption,h⟩
 ·cases h
theorem mI{α:Type}{c:Prop} [Decidable c]{k:Option α}(hc:c):gd c k=k:=by unfold gd;rw [if_pos hc]
theorem gT{α:Type}{x y:α}:cnd true x y=x:=rfl
theorem gI{α:Type}{x y:α}:cnd false x y=y:=rfl
theorem hJh{α:Type}{c:Bool}{x y:α}:cnd c x y=if c=true then x else y:=by cases c<;>rfl
def at? {α:Type}(l:List α)(i:Int):Option α:=if 0≤i then l[i.toNat]? else none
theorem gDy{α:Type}{l:List α}{i:Int}{x:α}(h:at? l i=some x):0≤i∧l[i.toNat]? =some x:=by
 unfold at? at h;split at h
 ·exact⟨by assumption,h⟩
 ·cases h
theorem zI{α:Type}(l:List α)(k:Nat):at? l (k:Int)=l[k]? :=by unfold at?;rw [if_pos (Int.natCast_nonneg k)];rfl
theorem drop_at{α:Type}{l:List α}{k:Nat}(h:k < l.length):∃x,l[k]? =some x∧l.drop k=x::l.drop (k+1):=
 ⟨l[k],List.getElem?_eq_getElem h,List.drop_eq_getElem_cons h⟩
theorem jC{α:Type}{l:List α}{k:Nat}(h:l.length≤k):l.drop k=[]:=List.drop_eq_nil_of_le h
section
variable {P:Program}{A:Amb}{ops:Array Oper}{K:St→Prop}{Q:Exit→St→Prop}{rest:List Oper}{σ:St}{fr:List (Nat × SV)}{L L':List LO}{N i t:Nat}{sv:SV}{o:Oper}
variable {ty T:TypeId}{pos:String}{af:Array Edge}{x y:Operand}{g:Option (Nat × Bool)}{dst:Option Nat}{op:Op}
def QR(P:Program)(σ:St)(o:Oper)(sv:SV):Prop:=∀A fr' L',(∀x∈o.op.operands.toList,St.ev ⟨fr',L',σ.N⟩ x=σ.ev x)→gSq σ.L L'→Quiet P A ⟨fr',L',σ.N⟩ o sv
theorem QR.q(h:QR P σ o sv):Quiet P A σ o sv:=h A σ.fr σ.L (fun _ _=>rfl) (gSq.refl _)
theorem qK(hq:QR P ⟨fr,L,N⟩ ⟨some t,op,ty,pos,af,none⟩ sv)(h:VO P A ops rest ⟨(t,sv)::fr,L,N⟩ K)(ht:Nat.blt t N=true:=by rfl):VO P A ops (⟨some t,op,ty,pos,af,none⟩::rest) ⟨fr,L,N⟩ K:=hUt hq.q ht h
theorem gFd(hq:QR P ⟨fr,L,N⟩ ⟨some t,op,ty,pos,af,none⟩ sv)(h:VQ P A ops rest ⟨(t,sv)::fr,L,N⟩ K)(ht:Nat.blt t N=true:=by rfl):VQ P A ops (⟨some t,op,ty,pos,af,none⟩::rest) ⟨fr,L,N⟩ K:=jEk hq.q ht h
theorem jEo{r:List (Nat × Bool)}{pf:PF}(hq:QR P ⟨fr,L,N⟩ ⟨some t,op,ty,pos,af,none⟩ sv)(hv:VY P A ops K r ((i,L)::pf) ⟨(t,sv)::fr,L,N⟩)(hi:ops[i]? =some ⟨some t,op,ty,pos,af,none⟩:=by rfl)(ht:Nat.blt t N=true:=by rfl):VY P A ops K ((i,true)::r) pf ⟨fr,L,N⟩:=
 jA5 hi rfl rfl (fun fr' L' he hk=>hq A fr' L' he hk) ht hv
theorem zZ(hq:Quiet P A ⟨fr,L,N⟩ ⟨some t,op,ty,pos,af,none⟩ sv)(h:VO P A ops rest ⟨(t,sv)::fr,L,N⟩ K)(ht:Nat.blt t N=true:=by rfl):VO P A ops (⟨some t,op,ty,pos,af,none⟩::rest) ⟨fr,L,N⟩ K:=hUt hq ht h
theorem gQq{j tj:Nat}{want:Bool}{o':Oper}(h:VO P A ops (⟨dst,op,ty,pos,af,none⟩::rest) ⟨fr,L,N⟩ K)(hj:ops[j]? =some o':=by rfl)(hdst:o'.dst=some tj:=by rfl)(htj:Nat.blt tj N=true:=by rfl)(hb:look fr tj=.d (.b want):=by rfl) :
  VO P A ops (⟨dst,op,ty,pos,af,some (j,want)⟩::rest) ⟨fr,L,N⟩ K:=hTd hj hdst htj hb h
section
variable {e z bs k:Nat}{gg:Bool}{kd:IntKind}{us:List U}{u:U}
theorem jJ [TE P T e] [TI P e gg z bs](k:Nat)(hu:us[k]? =some u)(hx:σ.ev x=.d (.sl z us):=by rfl)(hy:σ.ev y=.d (.i kd (k:Int)):=by rfl):QR P σ ⟨dst,.indexAddr T x y,ty,pos,af,g⟩ (.dp u):=
 fun A fr' L' he _=>hKv (by rw [he x (by simp [Op.operands])];exact hx) (by rw [he y (by simp [Op.operands])];exact hy) TE.h TI.h (Int.natCast_nonneg k) hu
theorem qW [TE P T e] [TI P e gg z bs]{n:Int}(h0:0≤n)(hu:us[n.toNat]? =some u)(hx:σ.ev x=.d (.sl z us):=by rfl)(hy:σ.ev y=.d (.i kd n):=by rfl):QR P σ ⟨dst,.indexAddr T x y,ty,pos,af,g⟩ (.dp u):=
 fun A fr' L' he _=>hKv (by rw [he x (by simp [Op.operands])];exact hx) (by rw [he y (by simp [Op.operands])];exact hy) TE.h TI.h h0 hu
end
theorem jA7{l:LB}{b:UInt8}{kd:IntKind}{n:Int}(hT:P.underlying T=some .string)(h0:0≤n)(hu:l[n.toNat]? =some b)(hx:σ.ev x=.d (.s l))(hy:σ.ev y=.d (.i kd n)) :
  Quiet P A σ ⟨dst,.index T x y,ty,pos,af,g⟩ (.d (.i .u8 (b.toNat:Int))):=Quiet.pure fun S env a w hH ho=>by
 have h1:=ho x (by simp [Op.operands]);have h2:=ho y (by simp [Op.operands]);rw [hx] at h1;rw [hy] at h2;obtain⟨_,h1⟩:=SVr.str.1 h1;have h2:=SVr.int.1 h2;refine⟨.int .u8 b.toNat,?_,SVr.int.2 rfl⟩;have hb:(if 0≤n then(⟨l.toArray⟩:ByteArray)[n.toNat]? else none)=some b:=by
  rw [if_pos h0];have hlt:=(List.getElem?_eq_some_iff.1 hu).1;have hs:n.toNat < (⟨l.toArray⟩:ByteArray).size:=by simpa [ByteArray.size] using hlt
  rw [getElem?_pos (⟨l.toArray⟩:ByteArray) n.toNat hs];congr 1;have h3:l[n.toNat]=b:=by rw [List.getElem?_eq_getElem hlt] at hu;exact Option.some.inj hu
  rw [←h3];rfl
 simp [execOp,h1,h2,Instr.index,asIntOf,run_underlying hT,hb]
theorem gJn [TS P T]{l:LB}{b:UInt8}{kd:IntKind}{n:Int}(h0:0≤n)(hu:l[n.toNat]? =some b)(hx:σ.ev x=.d (.s l):=by rfl)(hy:σ.ev y=.d (.i kd n):=by rfl) :
  QR P σ ⟨dst,.index T x y,ty,pos,af,g⟩ (.d (.i .u8 (b.toNat:Int))):=
 fun A fr' L' he _=>jA7 TS.h h0 hu (by rw [he x (by simp [Op.operands])];exact hx) (by rw [he y (by simp [Op.operands])];exact hy)
theorem gGj [TS P T]{l:LB}{b:UInt8}{kd:IntKind}(k:Nat)(hu:l[k]? =some b)(hx:σ.ev x=.d (.s l):=by rfl)(hy:σ.ev y=.d (.i kd (k:Int)):=by rfl) :
  QR P σ ⟨dst,.index T x y,ty,pos,af,g⟩ (.d (.i .u8 (b.toNat:Int))):=gJn (Int.natCast_nonneg k) hu hx hy
theorem pU{b:BinOp}{T':TypeId}{k:IntKind}{m n r:Int}(h:arI b k m n=some r:=by rfl)(hx:σ.ev x=.d (.i k m):=by rfl)(hy:σ.ev y=.d (.i k n):=by rfl):QR P σ ⟨dst,.binOp b T x y T',ty,pos,af,g⟩ (.d (.i k r)):=
 fun A fr' L' he _=>jBc (by rw [he x (by simp [Op.operands])];exact hx) (by rw [he y (by simp [Op.operands])];exact hy) h
theorem jW{T':TypeId}(k:Nat)(hk:k < 9223372036854775807)(hx:σ.ev x=.d (.i .i64 (k:Int)):=by rfl)(hy:σ.ev y=.d (.i .i64 1):=by rfl):QR P σ ⟨dst,.binOp .add T x y T',ty,pos,af,g⟩ (.d (.i .i64 ((k+1:Nat):Int))):=
 fun A fr' L' he _=>by
  have:=hV4 (P:=P) (A:=A) (dst:=dst) (ty:=ty) (pos:=pos) (af:=af) (g:=g) (T:=T) (T':=T') (σ:=⟨fr',L',σ.N⟩) (m:=(k:Int)) (n:=1) (by rw [he x (by simp [Op.operands])];exact hx) (by rw [he y (by simp [Op.operands])];exact hy) (by omega) (by omega)
  simpa using this
theorem gV8{f:Nat}{cs:Array Operand}{svs:List SV}(h:NfL σ cs.toList svs:=by repeat constructor):QR P σ ⟨dst,.makeFunc (.func f) #[] cs,ty,pos,af,g⟩ (.fn f svs):=
 fun A fr' L' he _=>hVx (by
  have key:∀(l:List Operand)(svs:List SV),(∀x∈l,St.ev ⟨fr',L',σ.N⟩ x=σ.ev x)→NfL σ l svs→NfL ⟨fr',L',σ.N⟩ l svs:=by
   intro l svs hl h
   induction h with
   | nil=>exact .nil
   | cons h1 h2 ih=>exact .cons (by rw [hl _ (by simp)];exact h1) (ih fun x hx=>hl x (by simp [hx]))
  exact key _ _ (fun x hx=>he x (by simpa [Op.operands] using hx)) h)
theorem gF {f:Operand}{fi:Nat}{caps:List SV}{args:Array Operand}{at_:Array TypeId}{dargs:List SV}{us:List U}
  (hspec:gY P fi dargs us) (hf:σ.ev f=.fn fi caps:=by rfl) (hargs:∀L',VAs L' (args.toList.map σ.ev++caps) dargs:=by(intro L';(repeat(first | exact trivial | exact rfl | exact⟨_,rfl⟩ | exact(‹∀n,SV.lts n _=true› _) | refine And.intro ?_ ?_));first | done | fail)) :
  QR P σ ⟨dst,.call { callee:=.value f,args:=args,argTypes:=at_ },ty,pos,af,g⟩ (mkR us):=
 fun A fr' L' he _=>hIv (by rw [he f (by simp [Op.operands,Call.operands])];exact hf) hspec (by
  have:args.toList.map (St.ev ⟨fr',L',σ.N⟩)=args.toList.map σ.ev:=List.map_congr_left fun x hx=>he x (by simp only [Op.operands,Call.operands];simp;exact .inr (by simpa using hx))
  rw [this]
  exact hargs L')
theorem hJi {f:Operand}{fi:Nat}{caps:List SV}{args:Array Operand}{at_:Array TypeId}{dargs:List SV}{us:List U}
  (hspec:gY P fi dargs us) (hf:σ.ev f=.fn fi caps:=by rfl) (hargs:VAs σ.L (args.toList.map σ.ev++caps) dargs:=by((repeat(first | exact trivial | exact rfl | exact⟨_,rfl⟩ | exact(‹∀n,SV.lts n _=true› _) | refine And.intro ?_ ?_));first | done | fail)) :
  Quiet P A σ ⟨dst,.call { callee:=.value f,args:=args,argTypes:=at_ },ty,pos,af,g⟩ (mkR us):=hIv hf hspec hargs
theorem gV9 {f:Operand}{fi:Nat}{args:Array Operand}{at_:Array TypeId}{dargs:List SV}{u:U}
  (hspec:gY P fi dargs [u]) (hu:u.scal=true:=by rfl) (hf:σ.ev f=.fn fi []:=by rfl) (hargs:WCs σ.L (args.toList.map σ.ev) dargs:=by((repeat(first | exact trivial | exact rfl | exact⟨_,rfl⟩ | refine And.intro ?_ ?_));first | done | fail)) :
  Quiet P A σ ⟨dst,.call { callee:=.value f,args:=args,argTypes:=at_ },ty,pos,af,g⟩ (.d u):=hI7 hf hspec hu hargs
theorem uD{c:Bool}(tj:Nat)(ht:c=true→VO P A ops rest ⟨(tj,.d (.b true))::fr,L,N⟩ K)(hf:c=false→VO P A ops rest ⟨(tj,.d (.b false))::fr,L,N⟩ K)(hb:look fr tj=.d (.b c):=by rfl):VO P A ops rest ⟨fr,L,N⟩ K:=by
 intro R hR a w hr;have key:∀c',c=c'→kZ A ⟨(tj,.d (.b c'))::fr,L,N⟩ a w:=by
  intro c' hc;obtain⟨S,env,hH,hfr,hN,hd⟩:=hr;refine⟨S,env,hH,fun t=>?_,hN,hd⟩;simp only [look];by_cases h:t=tj
  ·subst h;rw [if_pos rfl,←hc,←hb];exact hfr t
  ·rw [if_neg h];exact hfr t
 cases hc:c with
 | true=>exact ht hc R hR a w (key true hc)
 | false=>exact hf hc R hR a w (key false hc)
theorem hYg{c:Operand}{x y:Code}(h:V P A x σ Q)(hc:σ.ev c=.d (.b true):=by rfl):V P A (.cond c x y) σ Q:=hJt hc (fun _=>h) (fun h=>by cases h)
theorem jA8{c:Operand}{x y:Code}(h:V P A y σ Q)(hc:σ.ev c=.d (.b false):=by rfl):V P A (.cond c x y) σ Q:=hJt hc (fun h=>by cases h) (fun _=>h)
theorem kX{c:Operand}{x y:Code}{t:Bool}(ht:t=true→V P A x σ Q)(hf:t=false→V P A y σ Q)(hc:σ.ev c=.d (.b t):=by rfl):V P A (.cond c x y) σ Q:=hJt hc ht hf
end
def jEp(n:Int):U:=.i .i64 n
def jEq(s:LB):U:=.s s
def gJo:List Int→List U
 | []=>[]
 | a::l=>.i .i64 a::gJo l
def jL:LS→List U
 | []=>[]
 | a::l=>.s a::jL l
class Enc (α:Type) (e:outParam (α→U)) (es:outParam (List α→List U)) (z:outParam Nat):Prop where
 h:∀l,es l=l.map e
 hz:∀x,(e x).sz=z
theorem Enc.get{α:Type}{e:α→U}{es:List α→List U}{z:Nat}[E:Enc α e es z]{l:List α}{k:Nat}{x:α}(h:l[k]? =some x):(es l)[k]? =some (e x):=by rw [E.h,List.getElem?_map,h];rfl
theorem Enc.len{α:Type}{e:α→U}{es:List α→List U}{z:Nat}[E:Enc α e es z](l:List α):(es l).length=l.length:=by rw [E.h,List.length_map]
theorem Enc.app{α:Type}{e:α→U}{es:List α→List U}{z:Nat}[E:Enc α e es z](l r:List α):es (l++r)=es l++es r:=by simp only [E.h,List.map_append]
theorem Enc.set{α:Type}{e:α→U}{es:List α→List U}{z:Nat}[E:Enc α e es z](l:List α)(k:Nat)(x:α):es (l.set k x)=(es l).set k (e x):=by simp only [E.h,List.map_set]
theorem Enc.rep{α:Type}{e:α→U}{es:List α→List U}{z:Nat}[E:Enc α e es z](n:Nat)(x:α):es (List.replicate n x)=List.replicate n (e x):=by simp only [E.h,List.map_replicate]
theorem Enc.all{α:Type}{e:α→U}{es:List α→List U}{z:Nat}[E:Enc α e es z](l:List α):∀u∈es l,u.sz=z:=by
 rw [E.h];intro u hu;obtain⟨x,_,rfl⟩:=List.mem_map.1 hu;exact E.hz x
instance:Enc Int jEp gJo 1:=⟨fun l=>by induction l with | nil=>rfl | cons a l ih=>simp [gJo,ih,jEp],fun _=>rfl⟩
instance:Enc LB jEq jL 1:=⟨fun l=>by induction l with | nil=>rfl | cons a l ih=>simp [jL,ih,jEq],fun _=>rfl⟩
theorem jEr{l:List Int}{k:Nat}{x:Int}(h:l[k]? =some x):(gJo l)[k]? =some (.i .i64 x):=Enc.get h
theorem gQr{l:LS}{k:Nat}{x:LB}(h:l[k]? =some x):(jL l)[k]? =some (.s x):=Enc.get h
theorem gPu(l:LS):U.noSls (jL l)=true:=by induction l with | nil=>rfl | cons a l ih=>simp [jL,U.noSls,U.noSl,ih]
theorem gPv(l:List Int):U.noSls (gJo l)=true:=by induction l with | nil=>rfl | cons a l ih=>simp [gJo,U.noSls,U.noSl,ih]
structure gD where
 atom:LB
 list:List gD
mutual
def pJ:gD→U
 | ⟨f0,f1⟩=>.st [.s f0,.sl 2 (gX f1)]
def gX:List gD→List U
 | []=>[]
 | a::l=>pJ a::gX l
end
theorem hJj(x:gD):(pJ x).sz=2:=by cases x;simp [pJ,U.sz,U.szs]
instance:Enc gD pJ gX 2:=⟨fun l=>by induction l with | nil=>rfl | cons a l ih=>simp [gX,ih],hJj⟩
theorem uK{l:List gD}{k:Nat}{x:gD}(h:l[k]? =some x):(gX l)[k]? =some (pJ x):=Enc.get h
structure gB where
 kind:Int
 name:LB
 args:List gB
mutual
def jS:gB→U
 | ⟨f0,f1,f2⟩=>.st [.i .i64 f0,.s f1,.sl 3 (jH f2)]
def jH:List gB→List U
 | []=>[]
 | a::l=>jS a::jH l
end
theorem gGy(x:gB):(jS x).sz=3:=by cases x;simp [jS,U.sz,U.szs]
instance:Enc gB jS jH 3:=⟨fun l=>by induction l with | nil=>rfl | cons a l ih=>simp [jH,ih],gGy⟩
theorem zJ{l:List gB}{k:Nat}{x:gB}(h:l[k]? =some x):(jH l)[k]? =some (jS x):=Enc.get h
structure gG where
 var_:LB
 type_:gB
mutual
def gIo:gG→U
 | ⟨f0,f1⟩=>.st [.s f0,jS f1]
def gP:List gG→List U
 | []=>[]
 | a::l=>gIo a::gP l
end
theorem hAf(x:gG):(gIo x).sz=4:=by cases x;simp [gIo,U.sz,U.szs,gGy]
instance:Enc gG gIo gP 4:=⟨fun l=>by induction l with | nil=>rfl | cons a l ih=>simp [gP,ih],hAf⟩
theorem gMi{l:List gG}{k:Nat}{x:gG}(h:l[k]? =some x):(gP l)[k]? =some (gIo x):=Enc.get h
mutual
structure gO7 where
 constructor:LB
 vars:LS
 body:kI
structure kI where
 kind:Int
 trait:LB
 name:LB
 n:Int
 type_:gB
 args:List kI
 arms:List gO7
end
mutual
def hTi:gO7→U
 | ⟨f0,f1,f2⟩=>.st [.s f0,.sl 1 (jL f1),gCy f2]
def gK1:List gO7→List U
 | []=>[]
 | a::l=>hTi a::gK1 l
def gCy:kI→U
 | ⟨f0,f1,f2,f3,f4,f5,f6⟩=>.st [.i .i64 f0,.s f1,.s f2,.i .i64 f3,jS f4,.sl 9 (gCa f5),.sl 11 (gK1 f6)]
def gCa:List kI→List U
 | []=>[]
 | a::l=>gCy a::gCa l
end
theorem gOh(x:kI):(gCy x).sz=9:=by cases x;simp [gCy,U.sz,U.szs,gGy]
instance:Enc kI gCy gCa 9:=⟨fun l=>by induction l with | nil=>rfl | cons a l ih=>simp [gCa,ih],gOh⟩
theorem hAg{l:List kI}{k:Nat}{x:kI}(h:l[k]? =some x):(gCa l)[k]? =some (gCy x):=Enc.get h
theorem hTk(x:gO7):(hTi x).sz=11:=by cases x;simp [hTi,U.sz,U.szs,gOh]
instance:Enc gO7 hTi gK1 11:=⟨fun l=>by induction l with | nil=>rfl | cons a l ih=>simp [gK1,ih],hTk⟩
theorem hJk{l:List gO7}{k:Nat}{x:gO7}(h:l[k]? =some x):(gK1 l)[k]? =some (hTi x):=Enc.get h
structure qL where
 name:LB
 params:List gB
 result:gB
 hasDefault:Bool
 vars:LS
 body:kI
mutual
def gG7:qL→U
 | ⟨f0,f1,f2,f3,f4,f5⟩=>.st [.s f0,.sl 3 (jH f1),jS f2,.b f3,.sl 1 (jL f4),gCy f5]
def gCb:List qL→List U
 | []=>[]
 | a::l=>gG7 a::gCb l
end
theorem gWa(x:qL):(gG7 x).sz=16:=by cases x;simp [gG7,U.sz,U.szs,gOh,gGy]
instance:Enc qL gG7 gCb 16:=⟨fun l=>by induction l with | nil=>rfl | cons a l ih=>simp [gCb,ih],gWa⟩
theorem gPw{l:List qL}{k:Nat}{x:qL}(h:l[k]? =some x):(gCb l)[k]? =some (gG7 x):=Enc.get h
structure uG where
 name:LB
 supertraits:LS
 auto:Bool
 assoc:Bool
 signatures:List qL
mutual
def gM2:uG→U
 | ⟨f0,f1,f2,f3,f4⟩=>.st [.s f0,.sl 1 (jL f1),.b f2,.b f3,.sl 16 (gCb f4)]
def gE2:List uG→List U
 | []=>[]
 | a::l=>gM2 a::gE2 l
end
theorem hJl(x:uG):(gM2 x).sz=5:=by cases x;simp [gM2,U.sz,U.szs]
instance:Enc uG gM2 gE2 5:=⟨fun l=>by induction l with | nil=>rfl | cons a l ih=>simp [gE2,ih],hJl⟩
theorem gX6{l:List uG}{k:Nat}{x:uG}(h:l[k]? =some x):(gE2 l)[k]? =some (gM2 x):=Enc.get h
structure pV where
 name:LB
 fields:List gB
mutual
def gFt:pV→U
 | ⟨f0,f1⟩=>.st [.s f0,.sl 3 (jH f1)]
def wN:List pV→List U
 | []=>[]
 | a::l=>gFt a::wN l
end
theorem gSu(x:pV):(gFt x).sz=2:=by cases x;simp [gFt,U.sz,U.szs]
instance:Enc pV gFt wN 2:=⟨fun l=>by induction l with | nil=>rfl | cons a l ih=>simp [wN,ih],gSu⟩
theorem gDu{l:List pV}{k:Nat}{x:pV}(h:l[k]? =some x):(wN l)[k]? =some (gFt x):=Enc.get h
structure mP where
 name:LB
 vars:LS
 constructors:List pV
mutual
def gFu:mP→U
 | ⟨f0,f1,f2⟩=>.st [.s f0,.sl 1 (jL f1),.sl 2 (wN f2)]
def yV:List mP→List U
 | []=>[]
 | a::l=>gFu a::yV l
end
theorem gX7(x:mP):(gFu x).sz=3:=by cases x;simp [gFu,U.sz,U.szs]
instance:Enc mP gFu yV 3:=⟨fun l=>by induction l with | nil=>rfl | cons a l ih=>simp [yV,ih],gX7⟩
theorem gOi{l:List mP}{k:Nat}{x:mP}(h:l[k]? =some x):(yV l)[k]? =some (gFu x):=Enc.get h
structure gW where
 trait:LB
 type_:gB
mutual
def zW:gW→U
 | ⟨f0,f1⟩=>.st [.s f0,jS f1]
def kY:List gW→List U
 | []=>[]
 | a::l=>zW a::kY l
end
theorem gSv(x:gW):(zW x).sz=4:=by cases x;simp [zW,U.sz,U.szs,gGy]
instance:Enc gW zW kY 4:=⟨fun l=>by induction l with | nil=>rfl | cons a l ih=>simp [kY,ih],gSv⟩
theorem gHt{l:List gW}{k:Nat}{x:gW}(h:l[k]? =some x):(kY l)[k]? =some (zW x):=Enc.get h
structure gC0 where
 name:LB
 vars:LS
 body:kI
mutual
def gSw:gC0→U
 | ⟨f0,f1,f2⟩=>.st [.s f0,.sl 1 (jL f1),gCy f2]
def gGz:List gC0→List U
 | []=>[]
 | a::l=>gSw a::gGz l
end
theorem hFr(x:gC0):(gSw x).sz=11:=by cases x;simp [gSw,U.sz,U.szs,gOh]
instance:Enc gC0 gSw gGz 11:=⟨fun l=>by induction l with | nil=>rfl | cons a l ih=>simp [gGz,ih],hFr⟩
theorem hJm{l:List gC0}{k:Nat}{x:gC0}(h:l[k]? =some x):(gGz l)[k]? =some (gSw x):=Enc.get h
structure kG where
 trait:LB
 vars:LS
 head:gB
 where_:List gW
 default_:Bool
 hasAssoc:Bool
 assoc:gB
 methods:List gC0
mutual
def gCc:kG→U
 | ⟨f0,f1,f2,f3,f4,f5,f6,f7⟩=>.st [.s f0,.sl 1 (jL f1),jS f2,.sl 4 (kY f3),.b f4,.b f5,jS f6,.sl 11 (gGz f7)]
def yX:List kG→List U
 | []=>[]
 | a::l=>gCc a::yX l
end
theorem gX8(x:kG):(gCc x).sz=12:=by cases x;simp [gCc,U.sz,U.szs,gGy]
instance:Enc kG gCc yX 12:=⟨fun l=>by induction l with | nil=>rfl | cons a l ih=>simp [yX,ih],gX8⟩
theorem gHu{l:List kG}{k:Nat}{x:kG}(h:l[k]? =some x):(yX l)[k]? =some (gCc x):=Enc.get h
structure gHv where
 name:LB
 type_:gB
mutual
def gX9:gHv→U
 | ⟨f0,f1⟩=>.st [.s f0,jS f1]
def gHw:List gHv→List U
 | []=>[]
 | a::l=>gX9 a::gHw l
end
theorem hJn(x:gHv):(gX9 x).sz=4:=by cases x;simp [gX9,U.sz,U.szs,gGy]
instance:Enc gHv gX9 gHw 4:=⟨fun l=>by induction l with | nil=>rfl | cons a l ih=>simp [gHw,ih],hJn⟩
theorem hC8{l:List gHv}{k:Nat}{x:gHv}(h:l[k]? =some x):(gHw l)[k]? =some (gX9 x):=Enc.get h
structure mK where
 name:LB
 vars:LS
 where_:List gW
 params:List gHv
 result:gB
 body:kI
mutual
def gFv:mK→U
 | ⟨f0,f1,f2,f3,f4,f5⟩=>.st [.s f0,.sl 1 (jL f1),.sl 4 (kY f2),.sl 4 (gHw f3),jS f4,gCy f5]
def yY:List mK→List U
 | []=>[]
 | a::l=>gFv a::yY l
end
theorem gYa(x:mK):(gFv x).sz=16:=by cases x;simp [gFv,U.sz,U.szs,gOh,gGy]
instance:Enc mK gFv yY 16:=⟨fun l=>by induction l with | nil=>rfl | cons a l ih=>simp [yY,ih],gYa⟩
theorem gYb{l:List mK}{k:Nat}{x:mK}(h:l[k]? =some x):(yY l)[k]? =some (gFv x):=Enc.get h
structure kH where
 name:LB
 deps:LS
 traits:List uG
 dataTypes:List mP
 instances:List kG
 functions:List mK
mutual
def gFe:kH→U
 | ⟨f0,f1,f2,f3,f4,f5⟩=>.st [.s f0,.sl 1 (jL f1),.sl 5 (gE2 f2),.sl 3 (yV f3),.sl 12 (yX f4),.sl 16 (yY f5)]
def jQ:List kH→List U
 | []=>[]
 | a::l=>gFe a::jQ l
end
theorem hAh(x:kH):(gFe x).sz=6:=by cases x;simp [gFe,U.sz,U.szs]
instance:Enc kH gFe jQ 6:=⟨fun l=>by induction l with | nil=>rfl | cons a l ih=>simp [jQ,ih],hAh⟩
theorem gBt{l:List kH}{k:Nat}{x:kH}(h:l[k]? =some x):(jQ l)[k]? =some (gFe x):=Enc.get h
structure gK where
 packages:List kH
mutual
def kT:gK→U
 | ⟨f0⟩=>.st [.sl 6 (jQ f0)]
def hJo:List gK→List U
 | []=>[]
 | a::l=>kT a::hJo l
end
structure gH where
 package:Int
 at_:Int
mutual
def qI:gH→U
 | ⟨f0,f1⟩=>.st [.i .i64 f0,.i .i64 f1]
def kK:List gH→List U
 | []=>[]
 | a::l=>qI a::kK l
end
theorem gLn(x:gH):(qI x).sz=2:=by cases x;simp [qI,U.sz,U.szs]
instance:Enc gH qI kK 2:=⟨fun l=>by induction l with | nil=>rfl | cons a l ih=>simp [kK,ih],gLn⟩
theorem wX{l:List gH}{k:Nat}{x:gH}(h:l[k]? =some x):(kK l)[k]? =some (qI x):=Enc.get h
structure gQ where
 goal:gW
 from_:Int
 steps:List Int
mutual
def gDk:gQ→U
 | ⟨f0,f1,f2⟩=>.st [zW f0,.i .i64 f1,.sl 1 (gJo f2)]
def gV:List gQ→List U
 | []=>[]
 | a::l=>gDk a::gV l
end
theorem gT3(x:gQ):(gDk x).sz=6:=by cases x;simp [gDk,U.sz,U.szs,gSv]
instance:Enc gQ gDk gV 6:=⟨fun l=>by induction l with | nil=>rfl | cons a l ih=>simp [gV,ih],gT3⟩
theorem gHx{l:List gQ}{k:Nat}{x:gQ}(h:l[k]? =some x):(gV l)[k]? =some (gDk x):=Enc.get h
structure gN where
 kind:Int
 n:Int
 at_:gH
 args:List gN
mutual
def qB:gN→U
 | ⟨f0,f1,f2,f3⟩=>.st [.i .i64 f0,.i .i64 f1,qI f2,.sl 5 (kN f3)]
def kN:List gN→List U
 | []=>[]
 | a::l=>qB a::kN l
end
theorem gYc(x:gN):(qB x).sz=5:=by cases x;simp [qB,U.sz,U.szs,gLn]
instance:Enc gN qB kN 5:=⟨fun l=>by induction l with | nil=>rfl | cons a l ih=>simp [kN,ih],gYc⟩
theorem gYd{l:List gN}{k:Nat}{x:gN}(h:l[k]? =some x):(kN l)[k]? =some (qB x):=Enc.get h
structure jN where
 a:gB
 b:gB
 node:Int
mutual
def gLo:jN→U
 | ⟨f0,f1,f2⟩=>.st [jS f0,jS f1,.i .i64 f2]
def jM:List jN→List U
 | []=>[]
 | a::l=>gLo a::jM l
end
theorem gYe(x:jN):(gLo x).sz=7:=by cases x;simp [gLo,U.sz,U.szs,gGy]
instance:Enc jN gLo jM 7:=⟨fun l=>by induction l with | nil=>rfl | cons a l ih=>simp [jM,ih],gYe⟩
theorem gOj{l:List jN}{k:Nat}{x:jN}(h:l[k]? =some x):(jM l)[k]? =some (gLo x):=Enc.get h
structure jP where
 goal:gW
 node:Int
mutual
def gHy:jP→U
 | ⟨f0,f1⟩=>.st [zW f0,.i .i64 f1]
def jD:List jP→List U
 | []=>[]
 | a::l=>gHy a::jD l
end
theorem gT4(x:jP):(gHy x).sz=5:=by cases x;simp [gHy,U.sz,U.szs,gSv]
instance:Enc jP gHy jD 5:=⟨fun l=>by induction l with | nil=>rfl | cons a l ih=>simp [jD,ih],gT4⟩
theorem gNh{l:List jP}{k:Nat}{x:jP}(h:l[k]? =some x):(jD l)[k]? =some (gHy x):=Enc.get h
structure gJ where
 next:Int
 count:Int
 node:Int
 bindings:List gG
 equations:List jN
 obligations:List jP
 code:Int
 at_:Int
mutual
def mJ:gJ→U
 | ⟨f0,f1,f2,f3,f4,f5,f6,f7⟩=>.st [.i .i64 f0,.i .i64 f1,.i .i64 f2,.sl 4 (gP f3),.sl 7 (jM f4),.sl 5 (jD f5),.i .i64 f6,.i .i64 f7]
def gYf:List gJ→List U
 | []=>[]
 | a::l=>mJ a::gYf l
end
end Go.Eng
