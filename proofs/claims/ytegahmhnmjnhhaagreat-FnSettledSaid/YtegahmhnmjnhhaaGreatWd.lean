import Derived.Test.YtegahmhnmjnhhaaGreatEq
set_option maxHeartbeats 4000000
set_option linter.unusedVariables false
set_option linter.unusedSimpArgs false
set_option linter.unusedSectionVars false
namespace Go.Proofs.YtegahmhnmjnhhaaGreat
open Go Go.Eng
attribute [local irreducible] V VO VQ VY Quiet QR jC kT Rng mU mV mI
attribute [local irreducible] KQ
theorem gWv{V:List (List UInt8)}{t:gB}(h:(t.kind==1 && isInf t.name)=true)(hD:DT V t):t.name∈tvs t∧t.name∈V∧isInf t.name=true:=by
 obtain⟨k,n,ts⟩:=t;simp only [Bool.and_eq_true,beq_iff_eq] at h;have c:n∈tvs ⟨k,n,ts⟩:=by simp [tvs,h.1]
 exact⟨c,hD.1.2.2 n c,h.2⟩
theorem hVs{V:List (List UInt8)}{t:gB}(h:DT V t):t.args.length≤2:=by obtain⟨k,n,ts⟩:=t;exact h.1.2.1.1.2.1
theorem hX5(l:List gG)(t:gB):low l 0 t:=fun v _ hd=>by simp [dom] at hd
theorem gWw(t:gB):pjs t.args≤pj t:=by obtain⟨k,n,ts⟩:=t;simp only [pj];omega
theorem hDr{l:List gG}{t:gB}(h:zbd l t=false):∀u∈t.args,zbd l u=false:=by
 intro u hu;cases hz:zbd l u with
 | false=>rfl
 | true=>
   obtain⟨v,c,f⟩:=(gGj u).1 hz
   have:zbd l t=true:=(gGj t).2 ⟨v,by obtain⟨k,n,ts⟩:=t;simp only [tvs,List.mem_append];exact .inr (gOk.2 ⟨u,hu,c⟩),f⟩
   rw [h] at this;cases this
theorem gQ8{t:gB}{u:gB}(h:u∈t.args):tnd u≤tnd t:=by
 obtain⟨k,n,ts⟩:=t
 have:tnd u≤gA6 ts:=zC h
 simp only [tnd];omega
set_option maxRecDepth 100000 in
theorem hKm{w:gI}{k:Int}(hw:gOw w k){wh:List gY}(hwh:gNl wh)(hwl:wh.length≤1000){V:List (List UInt8)}(hV:V.length≤5):∀(d n:Nat),d < n→d≤40→Down V (d+1) (fun s a b=>pG n w wh s a b (d:Int)):=by
 intro d
 induction d with
 | zero=>
   intro n hn _ s a b hi ha hb hta htb heq;obtain⟨n,rfl⟩:∃m,n=m+1:=⟨n - 1,by omega⟩
   simp only [pG];unfold gDi;cases s.code != 0 with
   | true=>exact⟨_,rfl,hi,.same rfl rfl⟩
   | false=>
     rw [gK,mK ⟨hi.bok,ha.1.1⟩];simp only [lt_];rw [mK ⟨hi.bok,hb.1.1⟩];cases teq (zkF s a) (zkF s b)with
     | true=>exact⟨_,rfl,hi,.same rfl rfl⟩
     | false=>
       simp only [gK];rw [show decide (((0:Nat):Int)≤0)=true from by decide];simp only [gZ];exact⟨_,rfl,hi.fail 6,.same (wE s 6).1 (wE s 6).2⟩
 | succ d ih=>
   intro n hn hd s a b hi ha hb hta htb heq;obtain⟨n,rfl⟩:∃m,n=m+1:=⟨n - 1,by omega⟩
   have hl:=hi.len;have hdown:Down V (d+1) (fun s a b=>pG n w wh s a b (IntKind.i64.wrap (((d+1:Nat):Int) - 1))):=by
    rw [show IntKind.i64.wrap (((d+1:Nat):Int) - 1)=(d:Int)from by rw [qR _ (by omega) (by omega)];omega];exact ih n (by omega) (by omega)
   have hx:=hGo (fun c hc=>(hi.dt c hc).1) 60 a ha;have hy:=hGo (fun c hc=>(hi.dt c hc).1) 60 b hb;have tx:=gXe hi.hDp 60 a hta;have ty:=gXe hi.hDp 60 b htb;have dx:=gRt hi.tri 60 0 a (hX5 _ _) (by omega);have dy:=gRt hi.tri 60 0 b (hX5 _ _) (by omega);simp only [pG];unfold gDi;unfold zkF;generalize zk s.bindings 60 a=x at *;generalize zk s.bindings 60 b=y at *;cases s.code != 0 with
   | true=>exact⟨_,rfl,hi,.same rfl rfl⟩
   | false=>
     rw [gK,mK ⟨hi.bok,ha.1.1⟩];simp only [lt_];rw [mK ⟨hi.bok,hb.1.1⟩];cases teq x y with
     | true=>exact⟨_,rfl,hi,.same rfl rfl⟩
     | false=>
       simp only [gK];rw [show decide (((d+1:Nat):Int)≤0)=false from decide_eq_false (by omega),gK,yX x (by omega),yX y (by omega),qR _ (by omega) (by omega)];cases hsz:decide (((tnd x:Int)+(tnd y:Int)) > 2000)with
       | true=>exact⟨_,rfl,hi.fail 6,.same (wE s 6).1 (wE s 6).2⟩
       | false=>
         have hsz:=of_decide_eq_false hsz;have zx:zbd s.bindings x=false:=by
          rcases dx with h | h
          ·exact h
          ·rw [yX x (by omega)] at h;omega
         have zy:zbd s.bindings y=false:=by
          rcases dy with h | h
          ·exact h
          ·rw [yX y (by omega)] at h;omega
         have ox:=gVo hi.inf zx;have oy:=gVo hi.inf zy;rw [gK,gG1 x];simp only [bnd];cases mx:(x.kind==1 && isInf x.name)with
         | true=>
           obtain⟨m1,m2,m3⟩:=gWv mx hx;obtain⟨s',q1,q2,f⟩:=bind_ok (d:=d+1+1) (p:=pj x+pj y) hi hV (ox _ m1) m2 m3 oy hy (by omega);rw [gZ,q1];exact⟨s',rfl,q2,f⟩
         | false=>
           rw [gK,gG1 y];simp only;cases my:(y.kind==1 && isInf y.name)with
           | true=>
             obtain⟨m1,m2,m3⟩:=gWv my hy;obtain⟨s',q1,q2,f⟩:=bind_ok (d:=d+1+1) (p:=pj x+pj y) hi hV (oy _ m1) m2 m3 ox hx (by omega);rw [gZ,q1];exact⟨s',rfl,q2,f⟩
           | false=>
             have heq2:s.equations.length+KQ*(d+1)*(6 - s.bindings.length)≤4294967295:=by
              have:KQ*(d+1)*(6 - s.bindings.length)≤KQ*(d+1+1)*(6 - s.bindings.length):=Nat.mul_le_mul_right _ (Nat.mul_le_mul_left _ (by omega))
              omega
             obtain⟨r,r1,r2⟩:=gUj hw hwh hwl hx (by omega);rw [gK,r1];simp only;cases (!r.2.2)with
             | true=>exact⟨_,rfl,hi.fail 7,.same (wE s 7).1 (wE s 7).2⟩
             | false=>
               rw [gK];cases hr:r.2.1 with
               | true=>
                 obtain⟨u1,u2,u3⟩:=r2 hr;obtain⟨s',q1,q2,f⟩:=hdown s r.1 y hi u1 hy (by omega) (by omega) heq2;unfold zkF at f;rw [gM6 60 (.inl (hAd u3)),gM6 60 (.inl zy),hRm _ u3] at f;have q1:pG n w wh s r.1 y (IntKind.i64.wrap (((d+1:Nat):Int) - 1))=some s':=q1;rw [gZ,q1];exact⟨s',rfl,q2,f.up (by omega) (by omega)⟩
               | false=>
                 rw [gK];obtain⟨p,p1,p2⟩:=gUj hw hwh hwl hy (by omega);rw [p1];simp only;cases (!p.2.2)with
                 | true=>exact⟨_,rfl,hi.fail 7,.same (wE s 7).1 (wE s 7).2⟩
                 | false=>
                   rw [gK];cases hp:p.2.1 with
                   | true=>
                     obtain⟨u1,u2,u3⟩:=p2 hp;obtain⟨s',q1,q2,f⟩:=hdown s x p.1 hi hx u1 (by omega) (by omega) heq2;unfold zkF at f;rw [gM6 60 (.inl (hAd u3)),gM6 60 (.inl zx),hRm _ u3] at f;have q1:pG n w wh s x p.1 (IntKind.i64.wrap (((d+1:Nat):Int) - 1))=some s':=q1;rw [gZ,q1];exact⟨s',rfl,q2,f.up (by omega) (by omega)⟩
                   | false=>
                     rw [gK];have hpx:=hRi x;have hpy:=hRi y;cases hdef:cnd (x.kind==3) (cnd (gJp x) true (cnd (y.kind==3) (gJp y) false)) (cnd (y.kind==3) (gJp y) false)with
                     | true=>
                       have hone:1≤pj x+pj y:=by
                        have hyc:cnd (y.kind==3) (gJp y) false=true→1≤pj y:=fun h=>by
                         cases h3:(y.kind==3)with
                         | false=>rw [h3] at h;cases h
                         | true=>rw [h3] at h;exact hJb (by simpa using h3) h
                        cases h3:(x.kind==3)with
                        | false=>rw [h3,gK] at hdef;have:=hyc hdef;omega
                        | true=>
                          rw [h3,gZ] at hdef;cases h4:gJp x with
                          | true=>have:=hJb (by simpa using h3) h4;omega
                          | false=>rw [h4,gK] at hdef;have:=hyc hdef;omega
                       rw [gZ];have hk1:KQ*(d+1+1)*1≤KQ*(d+1+1)*(6 - s.bindings.length):=Nat.mul_le_mul_left _ (by omega);have hk2:KQ*1≤KQ*(d+1+1):=Nat.mul_le_mul_left _ (by omega);have hk3:=hNi;rw [mK (by simp only [List.length_nil];omega),mK (by simp only [List.nil_append,List.length_cons,List.length_nil];omega)];refine⟨_,rfl,⟨hi.tri,hi.inf,hi.dt,hi.obl,fun q hq=>?_⟩,⟨⟨[],by simp⟩,by simp only [List.nil_append,List.length_append,List.length_cons,List.length_nil];omega,fun _=>by simp only [List.nil_append,List.length_append,List.length_cons,List.length_nil];omega⟩⟩;simp only [List.nil_append,List.mem_append,List.mem_singleton] at hq;rcases hq with hq | rfl
                       ·exact hi.eqs q hq
                       ·exact⟨⟨hx,by show tnd x≤2000;omega⟩,hy,by show tnd y≤2000;omega⟩
                     | false=>
                       rw [gK];cases hmm:cnd (x.kind != y.kind) true (cnd (!(x.name==y.name)) true (cnd ((x.args.length:Int) !=(y.args.length:Int)) true (x.kind==3)))with
                       | true=>exact⟨_,rfl,hi.fail 1,.same (wE s 1).1 (wE s 1).2⟩
                       | false=>
                         have hlen:y.args.length=x.args.length:=by
                          cases h1:(x.kind != y.kind)with
                          | true=>rw [h1] at hmm;cases hmm
                          | false=>
                            rw [h1,gK] at hmm;cases h2:(!(x.name==y.name))with
                            | true=>rw [h2] at hmm;cases hmm
                            | false=>
                              rw [h2,gK] at hmm;cases h3:((x.args.length:Int) !=(y.args.length:Int))with
                              | true=>rw [h3] at hmm;cases hmm
                              | false=>
                                have:(x.args.length:Int)=(y.args.length:Int):=by simpa using h3
                                omega
                         rw [gK];have hxa:=gMl x.args;have hxt:gA6 x.args+1=tnd x:=by obtain⟨e1,e2,e3⟩:=x;simp only [tnd];omega
                         have hj:0+x.args.length≤2:=by have:=hVs hx;omega
                         obtain⟨s',q1,q2,f,q4,q5⟩:=hPk hV hd hdown s y heq x.args y.args 0 s 0 rfl hlen hi ⟨[],by simp⟩ (by omega) (fun _=>by omega)
                          (fun u hu=>⟨gHy hx u hu,by have:=gQ8 hu;omega,hDr zx u hu⟩) (fun u hu=>⟨gHy hy u hu,by have:=gQ8 hu;omega,hDr zy u hu⟩) hj
                         rw [q1];refine⟨s',rfl,q2,⟨f,?_,fun hz=>?_⟩⟩
                         ·have hpa:=gWw x;have hpb:=gWw y;have hk3:=hNi;have e1:KQ*(d+1+1)*(s'.bindings.length - s.bindings.length)=KQ*(d+1)*(s'.bindings.length - s.bindings.length)+KQ*(s'.bindings.length - s.bindings.length):=by rw [Nat.mul_add KQ (d+1) 1,Nat.add_mul,Nat.mul_one]
                          rcases Nat.eq_zero_or_pos (s'.bindings.length - s.bindings.length)with h0 | h0
                          ·obtain⟨l3,f⟩:=f;have h3:s.bindings.length≤s'.bindings.length:=by rw [f];simp
                           have:=q5 (by omega)
                           omega
                          ·have e2:KQ*1≤KQ*(s'.bindings.length - s.bindings.length):=Nat.mul_le_mul_left _ h0;omega
                         ·have hpa:=gWw x;have hpb:=gWw y
                          have:=q5 hz
                          omega
end Go.Proofs.YtegahmhnmjnhhaaGreat
namespace Go.Proofs.YtegahmhnmjnhhaaGreat
open Go Go.Eng
attribute [local irreducible] V VO VQ VY Quiet QR jC kT Rng mU mV mI
def isB(b:UInt8):Bool:=gGp (b.toNat:Int)
mutual
def fmt:gD→List UInt8
 | ⟨a,l⟩=>match a with
   | []=>40::(gUw l++[41])
   | b::a=>b::a
def gUw:List gD→List UInt8
 | []=>[]
 | x::l=>fmt x++gDl l
def gDl:List gD→List UInt8
 | []=>[]
 | x::l=>32::(fmt x++gDl l)
end
mutual
def wfx:gD→Bool
 | ⟨a,l⟩=>match a with
   | []=>hX6 l
   | b::a=>(b::a).all isB && l.isEmpty
def hX6:List gD→Bool
 | []=>true
 | x::l=>wfx x && hX6 l
end
mutual
def ndx:gD→Nat
 | ⟨_,l⟩=>1+hDt l
def hDt:List gD→Nat
 | []=>0
 | x::l=>ndx x+hDt l
end
mutual
def dpx:gD→Nat
 | ⟨a,l⟩=>match a with
   | []=>1+hS8 l
   | _::_=>0
def hS8:List gD→Nat
 | []=>0
 | x::l=>max (dpx x) (hS8 l)
end
theorem gEn{s:List UInt8}{p:Nat}{b:UInt8}{t:List UInt8}(h:s.drop p=b::t):at? s (p:Int)=some b∧s.drop (p+1)=t∧p < s.length:=by
 have hp:p < s.length:=by
  rcases Nat.lt_or_ge p s.length with c | c
  ·exact c
  ·rw [List.drop_eq_nil_of_le c] at h;cases h
 rw [List.drop_eq_getElem_cons hp] at h;simp only [List.cons.injEq] at h;exact⟨by rw [yZ,List.getElem?_eq_getElem hp,h.1],h.2,hp⟩
theorem gWx{m:Nat}(h:m≤4294967296):IntKind.i64.wrap ((m:Int)+1)=((m+1:Nat):Int):=by rw [qR _ (by omega) (by omega)];omega
def isW(b:UInt8):Bool:=b==32 || b==10
theorem hP0(b:UInt8):cnd ((b.toNat:Int)==32) (some true) (some ((b.toNat:Int)==10))=some (isW b):=by
 have c:((b.toNat:Int)==32)=(b==32):=Bool.eq_iff_iff.2 (by simp only [beq_iff_eq,←UInt8.toNat_inj];change _↔b.toNat=32;omega);have f:((b.toNat:Int)==10)=(b==10):=Bool.eq_iff_iff.2 (by simp only [beq_iff_eq,←UInt8.toNat_inj];change _↔b.toNat=10;omega);rw [c,f];unfold isW;cases b==32<;>rfl
theorem hSf{s:List UInt8}{p:Nat}{b:UInt8}{t:List UInt8}(h:s.drop p=b::t)(hb:isW b=true)(hl:s.length≤4294967296)(d z:Int)(y:Bool)(n:Nat)(c:vB)(hc:c.s=s):zU c (n+1) (p:Int)=zU c n ((p+1:Nat):Int):=by
 obtain⟨f,h2,h3⟩:=gEn h;rw [zU,hc,show decide ((p:Int) < (s.length:Int))=true from decide_eq_true (by omega)];simp only [gZ,f,bnd,hP0,hb];rw [gWx (by omega)]
theorem hDu{s:List UInt8}{p:Nat}(h:s.drop p=[]∨∃b t,s.drop p=b::t∧isW b=false)(n:Nat)(c:vB)(hc:c.s=s):zU c (n+1) (p:Int)=some ⟨s,p,c.deep,c.size,c.bad⟩:=by
 rcases h with h | ⟨b,t,h,hb⟩
 ·have:¬p < s.length:=fun hp=>by rw [List.drop_eq_getElem_cons hp] at h;cases h
  rw [zU,hc,show decide ((p:Int) < (s.length:Int))=false from decide_eq_false (by omega)];rfl
 ·obtain⟨f,y,h3⟩:=gEn h;rw [zU,hc,show decide ((p:Int) < (s.length:Int))=true from decide_eq_true (by omega)];simp only [gZ,f,bnd,hP0,hb,gK]
theorem hOc{s:List UInt8}{p:Nat}{d z:Int}{y:Bool}(h:s.drop p=[]∨∃b t,s.drop p=b::t∧isW b=false):gPm ⟨s,p,d,z,y⟩=some ⟨s,p,d,z,y⟩:=hDu h 4999 ⟨s,p,d,z,y⟩ rfl
theorem jB3{s:List UInt8}{p:Nat}{d z:Int}{y:Bool}{b:UInt8}{t:List UInt8}(h:s.drop p=32::b::t)(hb:isW b=false)(hl:s.length≤4294967296):gPm ⟨s,p,d,z,y⟩=some ⟨s,(p+1:Nat),d,z,y⟩:=by
 have c:=(gEn h).2.1;exact(hSf h (by decide) hl d z y 4999 ⟨s,p,d,z,y⟩ rfl).trans (hDu (.inr ⟨b,t,c,hb⟩) 4998 ⟨s,p,d,z,y⟩ rfl)
theorem hSg{b:UInt8}(h:isB b=true):isW b=false:=by
 cases hw:isW b with
 | false=>rfl
 | true=>
   unfold isW at hw;simp only [Bool.or_eq_true,beq_iff_eq] at hw;rcases hw with rfl | rfl
   ·exact absurd h (by decide)
   ·exact absurd h (by decide)
def stop(r:List UInt8):Prop:=∀b t,r=b::t→isB b=false
theorem hKp(rec:vB→Option (gD × vB)){s:List UInt8}{p0:Nat}{d z:Int}(n0:Nat)(hl:s.length≤4294967296){rest:List UInt8}(hs:stop rest):∀(a:List UInt8) (p n:Nat),a.all isB=true→s.drop p=a++rest→p0 < p+a.length→a.length < n→
  p0≤p→p≤s.length→zR rec ⟨s,p0,d,z,false⟩ n0 n (p:Int)=some (⟨(s.drop p0).take (p+a.length - p0),[]⟩,⟨s,((p+a.length:Nat):Int),d,IntKind.i64.wrap (z+1),false⟩)
 | [],p,n+1,_,h,c,_,hp,hlen=>by
   have hb:(cnd (decide ((p:Int) < (s.length:Int))) (bnd (at? s (p:Int)) fun x9=>some (gGp (x9.toNat:Int))) (some false))=some false:=by
    by_cases hp1:p < s.length
    ·obtain⟨x,f,y⟩:=drop_at hp1;rw [show decide ((p:Int) < (s.length:Int))=true from decide_eq_true (by omega),gZ,yZ,f];simp only [bnd];rw [y] at h;exact congrArg some (hs x _ (by simpa using h.symm))
    ·rw [show decide ((p:Int) < (s.length:Int))=false from decide_eq_false (by omega),gK]
   rw [zR];simp only [];rw [hb];simp only [bnd,gK];simp only [List.length_nil,Nat.add_zero] at c;rw [show decide ((p:Int) > (p0:Int))=true from decide_eq_true (by omega),gZ,mK ⟨by omega,by omega,by omega⟩];simp
 | b::a,p,n+1,ha,h,c,hn,hp,_=>by
   simp only [List.all_cons,Bool.and_eq_true] at ha;obtain⟨f,y,h3⟩:=gEn (by simpa using h);rw [zR];simp only [];rw [show decide ((p:Int) < (s.length:Int))=true from decide_eq_true (by omega)];simp only [gZ,f,bnd];rw [show gGp (b.toNat:Int)=true from ha.1];simp only [gZ];rw [gWx (by omega)]
   have:=hKp rec (p0:=p0) (d:=d) (z:=z) n0 hl hs a (p+1) n ha.2 y (by simp at c;omega) (by simp at hn;omega) (by omega) (by omega)
   rw [this];simp only [List.length_cons];rw [show p+1+a.length=p+(a.length+1) by omega]
 | a,p,0,_,_,_,hn,_,_=>absurd hn (Nat.not_lt_zero _)
theorem hBe{x:gD}(hx:wfx x=true):∃b t,fmt x=b::t∧isW b=false∧b≠41∧(b=40∨isB b=true):=by
 obtain⟨a,l⟩:=x;cases a with
 | nil=>exact⟨40,_,by rw [fmt],by decide,by decide,.inl rfl⟩
 | cons b a=>
   simp only [wfx,List.all_cons,Bool.and_eq_true] at hx;refine⟨b,a,by rw [fmt],hSg hx.1.1,fun h=>?_,.inr hx.1.1⟩;subst h;exact absurd hx.1.1 (by decide)
theorem hSh{x:gD}(hx:wfx x=true):1≤(fmt x).length:=by
 obtain⟨b,t,h,_⟩:=hBe hx;rw [h];simp
theorem gY9{s:List UInt8}{p:Nat}{d z:Int}{x:gD}{rest:List UInt8}(n:Nat)(hx:wfx x=true)(h:s.drop p=fmt x++rest)(hz:0≤z∧z < 900):gBv (n+1) ⟨s,p,d,z,false⟩=zR (gBv n) ⟨s,p,d,z,false⟩ n n (p:Int):=by
 obtain⟨b,t,c,f,_⟩:=hBe hx;rw [c] at h;have y:=(gEn (by simpa using h)).2.2;rw [gBv];unfold gQg;rw [hOc (.inr ⟨b,_,by simpa using h,f⟩)];simp only [bnd,lt_];rw [show decide ((p:Int)≥(s.length:Int))=false from decide_eq_false (by omega),qR _ (by omega) (by omega),show decide (z+1 > 900)=false from decide_eq_false (by omega)];rfl
theorem hKq{s:List UInt8}{p:Nat}{d z:Int}{b:UInt8}{a:List UInt8}{rest:List UInt8}(n:Nat)(hl:s.length≤4294967296)(hx:wfx ⟨b::a,[]⟩=true)(h:s.drop p=(b::a)++rest)(hs:stop rest)(hn:a.length+1 < n)(hz:0≤z∧z < 900) :
  gBv (n+1) ⟨s,p,d,z,false⟩=some (⟨b::a,[]⟩,⟨s,((p+(a.length+1):Nat):Int),d,z+1,false⟩):=by
 have hlen:p≤s.length:=Nat.le_of_lt (gEn (by simpa using h)).2.2;rw [gY9 n hx (by rw [fmt];exact h) hz];have ha:(b::a).all isB=true:=by simpa [wfx] using hx
 rw [hKp (gBv n) (p0:=p) (d:=d) (z:=z) n hl hs (b::a) p n ha h (by simp) (by simpa using hn) (Nat.le_refl _) hlen,qR _ (by omega) (by omega),h];simp only [List.length_cons,Nat.add_sub_cancel_left];rw [show a.length+1=(b::a).length by simp,List.take_left]
theorem hSi(rec:vB→Option (gD × vB)){s:List UInt8}{p:Nat}{d z:Int}{t:List UInt8}(n c:Nat)(hl:s.length≤4294967296)(h:s.drop p=40::t)(hd:0≤d∧d < 14)(hz:0≤z∧z < 900) :
  zR rec ⟨s,p,d,z,false⟩ c (n+1) (p:Int)=vF rec c s ((p+1:Nat):Int) (d+1) (z+1) false []:=by
 obtain⟨f,y,h3⟩:=gEn h;rw [zR];simp only [];rw [show decide ((p:Int) < (s.length:Int))=true from decide_eq_true (by omega)];simp only [gZ,f,bnd];rw [show gGp (((40:UInt8).toNat:Nat):Int)=false from by decide];simp only [gK];rw [show decide ((p:Int) > (p:Int))=false from decide_eq_false (by omega),show((((40:UInt8).toNat:Nat):Int) != 40)=false from by decide];simp only [gK];rw [show (d==14)=false from beq_eq_false_iff_ne.2 (by omega)];simp only [gK];rw [gWx (by omega),qR _ (by omega) (by omega),qR _ (by omega) (by omega)]
theorem hOd(rec:vB→Option (gD × vB)){s:List UInt8}{p:Nat}{d z:Int}{rest:List UInt8}(n:Nat)(l:List gD)(hl:s.length≤4294967296)(h:s.drop p=41::rest)(hd:0≤d∧d≤14) :
  vF rec (n+1) s (p:Int) d z false l=some (⟨[],l⟩,⟨s,((p+1:Nat):Int),d - 1,z,false⟩):=by
 obtain⟨c,f,y⟩:=gEn h;rw [vF];simp only [Bool.not_false,gZ];rw [hOc (.inr ⟨41,rest,h,by decide⟩)];simp only [bnd];rw [show decide ((p:Int) < (s.length:Int))=true from decide_eq_true (by omega)];simp only [gZ,c];rw [show ((((41:UInt8).toNat:Nat):Int)==41)=true from by decide];simp only [gZ];rw [gWx (by omega),qR _ (by omega) (by omega)]
theorem hSk (rec:vB→Option (gD × vB)) {s:List UInt8} {p:Nat} {d z z':Int} {x:gD} {rest:List UInt8} (n:Nat) (l:List gD) (hl:s.length≤4294967296) (hx:wfx x=true)
  (h:s.drop p=fmt x++rest∨s.drop p=32::(fmt x++rest)) (hrec:∀p':Nat,s.drop p'=fmt x++rest→p≤p'→rec ⟨s,p',d,z,false⟩=some (x,⟨s,((p'+(fmt x).length:Nat):Int),d,z',false⟩)) (hll:l.length≤4294967295) :
  ∃p':Nat,s.drop p'=fmt x++rest∧(p'=p∨p'=p+1)∧vF rec (n+1) s (p:Int) d z false l=vF rec n s ((p'+(fmt x).length:Nat):Int) d z' false (l++[x]):=by
 obtain⟨b,t,hb,hw,hne,_⟩:=hBe hx;have key:∀p':Nat,s.drop p'=fmt x++rest→p≤p'→gPm ⟨s,p,d,z,false⟩=some ⟨s,p',d,z,false⟩→vF rec (n+1) s (p:Int) d z false l=vF rec n s ((p'+(fmt x).length:Nat):Int) d z' false (l++[x]):=by
  intro p' h' hp hs;rw [vF];simp only [Bool.not_false,gZ];rw [hs];simp only [bnd];have c:=h';rw [hb] at c;obtain⟨f,y,h3⟩:=gEn (by simpa using c);rw [show decide ((p':Int) < (s.length:Int))=true from decide_eq_true (by omega)];simp only [gZ,f];rw [show ((b.toNat:Int)==41)=false from beq_eq_false_iff_ne.2 (fun he=>hne (UInt8.toNat_inj.1 (by change _=41;omega)))];simp only [gK];rw [hrec p' h' hp];simp only;rw [mK (by simp;omega)]
 rcases h with h | h
 ·have c:=h;rw [hb] at c;exact⟨p,h,.inl rfl,key p h (Nat.le_refl _) (hOc (.inr ⟨b,_,by simpa using c,hw⟩))⟩
 ·have c:=h;rw [hb] at c;exact⟨p+1,(gEn h).2.1,.inr rfl,key (p+1) (gEn h).2.1 (by omega) (jB3 (by simpa using c) hw hl)⟩
mutual
theorem hKu{s:List UInt8}(hl:s.length≤4294967296):∀(x:gD) (p n:Nat) (d z:Int) (rest:List UInt8),wfx x=true→s.drop p=fmt x++rest→stop rest→0≤d→d+dpx x≤14→0≤z→z+ndx x≤900→(fmt x).length+1 < n→
  gBv n ⟨s,p,d,z,false⟩=some (x,⟨s,((p+(fmt x).length:Nat):Int),d,z+ndx x,false⟩)
 | ⟨[],l⟩,p,n+1,d,z,rest,hx,h,hs,h1,h2,h3,h4,c=>by
   have h4':z+(1+hDt l:Nat)≤900:=h4;have h2':d+(1+hS8 l:Nat)≤14:=h2;have h5':(gUw l).length+1+1 < n:=by simp only [fmt,List.length_cons,List.length_append,List.length_nil] at c;omega
   rw [gY9 n hx h ⟨h3,by omega⟩];have f:s.drop p=40::(gUw l++41::rest):=by rw [h,fmt];simp
   cases n with
   | zero=>omega
   | succ n=>
     rw [hSi (gBv (n+1)) n (n+1) hl f ⟨h1,by omega⟩ ⟨h3,by omega⟩];rw [hDv hl l (p+1) (n+1) (n+1) (d+1) (z+1) (gUw l) [] rest (by simpa [wfx] using hx) (gEn f).2.1 (.inl rfl) (by omega) (by omega) (by omega) (by omega) (by omega) (by omega) (by simp only [List.length_nil];omega)];simp only [List.nil_append,fmt,List.length_cons,List.length_append,List.length_nil,ndx];rw [show p+1+(gUw l).length+1=p+((gUw l).length+(0+1)+1) by omega,show d+1 - 1=d by omega,show z+1+(hDt l:Int)=z+((1+hDt l:Nat):Int) by omega]
 | ⟨b::a,l⟩,p,n+1,d,z,rest,hx,h,hs,h1,h2,h3,h4,c=>by
   have hx':=hx;simp only [wfx,Bool.and_eq_true,List.isEmpty_iff] at hx';obtain⟨_,rfl⟩:=hx';have h4':z+(1+0:Nat)≤900:=h4;simp only [fmt] at h c ⊢;rw [hKq n hl hx h hs (by simp only [List.length_cons] at c;omega) ⟨h3,by omega⟩];rfl
 | ⟨[],l⟩,p,0,d,z,rest,_,_,_,_,_,_,_,c=>absurd c (Nat.not_lt_zero _)
 | ⟨b::a,l⟩,p,0,d,z,rest,_,_,_,_,_,_,_,c=>absurd c (Nat.not_lt_zero _)
theorem hDv{s:List UInt8}(hl:s.length≤4294967296):∀(l:List gD) (p k n:Nat) (d z:Int) (w:List UInt8) (acc:List gD) (rest:List UInt8),hX6 l=true→s.drop p=w++41::rest→(w=gUw l∨w=gDl l)→0 < d→d+hS8 l≤14→0≤z→z+hDt l≤900→
  w.length+1 < k→w.length < n→acc.length+hDt l≤900→vF (gBv k) n s (p:Int) d z false acc=some (⟨[],acc++l⟩,⟨s,((p+w.length+1:Nat):Int),d - 1,z+hDt l,false⟩)
 | [],p,k,n+1,d,z,w,acc,rest,hx,h,hw,h1,h2,h3,h4,c,f,h7=>by
   obtain rfl:w=[]:=by rcases hw with rfl | rfl<;>rfl
   rw [hOd (gBv k) n acc hl (by simpa using h) ⟨by omega,by simp only [hS8] at h2;omega⟩];simp [hDt]
 | x::l,p,k,n+1,d,z,w,acc,rest,hx,h,hw,h1,h2,h3,h4,c,f,h7=>by
   simp only [hX6,Bool.and_eq_true] at hx;have h2':d+(max (dpx x) (hS8 l):Nat)≤14:=h2;have h4':z+(ndx x+hDt l:Nat)≤900:=h4;have h7':acc.length+(ndx x+hDt l)≤900:=h7;have hst:stop (gDl l++41::rest):=by
    cases l with
    | nil=>intro b t hb;simp only [gDl,List.nil_append,List.cons.injEq] at hb;rw [←hb.1];decide
    | cons y l=>intro b t hb;simp only [gDl,List.cons_append,List.cons.injEq] at hb;rw [←hb.1];decide
   have hfm:=hSh hx.1;have hwl:w.length=(fmt x).length+(gDl l).length∨w.length=1+((fmt x).length+(gDl l).length):=by
    rcases hw with rfl | rfl
    ·left;simp [gUw]
    ·right;simp only [gDl,List.length_cons,List.length_append];omega
   have hd:s.drop p=fmt x++(gDl l++41::rest)∨s.drop p=32::(fmt x++(gDl l++41::rest)):=by
    rcases hw with rfl | rfl
    ·left;rw [h,gUw,List.append_assoc]
    ·right;rw [h,gDl];simp
   obtain⟨p',e1,e2,e3⟩:=hSk (gBv k) (d:=d) (z:=z) (z':=z+ndx x) n acc hl hx.1 hd (fun p' hp' _=>hKu hl x p' k d z _ hx.1 hp' hst (by omega) (by omega) h3 (by omega) (by omega)) (by omega);rw [e3];have e4:s.drop (p'+(fmt x).length)=gDl l++41::rest:=by
    rw [←List.drop_drop,e1,List.drop_left]
   have hnd:1≤ndx x:=by obtain⟨a,xs⟩:=x;simp only [ndx];omega
   rw [hDv hl l (p'+(fmt x).length) k n d (z+ndx x) (gDl l) (acc++[x]) rest hx.2 e4 (.inr rfl) h1 (by omega) (by omega) (by omega) (by omega) (by omega) (by simp only [List.length_append,List.length_cons,List.length_nil];omega)];have hpp:p'+(fmt x).length+(gDl l).length=p+w.length:=by
    rcases hw with rfl | rfl
    ·rcases e2 with rfl | rfl
     ·simp only [gUw,List.length_append];omega
     ·exfalso;have h8:=congrArg List.length e1
      have h9:=congrArg List.length h;simp only [List.length_drop,List.length_append,List.length_cons,gUw] at h8 h9;omega
    ·rcases e2 with rfl | rfl
     ·exfalso;have h8:=congrArg List.length e1
      have h9:=congrArg List.length h;simp only [List.length_drop,List.length_append,List.length_cons,gDl] at h8 h9;omega
     ·simp only [gDl,List.length_cons,List.length_append];omega
   rw [hpp,List.append_assoc];simp only [List.singleton_append,hDt];rw [show z+(ndx x:Int)+(hDt l:Int)=z+((ndx x+hDt l:Nat):Int) by omega]
 | [],p,k,0,d,z,w,acc,rest,_,_,_,_,_,_,_,_,f,_=>absurd f (Nat.not_lt_zero _)
 | x::l,p,k,0,d,z,w,acc,rest,_,_,_,_,_,_,_,_,f,_=>absurd f (Nat.not_lt_zero _)
end
def kA(s:List UInt8):gD:=⟨s,[]⟩
def kL(l:List gD):gD:=⟨[],l⟩
def ka0:gD:=kA [112,97,99,107,97,103,101]
def ka1:gD:=kA [99,111,114,101]
def ka2:gD:=kA [116,114,97,105,116]
def ka3:gD:=kA [115,104,111,119]
def ka4:gD:=kA [109]
def ka5:gD:=kA [105,110,116]
def ka6:gD:=kA [116,119,111]
def ka7:gD:=kA [39,115,101,108,102]
def ka8:gD:=kA [120]
def ka9:gD:=kA [121]
def hS9:gD:=kA [43]
def gWy:gD:=kA [109,101,116,104,111,100]
def hP4:gD:=kA [101,113]
def hVt:gD:=kA [115,97,109,101]
def jB4:gD:=kA [98,111,111,108]
def hVu:gD:=kA [111,114,100]
def hVv:gD:=kA [108,101,115,115]
def hKv:gD:=kA [97,100,100]
def hX7:gD:=kA [97,115,115,111,99]
def hTa:gD:=kA [112,108,117,115]
def jGh:gD:=kA [115,101,110,100]
def jGi:gD:=kA [97,117,116,111]
def hVw:gD:=kA [100,97,116,97]
def hOe:gD:=kA [108,105,115,116]
def hDw:gD:=kA [97]
def hSl:gD:=kA [110,105,108]
def hSm:gD:=kA [99,111,110,115]
def gPq:gD:=kA [39,97]
def hTb:gD:=kA [112,97,105,114]
def jD0:gD:=kA [98]
def jB5:gD:=kA [39,98]
def hFe:gD:=kA [98,111,120]
def jD1:gD:=kA [117,110,105,116]
def gUx:gD:=kA [105,110,115,116]
def jB6:gD:=kA [105,102]
def hOf:gD:=kA [49]
def hSn:gD:=kA [48]
def hKw:gD:=kA [99,97,115,101]
def hVx:gD:=kA [104]
def hTc:gD:=kA [116]
def jGj:gD:=kA [100,101,102,97,117,108,116]
def jD2:gD:=kA [55]
def hX8:gD:=kA [122]
def jD3:gD:=kA [45]
def jGk:gD:=kA [61]
def jD4:gD:=kA [60]
def hX9:gD:=kA [112]
def hYa:gD:=kA [113]
def hDx:gD:=kA [110,101,119]
def hTd:gD:=kA [102,110]
def hYb:gD:=kA [105,100]
def hVy:gD:=kA [98,111,116,104]
def jGl:gD:=kA [97,112,112]
def hBf:gD:=kA [116,97,103]
def jB7:gD:=kA [110,111,110,101]
def jGm:gD:=kA [57]
def hOg:gD:=kA [110]
def jD5:gD:=kA [52]
def jD6:gD:=kA [53]
def hYc:gD:=kA [116,114,117,101]
def jGn:gD:=kA [102,97,108,115,101]
def jGo:gD:=kA [109,97,105,110]
def hOh:gD:=kA [99,97,108,108]
def hYe:gD:=kA [50]
def jD7:gD:=kA [116,104,101]
def jD8:gD:=kA [51]
def jGp:gD:=kA [108,101,116]
def jGq:gD:=kA [112,97,99,107]
def jD9:gD:=kA [108,101,110]
def jGr:gD:=kA [115,117,109]
def jEa:gD:=kA [103,114,111,119]
def gZa:List gD:=[ka0,ka1,kL []]
def hKy:List gD:=[kL [ka2,ka3,kL [],kL [],kL [ka4,kL [],ka5],kL [ka6,kL [ka7],ka5,kL [ka8,ka9],kL [hS9,kL [gWy,ka3,ka4,ka8],kL [gWy,ka3,ka4,ka9]]]],kL [ka2,hP4,kL [],kL [],kL [hVt,kL [ka7],jB4]],kL [ka2,hVu,kL [hP4],kL [],kL [hVv,kL [ka7],jB4]],kL [ka2,hKv,kL [],kL [hX7],kL [hTa,kL [ka7],kL [hX7,hKv,ka7]]],kL [ka2,jGh,kL [],kL [jGi]],kL [hVw,hOe,kL [hDw],kL [hSl],kL [hSm,gPq,kL [hOe,gPq]]],kL [hVw,hTb,kL [hDw,jD0],kL [hTb,gPq,jB5]],kL [hVw,hFe,kL [hDw],kL [hFe,gPq]],kL [hVw,jD1,kL [],kL [jD1]],kL [gUx,ka3,kL [],ka5,kL [],kL [],kL [],kL [ka4,kL [ka8],ka8]],kL [gUx,ka3,kL [],jB4,kL [],kL [],kL [],kL [ka4,kL [ka8],kL [jB6,ka8,hOf,hSn]]]]
def hDy:Bool→List gD
 | true=>[kL [gUx,ka3,kL [hDw],kL [hOe,gPq],kL [kL [ka3,gPq]],kL [],kL [],kL [ka4,kL [ka8],kL [hKw,ka8,kL [hSl,hSn],kL [hSm,hVx,hTc,kL [hS9,kL [gWy,ka3,ka4,hVx],kL [gWy,ka3,ka4,hTc]]]]]]]
 | false=>[kL [gUx,ka3,kL [hDw],kL [hOe,gPq],kL [],kL [jGj],kL [],kL [ka4,kL [ka8],jD2]],kL [gUx,ka3,kL [],kL [hOe,ka5],kL [],kL [],kL [],kL [ka4,kL [ka8],kL [hKw,ka8,kL [hSl,hSn],kL [hSm,hVx,hTc,kL [hS9,hVx,kL [gWy,ka3,ka4,hTc]]]]]]]
def hKz:List gD:=[kL [gUx,ka3,kL [hDw,jD0],kL [hTb,gPq,jB5],kL [kL [ka3,gPq],kL [ka3,jB5]],kL [],kL [],kL [ka4,kL [ka8],kL [hKw,ka8,kL [hTb,ka9,hX8,kL [jD3,kL [gWy,ka3,ka4,ka9],kL [gWy,ka3,ka4,hX8]]]]]],kL [gUx,hP4,kL [],ka5,kL [],kL [],kL [],kL [hVt,kL [ka8,ka9],kL [jGk,ka8,ka9]]],kL [gUx,hVu,kL [],ka5,kL [],kL [],kL [],kL [hVv,kL [ka8,ka9],kL [jD4,ka8,ka9]]],kL [gUx,hP4,kL [hDw],kL [hFe,gPq],kL [kL [hP4,gPq]],kL [],kL [],kL [hVt,kL [ka8,ka9],kL [hKw,ka8,kL [hFe,hX9,kL [hKw,ka9,kL [hFe,hYa,kL [gWy,hP4,hVt,hX9,hYa]]]]]]],kL [gUx,hKv,kL [],ka5,kL [],kL [],kL [ka5],kL [hTa,kL [ka8,ka9],kL [hS9,ka8,ka9]]],kL [gUx,hKv,kL [hDw],kL [hFe,gPq],kL [kL [hKv,gPq]],kL [],kL [kL [hFe,kL [hX7,hKv,gPq]]],kL [hTa,kL [ka8,ka9],kL [hKw,ka8,kL [hFe,hX9,kL [hKw,ka9,kL [hFe,hYa,kL [hDx,hFe,kL [gWy,hKv,hTa,hX9,hYa]]]]]]]],kL [hTd,hYb,kL [hDw],kL [],kL [kL [ka8,gPq]],gPq,ka8],kL [hTd,hVy,kL [hDw],kL [kL [ka3,gPq]],kL [kL [ka8,gPq]],ka5,kL [gWy,ka3,ka6,ka8,ka8]]]
def gZb:List gD:=[ka0,jGl,kL [ka1]]
def hSq:List gD:=[kL [hVw,hBf,kL [],kL [hBf,ka5],kL [jB7]]]
def hK0:List (List gD):=[[kL [gUx,ka3,kL [],ka5,kL [],kL [],kL [],kL [ka4,kL [ka8],jGm]]],
 [kL [gUx,ka3,kL [],hBf,kL [],kL [],kL [],kL [ka4,kL [ka8],kL [hKw,ka8,kL [jB7,hSn],kL [hBf,hOg,hOg]]]]],
 [kL [gUx,ka3,kL [],kL [hOe,hBf],kL [],kL [],kL [],kL [ka4,kL [ka8],jD5]],kL [gUx,ka3,kL [],hBf,kL [],kL [],kL [],kL [ka4,kL [ka8],jD6]]],
 [kL [gUx,hVu,kL [],hBf,kL [],kL [],kL [],kL [hVv,kL [ka8,ka9],hYc]]],
 [kL [gUx,hP4,kL [],hBf,kL [],kL [],kL [],kL [hVt,kL [ka8,ka9],hYc]],kL [gUx,hVu,kL [],hBf,kL [],kL [],kL [],kL [hVv,kL [ka8,ka9],jGn]]],
 [kL [gUx,ka3,kL [hDw],gPq,kL [kL [hP4,gPq]],kL [],kL [],kL [ka4,kL [ka8],hOf]]],
 [kL [gUx,ka3,kL [],hBf,kL [],kL [],kL [],kL [ka4,kL [ka8],kL [hKw,ka8,kL [hBf,hOg,hOg],kL [jB7,hSn]]]]]]
def gZc(m:gD):gD:=kL [hTd,jGo,kL [],kL [],kL [],ka5,m]
def hK5:List gD:=[kL [hOh,hVy,jD6],kL [gWy,ka3,ka4,kL [hDx,hSm,hOf,kL [hDx,hSm,hYe,kL [jD7,kL [hOe,ka5],kL [hDx,hSl]]]]],kL [hOh,hVy,kL [hDx,hTb,jD8,hYc]],kL [hS9,kL [hOh,hYb,jD5],kL [gWy,ka3,ka4,kL [hDx,hBf,jD2]]],kL [jGp,hX8,kL [gWy,hKv,hTa,kL [hDx,hFe,hOf],kL [hDx,hFe,hYe]],kL [hKw,hX8,kL [hFe,hOg,hOg]]],kL [gWy,ka3,ka4,kL [hDx,hSl]],kL [gWy,ka3,ka4,kL [jGq,ka3,jD8]],kL [jB6,kL [gWy,hVu,hVv,hOf,hYe],kL [hOh,hVy,hYc],hSn],kL [gWy,ka3,ka4,kL [hDx,hSm,kL [hDx,hBf,hOf],kL [jD7,kL [hOe,hBf],kL [hDx,hSl]]]],kL [hOh,hVy,kL [hOh,hYb,kL [hOh,hYb,kL [hDx,hBf,hYe]]]]]
def hSs:List gD:=[kL [hTd,jD9,kL [hDw],kL [],kL [kL [ka8,kL [hOe,gPq]]],ka5,kL [hKw,ka8,kL [hSl,hSn],kL [hSm,hVx,hTc,kL [hS9,hOf,kL [hOh,jD9,hTc]]]]]]
def hSu:List gD:=[kL [hTd,jGr,kL [hDw],kL [kL [hKv,gPq]],kL [kL [ka8,gPq],kL [ka9,gPq]],kL [hX7,hKv,gPq],kL [gWy,hKv,hTa,ka8,ka9]]]
def hSv:List gD:=[kL [hTd,jEa,kL [hDw],kL [kL [ka3,gPq]],kL [kL [hOg,ka5],kL [ka8,gPq]],ka5,kL [jB6,kL [jD4,hOg,hOf],kL [gWy,ka3,ka4,ka8],kL [hOh,jEa,kL [jD3,hOg,hOf],kL [hDx,hTb,ka8,ka8]]]]]
def gWz(b:Bool):gD:=kL (gZa++(hKy++(hDy b++hKz)))
def hSx(h:List gD)(m:gD)(c f y:List gD):gD:=kL (gZb++(hSq++(h++(gZc m::(c++(f++y))))))
theorem gIx:∀(a b:List gD),gDl (a++b)=gDl a++gDl b
 | [],b=>by simp [gDl]
 | x::a,b=>by simp only [List.cons_append,gDl,gIx a b,List.append_assoc]
theorem hDz:∀{a:List gD} (b:List gD),a≠[]→gUw (a++b)=gUw a++gDl b
 | [],b,h=>absurd rfl h
 | x::a,b,_=>by simp only [List.cons_append,gUw,gIx a b,List.append_assoc]
theorem jB8:wH++wI++yO++zS=40::(gUw gZa++gDl hKy):=by kernel_rfl
theorem jB9:gDc=gDl (hDy true):=by kernel_rfl
theorem jCa:gDd=gDl (hDy false):=by kernel_rfl
theorem jCb:uU++vG++wJ++vU++wW++zI=gDl hKz:=by kernel_rfl
theorem jCc:kU=40::(gUw gZb++gDl hSq):=by kernel_rfl
theorem jCd:[gCo,gCp,gCq,gCr,gCs,gCt,gCu]=hK0.map gDl:=by kernel_rfl
theorem jCe:[[40,99,97,108,108,32,98,111,116,104,32,53,41],gAu,gAv,gAw,gAx,gAy,gAz,gA0,gA1,gA2]=hK5.map fmt:=by kernel_rfl
theorem jCf(m:gD):yH++fmt m++[41]=gDl [gZc m]:=by
 have h:yH=32::40::(gUw (gZc (kL [])).list.dropLast++[32]):=by kernel_rfl
 rw [h];simp only [gZc,gDl,kL,fmt,gUw,List.dropLast,List.append_nil,List.nil_append,List.cons_append,List.append_assoc]
theorem jCg:gG9=gDl hSs:=by kernel_rfl
theorem jCh:gHa=gDl hSu:=by kernel_rfl
theorem jCi:gHb=gDl hSv:=by kernel_rfl
end Go.Proofs.YtegahmhnmjnhhaaGreat
