import Derived.Test.YtegahmhnmjnhhaaGreatAg
set_option maxHeartbeats 4000000
set_option linter.unusedVariables false
set_option linter.unusedSimpArgs false
set_option linter.unusedSectionVars false
namespace Go.Proofs.YtegahmhnmjnhhaaGreat
open Go Go.Eng
attribute [local irreducible] V VO VQ VY Quiet QR jC kT Rng mU mV mI
theorem hC8{s:gJ}(h:s.code=0)(c:Int):(pO s c).code=c∧(pO s c).at_=s.node:=by
 unfold pO;rw [h];exact⟨rfl,rfl⟩
section
variable {w:gI} {k:Int} (hw:gOw w k) (hi:gYe w) {wh:List gY} {fs:List gU} (hf:pQ w wh=some fs) (hF:FV fs) {V:List (List UInt8)}
theorem hPs{d n m:Nat}(hd:d+1≤40)(ih:∀(s s':gJ) (a b:gB),pG n w wh s a b (d:Int)=some s'→Inv V s→DT V a→DT V b→tnd a≤8000000→tnd b≤8000000→Out V s s'∧Imp w fs m d s s' a b∧Phi s s' a b)(y:gB) :
  ∀(xs ys:List gB) (j:Nat) (c s':gJ),y.args.drop j=ys→ys.length=xs.length→(∀x∈xs,DT V x∧tnd x≤2000)→(∀x∈ys,DT V x∧tnd x≤2000)→Inv V c→
  uT (pG n) w wh ((d+1:Nat):Int) y xs j c.next c.count c.node c.bindings c.equations c.obligations c.code c.at_=some s'→
  Out V c s'∧(∀r,Rok r→Slv r s'.bindings→HSt r c→(∀x∈xs,HS 4 r x)→(∀x∈ys,HS 4 r x)→HSt r s'∧∀q,(∀x∈xs,hg r x+cz fs x+q+1≤d)→(∀x∈ys,cz fs x≤q)→
   gDk (gC6 m) c.next c.count c.node c.obligations ⟨w,fs⟩ (40 - ((d+1:Nat):Int)) y xs j c.code c.at_ c.bindings c.equations=some (s'.code,s'.at_,s'.bindings,s'.equations))∧∀r,Rz r→Slw r s'.bindings→HZt r c→(∀x∈xs,HZ r x)→(∀x∈ys,HZ r x)→HZt r s'∧phs r s'.equations≤phs r c.equations+sns r xs+sns r ys
 | [],ys,j,c,s',_,_,_,_,hI,h=>by
   rw [uT] at h;cases h;exact⟨.refl hI,fun r _ _ hst _ _=>⟨hst,fun _ _ _=>rfl⟩,fun r _ _ hst _ _=>⟨hst.of rfl rfl,by show phs r c.equations≤_;omega⟩⟩
 | x::xs,[],j,c,s',_,hl,_,_,_,_=>by simp at hl
 | x::xs,f::ys,j,c,s',hdr,hl,hx,hy,hI,h=>by
   simp only [List.length_cons] at hl;have hyj:y.args[j]? =some f:=by
    have:(y.args.drop j)[0]? =some f:=by rw [hdr];rfl
    rw [List.getElem?_drop] at this;simpa using this
   have hdr2:y.args.drop (j+1)=ys:=by rw [←List.drop_drop,hdr];rfl
   obtain⟨x1,x2⟩:=hx x (by simp);obtain⟨y2,y3⟩:=hy f (by simp);rw [uT,yZ,hyj] at h;obtain⟨z,hz,h⟩:=gP h;cases hz;obtain⟨s2,e1,h⟩:=gP h;rw [show IntKind.i64.wrap (((d+1:Nat):Int) - 1)=(d:Int)from by rw [qR _ (by omega) (by omega)];omega] at e1;have e1:pG n w wh c x f (d:Int)=some s2:=e1;obtain⟨o1,i1,f1⟩:=ih c s2 x f e1 hI x1 y2 (by omega) (by omega);obtain⟨o2,i2,f2⟩:=hPs hd ih y xs ys (j+1) s2 s' hdr2 (by omega) (fun u hu=>hx u (by simp [hu])) (fun u hu=>hy u (by simp [hu])) o1.inv h;obtain⟨l,e⟩:=o2.ext
   refine⟨o1.trans o2,fun r hr hs hst hx hy=>?_,fun r hr hs hst hx hy=>by
    obtain⟨g1,g2⟩:=f1 r hr (by rw [e] at hs;exact hs.pre) hst (hx x (by simp)) (hy f (by simp));obtain⟨g3,g4⟩:=f2 r hr hs g1 (fun u hu=>hx u (by simp [hu])) (fun u hu=>hy u (by simp [hu]));refine⟨g3,?_⟩;simp only [sns]
    omega⟩
   have hs2:Slv r s2.bindings:=by rw [e] at hs;exact hs.pre
   obtain⟨u2,u1⟩:=i1 r hr hs2 hst (hx x (by simp)) (hy f (by simp));obtain⟨v2,v1⟩:=i2 r hr hs u2 (fun u hu=>hx u (by simp [hu])) (fun u hu=>hy u (by simp [hu]));refine⟨v2,fun q hx hy=>?_⟩;have f2:=hx x (by simp);have g2:=hy f (by simp);have v:=v1 q (fun u hu=>hx u (by simp [hu])) (fun u hu=>hy u (by simp [hu]));rw [o1.nx,o1.ct,o1.nd,o1.ob] at v;rw [gDk,yZ,hyj,jQ rfl,show IntKind.i64.wrap (40 - ((d+1:Nat):Int)+1)=40 - (d:Int)from by rw [qR _ (by omega) (by omega)];omega,jQ (u1 (by omega))];exact v
include hw hi hf hF
set_option maxRecDepth 100000 in
theorem agree(hV:V.length≤5):∀(d n m:Nat) (s s':gJ) (a b:gB),d≤40→d < m→pG n w wh s a b (d:Int)=some s'→Inv V s→DT V a→DT V b→tnd a≤8000000→tnd b≤8000000→Out V s s'∧Imp w fs m d s s' a b∧Phi s s' a b:=by
 intro d
 induction d with
 | zero=>
   intro n m s s' a b _ _ h hI ha hb _ _
   suffices hO:Out V s s'∧s'.bindings=s.bindings∧s'.equations=s.equations from⟨hO.1,fun r _ _ hst _ _=>⟨hst.of hO.2.1 hO.2.2,fun hle=>by omega⟩,.same hO.2.1 hO.2.2⟩
   rcases n with _ | n
   ·rw [pG] at h;cases h
   ·rw [pG] at h;unfold gDi at h;cases hc:(s.code != 0)with
    | true=>rw [hc] at h;cases h;exact⟨.refl hI,rfl,rfl⟩
    | false=>
      rw [hc,gK,mK ⟨hI.bok,ha.1.1⟩] at h;simp only [lt_] at h;rw [mK ⟨hI.bok,hb.1.1⟩] at h;cases ht:teq (zkF s a) (zkF s b)with
      | true=>rw [ht] at h;cases h;exact⟨.refl hI,rfl,rfl⟩
      | false=>
        rw [ht,gK,show decide (((0:Nat):Int)≤0)=true from by decide] at h;simp only [gZ,Option.some.injEq] at h;subst h;exact⟨.fail hI 6,(wE s 6).1,(wE s 6).2⟩
 | succ d ih=>
   intro n m s s' a b hd hm h hI ha hb hta htb;obtain⟨m,rfl⟩:∃i,m=i+1:=⟨m - 1,by omega⟩
   rcases n with _ | n
   ·rw [pG] at h;cases h
   have hl:=hI.len;have hx:=hGo (fun c hc=>(hI.dt c hc).1) 60 a ha;have hy:=hGo (fun c hc=>(hI.dt c hc).1) 60 b hb;have tx:=gXe hI.hDp 60 a hta;have ty:=gXe hI.hDp 60 b htb;have dx:=gRt hI.tri 60 0 a (hX5 _ _) (by omega);have dy:=gRt hI.tri 60 0 b (hX5 _ _) (by omega);have cx:=hTf (fs:=fs) s.bindings 60 a;have cy:=hTf (fs:=fs) s.bindings 60 b;have sx:∀r,Slv r s.bindings→HSt r s→HS 4 r a→HS 4 r (zk s.bindings 60 a)∧hg r (zk s.bindings 60 a)=hg r a:=fun r f h2 h3=>hRq f h2.lk 60 a h3;have sy:∀r,Slv r s.bindings→HSt r s→HS 4 r b→HS 4 r (zk s.bindings 60 b)∧hg r (zk s.bindings 60 b)=hg r b:=fun r f h2 h3=>hRq f h2.lk 60 b h3;have wx:∀r,Slw r s.bindings→HZt r s→HZ r a→HZ r (zk s.bindings 60 a)∧sn r (zk s.bindings 60 a)=sn r a:=fun r f h2 h3=>hP8 f h2.lk 60 a h3;have wy:∀r,Slw r s.bindings→HZt r s→HZ r b→HZ r (zk s.bindings 60 b)∧sn r (zk s.bindings 60 b)=sn r b:=fun r f h2 h3=>hP8 f h2.lk 60 b h3;have z1:=hBh s.next s.count s.node s.bindings s.equations s.obligations s.code s.at_ (M:=2000) (by omega) hI.bok hI.hDp ha.1.1 (by omega);have z2:=hBh s.next s.count s.node s.bindings s.equations s.obligations s.code s.at_ (M:=2000) (by omega) hI.bok hI.hDp hb.1.1 (by omega);have hw1:IntKind.i64.wrap (((d+1:Nat):Int) - 1)=(d:Int):=by rw [qR _ (by omega) (by omega)];omega
   have hw2:IntKind.i64.wrap (40 - ((d+1:Nat):Int)+1)=40 - (d:Int):=by rw [qR _ (by omega) (by omega)];omega
   have hU:gC6 (m+1) s.next s.count s.node s.bindings s.equations s.obligations s.code s.at_ ⟨w,fs⟩ a b (40 - ((d+1:Nat):Int))=gMk (gC6 m) s.next s.count s.node s.bindings s.equations s.obligations s.code s.at_ ⟨w,fs⟩ a b (40 - ((d+1:Nat):Int)):=by rw [gC6]
   rw [pG] at h;unfold gDi at h;unfold gMk at hU;unfold zkF at h;rw [jQ z1,jQ z2] at hU;generalize zk s.bindings 60 a=x at *;generalize zk s.bindings 60 b=y at *;clear z1 z2;unfold Imp;cases hc:(s.code != 0)with
   | true=>
     rw [hc,gZ] at h hU;cases h;exact⟨.refl hI,fun r _ _ hst _ _=>⟨hst,fun _=>hU⟩,.same rfl rfl⟩
   | false=>
     have hc0:s.code=0:=by simpa using hc
     rw [hc,gK,mK ⟨hI.bok,ha.1.1⟩] at h;rw [hc,gK] at hU;simp only [lt_] at h hU;rw [mK ⟨hI.bok,hb.1.1⟩] at h;cases ht:teq x y with
     | true=>
       rw [ht,gZ] at h hU;cases h;exact⟨.refl hI,fun r _ _ hst _ _=>⟨hst,fun _=>hU⟩,.same rfl rfl⟩
     | false=>
       rw [ht,gK] at h hU;rw [show decide (((d+1:Nat):Int)≤0)=false from decide_eq_false (by omega),gK,yX x (by omega),yX y (by omega),qR _ (by omega) (by omega)] at h;rw [show decide (40 - ((d+1:Nat):Int) > 40)=false from decide_eq_false (by omega),gK,yX x (by omega),yX y (by omega),qR _ (by omega) (by omega)] at hU;cases hsz:decide (((tnd x:Int)+(tnd y:Int)) > 2000)with
       | true=>
         rw [hsz,gZ] at h hU;cases h;refine⟨.fail hI 6,fun r _ _ hst _ _=>⟨hst.of (wE s 6).1 (wE s 6).2,fun _=>hU.trans ?_⟩,.fail s 6⟩;rw [gU5,(wE s 6).1,(wE s 6).2]
       | false=>
         rw [hsz,gK] at h hU;have hsz:=of_decide_eq_false hsz;have zx:zbd s.bindings x=false:=by
          rcases dx with h | h
          ·exact h
          ·rw [yX x (by omega)] at h;omega
         have zy:zbd s.bindings y=false:=by
          rcases dy with h | h
          ·exact h
          ·rw [yX y (by omega)] at h;omega
         have ox:=gVo hI.inf zx;have oy:=gVo hI.inf zy;rw [jQ (gG1 x)] at h;rw [jQ (gW3 x)] at hU;cases mx:(x.kind==1 && isInf x.name)with
         | true=>
           rw [mx,gZ] at h hU;obtain⟨m1,m2,m3⟩:=gWv mx hx;obtain⟨s2,e1,h⟩:=gP h;cases h;obtain⟨s3,q1,q2,q3⟩:=bind_ok (d:=0) (p:=0) hI hV (ox _ m1) m2 m3 oy hy (by omega);obtain rfl:=Option.some.inj (q1.symm.trans e1);obtain⟨b1,b2,b3,b4,b5,b6,b7⟩:=hBi (v:=x) (t:=y) (by omega) e1;rw [jQ b1] at hU;have bph:Phi s s3 a b:=fun r hr hs hst f h2=>by
            obtain⟨l,e⟩:=q3.ext;have hs0:Slw r s.bindings:=by rw [e] at hs;exact hs.pre
            refine⟨⟨fun c hc=>?_,by rw [b5];exact hst.he⟩,by rw [b5];omega⟩;rcases b7 with b7 | b7
            ·rw [b7] at hc;exact hst.hb c hc
            ·rw [b7] at hc;rcases List.mem_append.1 hc with hc | hc
             ·exact hst.hb c hc
             ·simp only [List.mem_singleton] at hc;subst hc;exact(wy r hs0 hst h2).1
           refine⟨⟨q2,q3.ext,b2,b3,b4,b6⟩,fun r _ hs hst f h2=>⟨⟨fun c hc=>?_,by rw [b5];exact hst.he⟩,fun _=>by rw [hU,b5]⟩,bph⟩;obtain⟨l,e⟩:=q3.ext;have hs0:Slv r s.bindings:=by rw [e] at hs;exact hs.pre
           rcases b7 with b7 | b7
           ·rw [b7] at hc;exact hst.hb c hc
           ·rw [b7] at hc;rcases List.mem_append.1 hc with hc | hc
            ·exact hst.hb c hc
            ·simp only [List.mem_singleton] at hc;subst hc;exact(sy r hs0 hst h2).1
         | false=>
           rw [mx,gK] at h hU;rw [jQ (gG1 y)] at h;rw [jQ (gW3 y)] at hU;cases my:(y.kind==1 && isInf y.name)with
           | true=>
             rw [my,gZ] at h hU;obtain⟨m1,m2,m3⟩:=gWv my hy;obtain⟨s2,e1,h⟩:=gP h;cases h;obtain⟨s3,q1,q2,q3⟩:=bind_ok (d:=0) (p:=0) hI hV (oy _ m1) m2 m3 ox hx (by omega);obtain rfl:=Option.some.inj (q1.symm.trans e1);obtain⟨b1,b2,b3,b4,b5,b6,b7⟩:=hBi (v:=y) (t:=x) (by omega) e1;rw [jQ b1] at hU;have bph:Phi s s3 a b:=fun r hr hs hst f h2=>by
              obtain⟨l,e⟩:=q3.ext;have hs0:Slw r s.bindings:=by rw [e] at hs;exact hs.pre
              refine⟨⟨fun c hc=>?_,by rw [b5];exact hst.he⟩,by rw [b5];omega⟩;rcases b7 with b7 | b7
              ·rw [b7] at hc;exact hst.hb c hc
              ·rw [b7] at hc;rcases List.mem_append.1 hc with hc | hc
               ·exact hst.hb c hc
               ·simp only [List.mem_singleton] at hc;subst hc;exact(wx r hs0 hst f).1
             refine⟨⟨q2,q3.ext,b2,b3,b4,b6⟩,fun r _ hs hst f h2=>⟨⟨fun c hc=>?_,by rw [b5];exact hst.he⟩,fun _=>by rw [hU,b5]⟩,bph⟩;obtain⟨l,e⟩:=q3.ext;have hs0:Slv r s.bindings:=by rw [e] at hs;exact hs.pre
             rcases b7 with b7 | b7
             ·rw [b7] at hc;exact hst.hb c hc
             ·rw [b7] at hc;rcases List.mem_append.1 hc with hc | hc
              ·exact hst.hb c hc
              ·simp only [List.mem_singleton] at hc;subst hc;exact(sx r hs0 hst f).1
           | false=>
             rw [my,gK] at h hU;obtain⟨p,e1,h⟩:=gP h;obtain⟨u,u1,u2⟩:=gRb hw hi hf hF hx (by omega) s.next s.count s.node s.bindings s.equations s.obligations s.code s.at_ hc0 e1;rw [jQ u1] at hU;cases hp:p.2.2 with
             | false=>
               rw [hp,Bool.not_false,gZ] at h;cases h;rcases u2 with ⟨_,u2⟩ | ⟨u3,_⟩
               ·rw [u2] at hU;refine⟨.fail hI 7,fun r _ _ hst _ _=>⟨hst.of (wE s 7).1 (wE s 7).2,fun _=>hU.trans ?_⟩,.fail s 7⟩;rw [(hC8 hc0 7).1,(hC8 hc0 7).2,(wE s 7).1,(wE s 7).2];rfl
               ·rw [hp] at u3;cases u3
             | true=>
               obtain⟨u3,u4⟩:u.2=(p.2.1,s.code,s.at_)∧(p.2.1=true→u.1=p.1):=by
                rcases u2 with ⟨u2,_⟩ | ⟨_,u2⟩
                ·rw [hp] at u2;cases u2
                ·exact u2
               rw [hp,Bool.not_true,gK] at h;rw [u3] at hU;simp only at hU;cases ht1:p.2.1 with
               | true=>
                 rw [ht1,gZ] at h hU;rw [u4 ht1,hw2] at hU;obtain⟨s2,e2,h⟩:=gP h;cases h;rw [hw1] at e2;obtain⟨r1,r2,r3,r4,r5⟩:=hOm hw hf hF hx (by omega) e1 ht1;obtain⟨o1,i1,f1⟩:=ih n m s s' p.1 y (by omega) (by omega) e2 hI r3 hy (by omega) (by omega)
                 refine⟨o1,fun r hr hs hst f h2=>?_,fun r hr hs hst f h2=>by
                  obtain⟨l,e⟩:=o1.ext;have hs0:Slw r s.bindings:=by rw [e] at hs;exact hs.pre
                  have k2:=r5 r;have k3:=(wx r hs0 hst f).2;obtain⟨k4,k5⟩:=wy r hs0 hst h2;obtain⟨j1,j2⟩:=f1 r hr hs hst (hTk (by omega) r1) k4
                  exact⟨j1,by omega⟩⟩
                 obtain⟨l,e⟩:=o1.ext;have hs0:Slv r s.bindings:=by rw [e] at hs;exact hs.pre
                 have k1:=hP6 r1;have k2:=r2 r;have k3:=(sx r hs0 hst f).2;have k4:1≤cz fs x:=by
                  unfold cz;split
                  ·rename_i htw;rw [hOl hw hf hF htw e1] at ht1;cases ht1
                  ·omega
                 obtain⟨j2,j1⟩:=i1 r hr hs hst (hVq hr (by omega) r1) (sy r hs0 hst h2).1;exact⟨j2,fun hle=>by rw [jQ (j1 (by omega))] at hU;exact hU⟩
               | false=>
                 rw [ht1,gK] at h hU;rw [hc,gK] at hU;obtain⟨p2,e2,h⟩:=gP h;obtain⟨v,v1,v2⟩:=gRb hw hi hf hF hy (by omega) s.next s.count s.node s.bindings s.equations s.obligations s.code s.at_ hc0 e2;rw [jQ v1] at hU;cases hp2:p2.2.2 with
                 | false=>
                   rw [hp2,Bool.not_false,gZ] at h;cases h;rcases v2 with ⟨_,v2⟩ | ⟨v3,_⟩
                   ·rw [v2] at hU;refine⟨.fail hI 7,fun r _ _ hst _ _=>⟨hst.of (wE s 7).1 (wE s 7).2,fun _=>hU.trans ?_⟩,.fail s 7⟩;rw [(hC8 hc0 7).1,(hC8 hc0 7).2,(wE s 7).1,(wE s 7).2];rfl
                   ·rw [hp2] at v3;cases v3
                 | true=>
                   obtain⟨v3,v4⟩:v.2=(p2.2.1,s.code,s.at_)∧(p2.2.1=true→v.1=p2.1):=by
                    rcases v2 with ⟨v2,_⟩ | ⟨_,v2⟩
                    ·rw [hp2] at v2;cases v2
                    ·exact v2
                   rw [hp2,Bool.not_true,gK] at h;rw [v3] at hU;simp only at hU;cases ht2:p2.2.1 with
                   | true=>
                     rw [ht2,gZ] at h hU;rw [v4 ht2,hw2] at hU;obtain⟨s2,e3,h⟩:=gP h;cases h;rw [hw1] at e3;obtain⟨r1,r2,r3,r4,r5⟩:=hOm hw hf hF hy (by omega) e2 ht2;obtain⟨o1,i1,f1⟩:=ih n m s s' x p2.1 (by omega) (by omega) e3 hI hx r3 (by omega) (by omega)
                     refine⟨o1,fun r hr hs hst f h2=>?_,fun r hr hs hst f h2=>by
                      obtain⟨l,e⟩:=o1.ext;have hs0:Slw r s.bindings:=by rw [e] at hs;exact hs.pre
                      have k2:=r5 r;have k3:=(wy r hs0 hst h2).2;obtain⟨k4,k5⟩:=wx r hs0 hst f;obtain⟨j1,j2⟩:=f1 r hr hs hst k4 (hTk (by omega) r1)
                      exact⟨j1,by omega⟩⟩
                     obtain⟨l,e⟩:=o1.ext;have hs0:Slv r s.bindings:=by rw [e] at hs;exact hs.pre
                     have k1:=hP6 r1;have k3:=(sx r hs0 hst f).2;have k4:1≤cz fs y:=by
                      unfold cz;split
                      ·rename_i htw;rw [hOl hw hf hF htw e2] at ht2;cases ht2
                      ·omega
                     obtain⟨j2,j1⟩:=i1 r hr hs hst (sx r hs0 hst f).1 (hVq hr (by omega) r1);exact⟨j2,fun hle=>by rw [jQ (j1 (by omega))] at hU;exact hU⟩
                   | false=>
                     rw [ht2,gK] at h hU;rw [hc,gK,jQ (hFu (t:=x) (by omega))] at hU;have hD:(cnd ((x.kind==3) && gJp x) (some true) (bnd (gS1 y) fun z=>some z))=some (cnd (x.kind==3) (cnd (gJp x) true (cnd (y.kind==3) (gJp y) false)) (cnd (y.kind==3) (gJp y) false)):=by
                      rw [hFu (t:=y) (by omega)];cases x.kind==3<;>cases gJp x<;>cases y.kind==3<;>cases gJp y<;>rfl
                     rw [jQ hD] at hU;cases hdef:cnd (x.kind==3) (cnd (gJp x) true (cnd (y.kind==3) (gJp y) false)) (cnd (y.kind==3) (gJp y) false)with
                     | true=>
                       rw [hdef,gZ] at h hU;obtain⟨_,h⟩:=mW h;obtain⟨g,h⟩:=mW h;cases h;rw [mK (by simpa using g)] at hU
                       refine⟨⟨⟨hI.tri,hI.inf,hI.dt,hI.obl,fun q hq=>?_⟩,⟨[],by simp⟩,rfl,rfl,rfl,rfl⟩,fun r _ hs hst f h2=>⟨⟨hst.hb,fun q hq=>?_⟩,fun _=>by rw [hU];rfl⟩,fun r _ hs hst f h2=>by
                        obtain⟨k1,k2⟩:=wx r hs hst f;obtain⟨k3,k4⟩:=wy r hs hst h2;refine⟨⟨hst.hb,fun q hq=>?_⟩,?_⟩
                        ·simp only [List.nil_append,List.mem_append,List.mem_singleton] at hq;rcases hq with hq | rfl
                         ·exact hst.he q hq
                         ·exact⟨k1,k3⟩
                        ·simp only [List.nil_append,hFy,phs]
                         omega⟩
                       ·simp only [List.nil_append,List.mem_append,List.mem_singleton] at hq;rcases hq with hq | rfl
                        ·exact hI.eqs q hq
                        ·exact⟨⟨hx,by show tnd x≤2000;omega⟩,hy,by show tnd y≤2000;omega⟩
                       ·simp only [List.nil_append,List.mem_append,List.mem_singleton] at hq;rcases hq with hq | rfl
                        ·exact hst.he q hq
                        ·exact⟨(sx r hs hst f).1,(sy r hs hst h2).1⟩
                     | false=>
                       rw [hdef,gK] at h hU;cases hmm:cnd (x.kind != y.kind) true (cnd (!(x.name==y.name)) true (cnd ((x.args.length:Int) !=(y.args.length:Int)) true (x.kind==3)))with
                       | true=>
                         rw [hmm,gZ] at h hU;cases h;refine⟨.fail hI 1,fun r _ _ hst _ _=>⟨hst.of (wE s 1).1 (wE s 1).2,fun _=>hU.trans ?_⟩,.fail s 1⟩;rw [gU5,(wE s 1).1,(wE s 1).2]
                       | false=>
                         rw [hmm,gK] at h hU;obtain⟨hkk,hlen,hk3⟩:x.kind=y.kind∧y.args.length=x.args.length∧x.kind≠3:=by
                          cases f:(x.kind != y.kind)with
                          | true=>rw [f] at hmm;cases hmm
                          | false=>
                            rw [f,gK] at hmm;cases h2:(!(x.name==y.name))with
                            | true=>rw [h2] at hmm;cases hmm
                            | false=>
                              rw [h2,gK] at hmm;cases h3:((x.args.length:Int) !=(y.args.length:Int))with
                              | true=>rw [h3] at hmm;cases hmm
                              | false=>
                                rw [h3,gK] at hmm;have h3:(x.args.length:Int)=(y.args.length:Int):=by simpa using h3
                                exact⟨by simpa using f,by omega,by simpa using hmm⟩
                         obtain⟨o1,i1,f1⟩:=hPs (fs:=fs) (by omega) (fun s s' a b f h2 h3 h4 h5 h6=>ih n m s s' a b (by omega) (by omega) f h2 h3 h4 h5 h6) y x.args y.args 0 s s' rfl hlen (fun u hu=>⟨gHy hx u hu,by have:=gQ8 hu;omega⟩) (fun u hu=>⟨gHy hy u hu,by have:=gQ8 hu;omega⟩) hI h
                         refine⟨o1,fun r hr hs hst f h2=>?_,fun r hr hs hst f h2=>by
                          obtain⟨l,e⟩:=o1.ext;have hs0:Slw r s.bindings:=by rw [e] at hs;exact hs.pre
                          obtain⟨k1,k2⟩:=wx r hs0 hst f;obtain⟨k3,k4⟩:=wy r hs0 hst h2;obtain⟨j1,j2⟩:=f1 r hr hs hst (gQz k1) (gQz k3);have k5:=hBk (r:=r) x;have k6:=hBk (r:=r) y
                          exact⟨j1,by omega⟩⟩
                         obtain⟨l,e⟩:=o1.ext;have hs0:Slv r s.bindings:=by rw [e] at hs;exact hs.pre
                         obtain⟨a1,a2⟩:=sx r hs0 hst f;obtain⟨c1,c2⟩:=sy r hs0 hst h2;obtain⟨j2,j1⟩:=i1 r hr hs hst (gQz a1) (gQz c1)
                         exact⟨j2,fun hle=>hU.trans (j1 (cz fs b) (fun u hu=>by
                          have g1:=hR8 (r:=r) hu;have g2:cz fs u≤cz fs x:=hFx fun h=>hFw h hk3 u hu
                          omega) (fun u hu=>by
                          have g2:cz fs u≤cz fs y:=hFx fun h=>hFw h (by rw [←hkk];exact hk3) u hu
                          omega))⟩
end
structure PS (V:List (List UInt8)) (B:Nat) (s:gJ) (xs:List jB):Prop where
 inv:Inv V s
 eq:∀q∈xs,(DT V q.a∧tnd q.a≤2000)∧DT V q.b∧tnd q.b≤2000
 hz:∀r,Rz r→Slw r s.bindings→HZt r s∧∀q∈xs,HZ r q.a∧HZ r q.b
 ph:∀r,Rz r→Slw r s.bindings→(∀v,r v≤6139)→phs r s.equations+phs r xs≤B
 hs:∀r,Rok r→Slv r s.bindings→HSt r s∧∀q∈xs,HS 4 r q.a∧HS 4 r q.b
theorem hVe{V:List (List UInt8)}{s:gJ}(h:Inv V s):Rz (slw s.bindings):=⟨fun v hv=>gZg (fun hd=>by
 obtain⟨b,c,rfl⟩:=List.mem_map.1 hd;rw [h.inf b c] at hv
 cases hv),gZi _⟩
theorem hJz{V:List (List UInt8)}{s:gJ}(h:Inv V s):Rok (slv s.bindings):=fun v hv=>hAe (fun hd=>by
 obtain⟨b,c,rfl⟩:=List.mem_map.1 hd;rw [h.inf b c] at hv
 cases hv)
theorem PS.len{V:List (List UInt8)}{B:Nat}(hV:V.length≤5){s:gJ}{xs:List jB}(h:PS V B s xs):s.equations.length+xs.length≤B:=by
 have hr:=hVe h.inv;have hs:=hFz h.inv.tri;obtain⟨c,_⟩:=h.hz _ hr hs;have hl:=h.inv.len;have hb:∀v,slw s.bindings v≤6139:=fun v=>by
  have:=hF3 h.inv.tri c.hb (n:=4) (by omega) v
  have e:(4:Nat)^4=256:=by decide
  omega
 have f:=h.ph _ hr hs hb;have y:=gZf hr.2 s.equations;have h4:=gZf hr.2 xs;omega
theorem hVf{r:List UInt8→Nat}:∀{t:gB},t.kind=1→t.args=[]→hg r t=r t.name
 | ⟨k,n,ts⟩,c,f=>by
   simp only at c f;subst c;subst f;simp [hg,hgs]
section
variable {w:gI} {k:Int} (hw:gOw w k) (hi:gYe w) {wh:List gY} (hwh:gNl wh) (hwl:wh.length≤1000) {fs:List gU} (hf:pQ w wh=some fs) (hF:FV fs) {V:List (List UInt8)} (hV:V.length≤5) {B:Nat} (hB:B≤200000)
include hw hi hwh hwl hf hF hV hB
theorem hPt{s:gJ}{x:jB}{xs:List jB}(h:PS V B s (x::xs)):∃c,pG 5000 w wh s x.a x.b 40=some c∧Out V s c∧PS V B c xs∧∀r,Rok r→Slv r c.bindings→(∀v,r v≤30)→gC6 5000 s.next s.count s.node s.bindings s.equations s.obligations s.code s.at_ ⟨w,fs⟩ x.a x.b 0=some (c.code,c.at_,c.bindings,c.equations):=by
 obtain⟨⟨a1,a2⟩,b1,b2⟩:=h.eq x (by simp);have hlen:=h.len hV;have hk:=hNi;have h6:KQ*(40+1)*(6 - s.bindings.length)≤KQ*(40+1)*6:=Nat.mul_le_mul_left _ (by omega);rw [hk] at h6;obtain⟨c,q1,_,_⟩:=hKm hw hwh hwl hV 40 5000 (by omega) (by omega) s x.a x.b h.inv a1 b1 (by omega) (by omega) (by rw [hk];omega);obtain⟨o,i,f⟩:=agree hw hi hf hF hV 40 5000 5000 s c x.a x.b (by omega) (by omega) q1 h.inv a1 b1 (by omega) (by omega);obtain⟨l,e⟩:=o.ext;have pre1:∀r,Slw r c.bindings→Slw r s.bindings:=fun r hs=>by rw [e] at hs;exact hs.pre
 have pre2:∀r,Slv r c.bindings→Slv r s.bindings:=fun r hs=>by rw [e] at hs;exact hs.pre
 have hgl:∀r,Rok r→Slv r c.bindings→(∀v,r v≤30)→gC6 5000 s.next s.count s.node s.bindings s.equations s.obligations s.code s.at_ ⟨w,fs⟩ x.a x.b 0=some (c.code,c.at_,c.bindings,c.equations):=fun r hr hs hb=>by
  obtain⟨g1,y⟩:=h.hs r hr (pre2 r hs);obtain⟨g3,g4⟩:=y x (by simp);refine(i r hr hs g1 g3 g4).2 ?_;have c1:=hP5 fs x.a;have c2:=hP5 fs x.b
  have:hg r x.a≤34:=by
   rcases gWp g3 with ⟨k1,k2⟩ | ⟨_,k2 | ⟨v,_,k2⟩⟩
   ·have e1:=hVf (r:=r) k1 k2
    have:=hb x.a.name
    omega
   ·omega
   ·have:=hb v
    omega
  omega
 refine⟨c,q1,o,⟨o.inv,fun q hq=>h.eq q (by simp [hq]),fun r hr hs=>?_,fun r hr hs hb=>?_,fun r hr hs=>?_⟩,hgl⟩
 ·obtain⟨g1,y⟩:=h.hz r hr (pre1 r hs);obtain⟨g3,g4⟩:=y x (by simp);exact⟨(f r hr hs g1 g3 g4).1,fun q hq=>y q (by simp [hq])⟩
 ·obtain⟨g1,y⟩:=h.hz r hr (pre1 r hs);obtain⟨g3,g4⟩:=y x (by simp);have g5:=(f r hr hs g1 g3 g4).2;have g6:=h.ph r hr (pre1 r hs) hb;simp only [phs] at g6;omega
 ·obtain⟨g1,y⟩:=h.hs r hr (pre2 r hs);obtain⟨g3,g4⟩:=y x (by simp);exact⟨(i r hr hs g1 g3 g4).1,fun q hq=>y q (by simp [hq])⟩
end
end Go.Proofs.YtegahmhnmjnhhaaGreat
