import Derived.Test.YtfpdlnkkcnmebaaGreatP9
set_option maxHeartbeats 4000000
set_option linter.unusedVariables false
set_option linter.unusedSimpArgs false
set_option linter.unusedSectionVars false
namespace Go.Proofs.YtfpdlnkkcnmebaaGreat
open Go Go.Eng
attribute [local irreducible] V VO VQ VY Quiet QR jI mK Rng qE qA pX
theorem gYo:∀(steps:List Int)(k n p q:Int)(az:List gH)(j:Nat),EvA j ⟨k,n,⟨p,q⟩,az⟩→∃r,qQ steps k n p q az=some r∧EvA (j+steps.length) r
 | [],k,n,p,q,az,j,h=>⟨_,rfl,h⟩
 | x::xs,k,n,p,q,az,j,h=>by
   obtain⟨r,f,y⟩:=gYo xs 3 x 0 0 [⟨k,n,⟨p,q⟩,az⟩] (j+1) ⟨by simp,by simpa using h⟩;exact⟨r,f,y.more (by simp only [List.length_cons];omega)⟩
theorem hG8(k n:Int)(a:gD)(steps:List Int):wI ⟨k,n,a,[]⟩ steps=qQ steps k n a.package a.at_ []:=rfl
theorem gSu(k n:Int)(a:gD):EvA 1 ⟨k,n,a,[]⟩:=⟨by simp,by simp⟩
theorem hCe(g:gP):∀(l:List gX)(k:Nat),qV g l k≥0→∃(j:Nat)(a:gX),qV g l k=((k+j:Nat):Int)∧l[j]? =some a
 | [],k,h=>by simp [qV] at h
 | x::l,k,h=>by
   rw [qV] at h ⊢;cases hc:gGe x.goal g with
   | true=>exact⟨0,x,rfl,rfl⟩
   | false=>
     rw [hc,gW] at h;obtain⟨j,a,f,q⟩:=hCe g l (k+1) h;exact⟨j+1,a,by rw [gW,f];congr 1;omega,q⟩
theorem hLv{l:List gX}{g:gP}(h:mQ l g≥0):∃a,at? l (mQ l g)=some a∧a∈l:=by
 obtain⟨j,a,f,q⟩:=hCe g l 0 h;refine⟨a,?_,List.mem_of_getElem? q⟩;have f:mQ l g=((0+j:Nat):Int):=f;rw [f,gA4,Nat.zero_add,q]
theorem hCf{n:LB}{y:Nat}{z:kG × Int × Bool}(hz:DK z.1):∀(l:List kG),(∀d∈l,DK d)→DK (gAn n y z l).1
 | [],_=>hz
 | d::l,h=>by
   rw [gAn];cases d.name==n with
   | true=>exact h d (by simp)
   | false=>exact hCf hz l fun e he=>h e (by simp [he])
theorem hCg{n:LB}:∀(l:List jZ)(y:Nat),(∀p∈l,PK p)→DK (wJ n l y).1
 | [],_,_=>fun c hc=>by simp [wJ] at hc
 | p::l,y,h=>by
   rw [wJ];exact hCf (hCg l (y+1) fun q hq=>h q (by simp [hq])) _ (h p (by simp)).2
section
variable {w:gM}(hw:WD w)
include hw
theorem hCh{rec:gM→List gX→gP→List gB→Option Int}{facts:List gX}{g:gP}{op:List gB}{l:List gU}(hr:∀t,tok t→∃c,rec w facts ⟨g.trait,t⟩ (([]++op)++[g.type_])=some c)(hl:bok l){k:Option Int}(hk:∃c,k=some c):∀(xs:List gB),(∀t∈xs,tok t)→∃c,gB9 rec w facts g op l k xs=some c
 | [],_=>hk
 | x::xs,h=>by
   have hx:=h x (by simp);obtain⟨c,hc⟩:=hr _ (gUx hl x hx);rw [gB9,qN ⟨hl,hx⟩];simp only [lt_];rw [jV hc];cases (c != 0)with
   | true=>exact⟨_,rfl⟩
   | false=>exact hCh hr hl hk xs fun t ht=>h t (by simp [ht])
theorem hCi{rec:gM→List gX→gP→List gB→Option Int}{facts:List gX}{g:gP}{op:List gB}{l:List gU}(hr:∀t,tok t→∃c,rec w facts ⟨g.trait,t⟩ (([]++op)++[g.type_])=some c)(hl:bok l):∀(xs:List jC),(∀c∈xs,∀f∈c.fields,tok f)→∃c,gA0 rec w facts g op l xs=some c
 | [],_=>⟨_,rfl⟩
 | x::xs,h=>by
   rw [gA0];exact hCh hw hr hl (hCi hr hl xs fun c hc=>h c (by simp [hc])) _ (h x (by simp))
theorem hCk{rec:gM→List gX→gP→List gB→Option Int}{facts:List gX}{g:gP}{op:List gB}(hr:∀t,tok t→∃c,rec w facts ⟨g.trait,t⟩ (([]++op)++[g.type_])=some c)(hop:op.length≤100)(hg:tok g.type_){d:kG × Int × Bool}(hd:DK d.1):∀(xs:LS)(k:Nat)(l:List gU),bok l→l.length=k→k+xs.length=g.type_.args.length→∃c,gA1 rec w facts g op d xs k l=some c
 | [],k,l,hl,_,_=>by
   rw [gA1,qN (by simp;omega),qN (by simp;omega)];exact hCi hw hr hl _ hd
 | x::xs,k,l,hl,hk,hn=>by
   simp only [List.length_cons] at hn;obtain⟨⟨a,b,ts⟩,he⟩:∃t,g.type_=t:=⟨_,rfl⟩
   have hts:ts.length≤4294967296:=by rw [he] at hg;exact hg.1
   rw [he] at hn;have hn:k+(xs.length+1)=ts.length:=hn;have ha:at? g.type_.args (k:Int)=some (ts[k]'(by omega)):=by rw [he,gA4];exact List.getElem?_eq_getElem _
   have ht:tok (ts[k]'(by omega)):=by rw [he] at hg;exact hLx _ hg _ (List.getElem_mem (by omega:k < ts.length))
   rw [gA1,jV ha,qN (by simp;omega)];refine hCk hr hop hg hd xs (k+1) _ (fun b hb=>?_) (by simp;omega) (by rw [he];show k+1+xs.length=ts.length;omega);rcases List.mem_append.1 hb with hb | hb
   ·exact hl b hb
   ·obtain rfl:=List.mem_singleton.1 hb;exact ht
theorem hCl{rec:gM→List gX→gP→List gB→Option Int}{facts:List gX}{g:gP}{op:List gB}(hr:op.length≤30→∀t,tok t→∃c,rec w facts ⟨g.trait,t⟩ (([]++op)++[g.type_])=some c)(hg:tok g.type_):∀(xs:List gB),∃c,gA2 rec w facts g op xs=some c
 | []=>by
   rw [gA2];simp only [lt_];cases f:cnd (g.type_.kind != 2) true (cnd (!(zS w g.type_.name).2.2) true (((zS w g.type_.name).1.vars.length:Int) !=(g.type_.args.length:Int)))with
   | true=>exact⟨_,rfl⟩
   | false=>
     simp only [gW];have hv:(zS w g.type_.name).1.vars.length=g.type_.args.length:=by
      cases h:(g.type_.kind != 2)with
      | true=>rw [h] at f;cases f
      | false=>
        rw [h,gW] at f;cases q:(zS w g.type_.name).2.2 with
        | false=>rw [q] at f;cases f
        | true=>
          rw [q] at f
          have:((zS w g.type_.name).1.vars.length:Int)=(g.type_.args.length:Int):=by simpa [cnd] using f
          omega
     cases h:cnd (decide ((op.length:Int) > 30)) true (decide (tsz g.type_ > 400))with
     | true=>exact⟨_,rfl⟩
     | false=>
       simp only [gW];have ho:op.length≤30:=by
        by_cases q:(op.length:Int) > 30
        ·rw [decide_eq_true q] at h;cases h
        ·omega
       exact hCk hw (hr ho) (by omega) hg (hCg w.packages 0 hw.pk) _ 0 [] (fun b hb=>by simp at hb) rfl (by omega)
 | x::xs=>by
   rw [gA2];cases teq x g.type_ with
   | true=>exact⟨_,rfl⟩
   | false=>exact hCl hr hg xs
theorem gYp(facts:List gX):∀(n:Nat)(g:gP)(op:List gB),33≤op.length+n→op.length≤31→tok g.type_→∃c,gKq n w facts g op=some c
 | 0,_,_,f,h,_=>by omega
 | n+1,g,op,f,h,hg=>by
   rw [gKq];unfold gNb;simp only [lt_];cases cnd (g.type_.kind==2) (cnd (gJ1 g.type_.name) true (decide (mQ facts g≥0))) (decide (mQ facts g≥0))with
   | true=>exact⟨_,rfl⟩
   | false=>
     simp only [gW];exact hCl hw (fun ho t ht=>gYp facts n _ _ (by simp;omega) (by simp;omega) ht) hg op
def KK(B:Nat)(d:gG):Prop:=W (jH d)≤B∧d.kind≠1
omit hw in
theorem hOj{d:gG}(x:Int){B:Nat}(hB:B≤4000)(hd:KK B d):∃r,(∀n,1≤n→kK n w d x=some r)∧KK (B+1) r.1:=by
 have hz:KK (B+1) gE4:=⟨Nat.zero_le _,by decide⟩
 by_cases hx:x < 0
 ·refine⟨(gE4,false),fun n hn=>?_,hz⟩;obtain⟨n,rfl⟩:∃m,n=m+1:=⟨n - 1,by omega⟩
  rw [kK];unfold mV;rw [decide_eq_true hx];rfl
 by_cases f:d.kind=2
 ·have hW:=hd.1;obtain⟨k,a,s,az⟩:=d;have f:k=2:=f;subst f;rw [gLq] at hW;refine⟨(⟨2,a,s++[x],az⟩,true),fun n hn=>?_,?_,(show(2:Int)≠1 by decide)⟩
  ·obtain⟨n,rfl⟩:∃m,n=m+1:=⟨n - 1,by omega⟩
   rw [kK];unfold mV;rw [decide_eq_false hx,show((2:Int)==2)=true from rfl];simp only [gW,jQ,lt_,idX];rw [qN (by rw [gLq];omega)];exact qN (c:=s.length+[x].length≤4294967296) (by simp;omega)
  ·rw [gLq,List.length_append,List.length_singleton];omega
 ·refine⟨(gE4,false),fun n hn=>?_,hz⟩;obtain⟨n,rfl⟩:∃m,n=m+1:=⟨n - 1,by omega⟩
  rw [kK];unfold mV;rw [decide_eq_false hx,show(d.kind==2)=false by simpa using f,show(d.kind==1)=false by simpa using hd.2];rfl
def EZ(w:gM)(d:Nat)(e:gH):Prop:=∃r,(∀n,30+d≤n→mW n w [] e=some r)∧W (jH r.1)+4≤12*4^d
omit hw in
theorem hJ9:∀(steps:List Int)(k n p q:Int)(az:List gH)(B:Nat),B+steps.length≤8→(∃r,(∀m,10+B≤m→mW m w [] ⟨k,n,⟨p,q⟩,az⟩=some r)∧KK B r.1)→∃e,qQ steps k n p q az=some e∧EZ w 0 e
 | [],k,n,p,q,az,B,hB,h=>by
   obtain⟨r,f,r2⟩:=h;simp only [List.length_nil] at hB;exact⟨_,rfl,r,fun m hm=>f m (by omega),by have:=r2.1;omega⟩
 | x::xs,k,n,p,q,az,B,hB,h=>by
   obtain⟨r,f,r2⟩:=h;simp only [List.length_cons] at hB;refine hJ9 xs 3 x 0 0 [⟨k,n,⟨p,q⟩,az⟩] (B+1) (by omega) ?_;have go:∀{q':gG × Bool},(∀m,10+B≤m→cnd r.2 (bnd (kK m w r.1 x) fun y=>some (y.1,y.2)) (some (gE4,false))=some q')→∀m,10+(B+1)≤m→mW m w [] ⟨3,x,⟨0,0⟩,[⟨k,n,⟨p,q⟩,az⟩]⟩=some q':=fun hq m hm=>by
    obtain⟨m,rfl⟩:∃j,m=j+1:=⟨m - 1,by omega⟩
    have e1:=f m (by omega);rw [mW];unfold qX;rw [show ((3:Int)==2)=false from rfl,show((3:Int)==1)=false from rfl,show((3:Int)==3)=true from rfl];simp only [gW,jQ];show cnd true (bnd (mW m w [] _) _) _=_;rw [jQ,jV e1];exact hq m (by omega)
   cases hr:r.2 with
   | false=>exact⟨(gE4,false),go fun m _=>by rw [hr];rfl,Nat.zero_le _,by decide⟩
   | true=>
     obtain⟨q',q1,q2⟩:=hOj (w:=w) x (by omega) r2;exact⟨q',go fun m hm=>by rw [hr,jQ,jV (q1 m (by omega))],q2⟩
omit hw in
theorem hCm{k n:Int}{a:gD}(hk:k=0∨k=5)(d:Nat):EZ w d ⟨k,n,a,[]⟩:=by
 have hp:1≤4^d:=Nat.one_le_pow _ _ (by omega);rcases hk with rfl | rfl
 ·refine⟨(gE4,false),fun m hm=>?_,by show W (jH gE4)+4≤_;rw [Wz];omega⟩;obtain⟨m,rfl⟩:∃j,m=j+1:=⟨m - 1,by omega⟩
  rfl
 ·refine⟨(⟨3,⟨0,0⟩,[],[]⟩,true),fun m hm=>?_,by have:W (jH ⟨3,⟨0,0⟩,[],[]⟩)=0:=rfl;simp only [this];omega⟩;obtain⟨m,rfl⟩:∃j,m=j+1:=⟨m - 1,by omega⟩
  rfl
omit hw in
theorem EZ.more{d d':Nat}{e:gH}(h:EZ w d e)(hd:d≤d'):EZ w d' e:=by
 obtain⟨r,f,q⟩:=h
 have:=Nat.pow_le_pow_right (show 0 < 4 by omega) hd
 exact⟨r,fun n hn=>f n (by omega),by omega⟩
omit hw in
theorem hCn:∀(l:List gG)(a:gG),jJ (l++[a])=jJ l++[jH a]
 | [],_=>rfl
 | b::l,a=>by simp [jJ,hCn l a]
omit hw in
theorem hKd(e:gH){d M:Nat}(hM:M+4=12*4^d):∀(xs:List gH)(acc:List gG),(∀a∈xs,EZ w d a)→acc.length+xs.length≤4→∃r,(∀n,30+d≤n→qH (mW n) w [] e xs acc=some r)∧W (jH r.1)≤4+(Ws (jJ acc)+xs.length*M)
 | [],acc,_,hl=>by
   refine⟨(⟨1,e.at_,[],acc⟩,true),fun n _=>rfl,?_⟩;rw [gLq];simp only [List.length_nil] at hl ⊢;omega
 | a::xs,acc,h,hl=>by
   obtain⟨r,f,h2⟩:=h a (by simp);simp only [List.length_cons] at hl ⊢;cases hr:r.2 with
   | false=>
     refine⟨(gE4,false),fun n hn=>?_,by show W (jH gE4)≤_;rw [Wz];omega⟩;rw [qH,jV (f n hn),hr];rfl
   | true=>
     obtain⟨q,y,q2⟩:=hKd e hM xs (acc++[r.1]) (fun b hb=>h b (by simp [hb])) (by simp;omega);have e1:Ws (jJ (acc++[r.1]))=Ws (jJ acc)+W (jH r.1):=by
      rw [hCn,gVe];simp [Ws]
     refine⟨q,fun n hn=>?_,?_⟩
     ·rw [qH,jV (f n hn),hr];simp only [Bool.not_true,gW];rw [qN (by simp;omega)];exact y n hn
     ·rw [e1] at q2;rw [Nat.succ_mul];omega
structure GJ (k:Nat)(t:gB):Prop where
 tok:tok t
 dy:dyS t
 sz:tnd t≤16*5^k
 ed:ed t≤16+5*k
omit hw in
theorem GJ.args{k:Nat}{t:gB}(h:GJ k t):∀u∈t.args,GJ k u:=fun u hu=>by
 have f:=h.tok;have q:=h.dy;have y:=h.sz;have h4:=h.ed;obtain⟨a,n,ts⟩:=t;have hu:u∈ts:=hu;have e1:=gX0 hu;have e2:=gHt hu;simp only [tnd] at y;simp only [Go.Proofs.YtfpdlnkkcnmebaaGreat.ed] at h4;exact⟨hLx _ f u hu,gP6.1 q.2 u hu,by omega,by omega⟩
def SF(l:List gX):Prop:=∀a∈l,a.steps.length≤6
theorem hCo(n:LB):∃p,qW w gFj n=some p∧p.1=[]:=by
 obtain⟨b,rest,hC⟩:=hw.core;have hT:TrB w gFj []:=by rw [hC];exact gRx (hFk b rest)
 unfold qW;rw [show gG3 5000 w gFj n 8=gJj (gG3 4999) w gFj n 8 4999 from rfl];unfold gJj;cases (gFj==n)with
 | true=>exact⟨_,rfl,rfl⟩
 | false=>
   simp only [gW,lt_]
   rw [show gDb (gG3 4999) w n 8 (uJ w gFj) 4999 0=some ([],false)from by
    rw [show (4999:Nat)=4998+1 from rfl,gDb,hT.s]
    rfl]
   exact⟨_,rfl,rfl⟩
variable {all:List gD}(hS:SW w all)
include hS
theorem hCp{facts:List gX}{d k n:Nat}(hk:d+k+1=12)(ih:∀(g:gP),GJ (k+1) g.type_→∃r,vK n w facts g (d:Int)=some r∧EvA (10+d) r.1∧(facts=[]→EZ w d r.1)){o:gD}{l:List gU}(hl:∀b∈l,GJ k b.type_) :
  ∀(bs:List gP)(acc:List gH),(∀b∈bs,tok b.type_∧dyS b.type_∧tnd b.type_≤5)→acc.length+bs.length≤4→(∀a∈acc,EvA (10+d) a∧(facts=[]→EZ w d a))→
  ∃r,zX (vK n) w facts ((d+1:Nat):Int) (o,0) (l,true) bs acc=some r∧(r.1=⟨0,0,⟨0,0⟩,[]⟩∨∃es,r.1=⟨1,0,o,es⟩∧es.length≤4∧∀a∈es,EvA (10+d) a∧(facts=[]→EZ w d a))
 | [],acc,_,ha,hA=>⟨_,rfl,.inr ⟨acc,rfl,by simpa using ha,hA⟩⟩
 | b::bs,acc,h,ha,hA=>by
   obtain⟨f,q,y⟩:=h b (by simp);simp only [List.length_cons] at ha;have hb:bok l:=fun c hc=>(hl c hc).tok;have hpow:1≤5^k:=Nat.one_le_pow _ _ (by omega);have hbn:hP9 (16*5^k) l:=⟨by omega,fun c hc=>(hl c hc).sz⟩
   have hg:GJ (k+1) (apT l b.type_):=by
    refine⟨gUx hb _ f,hFy (fun c hc=>(hl c hc).dy) _ q,?_,?_⟩
    ·have e1:=gYf hbn b.type_;have e2:16*5^k*tnd b.type_≤16*5^k*5:=Nat.mul_le_mul_left _ y;rw [Nat.pow_succ];omega
    ·have e1:=hNn (fun c hc=>(hl c hc).ed) b.type_;have e2:=gZs b.type_;omega
   obtain⟨r,r1,r2,r3⟩:=ih ⟨b.trait,apT l b.type_⟩ hg;have w1:IntKind.i64.wrap (((d+1:Nat):Int) - 1)=(d:Int):=by rw [zV _ (by omega) (by omega)];omega
   rw [zX,qN ⟨hb,f⟩];simp only [lt_];rw [w1,jV r1];cases hc:(r.2 != 0)with
   | true=>exact⟨_,rfl,.inl rfl⟩
   | false=>
     simp only [gW];rw [qN (by simp;omega)];refine hCp hk ih hl bs (acc++[r.1]) (fun c hc=>h c (by simp [hc])) (by simp;omega) (fun a ha=>?_);rcases List.mem_append.1 ha with ha | ha
     ·exact hA a ha
     ·obtain rfl:=List.mem_singleton.1 ha;exact⟨r2,r3⟩
theorem hCq{facts:List gX}(hF:SF facts):∀(d k n:Nat)(g:gP),d+k=12→2*d+2≤n→GJ k g.type_→∃r,vK n w facts g (d:Int)=some r∧EvA (10+d) r.1∧(facts=[]→EZ w d r.1):=by
 have hzero:∀(c:Int)(d:Nat),EvA (10+d) ((⟨0,0,⟨0,0⟩,[]⟩:gH),c).1∧(facts=[]→EZ w d ((⟨0,0,⟨0,0⟩,[]⟩:gH),c).1):=fun c d=>⟨(gSu _ _ _).more (by omega),fun _=>hCm (.inl rfl) d⟩
 have hfound:∀(d:Nat)(g:gP),decide (mQ facts g≥0)=true→∃r,(bnd (at? facts (mQ facts g)) fun x2=>bnd (wI ⟨2,x2.from_,⟨0,0⟩,[]⟩ x2.steps) fun x3=>some (x3,(0:Int)))=some r∧EvA (10+d) r.1∧(facts=[]→EZ w d r.1):=fun d g h=>by
  obtain⟨a,a1,a2⟩:=hLv (of_decide_eq_true h);obtain⟨r,r1,f⟩:=gYo a.steps 2 a.from_ 0 0 [] 1 (gSu _ _ _)
  have:=hF a a2
  rw [jV a1,hG8,jV r1];exact⟨_,rfl,f.more (by omega),fun h=>by rw [h] at a2;simp at a2⟩
 intro d
 induction d with
 | zero=>
   intro k n g hk hn hg;obtain⟨n,rfl⟩:∃i,n=i+1:=⟨n - 1,by omega⟩
   rw [vK];unfold gE7;cases hf:decide (mQ facts g≥0)with
   | true=>simp only [jQ];exact hfound 0 g hf
   | false=>exact⟨_,rfl,hzero _ 0⟩
 | succ d ih=>
   intro k n g hk hn hg;obtain⟨n,rfl⟩:∃i,n=i+2:=⟨n - 2,by omega⟩
   have hpow:5^k≤5^12:=Nat.pow_le_pow_right (by omega) (by omega);have hp12:(5:Nat)^12=244140625:=by decide
   have hs:=hg.sz;have hd:=hg.ed;have sg:=hFb hS.toWI (g:=g) hg.tok (hLf (t:=g.type_) (by omega) (by omega));have key:∃r,gG5 (n+1) w facts g ((d+1:Nat):Int)=some r∧EvA (10+(d+1)) r.1∧(facts=[]→EZ w (d+1) r.1):=by
    rw [gG5];unfold gKs;rw [jV sg];cases hc:((hA4 w all (grT g.type_) g).2 != 0)with
    | true=>exact⟨_,rfl,hzero _ (d+1)⟩
    | false=>
      have hc0:(hA4 w all (grT g.type_) g).2=0:=by simpa using hc
      obtain⟨o,ho⟩:∃o,hA4 w all (grT g.type_) g=(o,0):=⟨(hA4 w all (grT g.type_) g).1,by rw [←hc0]⟩
      obtain⟨oa,i,l,i1,i2,i3⟩:=hFc ho;obtain⟨j,j1,j2,j3⟩:=hS.look o oa;obtain rfl:i=j:=Option.some.inj (i1.symm.trans j1);obtain⟨w1,w2⟩:=(hw.look i1).wh;obtain⟨p,a1,a2⟩:=gLk i1;have hl:∀b∈l,GJ k b.type_:=(gQu (Q:=GJ k) (fun x hx y hy=>hx.args y hy) i.head g.type_ [] l hg (fun b hb=>by simp at hb) i3).1;rw [ho];simp only [gW];rw [jV a1,jV a2,gOv i.head g.type_ j3 hg.tok,i3];simp only [bnd];obtain⟨r,r1,f⟩:=hCp hw hS (facts:=facts) (d:=d) (k:=k) (n:=n) (by omega) (fun g' h2=>ih (k+1) n g' (by omega) (by omega) h2) (o:=o) hl i.where_ [] w2 (by simpa using w1) (by simp);refine⟨r,r1,?_⟩;rcases f with f | ⟨es,f,e1,e2⟩
      ·rw [f];exact hzero 0 (d+1)
      ·rw [f];refine⟨⟨by show es.length≤100;omega,fun a ha=>(e2 a ha).1⟩,fun hf=>?_⟩;have hp:1≤4^d:=Nat.one_le_pow _ _ (by omega);obtain⟨q,q1,q2⟩:=hKd (w:=w) ⟨1,0,o,es⟩ (d:=d) (M:=12*4^d - 4) (by omega) es [] (fun a ha=>(e2 a ha).2 hf) (by simpa using e1);refine⟨q,fun m hm=>?_,?_⟩
       ·obtain⟨m,rfl⟩:∃i,m=i+1:=⟨m - 1,by omega⟩
        rw [mW];exact q1 m (by omega)
       ·have e3:es.length*(12*4^d - 4)≤4*(12*4^d - 4):=Nat.mul_le_mul_right _ e1;have e4:Ws (jJ [])=0:=rfl;rw [Nat.pow_succ];omega
   obtain⟨r,k1,k3⟩:=key;rw [vK];unfold gE7;cases hf:decide (mQ facts g≥0)with
   | true=>simp only [jQ];exact hfound (d+1) g hf
   | false=>
     simp only [gW];rw [show decide (((d+1:Nat):Int)≤0)=false from decide_eq_false (by omega)];simp only [gW,lt_];cases (uJ w g.trait).1.auto with
     | true=>
       obtain⟨c,hc⟩:=gYp hw facts 5000 g [] (by simp) (by simp) hg.tok;simp only [jQ];rw [jV hc];cases (c != 0)with
       | true=>exact⟨_,rfl,hzero _ (d+1)⟩
       | false=>exact⟨_,rfl,(gSu _ _ _).more (by omega),fun _=>hCm (.inr rfl) _⟩
     | false=>
       simp only [gW];cases h1:cnd (g.type_.kind==1) true (g.type_.kind==3)with
       | true=>exact⟨_,rfl,hzero _ (d+1)⟩
       | false=>
         simp only [gW];cases h4:(g.type_.kind==4)with
         | true=>
           have hn:g.type_.name=gFj:=gZt hg.dy h4;obtain⟨⟨p,ok⟩,p1,p2⟩:=hCo hw g.trait;obtain rfl:p=[]:=p2;simp only [jQ];rw [hn,jV p1];cases ok with
           | true=>
             refine⟨(⟨4,0,⟨0,0⟩,[]⟩,0),rfl,(gSu _ _ _).more (by omega),fun _=>?_⟩
             obtain⟨e,e1,e2⟩:=hJ9 (w:=w) [] 4 0 0 0 [] 0 (by simp) ⟨(⟨2,⟨0,0⟩,[],[]⟩,true),fun m hm=>by obtain⟨m,rfl⟩:∃j,m=j+1:=⟨m - 1,by omega⟩
                                                                                                        rfl,by rw [KK,gLq];simp [jJ,Ws]⟩
             cases e1;exact e2.more (by omega)
           | false=>
             simp only [gW];rw [k1];exact⟨_,rfl,k3⟩
         | false=>
           simp only [gW];rw [k1];exact⟨_,rfl,k3⟩
end
def gKw(c:gK)(a1:gM):Option (gG × gK):=
bnd (uS c 6) fun h=>
(cnd h.1 (
bnd (kW h.2 5) fun y=>
bnd (kW y.2 3) fun f=>
gd (0≤f.1∧f.1≤(([0,1]:List Int).length:Int)) (
(some ((gG.mk y.1 (gD.mk 0 0) (([0,1]:List Int).take (Int.toNat f.1)) []),f.2)))) (
bnd (gI5 h.2) fun q=>
bnd (gGv a1 [] q.1) fun x7=>
bnd (mW 5000 a1 [] x7.1) fun x8=>
(cnd (x7.2 != 0) (
(some ((gG.mk 1 (gD.mk 0 8) [] []),q.2))) (
(some (x8.1,q.2))))))
theorem hCr(c:gK)(a1:gM){r:gG × gK}(h:gKw c a1=some r):Go.Eng.Spec Tryz.prog 33 [.ptr 0 0,.d (mD a1)] [bCu c.b c.i c.h] (fun sv Lo=>sv=.d (jH r.1)∧Lo=[bCu r.2.b r.2.i r.2.h]):=by
 obtain⟨ba,bb,bc⟩:=c;obtain⟨a5⟩:=a1;unfold gKw at h;refine kJ 1 Tryz.func33 rfl (by kernel_rfl) rfl rfl fun A _=>?_;refine goL ?_;obtain⟨⟨bi,⟨f,y,aa⟩⟩,bd,h⟩:=gJ h;refine mI 0 (wB (gK.mk ba bb bc) 6 bd) ?_;refine goC h ?_ ?_<;>intro c2 h
 ·refine goL ?_;obtain⟨⟨a6,⟨ai,aj,ak⟩⟩,be,h⟩:=gJ h;refine mI 0 (mH (gK.mk f y aa) 5 be) ?_;refine yQ (us:=vM ([0,1]:List Int)) ?_;refine goL ?_;obtain⟨⟨a7,⟨al,am,an⟩⟩,bf,h⟩:=gJ h;refine mI 0 (mH (gK.mk ai aj ak) 3 bf) ?_;obtain⟨g5,h⟩:=pU h;refine hEu g5 ?_;refine yT (jN TBd.h TZ.h rfl (by repeat constructor)) ?_;refine gV 3 rfl rfl ?_;refine jF ?_;obtain rfl:=Option.some.inj h;exact gB5 [.d (.st [.i .i64 a6,.st [.i .i64 0,.i .i64 0],.sl 1 (vM (([0,1]:List Int).take (Int.toNat a7))),.sl 5 []])] [bCu al am an] ⟨rfl,rfl⟩
 ·refine noS ?_;obtain⟨⟨⟨a9,⟨a0,a3,a4⟩⟩,⟨ao,ap,aq⟩⟩,ah,h⟩:=gJ h;obtain⟨⟨⟨ar,au,⟨ab,ac⟩,av⟩,a8⟩,ad,h⟩:=gJ h;refine uC (P:=Tryz.prog) Mix.h (.q 1 (.h 0 (.h 2 (q3T 3 (.q 6 (hcT 7 (hcT 8 (.q 9 .nil))))) (hcT 7 (hcT 2 (q3T 3 (.q 6 (hcT 8 (.q 9 .nil))))))) (.h 2 (.h 0 (q3T 3 (.q 6 (hcT 7 (hcT 8 (.q 9 .nil))))) (hcT 7 (hcT 0 (q3T 3 (.q 6 (hcT 8 (.q 9 .nil))))))) (hcT 7 (.h 0 (hcT 2 (q3T 3 (.q 6 (hcT 8 (.q 9 .nil))))) (hcT 2 (hcT 0 (q3T 3 (.q 6 (hcT 8 (.q 9 .nil))))))))))) ⟨[(3,.ptr 1 0),(4,.ptr 2 0),(5,.ptr 3 0),(6,.I a8)],[bCu ao ap aq,bPr a5,.box [.I 0,.I 0,.I 0,.nilsl,.nilsl],.box [.I ar,.I au,.I ab,.I ac,.L 5 (jE av)]],Tryz.f33.ntmps⟩ (by kernel_rfl) ?_ ?_
  ·refine mU ?_;refine uD (kF gZ) ?_ ?_
   ·refine uD (qU 0 (gI6 (gK.mk f y aa) ah) gZ) ?_ ?_
    ·refine gGt (jW rfl (gI (gIi _ _ _ ad)) gZ) ?_;refine mU ?_;refine jL ?_;exact pQ 1 [0,1,2,3]
    refine mU ?_;refine gQ (qU 0 (gI6 (gK.mk f y aa) ah) gZ) ?_;refine gGt (jW rfl (gI (gIi _ _ _ ad)) gZ) ?_;refine mU ?_;refine jL ?_;exact pQ 1 [0,1,2,3]
   refine uD (qU 0 (gI6 (gK.mk f y aa) ah) gZ) ?_ ?_
   ·refine uD (kF gZ) ?_ ?_
    ·refine gGt (jW rfl (gI (gIi _ _ _ ad)) gZ) ?_;refine mU ?_;refine jL ?_;exact pQ 1 [0,1,2,3]
    refine mU ?_;refine gQ (kF gZ) ?_;refine gGt (jW rfl (gI (gIi _ _ _ ad)) gZ) ?_;refine mU ?_;refine jL ?_;exact pQ 1 [0,1,2,3]
   refine mU ?_;refine uD (kF gZ) ?_ ?_
   ·refine gQ (qU 0 (gI6 (gK.mk f y aa) ah) gZ) ?_;refine gGt (jW rfl (gI (gIi _ _ _ ad)) gZ) ?_;refine mU ?_;refine jL ?_;exact pQ 1 [0,1,2,3]
   refine gQ (qU 0 (gI6 (gK.mk f y aa) ah) gZ) ?_;refine gQ (kF gZ) ?_;refine gGt (jW rfl (gI (gIi _ _ _ ad)) gZ) ?_;refine mU ?_;refine jL ?_;exact pQ 1 [0,1,2,3]
  refine goL ?_;obtain⟨⟨⟨aw,⟨ae,ag⟩,ax,ay⟩,bj⟩,bg,h⟩:=gJ h;refine jP (gI (gLp _ _ _ _ bg)) ?_;refine mR (fun c9=>?_) (fun c9=>?_)
  ·replace h:=kU c9 h;refine goL ?_;refine vP (jN TBd.h TZ.h rfl (by repeat constructor)) ?_;refine yT (jN TBd.h TZ.h rfl (by repeat constructor)) ?_;refine jF ?_;obtain rfl:=Option.some.inj h;exact gAg [.d (.st [.i .i64 1,.st [.i .i64 0,.i .i64 8],.sl 1 [],.sl 5 []])] _ ⟨rfl,rfl⟩
  ·replace h:=kV c9 h;refine goS ?_;refine jF ?_;obtain rfl:=Option.some.inj h;exact gAg [.d (.st [.i .i64 aw,.st [.i .i64 ae,.i .i64 ag],.sl 1 (vM ax),.sl 5 (jJ ay)])] _ ⟨rfl,rfl⟩
def gKx(q:LB):Option (gM × List gP × gP):=
lt_ (gHg q) fun y=>
bnd (gJd y) fun f=>
bnd (gSb f.2) fun h=>
bnd (gI5 h.2) fun x4=>
(some (f.1,h.1,x4.1))
theorem hCt(a0:LB){r:gM × List gP × gP}(h:gKx a0=some r):jI Tryz.prog 60 [.L 1 (gD6 a0)] [mD r.1,.sl 4 (kC r.2.1),yF r.2.2]:=by
 unfold gKx at h;refine SpI Tryz.func60 fun A _=>?_;refine goL ?_;obtain⟨⟨ad,ae,ag⟩,aq,h⟩:=uK h;have sx1:=gW5 a0;rw [aq] at sx1;refine gBz [] (sx1) ?_;rintro _ _ ⟨rfl,rfl⟩;show VO _ _ _ _ ⟨(_,.ptr 2 0)::_,[.box [.nilsl],.box [.S [],.I 0,.S [],.nilsl],bCu ad ae ag],_⟩ _;refine goL ?_;obtain⟨⟨⟨ak⟩,⟨f,q,y⟩⟩,ar,h⟩:=gJ h;refine mI 2 (hA6 (gK.mk ad ae ag) ar) ?_;refine goL ?_;obtain⟨⟨aw,⟨aa,ab,ac⟩⟩,au,h⟩:=gJ h;refine mI 2 (hBj (gK.mk f q y) au) ?_;refine goL ?_;obtain⟨⟨⟨al,⟨ah,ai,aj⟩⟩,⟨am,an,ao⟩⟩,av,h⟩:=gJ h;refine mI 2 (gI6 (gK.mk aa ab ac) av) ?_;exact goR h
end Go.Proofs.YtfpdlnkkcnmebaaGreat
