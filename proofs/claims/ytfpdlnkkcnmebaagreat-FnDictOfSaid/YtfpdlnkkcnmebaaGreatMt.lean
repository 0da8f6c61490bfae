import Derived.Test.YtfpdlnkkcnmebaaGreatB4
set_option maxHeartbeats 4000000
set_option linter.unusedVariables false
set_option linter.unusedSimpArgs false
set_option linter.unusedSectionVars false
namespace Go.Proofs.YtfpdlnkkcnmebaaGreat
open Go Go.Eng
attribute [local irreducible] V VO VQ VY Quiet QR jI mK Rng qE qA pX
def isB(b:UInt8):Bool:=gGo (b.toNat:Int)
mutual
def fmt:gF→LB
 | ⟨a,l⟩=>match a with
   | []=>40::(gTb l++[41])
   | b::a=>b::a
def gTb:List gF→LB
 | []=>[]
 | x::l=>fmt x++gD0 l
def gD0:List gF→LB
 | []=>[]
 | x::l=>32::(fmt x++gD0 l)
end
mutual
def wfx:gF→Bool
 | ⟨a,l⟩=>match a with
   | []=>hR9 l
   | b::a=>(b::a).all isB && l.isEmpty
def hR9:List gF→Bool
 | []=>true
 | x::l=>wfx x && hR9 l
end
mutual
def ndx:gF→Nat
 | ⟨_,l⟩=>1+gZn l
def gZn:List gF→Nat
 | []=>0
 | x::l=>ndx x+gZn l
end
mutual
def dpx:gF→Nat
 | ⟨a,l⟩=>match a with
   | []=>1+hN9 l
   | _::_=>0
def hN9:List gF→Nat
 | []=>0
 | x::l=>max (dpx x) (hN9 l)
end
theorem gEx{s:LB}{p:Nat}{b:UInt8}{t:LB}(h:s.drop p=b::t):at? s (p:Int)=some b∧s.drop (p+1)=t∧p < s.length:=by
 have hp:p < s.length:=by
  rcases Nat.lt_or_ge p s.length with f | f
  ·exact f
  ·rw [List.drop_eq_nil_of_le f] at h;cases h
 rw [List.drop_eq_getElem_cons hp] at h;simp only [List.cons.injEq] at h;exact⟨by rw [gA4,List.getElem?_eq_getElem hp,h.1],h.2,hp⟩
theorem gXw{m:Nat}(h:m≤4294967296):IntKind.i64.wrap ((m:Int)+1)=((m+1:Nat):Int):=by rw [zV _ (by omega) (by omega)];omega
def isW(b:UInt8):Bool:=b==32 || b==10
theorem hK9(b:UInt8):cnd ((b.toNat:Int)==32) (some true) (some ((b.toNat:Int)==10))=some (isW b):=by
 have f:((b.toNat:Int)==32)=(b==32):=Bool.eq_iff_iff.2 (by simp only [beq_iff_eq,←UInt8.toNat_inj];change _↔b.toNat=32;omega);have h:((b.toNat:Int)==10)=(b==10):=Bool.eq_iff_iff.2 (by simp only [beq_iff_eq,←UInt8.toNat_inj];change _↔b.toNat=10;omega);rw [f,h];unfold isW;cases b==32<;>rfl
theorem hNd{s:LB}{p:Nat}{b:UInt8}{t:LB}(h:s.drop p=b::t)(hb:isW b=true)(hl:s.length≤4294967296)(d z:Int)(y:Bool)(n:Nat)(c:wC)(hc:c.s=s):gAh c (n+1) (p:Int)=gAh c n ((p+1:Nat):Int):=by
 obtain⟨f,q,h3⟩:=gEx h;rw [gAh,hc,show decide ((p:Int) < (s.length:Int))=true from decide_eq_true (by omega)];simp only [jQ,f,bnd,hK9,hb];rw [gXw (by omega)]
theorem gZo{s:LB}{p:Nat}(h:s.drop p=[]∨∃b t,s.drop p=b::t∧isW b=false)(n:Nat)(c:wC)(hc:c.s=s):gAh c (n+1) (p:Int)=some ⟨s,p,c.deep,c.size,c.bad⟩:=by
 rcases h with h | ⟨b,t,h,hb⟩
 ·have:¬p < s.length:=fun hp=>by rw [List.drop_eq_getElem_cons hp] at h;cases h
  rw [gAh,hc,show decide ((p:Int) < (s.length:Int))=false from decide_eq_false (by omega)];rfl
 ·obtain⟨f,q,y⟩:=gEx h;rw [gAh,hc,show decide ((p:Int) < (s.length:Int))=true from decide_eq_true (by omega)];simp only [jQ,f,bnd,hK9,hb,gW]
theorem hI8{s:LB}{p:Nat}{d z:Int}{y:Bool}(h:s.drop p=[]∨∃b t,s.drop p=b::t∧isW b=false):gOe ⟨s,p,d,z,y⟩=some ⟨s,p,d,z,y⟩:=gZo h 4999 ⟨s,p,d,z,y⟩ rfl
theorem hV9{s:LB}{p:Nat}{d z:Int}{y:Bool}{b:UInt8}{t:LB}(h:s.drop p=32::b::t)(hb:isW b=false)(hl:s.length≤4294967296):gOe ⟨s,p,d,z,y⟩=some ⟨s,(p+1:Nat),d,z,y⟩:=by
 have f:=(gEx h).2.1;exact(hNd h (by decide) hl d z y 4999 ⟨s,p,d,z,y⟩ rfl).trans (gZo (.inr ⟨b,t,f,hb⟩) 4998 ⟨s,p,d,z,y⟩ rfl)
theorem hNe{b:UInt8}(h:isB b=true):isW b=false:=by
 cases hw:isW b with
 | false=>rfl
 | true=>
   unfold isW at hw;simp only [Bool.or_eq_true,beq_iff_eq] at hw;rcases hw with rfl | rfl
   ·exact absurd h (by decide)
   ·exact absurd h (by decide)
def stop(r:LB):Prop:=∀b t,r=b::t→isB b=false
theorem hFl(rec:wC→Option (gF × wC)){s:LB}{p0:Nat}{d z:Int}(n0:Nat)(hl:s.length≤4294967296){rest:LB}(hs:stop rest):∀(a:LB)(p n:Nat),a.all isB=true→s.drop p=a++rest→p0 < p+a.length→a.length < n→
  p0≤p→p≤s.length→gAi rec ⟨s,p0,d,z,false⟩ n0 n (p:Int)=some (⟨(s.drop p0).take (p+a.length - p0),[]⟩,⟨s,((p+a.length:Nat):Int),d,IntKind.i64.wrap (z+1),false⟩)
 | [],p,n+1,_,h,f,_,hp,hlen=>by
   have hb:(cnd (decide ((p:Int) < (s.length:Int))) (bnd (at? s (p:Int)) fun x9=>some (gGo (x9.toNat:Int))) (some false))=some false:=by
    by_cases hp1:p < s.length
    ·obtain⟨x,q,y⟩:=drop_at hp1;rw [show decide ((p:Int) < (s.length:Int))=true from decide_eq_true (by omega),jQ,gA4,q];simp only [bnd];rw [y] at h;exact congrArg some (hs x _ (by simpa using h.symm))
    ·rw [show decide ((p:Int) < (s.length:Int))=false from decide_eq_false (by omega),gW]
   rw [gAi];simp only [];rw [hb];simp only [bnd,gW];simp only [List.length_nil,Nat.add_zero] at f;rw [show decide ((p:Int) > (p0:Int))=true from decide_eq_true (by omega),jQ,qN ⟨by omega,by omega,by omega⟩];simp
 | b::a,p,n+1,ha,h,f,hn,hp,_=>by
   simp only [List.all_cons,Bool.and_eq_true] at ha;obtain⟨q,y,h3⟩:=gEx (by simpa using h);rw [gAi];simp only [];rw [show decide ((p:Int) < (s.length:Int))=true from decide_eq_true (by omega)];simp only [jQ,q,bnd];rw [show gGo (b.toNat:Int)=true from ha.1];simp only [jQ];rw [gXw (by omega)]
   have:=hFl rec (p0:=p0) (d:=d) (z:=z) n0 hl hs a (p+1) n ha.2 y (by simp at f;omega) (by simp at hn;omega) (by omega) (by omega)
   rw [this];simp only [List.length_cons];rw [show p+1+a.length=p+(a.length+1) by omega]
 | a,p,0,_,_,_,hn,_,_=>absurd hn (Nat.not_lt_zero _)
theorem gXx{x:gF}(hx:wfx x=true):∃b t,fmt x=b::t∧isW b=false∧b≠41∧(b=40∨isB b=true):=by
 obtain⟨a,l⟩:=x;cases a with
 | nil=>exact⟨40,_,by rw [fmt],by decide,by decide,.inl rfl⟩
 | cons b a=>
   simp only [wfx,List.all_cons,Bool.and_eq_true] at hx;refine⟨b,a,by rw [fmt],hNe hx.1.1,fun h=>?_,.inr hx.1.1⟩;subst h;exact absurd hx.1.1 (by decide)
theorem hNg{x:gF}(hx:wfx x=true):1≤(fmt x).length:=by
 obtain⟨b,t,h,_⟩:=gXx hx;rw [h];simp
theorem gV3{s:LB}{p:Nat}{d z:Int}{x:gF}{rest:LB}(n:Nat)(hx:wfx x=true)(h:s.drop p=fmt x++rest)(hz:0≤z∧z < 900):gB3 (n+1) ⟨s,p,d,z,false⟩=gAi (gB3 n) ⟨s,p,d,z,false⟩ n n (p:Int):=by
 obtain⟨b,t,f,q,_⟩:=gXx hx;rw [f] at h;have y:=(gEx (by simpa using h)).2.2;rw [gB3];unfold gPj;rw [hI8 (.inr ⟨b,_,by simpa using h,q⟩)];simp only [bnd,lt_];rw [show decide ((p:Int)≥(s.length:Int))=false from decide_eq_false (by omega),zV _ (by omega) (by omega),show decide (z+1 > 900)=false from decide_eq_false (by omega)];rfl
theorem hFm{s:LB}{p:Nat}{d z:Int}{b:UInt8}{a:LB}{rest:LB}(n:Nat)(hl:s.length≤4294967296)(hx:wfx ⟨b::a,[]⟩=true)(h:s.drop p=(b::a)++rest)(hs:stop rest)(hn:a.length+1 < n)(hz:0≤z∧z < 900) :
  gB3 (n+1) ⟨s,p,d,z,false⟩=some (⟨b::a,[]⟩,⟨s,((p+(a.length+1):Nat):Int),d,z+1,false⟩):=by
 have hlen:p≤s.length:=Nat.le_of_lt (gEx (by simpa using h)).2.2;rw [gV3 n hx (by rw [fmt];exact h) hz];have ha:(b::a).all isB=true:=by simpa [wfx] using hx
 rw [hFl (gB3 n) (p0:=p) (d:=d) (z:=z) n hl hs (b::a) p n ha h (by simp) (by simpa using hn) (Nat.le_refl _) hlen,zV _ (by omega) (by omega),h];simp only [List.length_cons,Nat.add_sub_cancel_left];rw [show a.length+1=(b::a).length by simp,List.take_left]
theorem hNh(rec:wC→Option (gF × wC)){s:LB}{p:Nat}{d z:Int}{t:LB}(n f:Nat)(hl:s.length≤4294967296)(h:s.drop p=40::t)(hd:0≤d∧d < 14)(hz:0≤z∧z < 900) :
  gAi rec ⟨s,p,d,z,false⟩ f (n+1) (p:Int)=wE rec f s ((p+1:Nat):Int) (d+1) (z+1) false []:=by
 obtain⟨q,y,h3⟩:=gEx h;rw [gAi];simp only [];rw [show decide ((p:Int) < (s.length:Int))=true from decide_eq_true (by omega)];simp only [jQ,q,bnd];rw [show gGo (((40:UInt8).toNat:Nat):Int)=false from by decide];simp only [gW];rw [show decide ((p:Int) > (p:Int))=false from decide_eq_false (by omega),show((((40:UInt8).toNat:Nat):Int) != 40)=false from by decide];simp only [gW];rw [show (d==14)=false from beq_eq_false_iff_ne.2 (by omega)];simp only [gW];rw [gXw (by omega),zV _ (by omega) (by omega),zV _ (by omega) (by omega)]
theorem hI9(rec:wC→Option (gF × wC)){s:LB}{p:Nat}{d z:Int}{rest:LB}(n:Nat)(l:List gF)(hl:s.length≤4294967296)(h:s.drop p=41::rest)(hd:0≤d∧d≤14) :
  wE rec (n+1) s (p:Int) d z false l=some (⟨[],l⟩,⟨s,((p+1:Nat):Int),d - 1,z,false⟩):=by
 obtain⟨f,q,y⟩:=gEx h;rw [wE];simp only [Bool.not_false,jQ];rw [hI8 (.inr ⟨41,rest,h,by decide⟩)];simp only [bnd];rw [show decide ((p:Int) < (s.length:Int))=true from decide_eq_true (by omega)];simp only [jQ,f];rw [show ((((41:UInt8).toNat:Nat):Int)==41)=true from by decide];simp only [jQ];rw [gXw (by omega),zV _ (by omega) (by omega)]
theorem hNi (rec:wC→Option (gF × wC)){s:LB}{p:Nat}{d z z':Int}{x:gF}{rest:LB}(n:Nat)(l:List gF)(hl:s.length≤4294967296)(hx:wfx x=true)
  (h:s.drop p=fmt x++rest∨s.drop p=32::(fmt x++rest)) (hrec:∀p':Nat,s.drop p'=fmt x++rest→p≤p'→rec ⟨s,p',d,z,false⟩=some (x,⟨s,((p'+(fmt x).length:Nat):Int),d,z',false⟩)) (hll:l.length≤4294967295) :
  ∃p':Nat,s.drop p'=fmt x++rest∧(p'=p∨p'=p+1)∧wE rec (n+1) s (p:Int) d z false l=wE rec n s ((p'+(fmt x).length:Nat):Int) d z' false (l++[x]):=by
 obtain⟨b,t,hb,hw,hne,_⟩:=gXx hx;have key:∀p':Nat,s.drop p'=fmt x++rest→p≤p'→gOe ⟨s,p,d,z,false⟩=some ⟨s,p',d,z,false⟩→wE rec (n+1) s (p:Int) d z false l=wE rec n s ((p'+(fmt x).length:Nat):Int) d z' false (l++[x]):=by
  intro p' h' hp hs;rw [wE];simp only [Bool.not_false,jQ];rw [hs];simp only [bnd];have f:=h';rw [hb] at f;obtain⟨q,y,h3⟩:=gEx (by simpa using f);rw [show decide ((p':Int) < (s.length:Int))=true from decide_eq_true (by omega)];simp only [jQ,q];rw [show ((b.toNat:Int)==41)=false from beq_eq_false_iff_ne.2 (fun he=>hne (UInt8.toNat_inj.1 (by change _=41;omega)))];simp only [gW];rw [hrec p' h' hp];simp only;rw [qN (by simp;omega)]
 rcases h with h | h
 ·have f:=h;rw [hb] at f;exact⟨p,h,.inl rfl,key p h (Nat.le_refl _) (hI8 (.inr ⟨b,_,by simpa using f,hw⟩))⟩
 ·have f:=h;rw [hb] at f;exact⟨p+1,(gEx h).2.1,.inr rfl,key (p+1) (gEx h).2.1 (by omega) (hV9 (by simpa using f) hw hl)⟩
mutual
theorem hFo{s:LB}(hl:s.length≤4294967296):∀(x:gF)(p n:Nat)(d z:Int)(rest:LB),wfx x=true→s.drop p=fmt x++rest→stop rest→0≤d→d+dpx x≤14→0≤z→z+ndx x≤900→(fmt x).length+1 < n→
  gB3 n ⟨s,p,d,z,false⟩=some (x,⟨s,((p+(fmt x).length:Nat):Int),d,z+ndx x,false⟩)
 | ⟨[],l⟩,p,n+1,d,z,rest,hx,h,hs,h1,h2,h3,h4,f=>by
   have h4':z+(1+gZn l:Nat)≤900:=h4;have h2':d+(1+hN9 l:Nat)≤14:=h2;have h5':(gTb l).length+1+1 < n:=by simp only [fmt,List.length_cons,List.length_append,List.length_nil] at f;omega
   rw [gV3 n hx h ⟨h3,by omega⟩];have q:s.drop p=40::(gTb l++41::rest):=by rw [h,fmt];simp
   cases n with
   | zero=>omega
   | succ n=>
     rw [hNh (gB3 (n+1)) n (n+1) hl q ⟨h1,by omega⟩ ⟨h3,by omega⟩];rw [gZp hl l (p+1) (n+1) (n+1) (d+1) (z+1) (gTb l) [] rest (by simpa [wfx] using hx) (gEx q).2.1 (.inl rfl) (by omega) (by omega) (by omega) (by omega) (by omega) (by omega) (by simp only [List.length_nil];omega)];simp only [List.nil_append,fmt,List.length_cons,List.length_append,List.length_nil,ndx];rw [show p+1+(gTb l).length+1=p+((gTb l).length+(0+1)+1) by omega,show d+1 - 1=d by omega,show z+1+(gZn l:Int)=z+((1+gZn l:Nat):Int) by omega]
 | ⟨b::a,l⟩,p,n+1,d,z,rest,hx,h,hs,h1,h2,h3,h4,f=>by
   have hx':=hx;simp only [wfx,Bool.and_eq_true,List.isEmpty_iff] at hx';obtain⟨_,rfl⟩:=hx';have h4':z+(1+0:Nat)≤900:=h4;simp only [fmt] at h f ⊢;rw [hFm n hl hx h hs (by simp only [List.length_cons] at f;omega) ⟨h3,by omega⟩];rfl
 | ⟨[],l⟩,p,0,d,z,rest,_,_,_,_,_,_,_,f=>absurd f (Nat.not_lt_zero _)
 | ⟨b::a,l⟩,p,0,d,z,rest,_,_,_,_,_,_,_,f=>absurd f (Nat.not_lt_zero _)
theorem gZp{s:LB}(hl:s.length≤4294967296):∀(l:List gF)(p k n:Nat)(d z:Int)(w:LB)(acc:List gF)(rest:LB),hR9 l=true→s.drop p=w++41::rest→(w=gTb l∨w=gD0 l)→0 < d→d+hN9 l≤14→0≤z→z+gZn l≤900→
  w.length+1 < k→w.length < n→acc.length+gZn l≤900→wE (gB3 k) n s (p:Int) d z false acc=some (⟨[],acc++l⟩,⟨s,((p+w.length+1:Nat):Int),d - 1,z+gZn l,false⟩)
 | [],p,k,n+1,d,z,w,acc,rest,hx,h,hw,h1,h2,h3,h4,f,q,h7=>by
   obtain rfl:w=[]:=by rcases hw with rfl | rfl<;>rfl
   rw [hI9 (gB3 k) n acc hl (by simpa using h) ⟨by omega,by simp only [hN9] at h2;omega⟩];simp [gZn]
 | x::l,p,k,n+1,d,z,w,acc,rest,hx,h,hw,h1,h2,h3,h4,f,q,h7=>by
   simp only [hR9,Bool.and_eq_true] at hx;have h2':d+(max (dpx x) (hN9 l):Nat)≤14:=h2;have h4':z+(ndx x+gZn l:Nat)≤900:=h4;have h7':acc.length+(ndx x+gZn l)≤900:=h7;have hst:stop (gD0 l++41::rest):=by
    cases l with
    | nil=>intro b t hb;simp only [gD0,List.nil_append,List.cons.injEq] at hb;rw [←hb.1];decide
    | cons y l=>intro b t hb;simp only [gD0,List.cons_append,List.cons.injEq] at hb;rw [←hb.1];decide
   have hfm:=hNg hx.1;have hwl:w.length=(fmt x).length+(gD0 l).length∨w.length=1+((fmt x).length+(gD0 l).length):=by
    rcases hw with rfl | rfl
    ·left;simp [gTb]
    ·right;simp only [gD0,List.length_cons,List.length_append];omega
   have hd:s.drop p=fmt x++(gD0 l++41::rest)∨s.drop p=32::(fmt x++(gD0 l++41::rest)):=by
    rcases hw with rfl | rfl
    ·left;rw [h,gTb,List.append_assoc]
    ·right;rw [h,gD0];simp
   obtain⟨p',e1,e2,e3⟩:=hNi (gB3 k) (d:=d) (z:=z) (z':=z+ndx x) n acc hl hx.1 hd (fun p' hp' _=>hFo hl x p' k d z _ hx.1 hp' hst (by omega) (by omega) h3 (by omega) (by omega)) (by omega);rw [e3];have e4:s.drop (p'+(fmt x).length)=gD0 l++41::rest:=by
    rw [←List.drop_drop,e1,List.drop_left]
   have hnd:1≤ndx x:=by obtain⟨a,xs⟩:=x;simp only [ndx];omega
   rw [gZp hl l (p'+(fmt x).length) k n d (z+ndx x) (gD0 l) (acc++[x]) rest hx.2 e4 (.inr rfl) h1 (by omega) (by omega) (by omega) (by omega) (by omega) (by simp only [List.length_append,List.length_cons,List.length_nil];omega)];have hpp:p'+(fmt x).length+(gD0 l).length=p+w.length:=by
    rcases hw with rfl | rfl
    ·rcases e2 with rfl | rfl
     ·simp only [gTb,List.length_append];omega
     ·exfalso;have h8:=congrArg List.length e1
      have h9:=congrArg List.length h;simp only [List.length_drop,List.length_append,List.length_cons,gTb] at h8 h9;omega
    ·rcases e2 with rfl | rfl
     ·exfalso;have h8:=congrArg List.length e1
      have h9:=congrArg List.length h;simp only [List.length_drop,List.length_append,List.length_cons,gD0] at h8 h9;omega
     ·simp only [gD0,List.length_cons,List.length_append];omega
   rw [hpp,List.append_assoc];simp only [List.singleton_append,gZn];rw [show z+(ndx x:Int)+(gZn l:Int)=z+((ndx x+gZn l:Nat):Int) by omega]
 | [],p,k,0,d,z,w,acc,rest,_,_,_,_,_,_,_,_,q,_=>absurd q (Nat.not_lt_zero _)
 | x::l,p,k,0,d,z,w,acc,rest,_,_,_,_,_,_,_,_,q,_=>absurd q (Nat.not_lt_zero _)
end
def gIh(f:List gF):Option (gF):=
gd (([]:List gF).length+f.length≤4294967296) (
(some (gF.mk [] ([]++f))))
theorem gMf(f:List gF){r:gF}(h:gIh f=some r):jI Tryz.prog 219 [.L 2 (jB f)] [qJ r]:=by
 unfold gIh at h;refine SpI Tryz.func219 fun A _=>?_;refine goL ?_;refine gAu ?_;refine goL ?_;obtain⟨q,h⟩:=pU h;refine gAd q ?_;refine yT (jN TBd.h TZ.h rfl (by repeat constructor)) ?_;refine gV 1 rfl rfl ?_;refine jF ?_;cases h;exact uM
def gP4(h:gB→gB→(List gU)→Option (Bool × List gU))(f:(List gB)→(List gB)→(List gU)→Option (Bool × List gU))(p:gB)(t:gB)(q:List gU):Option (Bool × List gU):=
(cnd (p.kind==1) (
bnd (gJh q p.name) fun x2=>
(cnd x2.2 (
(some ((teq x2.1 t),q))) (
gd (tok t) (lt_ (idT t) fun x6=>
gd (q.length+[(gU.mk p.name x6)].length≤4294967296) (
(some (true,(q++[(gU.mk p.name x6)])))))))) (
lt_ ((cnd (p.kind != t.kind) (true) ((cnd (!(p.name==t.name)) (true) (((p.args.length:Int) !=(t.args.length:Int))))))) fun b8=>
(cnd b8 (
(some (false,[]))) (
bnd (f p.args t.args q) fun y=>
(cnd y.1 (
(some (true,y.2))) (
(some (false,[]))))))))
def gUn(f:gB→gB→(List gU)→Option (Bool × List gU)):Prop:=∀(h:gB)(q:gB)(y:List gU)(w0:Nat){r:Bool × List gU},f h q y=some r→Go.Eng.Spec Tryz.prog 182 [.d (mM h),.d (mM q),.sl 0 w0] [.arr 192 4 w0 (jY y)] (fun sv Lo=>∃(u'0 v'0:Nat)(j'0:List gU),(r.1=true∧sv=.tup [.sl 0 v'0,.B true]∧Lo=[.arr 192 4 v'0 (jY r.2)])∨(r.1=false∧sv=.tup [.sl 0 u'0,.B false]∧Lo=[.arr 192 4 v'0 (jY j'0)]))
def gUo(f:(List gB)→(List gB)→(List gU)→Option (Bool × List gU)):Prop:=∀(h:List gB)(q:List gB)(y:List gU)(w0:Nat){r:Bool × List gU},f h q y=some r→Go.Eng.Spec Tryz.prog 171 [.L 3 (gN h),.L 3 (gN q),.sl 0 w0] [.arr 192 4 w0 (jY y)] (fun sv Lo=>∃(u'0 v'0:Nat)(j'0:List gU),(r.1=true∧sv=.tup [.sl 0 v'0,.B true]∧Lo=[.arr 192 4 v'0 (jY r.2)])∨(r.1=false∧sv=.tup [.sl 0 u'0,.B false]∧Lo=[.arr 192 4 v'0 (jY j'0)]))
theorem hJa{f}{ab}(ak:gUn f)(ae:gUo ab)(p:gB)(t:gB)(l0:List gU)(v0:Nat){r:Bool × List gU}(h:gP4 f ab p t l0=some r):Go.Eng.Spec Tryz.prog 182 [.d (mM p),.d (mM t),.sl 0 v0] [.arr 192 4 v0 (jY l0)] (fun sv Lo=>∃(u'0 v'0:Nat)(j'0:List gU),(r.1=true∧sv=.tup [.sl 0 v'0,.B true]∧Lo=[.arr 192 4 v'0 (jY r.2)])∨(r.1=false∧sv=.tup [.sl 0 u'0,.B false]∧Lo=[.arr 192 4 v'0 (jY j'0)])):=by
 obtain⟨an,aj,al⟩:=p;obtain⟨ag,ah,ad⟩:=t;unfold gP4 at h;refine kJ 1 Tryz.func182 rfl (by kernel_rfl) rfl rfl fun A _=>?_;refine goC h ?_ ?_<;>intro c1 h
 ·refine goL ?_;obtain⟨⟨⟨q,y,aa⟩,a7⟩,a3,h⟩:=gJ h;refine gE3 (gWo l0 aj a3) ?_;refine goC h ?_ ?_<;>intro c3 h
  ·refine goL ?_;refine yT (gUa (gIq (gB.mk q y aa) (gB.mk ag ah ad))) ?_;refine jF ?_;obtain rfl:=Option.some.inj h;rcases Bool.eq_false_or_eq_true (teq (gB.mk q y aa) (gB.mk ag ah ad))with q4 | q4
   ·exact gAg [.sl 0 v0,.d (.b (teq (gB.mk q y aa) (gB.mk ag ah ad)))] _ ⟨v0,v0,[],.inl ⟨q4,congrArg (fun z=>SV.tup [.sl 0 v0,.B z]) q4,rfl⟩⟩
   ·exact gAg [.sl 0 v0,.d (.b (teq (gB.mk q y aa) (gB.mk ag ah ad)))] _ ⟨v0,v0,l0,.inr ⟨q4,congrArg (fun z=>SV.tup [.sl 0 v0,.B z]) q4,rfl⟩⟩
  ·refine noS ?_;refine jS (P:=Tryz.prog) Mix.h [(0,true),(1,true),(2,true),(3,true),(4,false),(5,true),(6,false),(7,false),(8,true),(9,true)] (by kernel_rfl) ?_;refine goY ?_;obtain⟨g5,h⟩:=pU h;obtain⟨⟨av,aw,ax⟩,a4,h⟩:=uK h;have sx6:=gHu (gB.mk ag ah ad) g5;rw [a4] at sx6;refine gRi (sx6) ?_;refine goY ?_;refine gGi 5 rfl rfl ?_;refine kT (T:=118) (us:=jY [(gU.mk aj (gB.mk av aw ax))]) ?_;obtain⟨g7,h⟩:=pU h;refine kN (T:=118) g7 ?_;refine goY ?_;refine mJ ?_;refine goL ?_;refine jF ?_;obtain rfl:=Option.some.inj h;exact gAg [.sl 0 (v0+1),.B true] _ ⟨(v0+1),(v0+1),[],.inl ⟨rfl,rfl,rfl⟩⟩
 ·refine goS ?_;obtain⟨b8,hb8,h⟩:=uK h;refine kH ⟨[(2,.sl 0 v0),(3,.ptr 1 0),(4,.ptr 2 0),(53,.B b8)],[.arr 192 4 v0 (jY l0),bTy an aj al,bTy ag ah ad],Tryz.f182.ntmps⟩ ?_ ?_
  ·refine wW 38 (fun c9=>?_) (fun c9=>?_) (by first | rfl | (simp only [kE,jO];rfl))
   ·replace hb8:=kU c9 hb8;refine goL ?_;cases hb8;exact⟨rfl,⟨⟨rfl,rfl⟩,⟨rfl,rfl⟩,⟨rfl,rfl⟩,⟨by first | rfl | (simp only [kE,jO];rfl),rfl⟩,trivial⟩,⟨_,rfl⟩,rfl⟩
   ·replace hb8:=kV c9 hb8;refine goL ?_;refine wW 45 (fun ao=>?_) (fun ao=>?_) (by first | rfl | (simp only [kE,jO];rfl))
    ·replace hb8:=kU ao hb8;refine goL ?_;cases hb8;exact⟨rfl,⟨⟨rfl,rfl⟩,⟨rfl,rfl⟩,⟨rfl,rfl⟩,⟨by first | rfl | (simp only [kE,jO];rfl),rfl⟩,trivial⟩,⟨_,rfl⟩,rfl⟩
    ·replace hb8:=kV ao hb8;refine goL ?_;cases hb8;exact⟨rfl,⟨⟨rfl,rfl⟩,⟨rfl,rfl⟩,⟨rfl,rfl⟩,⟨by first | rfl | (simp only [kE,jO];rfl),rfl⟩,trivial⟩,⟨_,rfl⟩,rfl⟩
  refine goC h ?_ ?_<;>intro bb h
  ·refine goL ?_;refine jF ?_;obtain rfl:=Option.some.inj h;exact gAg [.sl 0 v0,.B false] _ ⟨v0,v0,l0,.inr ⟨rfl,rfl,rfl⟩⟩
  ·refine goS ?_;obtain⟨⟨a6,ap⟩,ay,h⟩:=gJ h;refine gBz [0] (ae al ad l0 v0 ay) ?_;rintro _ _ ⟨aq,ai,a0,⟨ar,rfl,rfl⟩ | ⟨ar,rfl,rfl⟩⟩
   ·replace h:=kU ar h;show VO _ _ _ _ ⟨(_,.tup [.sl 0 ai,.B true])::_,[.arr 192 4 ai (jY ap),bTy an aj al,bTy ag ah ad],_⟩ _;refine goL ?_;refine jF ?_;obtain rfl:=Option.some.inj h;exact gAg [.sl 0 ai,.B true] _ ⟨ai,ai,[],.inl ⟨rfl,rfl,rfl⟩⟩
   ·replace h:=kV ar h;show VO _ _ _ _ ⟨(_,.tup [.sl 0 aq,.B false])::_,[.arr 192 4 ai (jY a0),bTy an aj al,bTy ag ah ad],_⟩ _;refine goL ?_;refine jF ?_;obtain rfl:=Option.some.inj h;exact gAg [.sl 0 aq,.B false] _ ⟨aq,ai,a0,.inr ⟨rfl,rfl,rfl⟩⟩
def gFi(f:gB→gB→(List gU)→Option (Bool × List gU))(all:List gB):List gB→Nat→(List gU)→Option (Bool × List gU)
 | [],h,q=>(some (true,q))
 | x6::xs,h,q=>bnd (at? all (h:Int)) fun x7=>
bnd (f x6 x7 q) fun y=>
(cnd y.1 (
gFi f all xs (h+1) y.2) (
(some (false,[]))))
def gUp(f:gB→gB→(List gU)→Option (Bool × List gU))(h:(List gB)→(List gB)→(List gU)→Option (Bool × List gU))(p:List gB)(all:List gB)(q:List gU):Option (Bool × List gU):=
gFi f all p 0 q
theorem hNj{f}{q}(y:gUn f)(ad:gUo q)(p:List gB)(all:List gB)(l0:List gU)(v0:Nat){r:Bool × List gU}(h:gUp f q p all l0=some r):Go.Eng.Spec Tryz.prog 171 [.L 3 (gN p),.L 3 (gN all),.sl 0 v0] [.arr 192 4 v0 (jY l0)] (fun sv Lo=>∃(u'0 v'0:Nat)(j'0:List gU),(r.1=true∧sv=.tup [.sl 0 v'0,.B true]∧Lo=[.arr 192 4 v'0 (jY r.2)])∨(r.1=false∧sv=.tup [.sl 0 u'0,.B false]∧Lo=[.arr 192 4 v'0 (jY j'0)])):=by
 unfold gUp at h;refine kJ 1 Tryz.func171 rfl (by kernel_rfl) rfl rfl fun A _=>?_;refine goL ?_;refine noB ?_;refine gCw 0 (fun z4=>?_);refine mG (fun(y3:Nat)(y1:List gU)(v2:Nat)=>⟨[(0,.L 3 (gN p)),(1,.L 3 (gN all)),(2,.sl 0 v2),(8,.N y3)],[.arr 192 4 v2 (jY y1)],Tryz.f171.ntmps⟩) (fun y3 y1 v2=>gFi f all (p.drop y3) y3 y1=some r) (fun y3 y1 v2=>p.length - y3) 0 l0 v0 eJ h ?_;rintro y3 y1 v2 h;refine goL ?_;refine mR (fun c5=>?_) (fun c5=>?_)
 ·have aa:=vR c5;obtain⟨x6,ax,ai⟩:=drop_at aa;rw [ai,gFi.eq_2] at h;obtain⟨aj,ak,al⟩:=x6;refine noS ?_;refine kI (jA ?_);refine jS (P:=Tryz.prog) Mix.h [(0,true),(1,true),(2,true),(3,true),(4,true),(5,true),(6,true),(7,true),(8,true),(9,false),(10,true),(11,true),(12,true),(13,true),(14,true)] (by kernel_rfl) ?_;refine goY ?_;refine jW rfl (jR y3 (gDj ax)) ?_;refine goY ?_;obtain⟨x7,am,h⟩:=gJ h;rw [gA4] at am;obtain⟨an,ao,ap⟩:=x7;refine jW rfl (jR y3 (gDj am)) ?_;refine goY ?_;obtain⟨⟨a3,ae⟩,ay,h⟩:=gJ h;refine gVq [0] (y (gB.mk aj ak al) (gB.mk an ao ap) y1 v2 ay) ?_;rintro _ _ ⟨a0,v9,ar,⟨ag,rfl,rfl⟩ | ⟨ag,rfl,rfl⟩⟩
  ·replace h:=kU ag h;refine gS6 (sv:=.tup [.sl 0 v9,.B true]) (L':=[.arr 192 4 v9 (jY ae)]) (by repeat(first | exact vU.nil | (apply vU.keep;focus ((repeat constructor);done)) | (apply vU.dep;focus kernel_rfl))) ?_;refine goY ?_;refine mJ ?_;refine goL ?_;refine hS8 ?_;refine goS ?_;refine jP (kD y3 (by omega)) ?_;exact⟨(y3+1),ae,v9,h,by omega,eJ⟩
  ·replace h:=kV ag h;refine gS6 (sv:=.tup [.sl 0 a0,.B false]) (L':=[.arr 192 4 v9 (jY ar)]) (by repeat(first | exact vU.nil | (apply vU.keep;focus ((repeat constructor);done)) | (apply vU.dep;focus kernel_rfl))) ?_;refine goY ?_;refine mJ ?_;refine goL ?_;refine hQk ?_;refine goL ?_;refine jF ?_;obtain rfl:=Option.some.inj h;exact gAg [.sl 0 v2,.B false] _ ⟨v2,v9,ar,.inr ⟨rfl,rfl,rfl⟩⟩
 ·have aa:=vS c5;rw [jK aa,gFi.eq_1] at h;refine goX ?_;refine jF ?_;obtain rfl:=Option.some.inj h;exact gAg [.sl 0 v2,.B true] _ ⟨v2,v2,[],.inl ⟨rfl,rfl,rfl⟩⟩
mutual
def gJ3:Nat→gB→gB→(List gU)→Option (Bool × List gU)
 | 0,_,_,_=>none
 | n+1,f,h,q=>gP4 (gJ3 n) (gM0 n) f h q
def gM0:Nat→(List gB)→(List gB)→(List gU)→Option (Bool × List gU)
 | 0,_,_,_=>none
 | n+1,f,h,q=>gUp (gJ3 n) (gM0 n) f h q
end
theorem hFp:∀(n:Nat),gUn (gJ3 n)∧gUo (gM0 n):=by
 intro n
 induction n with
 | zero=>exact⟨(by intro f q y w0 r h;cases h),(by intro f q y w0 r h;cases h)⟩
 | succ n ih=>
   obtain⟨ih0,ih1⟩:=ih;refine⟨(fun f q y w0 r h=>hJa ih0 ih1 f q y w0 h),(fun f q y w0 r h=>hNj ih0 ih1 f q y w0 h)⟩
theorem hNk:∀(n:Nat),gUo (gM0 n):=fun n=>(hFp n).2
def gJ4(f:List gB)(a1:List gB):Option (List gU × Bool):=
(cnd ((f.length:Int) !=(a1.length:Int)) (
(some ([],false))) (
bnd (gM0 100000 f a1 []) fun h=>
(cnd h.1 (
(some (h.2,true))) (
(some ([],false))))))
theorem gXy(q:List gB)(a1:List gB){r:List gU × Bool}(h:gJ4 q a1=some r):jI Tryz.prog 158 [.L 3 (gN q),.L 3 (gN a1)] [.sl 4 (jY r.1),.b r.2]:=by
 unfold gJ4 at h;refine SpI Tryz.func158 fun A _=>?_;refine goC h ?_ ?_<;>intro c1 h
 ·refine goL ?_;refine gAu ?_;refine goL ?_;refine gV 0 rfl rfl ?_;refine jF ?_;cases h;exact uM
 ·refine goS ?_;refine gAu ?_;obtain⟨⟨ac,f⟩,y,h⟩:=gJ h;refine gBz [0] (hNk 100000 q a1 [] 0 y) ?_;rintro _ _ ⟨u4,v3,j5,⟨q6,rfl,rfl⟩ | ⟨q6,rfl,rfl⟩⟩
  ·replace h:=kU q6 h;show VO _ _ _ _ ⟨(_,.tup [.sl 0 v3,.B true])::_,[.arr 192 4 v3 (jY f)],_⟩ _;refine goL ?_;refine hS8 ?_;refine goS ?_;refine gV 0 rfl rfl ?_;refine jF ?_;cases h;exact uM
  ·replace h:=kV q6 h;show VO _ _ _ _ ⟨(_,.tup [.sl 0 u4,.B false])::_,[.arr 192 4 v3 (jY j5)],_⟩ _;refine goL ?_;refine hQk ?_;refine goL ?_;refine gAu ?_;refine goL ?_;refine gV 1 rfl rfl ?_;refine jF ?_;cases h;exact uM
def gJe(h:gB)(a1:gB):Option (List gU × Bool):=
bnd (gJ4 [h] [a1]) fun f=>
(some (f.1,f.2))
theorem gV4(a0:gB)(a1:gB){r:List gU × Bool}(h:gJe a0 a1=some r):jI Tryz.prog 125 [.d (mM a0),.d (mM a1)] [.sl 4 (jY r.1),.b r.2]:=by
 obtain⟨f,q,y⟩:=a0;obtain⟨aa,ab,ac⟩:=a1;unfold gJe at h;refine SpI Tryz.func125 fun A _=>?_;refine goL ?_;refine uO (u:=(.st [.i .i64 f,.s q,.sl 3 (gN y)])) ?_;refine goL ?_;refine uO (u:=(.st [.i .i64 aa,.s ab,.sl 3 (gN ac)])) ?_;refine kS 2 rfl rfl ?_;refine kS 3 rfl rfl ?_;obtain⟨⟨ag,ah⟩,ae,h⟩:=gJ h;refine vP (gRe (gXy [(gB.mk f q y)] [(gB.mk aa ab ac)] ae)) ?_;exact goR h
def gG1(f:gB)(a1:gB):Option (Bool):=
bnd (gJe f a1) fun h=>
(some h.2)
theorem gTc(f:gB)(a1:gB){r:Bool}(h:gG1 f a1=some r):jI Tryz.prog 167 [.d (mM f),.d (mM a1)] [.b r]:=by
 obtain⟨y,aa,ab⟩:=f;obtain⟨ac,ad,ae⟩:=a1;unfold gG1 at h;refine SpI Tryz.func167 fun A _=>?_;refine goL ?_;obtain⟨⟨ag,ah⟩,q,h⟩:=gJ h;refine uN (gI (gV4 _ _ q)) ?_;exact goR h
end Go.Proofs.YtfpdlnkkcnmebaaGreat
