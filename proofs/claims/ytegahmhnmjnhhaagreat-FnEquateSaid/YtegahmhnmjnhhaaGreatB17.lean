import Derived.Test.YtegahmhnmjnhhaaGreatEq2
set_option maxHeartbeats 4000000
set_option linter.unusedVariables false
set_option linter.unusedSimpArgs false
set_option linter.unusedSectionVars false
namespace Go.Proofs.YtegahmhnmjnhhaaGreat
open Go Go.Eng
attribute [local irreducible] V VO VQ VY Quiet QR gY kR Rng mU mW mG
def isB(b:UInt8):Bool:=gGp (b.toNat:Int)
mutual
def fmt:gD→LB
 | ⟨a,l⟩=>match a with
   | []=>40::(gUe l++[41])
   | b::a=>b::a
def gUe:List gD→LB
 | []=>[]
 | x::l=>fmt x++gDh l
def gDh:List gD→LB
 | []=>[]
 | x::l=>32::(fmt x++gDh l)
end
mutual
def wfx:gD→Bool
 | ⟨a,l⟩=>match a with
   | []=>hX4 l
   | b::a=>(b::a).all isB && l.isEmpty
def hX4:List gD→Bool
 | []=>true
 | x::l=>wfx x && hX4 l
end
mutual
def ndx:gD→Nat
 | ⟨_,l⟩=>1+hB8 l
def hB8:List gD→Nat
 | []=>0
 | x::l=>ndx x+hB8 l
end
mutual
def dpx:gD→Nat
 | ⟨a,l⟩=>match a with
   | []=>1+hUm l
   | _::_=>0
def hUm:List gD→Nat
 | []=>0
 | x::l=>max (dpx x) (hUm l)
end
theorem gD1{s:LB}{p:Nat}{b:UInt8}{t:LB}(h:s.drop p=b::t):at? s (p:Int)=some b∧s.drop (p+1)=t∧p < s.length:=by
 have hp:p < s.length:=by
  rcases Nat.lt_or_ge p s.length with c | c
  ·exact c
  ·rw [List.drop_eq_nil_of_le c] at h;cases h
 rw [List.drop_eq_getElem_cons hp] at h;simp only [List.cons.injEq] at h;exact⟨by rw [zI,List.getElem?_eq_getElem hp,h.1],h.2,hp⟩
theorem gVo{m:Nat}(h:m≤4294967296):IntKind.i64.wrap ((m:Int)+1)=((m+1:Nat):Int):=by rw [qR _ (by omega) (by omega)];omega
def isW(b:UInt8):Bool:=b==32 || b==10
theorem hPw(b:UInt8):cnd ((b.toNat:Int)==32) (some true) (some ((b.toNat:Int)==10))=some (isW b):=by
 have c:((b.toNat:Int)==32)=(b==32):=Bool.eq_iff_iff.2 (by simp only [beq_iff_eq,←UInt8.toNat_inj];change _↔b.toNat=32;omega);have f:((b.toNat:Int)==10)=(b==10):=Bool.eq_iff_iff.2 (by simp only [beq_iff_eq,←UInt8.toNat_inj];change _↔b.toNat=10;omega);rw [c,f];unfold isW;cases b==32<;>rfl
theorem hRq{s:LB}{p:Nat}{b:UInt8}{t:LB}(h:s.drop p=b::t)(hb:isW b=true)(hl:s.length≤4294967296)(d z:Int)(y:Bool)(n:Nat)(c:vB)(hc:c.s=s):zN c (n+1) (p:Int)=zN c n ((p+1:Nat):Int):=by
 obtain⟨f,h2,h3⟩:=gD1 h;rw [zN,hc,show decide ((p:Int) < (s.length:Int))=true from decide_eq_true (by omega)];simp only [gT,f,bnd,hPw,hb];rw [gVo (by omega)]
theorem hB9{s:LB}{p:Nat}(h:s.drop p=[]∨∃b t,s.drop p=b::t∧isW b=false)(n:Nat)(c:vB)(hc:c.s=s):zN c (n+1) (p:Int)=some ⟨s,p,c.deep,c.size,c.bad⟩:=by
 rcases h with h | ⟨b,t,h,hb⟩
 ·have:¬p < s.length:=fun hp=>by rw [List.drop_eq_getElem_cons hp] at h;cases h
  rw [zN,hc,show decide ((p:Int) < (s.length:Int))=false from decide_eq_false (by omega)];rfl
 ·obtain⟨f,y,h3⟩:=gD1 h;rw [zN,hc,show decide ((p:Int) < (s.length:Int))=true from decide_eq_true (by omega)];simp only [gT,f,bnd,hPw,hb,gI]
theorem hNj{s:LB}{p:Nat}{d z:Int}{y:Bool}(h:s.drop p=[]∨∃b t,s.drop p=b::t∧isW b=false):gO9 ⟨s,p,d,z,y⟩=some ⟨s,p,d,z,y⟩:=hB9 h 4999 ⟨s,p,d,z,y⟩ rfl
theorem jAb{s:LB}{p:Nat}{d z:Int}{y:Bool}{b:UInt8}{t:LB}(h:s.drop p=32::b::t)(hb:isW b=false)(hl:s.length≤4294967296):gO9 ⟨s,p,d,z,y⟩=some ⟨s,(p+1:Nat),d,z,y⟩:=by
 have c:=(gD1 h).2.1;exact(hRq h (by decide) hl d z y 4999 ⟨s,p,d,z,y⟩ rfl).trans (hB9 (.inr ⟨b,t,c,hb⟩) 4998 ⟨s,p,d,z,y⟩ rfl)
theorem hRt{b:UInt8}(h:isB b=true):isW b=false:=by
 cases hw:isW b with
 | false=>rfl
 | true=>
   unfold isW at hw;simp only [Bool.or_eq_true,beq_iff_eq] at hw;rcases hw with rfl | rfl
   ·exact absurd h (by decide)
   ·exact absurd h (by decide)
def stop(r:LB):Prop:=∀b t,r=b::t→isB b=false
theorem hGx(rec:vB→Option (gD × vB)){s:LB}{p0:Nat}{d z:Int}(n0:Nat)(hl:s.length≤4294967296){rest:LB}(hs:stop rest):∀(a:LB)(p n:Nat),a.all isB=true→s.drop p=a++rest→p0 < p+a.length→a.length < n→
  p0≤p→p≤s.length→zR rec ⟨s,p0,d,z,false⟩ n0 n (p:Int)=some (⟨(s.drop p0).take (p+a.length - p0),[]⟩,⟨s,((p+a.length:Nat):Int),d,IntKind.i64.wrap (z+1),false⟩)
 | [],p,n+1,_,h,c,_,hp,hlen=>by
   have hb:(cnd (decide ((p:Int) < (s.length:Int))) (bnd (at? s (p:Int)) fun x9=>some (gGp (x9.toNat:Int))) (some false))=some false:=by
    by_cases hp1:p < s.length
    ·obtain⟨x,f,y⟩:=drop_at hp1;rw [show decide ((p:Int) < (s.length:Int))=true from decide_eq_true (by omega),gT,zI,f];simp only [bnd];rw [y] at h;exact congrArg some (hs x _ (by simpa using h.symm))
    ·rw [show decide ((p:Int) < (s.length:Int))=false from decide_eq_false (by omega),gI]
   rw [zR];simp only [];rw [hb];simp only [bnd,gI];simp only [List.length_nil,Nat.add_zero] at c;rw [show decide ((p:Int) > (p0:Int))=true from decide_eq_true (by omega),gT,mI ⟨by omega,by omega,by omega⟩];simp
 | b::a,p,n+1,ha,h,c,hn,hp,_=>by
   simp only [List.all_cons,Bool.and_eq_true] at ha;obtain⟨f,y,h3⟩:=gD1 (by simpa using h);rw [zR];simp only [];rw [show decide ((p:Int) < (s.length:Int))=true from decide_eq_true (by omega)];simp only [gT,f,bnd];rw [show gGp (b.toNat:Int)=true from ha.1];simp only [gT];rw [gVo (by omega)]
   have:=hGx rec (p0:=p0) (d:=d) (z:=z) n0 hl hs a (p+1) n ha.2 y (by simp at c;omega) (by simp at hn;omega) (by omega) (by omega)
   rw [this];simp only [List.length_cons];rw [show p+1+a.length=p+(a.length+1) by omega]
 | a,p,0,_,_,_,hn,_,_=>absurd hn (Nat.not_lt_zero _)
theorem gZt{x:gD}(hx:wfx x=true):∃b t,fmt x=b::t∧isW b=false∧b≠41∧(b=40∨isB b=true):=by
 obtain⟨a,l⟩:=x;cases a with
 | nil=>exact⟨40,_,by rw [fmt],by decide,by decide,.inl rfl⟩
 | cons b a=>
   simp only [wfx,List.all_cons,Bool.and_eq_true] at hx;refine⟨b,a,by rw [fmt],hRt hx.1.1,fun h=>?_,.inr hx.1.1⟩;subst h;exact absurd hx.1.1 (by decide)
theorem hRu{x:gD}(hx:wfx x=true):1≤(fmt x).length:=by
 obtain⟨b,t,h,_⟩:=gZt hx;rw [h];simp
theorem gXi{s:LB}{p:Nat}{d z:Int}{x:gD}{rest:LB}(n:Nat)(hx:wfx x=true)(h:s.drop p=fmt x++rest)(hz:0≤z∧z < 900):gBz (n+1) ⟨s,p,d,z,false⟩=zR (gBz n) ⟨s,p,d,z,false⟩ n n (p:Int):=by
 obtain⟨b,t,c,f,_⟩:=gZt hx;rw [c] at h;have y:=(gD1 (by simpa using h)).2.2;rw [gBz];unfold gRi;rw [hNj (.inr ⟨b,_,by simpa using h,f⟩)];simp only [bnd,lt_];rw [show decide ((p:Int)≥(s.length:Int))=false from decide_eq_false (by omega),qR _ (by omega) (by omega),show decide (z+1 > 900)=false from decide_eq_false (by omega)];rfl
theorem hGy{s:LB}{p:Nat}{d z:Int}{b:UInt8}{a:LB}{rest:LB}(n:Nat)(hl:s.length≤4294967296)(hx:wfx ⟨b::a,[]⟩=true)(h:s.drop p=(b::a)++rest)(hs:stop rest)(hn:a.length+1 < n)(hz:0≤z∧z < 900) :
  gBz (n+1) ⟨s,p,d,z,false⟩=some (⟨b::a,[]⟩,⟨s,((p+(a.length+1):Nat):Int),d,z+1,false⟩):=by
 have hlen:p≤s.length:=Nat.le_of_lt (gD1 (by simpa using h)).2.2;rw [gXi n hx (by rw [fmt];exact h) hz];have ha:(b::a).all isB=true:=by simpa [wfx] using hx
 rw [hGx (gBz n) (p0:=p) (d:=d) (z:=z) n hl hs (b::a) p n ha h (by simp) (by simpa using hn) (Nat.le_refl _) hlen,qR _ (by omega) (by omega),h];simp only [List.length_cons,Nat.add_sub_cancel_left];rw [show a.length+1=(b::a).length by simp,List.take_left]
theorem hRw(rec:vB→Option (gD × vB)){s:LB}{p:Nat}{d z:Int}{t:LB}(n c:Nat)(hl:s.length≤4294967296)(h:s.drop p=40::t)(hd:0≤d∧d < 14)(hz:0≤z∧z < 900) :
  zR rec ⟨s,p,d,z,false⟩ c (n+1) (p:Int)=vH rec c s ((p+1:Nat):Int) (d+1) (z+1) false []:=by
 obtain⟨f,y,h3⟩:=gD1 h;rw [zR];simp only [];rw [show decide ((p:Int) < (s.length:Int))=true from decide_eq_true (by omega)];simp only [gT,f,bnd];rw [show gGp (((40:UInt8).toNat:Nat):Int)=false from by decide];simp only [gI];rw [show decide ((p:Int) > (p:Int))=false from decide_eq_false (by omega),show((((40:UInt8).toNat:Nat):Int) != 40)=false from by decide];simp only [gI];rw [show (d==14)=false from beq_eq_false_iff_ne.2 (by omega)];simp only [gI];rw [gVo (by omega),qR _ (by omega) (by omega),qR _ (by omega) (by omega)]
theorem hNk(rec:vB→Option (gD × vB)){s:LB}{p:Nat}{d z:Int}{rest:LB}(n:Nat)(l:List gD)(hl:s.length≤4294967296)(h:s.drop p=41::rest)(hd:0≤d∧d≤14) :
  vH rec (n+1) s (p:Int) d z false l=some (⟨[],l⟩,⟨s,((p+1:Nat):Int),d - 1,z,false⟩):=by
 obtain⟨c,f,y⟩:=gD1 h;rw [vH];simp only [Bool.not_false,gT];rw [hNj (.inr ⟨41,rest,h,by decide⟩)];simp only [bnd];rw [show decide ((p:Int) < (s.length:Int))=true from decide_eq_true (by omega)];simp only [gT,c];rw [show ((((41:UInt8).toNat:Nat):Int)==41)=true from by decide];simp only [gT];rw [gVo (by omega),qR _ (by omega) (by omega)]
theorem hRx (rec:vB→Option (gD × vB)){s:LB}{p:Nat}{d z z':Int}{x:gD}{rest:LB}(n:Nat)(l:List gD)(hl:s.length≤4294967296)(hx:wfx x=true)
  (h:s.drop p=fmt x++rest∨s.drop p=32::(fmt x++rest)) (hrec:∀p':Nat,s.drop p'=fmt x++rest→p≤p'→rec ⟨s,p',d,z,false⟩=some (x,⟨s,((p'+(fmt x).length:Nat):Int),d,z',false⟩)) (hll:l.length≤4294967295) :
  ∃p':Nat,s.drop p'=fmt x++rest∧(p'=p∨p'=p+1)∧vH rec (n+1) s (p:Int) d z false l=vH rec n s ((p'+(fmt x).length:Nat):Int) d z' false (l++[x]):=by
 obtain⟨b,t,hb,hw,hne,_⟩:=gZt hx;have key:∀p':Nat,s.drop p'=fmt x++rest→p≤p'→gO9 ⟨s,p,d,z,false⟩=some ⟨s,p',d,z,false⟩→vH rec (n+1) s (p:Int) d z false l=vH rec n s ((p'+(fmt x).length:Nat):Int) d z' false (l++[x]):=by
  intro p' h' hp hs;rw [vH];simp only [Bool.not_false,gT];rw [hs];simp only [bnd];have c:=h';rw [hb] at c;obtain⟨f,y,h3⟩:=gD1 (by simpa using c);rw [show decide ((p':Int) < (s.length:Int))=true from decide_eq_true (by omega)];simp only [gT,f];rw [show ((b.toNat:Int)==41)=false from beq_eq_false_iff_ne.2 (fun he=>hne (UInt8.toNat_inj.1 (by change _=41;omega)))];simp only [gI];rw [hrec p' h' hp];simp only;rw [mI (by simp;omega)]
 rcases h with h | h
 ·have c:=h;rw [hb] at c;exact⟨p,h,.inl rfl,key p h (Nat.le_refl _) (hNj (.inr ⟨b,_,by simpa using c,hw⟩))⟩
 ·have c:=h;rw [hb] at c;exact⟨p+1,(gD1 h).2.1,.inr rfl,key (p+1) (gD1 h).2.1 (by omega) (jAb (by simpa using c) hw hl)⟩
mutual
theorem hGz{s:LB}(hl:s.length≤4294967296):∀(x:gD)(p n:Nat)(d z:Int)(rest:LB),wfx x=true→s.drop p=fmt x++rest→stop rest→0≤d→d+dpx x≤14→0≤z→z+ndx x≤900→(fmt x).length+1 < n→
  gBz n ⟨s,p,d,z,false⟩=some (x,⟨s,((p+(fmt x).length:Nat):Int),d,z+ndx x,false⟩)
 | ⟨[],l⟩,p,n+1,d,z,rest,hx,h,hs,h1,h2,h3,h4,c=>by
   have h4':z+(1+hB8 l:Nat)≤900:=h4;have h2':d+(1+hUm l:Nat)≤14:=h2;have h5':(gUe l).length+1+1 < n:=by simp only [fmt,List.length_cons,List.length_append,List.length_nil] at c;omega
   rw [gXi n hx h ⟨h3,by omega⟩];have f:s.drop p=40::(gUe l++41::rest):=by rw [h,fmt];simp
   cases n with
   | zero=>omega
   | succ n=>
     rw [hRw (gBz (n+1)) n (n+1) hl f ⟨h1,by omega⟩ ⟨h3,by omega⟩];rw [hCa hl l (p+1) (n+1) (n+1) (d+1) (z+1) (gUe l) [] rest (by simpa [wfx] using hx) (gD1 f).2.1 (.inl rfl) (by omega) (by omega) (by omega) (by omega) (by omega) (by omega) (by simp only [List.length_nil];omega)];simp only [List.nil_append,fmt,List.length_cons,List.length_append,List.length_nil,ndx];rw [show p+1+(gUe l).length+1=p+((gUe l).length+(0+1)+1) by omega,show d+1 - 1=d by omega,show z+1+(hB8 l:Int)=z+((1+hB8 l:Nat):Int) by omega]
 | ⟨b::a,l⟩,p,n+1,d,z,rest,hx,h,hs,h1,h2,h3,h4,c=>by
   have hx':=hx;simp only [wfx,Bool.and_eq_true,List.isEmpty_iff] at hx';obtain⟨_,rfl⟩:=hx';have h4':z+(1+0:Nat)≤900:=h4;simp only [fmt] at h c ⊢;rw [hGy n hl hx h hs (by simp only [List.length_cons] at c;omega) ⟨h3,by omega⟩];rfl
 | ⟨[],l⟩,p,0,d,z,rest,_,_,_,_,_,_,_,c=>absurd c (Nat.not_lt_zero _)
 | ⟨b::a,l⟩,p,0,d,z,rest,_,_,_,_,_,_,_,c=>absurd c (Nat.not_lt_zero _)
theorem hCa{s:LB}(hl:s.length≤4294967296):∀(l:List gD)(p k n:Nat)(d z:Int)(w:LB)(acc:List gD)(rest:LB),hX4 l=true→s.drop p=w++41::rest→(w=gUe l∨w=gDh l)→0 < d→d+hUm l≤14→0≤z→z+hB8 l≤900→
  w.length+1 < k→w.length < n→acc.length+hB8 l≤900→vH (gBz k) n s (p:Int) d z false acc=some (⟨[],acc++l⟩,⟨s,((p+w.length+1:Nat):Int),d - 1,z+hB8 l,false⟩)
 | [],p,k,n+1,d,z,w,acc,rest,hx,h,hw,h1,h2,h3,h4,c,f,h7=>by
   obtain rfl:w=[]:=by rcases hw with rfl | rfl<;>rfl
   rw [hNk (gBz k) n acc hl (by simpa using h) ⟨by omega,by simp only [hUm] at h2;omega⟩];simp [hB8]
 | x::l,p,k,n+1,d,z,w,acc,rest,hx,h,hw,h1,h2,h3,h4,c,f,h7=>by
   simp only [hX4,Bool.and_eq_true] at hx;have h2':d+(max (dpx x) (hUm l):Nat)≤14:=h2;have h4':z+(ndx x+hB8 l:Nat)≤900:=h4;have h7':acc.length+(ndx x+hB8 l)≤900:=h7;have hst:stop (gDh l++41::rest):=by
    cases l with
    | nil=>intro b t hb;simp only [gDh,List.nil_append,List.cons.injEq] at hb;rw [←hb.1];decide
    | cons y l=>intro b t hb;simp only [gDh,List.cons_append,List.cons.injEq] at hb;rw [←hb.1];decide
   have hfm:=hRu hx.1;have hwl:w.length=(fmt x).length+(gDh l).length∨w.length=1+((fmt x).length+(gDh l).length):=by
    rcases hw with rfl | rfl
    ·left;simp [gUe]
    ·right;simp only [gDh,List.length_cons,List.length_append];omega
   have hd:s.drop p=fmt x++(gDh l++41::rest)∨s.drop p=32::(fmt x++(gDh l++41::rest)):=by
    rcases hw with rfl | rfl
    ·left;rw [h,gUe,List.append_assoc]
    ·right;rw [h,gDh];simp
   obtain⟨p',e1,e2,e3⟩:=hRx (gBz k) (d:=d) (z:=z) (z':=z+ndx x) n acc hl hx.1 hd (fun p' hp' _=>hGz hl x p' k d z _ hx.1 hp' hst (by omega) (by omega) h3 (by omega) (by omega)) (by omega);rw [e3];have e4:s.drop (p'+(fmt x).length)=gDh l++41::rest:=by
    rw [←List.drop_drop,e1,List.drop_left]
   have hnd:1≤ndx x:=by obtain⟨a,xs⟩:=x;simp only [ndx];omega
   rw [hCa hl l (p'+(fmt x).length) k n d (z+ndx x) (gDh l) (acc++[x]) rest hx.2 e4 (.inr rfl) h1 (by omega) (by omega) (by omega) (by omega) (by omega) (by simp only [List.length_append,List.length_cons,List.length_nil];omega)];have hpp:p'+(fmt x).length+(gDh l).length=p+w.length:=by
    rcases hw with rfl | rfl
    ·rcases e2 with rfl | rfl
     ·simp only [gUe,List.length_append];omega
     ·exfalso;have h8:=congrArg List.length e1
      have h9:=congrArg List.length h;simp only [List.length_drop,List.length_append,List.length_cons,gUe] at h8 h9;omega
    ·rcases e2 with rfl | rfl
     ·exfalso;have h8:=congrArg List.length e1
      have h9:=congrArg List.length h;simp only [List.length_drop,List.length_append,List.length_cons,gDh] at h8 h9;omega
     ·simp only [gDh,List.length_cons,List.length_append];omega
   rw [hpp,List.append_assoc];simp only [List.singleton_append,hB8];rw [show z+(ndx x:Int)+(hB8 l:Int)=z+((ndx x+hB8 l:Nat):Int) by omega]
 | [],p,k,0,d,z,w,acc,rest,_,_,_,_,_,_,_,_,f,_=>absurd f (Nat.not_lt_zero _)
 | x::l,p,k,0,d,z,w,acc,rest,_,_,_,_,_,_,_,_,f,_=>absurd f (Nat.not_lt_zero _)
end
def kA(s:LB):gD:=⟨s,[]⟩
def kL(l:List gD):gD:=⟨[],l⟩
def ka0:gD:=kA [112,97,99,107,97,103,101]
def ka1:gD:=kA [99,111,114,101]
def ka2:gD:=kA [116,114,97,105,116]
def ka3:gD:=kA [115,104,111,119]
def ka4:gD:=kA [109]
def ka5:gD:=kA [105,110,116]
def ka6:gD:=kA [116,119,111]
def ka7:gD:=kA [39,115,101,108,102]
def ka8:gD:=kA [120]
def ka9:gD:=kA [121]
def hUn:gD:=kA [43]
def gVp:gD:=kA [109,101,116,104,111,100]
def hPx:gD:=kA [101,113]
def hU4:gD:=kA [115,97,109,101]
def jAc:gD:=kA [98,111,111,108]
def hU5:gD:=kA [111,114,100]
def hU6:gD:=kA [108,101,115,115]
def hG5:gD:=kA [97,100,100]
def hX5:gD:=kA [97,115,115,111,99]
def hUo:gD:=kA [112,108,117,115]
def jF0:gD:=kA [115,101,110,100]
def jF1:gD:=kA [97,117,116,111]
def hU7:gD:=kA [100,97,116,97]
def hNl:gD:=kA [108,105,115,116]
def hCb:gD:=kA [97]
def hRz:gD:=kA [110,105,108]
def hR3:gD:=kA [99,111,110,115]
def gPc:gD:=kA [39,97]
def hUp:gD:=kA [112,97,105,114]
def jD6:gD:=kA [98]
def jAd:gD:=kA [39,98]
def hE7:gD:=kA [98,111,120]
def jD7:gD:=kA [117,110,105,116]
def gUf:gD:=kA [105,110,115,116]
def jAe:gD:=kA [105,102]
def hNm:gD:=kA [49]
def hR4:gD:=kA [48]
def hG6:gD:=kA [99,97,115,101]
def hU9:gD:=kA [104]
def hUq:gD:=kA [116]
def jF2:gD:=kA [100,101,102,97,117,108,116]
def jD8:gD:=kA [55]
def hX6:gD:=kA [122]
def jD9:gD:=kA [45]
def jF3:gD:=kA [61]
def jEa:gD:=kA [60]
def hX7:gD:=kA [112]
def hX8:gD:=kA [113]
def hCc:gD:=kA [110,101,119]
def hUr:gD:=kA [102,110]
def hX9:gD:=kA [105,100]
def hVb:gD:=kA [98,111,116,104]
def jF4:gD:=kA [97,112,112]
def gZu:gD:=kA [116,97,103]
def jAf:gD:=kA [110,111,110,101]
def jF5:gD:=kA [57]
def hNn:gD:=kA [110]
def jEb:gD:=kA [52]
def jEc:gD:=kA [53]
def hYa:gD:=kA [116,114,117,101]
def jF6:gD:=kA [102,97,108,115,101]
def jF7:gD:=kA [109,97,105,110]
def hNo:gD:=kA [99,97,108,108]
def hYb:gD:=kA [50]
def jEd:gD:=kA [116,104,101]
def jEe:gD:=kA [51]
def jF8:gD:=kA [108,101,116]
def jF9:gD:=kA [112,97,99,107]
def jEf:gD:=kA [108,101,110]
def jGa:gD:=kA [115,117,109]
def jEg:gD:=kA [103,114,111,119]
def gXj:List gD:=[ka0,ka1,kL []]
def hG7:List gD:=[kL [ka2,ka3,kL [],kL [],kL [ka4,kL [],ka5],kL [ka6,kL [ka7],ka5,kL [ka8,ka9],kL [hUn,kL [gVp,ka3,ka4,ka8],kL [gVp,ka3,ka4,ka9]]]],kL [ka2,hPx,kL [],kL [],kL [hU4,kL [ka7],jAc]],kL [ka2,hU5,kL [hPx],kL [],kL [hU6,kL [ka7],jAc]],kL [ka2,hG5,kL [],kL [hX5],kL [hUo,kL [ka7],kL [hX5,hG5,ka7]]],kL [ka2,jF0,kL [],kL [jF1]],kL [hU7,hNl,kL [hCb],kL [hRz],kL [hR3,gPc,kL [hNl,gPc]]],kL [hU7,hUp,kL [hCb,jD6],kL [hUp,gPc,jAd]],kL [hU7,hE7,kL [hCb],kL [hE7,gPc]],kL [hU7,jD7,kL [],kL [jD7]],kL [gUf,ka3,kL [],ka5,kL [],kL [],kL [],kL [ka4,kL [ka8],ka8]],kL [gUf,ka3,kL [],jAc,kL [],kL [],kL [],kL [ka4,kL [ka8],kL [jAe,ka8,hNm,hR4]]]]
def hCd:Bool→List gD
 | true=>[kL [gUf,ka3,kL [hCb],kL [hNl,gPc],kL [kL [ka3,gPc]],kL [],kL [],kL [ka4,kL [ka8],kL [hG6,ka8,kL [hRz,hR4],kL [hR3,hU9,hUq,kL [hUn,kL [gVp,ka3,ka4,hU9],kL [gVp,ka3,ka4,hUq]]]]]]]
 | false=>[kL [gUf,ka3,kL [hCb],kL [hNl,gPc],kL [],kL [jF2],kL [],kL [ka4,kL [ka8],jD8]],kL [gUf,ka3,kL [],kL [hNl,ka5],kL [],kL [],kL [],kL [ka4,kL [ka8],kL [hG6,ka8,kL [hRz,hR4],kL [hR3,hU9,hUq,kL [hUn,hU9,kL [gVp,ka3,ka4,hUq]]]]]]]
def hG8:List gD:=[kL [gUf,ka3,kL [hCb,jD6],kL [hUp,gPc,jAd],kL [kL [ka3,gPc],kL [ka3,jAd]],kL [],kL [],kL [ka4,kL [ka8],kL [hG6,ka8,kL [hUp,ka9,hX6,kL [jD9,kL [gVp,ka3,ka4,ka9],kL [gVp,ka3,ka4,hX6]]]]]],kL [gUf,hPx,kL [],ka5,kL [],kL [],kL [],kL [hU4,kL [ka8,ka9],kL [jF3,ka8,ka9]]],kL [gUf,hU5,kL [],ka5,kL [],kL [],kL [],kL [hU6,kL [ka8,ka9],kL [jEa,ka8,ka9]]],kL [gUf,hPx,kL [hCb],kL [hE7,gPc],kL [kL [hPx,gPc]],kL [],kL [],kL [hU4,kL [ka8,ka9],kL [hG6,ka8,kL [hE7,hX7,kL [hG6,ka9,kL [hE7,hX8,kL [gVp,hPx,hU4,hX7,hX8]]]]]]],kL [gUf,hG5,kL [],ka5,kL [],kL [],kL [ka5],kL [hUo,kL [ka8,ka9],kL [hUn,ka8,ka9]]],kL [gUf,hG5,kL [hCb],kL [hE7,gPc],kL [kL [hG5,gPc]],kL [],kL [kL [hE7,kL [hX5,hG5,gPc]]],kL [hUo,kL [ka8,ka9],kL [hG6,ka8,kL [hE7,hX7,kL [hG6,ka9,kL [hE7,hX8,kL [hCc,hE7,kL [gVp,hG5,hUo,hX7,hX8]]]]]]]],kL [hUr,hX9,kL [hCb],kL [],kL [kL [ka8,gPc]],gPc,ka8],kL [hUr,hVb,kL [hCb],kL [kL [ka3,gPc]],kL [kL [ka8,gPc]],ka5,kL [gVp,ka3,ka6,ka8,ka8]]]
def gXk:List gD:=[ka0,jF4,kL [ka1]]
def hR5:List gD:=[kL [hU7,gZu,kL [],kL [gZu,ka5],kL [jAf]]]
def hG9:List (List gD):=[[kL [gUf,ka3,kL [],ka5,kL [],kL [],kL [],kL [ka4,kL [ka8],jF5]]],
 [kL [gUf,ka3,kL [],gZu,kL [],kL [],kL [],kL [ka4,kL [ka8],kL [hG6,ka8,kL [jAf,hR4],kL [gZu,hNn,hNn]]]]],
 [kL [gUf,ka3,kL [],kL [hNl,gZu],kL [],kL [],kL [],kL [ka4,kL [ka8],jEb]],kL [gUf,ka3,kL [],gZu,kL [],kL [],kL [],kL [ka4,kL [ka8],jEc]]],
 [kL [gUf,hU5,kL [],gZu,kL [],kL [],kL [],kL [hU6,kL [ka8,ka9],hYa]]],
 [kL [gUf,hPx,kL [],gZu,kL [],kL [],kL [],kL [hU4,kL [ka8,ka9],hYa]],kL [gUf,hU5,kL [],gZu,kL [],kL [],kL [],kL [hU6,kL [ka8,ka9],jF6]]],
 [kL [gUf,ka3,kL [hCb],gPc,kL [kL [hPx,gPc]],kL [],kL [],kL [ka4,kL [ka8],hNm]]],
 [kL [gUf,ka3,kL [],gZu,kL [],kL [],kL [],kL [ka4,kL [ka8],kL [hG6,ka8,kL [gZu,hNn,hNn],kL [jAf,hR4]]]]]]
def gXl(m:gD):gD:=kL [hUr,jF7,kL [],kL [],kL [],ka5,m]
def hHa:List gD:=[kL [hNo,hVb,jEc],kL [gVp,ka3,ka4,kL [hCc,hR3,hNm,kL [hCc,hR3,hYb,kL [jEd,kL [hNl,ka5],kL [hCc,hRz]]]]],kL [hNo,hVb,kL [hCc,hUp,jEe,hYa]],kL [hUn,kL [hNo,hX9,jEb],kL [gVp,ka3,ka4,kL [hCc,gZu,jD8]]],kL [jF8,hX6,kL [gVp,hG5,hUo,kL [hCc,hE7,hNm],kL [hCc,hE7,hYb]],kL [hG6,hX6,kL [hE7,hNn,hNn]]],kL [gVp,ka3,ka4,kL [hCc,hRz]],kL [gVp,ka3,ka4,kL [jF9,ka3,jEe]],kL [jAe,kL [gVp,hU5,hU6,hNm,hYb],kL [hNo,hVb,hYa],hR4],kL [gVp,ka3,ka4,kL [hCc,hR3,kL [hCc,gZu,hNm],kL [jEd,kL [hNl,gZu],kL [hCc,hRz]]]],kL [hNo,hVb,kL [hNo,hX9,kL [hNo,hX9,kL [hCc,gZu,hYb]]]]]
def hR6:List gD:=[kL [hUr,jEf,kL [hCb],kL [],kL [kL [ka8,kL [hNl,gPc]]],ka5,kL [hG6,ka8,kL [hRz,hR4],kL [hR3,hU9,hUq,kL [hUn,hNm,kL [hNo,jEf,hUq]]]]]]
def hR7:List gD:=[kL [hUr,jGa,kL [hCb],kL [kL [hG5,gPc]],kL [kL [ka8,gPc],kL [ka9,gPc]],kL [hX5,hG5,gPc],kL [gVp,hG5,hUo,ka8,ka9]]]
def hR8:List gD:=[kL [hUr,jEg,kL [hCb],kL [kL [ka3,gPc]],kL [kL [hNn,ka5],kL [ka8,gPc]],ka5,kL [jAe,kL [jEa,hNn,hNm],kL [gVp,ka3,ka4,ka8],kL [hNo,jEg,kL [jD9,hNn,hNm],kL [hCc,hUp,ka8,ka8]]]]]
def gVq(b:Bool):gD:=kL (gXj++(hG7++(hCd b++hG8)))
def hR9(h:List gD)(m:gD)(c f y:List gD):gD:=kL (gXk++(hR5++(h++(gXl m::(c++(f++y))))))
theorem gIf:∀(a b:List gD),gDh (a++b)=gDh a++gDh b
 | [],b=>by simp [gDh]
 | x::a,b=>by simp only [List.cons_append,gDh,gIf a b,List.append_assoc]
theorem hCe:∀{a:List gD}(b:List gD),a≠[]→gUe (a++b)=gUe a++gDh b
 | [],b,h=>absurd rfl h
 | x::a,b,_=>by simp only [List.cons_append,gUe,gIf a b,List.append_assoc]
theorem jAg:wD++wE++yF++zO=40::(gUe gXj++gDh hG7):=by kernel_rfl
theorem jAh:gDf=gDh (hCd true):=by kernel_rfl
theorem jAi:gDg=gDh (hCd false):=by kernel_rfl
theorem jAj:uT++vF++wF++vK++wQ++zB=gDh hG8:=by kernel_rfl
theorem jAk:kU=40::(gUe gXk++gDh hR5):=by kernel_rfl
theorem jAl:[gCo,gCp,gCq,gCr,gCs,gCt,gCu]=hG9.map gDh:=by kernel_rfl
theorem jAm:[[40,99,97,108,108,32,98,111,116,104,32,53,41],gAx,gAy,gAz,gA0,gA1,gA2,gA3,gA4,gA5]=hHa.map fmt:=by kernel_rfl
theorem jAn(m:gD):yC++fmt m++[41]=gDh [gXl m]:=by
 have h:yC=32::40::(gUe (gXl (kL [])).list.dropLast++[32]):=by kernel_rfl
 rw [h];simp only [gXl,gDh,kL,fmt,gUe,List.dropLast,List.append_nil,List.nil_append,List.cons_append,List.append_assoc]
theorem jAo:gHj=gDh hR6:=by kernel_rfl
theorem jAp:gHk=gDh hR7:=by kernel_rfl
theorem jAq:gHl=gDh hR8:=by kernel_rfl
def gBp(c:jB):Prop:=0≤c.i∧c.b.length≤1048576
theorem hSa(c:jB)(h:gBp c):∃x c',gGu c=some (x,c')∧0≤x∧x≤255∧gBp c':=by
 obtain⟨f,y⟩:=h;unfold gGu;cases hc:decide (c.i < (c.b.length:Int))with
 | true=>
   have h3:=of_decide_eq_true hc;have hx:at? c.b c.i=some (c.b[c.i.toNat]'(by omega)):=by unfold at?;rw [if_pos f];exact List.getElem?_eq_getElem _
   simp only [gT];rw [jO hx];refine⟨_,_,rfl,(gRa _).1,(gRa _).2,?_,y⟩;simp only;rw [qR _ (by omega) (by omega)];omega
 | false=>exact⟨_,_,rfl,(gRa _).1,(gRa _).2,f,y⟩
theorem gGs(c:jB)(n:Int)(h:gBp c)(f:0 < n)(y:n≤256):∃x c',gAg c n=some (x,c')∧0≤x∧x < n∧gBp c':=by
 obtain⟨x,c',e,e1,e2,e3⟩:=hSa c h;unfold gAg;rw [show decide (n≤0)=false from decide_eq_false (by omega),show decide (n≤256)=true from decide_eq_true y];simp only [gT,gI];rw [jO e,mI (by omega)];exact⟨_,_,rfl,Int.tmod_nonneg _ e1,Int.tmod_lt_of_pos _ f,e3⟩
theorem gVr(c:jB)(l:LS)(h:gBp c)(h0:0 < l.length)(h1:l.length≤256):∃x c',gGv c l=some (x,c')∧gBp c'∧x∈l:=by
 obtain⟨x,c',e,f,e2,y⟩:=gGs c l.length h (by omega) (by omega);unfold gGv;have hx:at? l x=some (l[x.toNat]'(by omega)):=by unfold at?;rw [if_pos f];exact List.getElem?_eq_getElem _
 rw [jO e,jO hx];exact⟨_,_,rfl,y,List.getElem_mem _⟩
theorem gM9(c:jB)(n:Int)(h:gBp c)(f:0 < n)(y:n≤256):∃x c',gEb c n=some (x,c')∧gBp c':=by
 obtain⟨x,c',e,_,_,e3⟩:=gGs c n h f y;unfold gEb;rw [jO e];exact⟨_,_,rfl,e3⟩
theorem hNp(b:Bool):fmt (gVq b)=(40::(gUe gXj++gDh hG7))++gDh (hCd b)++gDh hG8++[41]:=by
 have h:gXj≠[]:=by simp [gXj]
 simp only [gVq,kL,fmt,hCe _ h,gIf,List.cons_append,List.append_assoc]
theorem hSc(h:List gD)(m:gD)(c f y:List gD):fmt (hR9 h m c f y)=(40::(gUe gXk++gDh hR5))++gDh h++gDh [gXl m]++gDh c++gDh f++gDh y++[41]:=by
 have h0:gXk≠[]:=by simp [gXk]
 have h1:∀l:List gD,gDh (gXl m::l)=gDh [gXl m]++gDh l:=fun l=>gIf [gXl m] l;simp only [hR9,kL,fmt];rw [hCe _ h0,gIf,gIf,h1,gIf,gIf];simp only [List.cons_append,List.append_assoc]
theorem jAr:([wD,wE,yF,zO,gDf,gDg,uT,vF,wF,vK,wQ,zB].all fun l=>decide (l.length≤1000))=true:=by kernel_rfl
theorem jAs:(([kU,yC,gHj,gHk,gHl]++hG9.map gDh++hHa.map fmt).all fun l=>decide (l.length≤1000))=true:=by kernel_rfl
set_option maxRecDepth 100000 in
theorem hSe(c:jB)(h:gBp c):∃b c',gLc c=some (fmt (gVq b),c')∧gBp c':=by
 have hl:∀l∈[wD,wE,yF,zO,gDf,gDg,uT,vF,wF,vK,wQ,zB],l.length≤1000:=fun l hm=>of_decide_eq_true (List.all_eq_true.1 jAr l hm);have l1:=hl wD (.head _);have l2:=hl wE (.tail _ (.head _));have l3:=hl yF (.tail _ (.tail _ (.head _)));have l4:=hl zO (.tail _ (.tail _ (.tail _ (.head _))));have l5:=hl gDf (.tail _ (.tail _ (.tail _ (.tail _ (.head _)))));have l6:=hl gDg (.tail _ (.tail _ (.tail _ (.tail _ (.tail _ (.head _))))));have l7:=hl uT (.tail _ (.tail _ (.tail _ (.tail _ (.tail _ (.tail _ (.head _)))))));have l8:=hl vF (.tail _ (.tail _ (.tail _ (.tail _ (.tail _ (.tail _ (.tail _ (.head _))))))));have l9:=hl wF (.tail _ (.tail _ (.tail _ (.tail _ (.tail _ (.tail _ (.tail _ (.tail _ (.head _)))))))));have ae:=hl vK (.tail _ (.tail _ (.tail _ (.tail _ (.tail _ (.tail _ (.tail _ (.tail _ (.tail _ (.head _))))))))));have ag:=hl wQ (.tail _ (.tail _ (.tail _ (.tail _ (.tail _ (.tail _ (.tail _ (.tail _ (.tail _ (.tail _ (.head _)))))))))));have ah:=hl zB (.tail _ (.tail _ (.tail _ (.tail _ (.tail _ (.tail _ (.tail _ (.tail _ (.tail _ (.tail _ (.tail _ (.head _))))))))))));clear hl;obtain⟨x,c',e,y⟩:=gM9 c 2 h (by omega) (by omega);have t0:=jAg;have t1:=jAh;have t2:=jAi;have t3:=jAj;have f:=hNp;rw [←t0,←t3] at f;have ft:=f true;have ff:=f false;rw [←t1] at ft;rw [←t2] at ff;clear f t0 t1 t2 t3;unfold gLc;generalize wD=a1 at *;generalize wE=a2 at *;generalize yF=a3 at *;generalize zO=a4 at *;generalize gDf=a5 at *;generalize gDg=a6 at *;generalize uT=a7 at *;generalize vF=a8 at *;generalize wF=a9 at *;generalize vK=ai at *;generalize wQ=aj at *;generalize zB=ak at *;rw [mI (by omega),mI (by simp only [List.length_append];omega),mI (by simp only [List.length_append];omega),jO e];cases x with
 | true=>
   simp only [gT];rw [mI (by simp only [List.length_append];omega)];simp only [bnd]
   iterate 7 rw [mI (by simp only [List.length_append,List.length_cons,List.length_nil];omega)]
   refine⟨true,c',?_,y⟩;rw [ft];simp only [List.append_assoc]
 | false=>
   simp only [gI];rw [mI (by simp only [List.length_append];omega)];simp only [bnd]
   iterate 7 rw [mI (by simp only [List.length_append,List.length_cons,List.length_nil];omega)]
   refine⟨false,c',?_,y⟩;rw [ff];simp only [List.append_assoc]
theorem hHb{x:Bool × jB}{b s:LB}{o:List gD}(hs:s=gDh o)(hl:b.length+s.length≤4294967296):∃o',(o'=[]∨o'=o)∧(cnd x.1 (gd (b.length+s.length≤4294967296) (some (b++s))) (some b))=some (b++gDh o'):=by
 cases x.1 with
 | true=>exact⟨o,.inr rfl,by simp only [gT];rw [mI hl,hs]⟩
 | false=>exact⟨[],.inl rfl,by simp [gI,gDh]⟩
set_option maxRecDepth 100000 in
theorem hVc(c:jB)(h:gBp c):∃hd m f y o3 c',gN8 c=some (fmt (hR9 hd m f y o3),c')∧gBp c'∧hd∈hG9∧m∈hHa∧(f=[]∨f=hR6)∧(y=[]∨y=hR7)∧(o3=[]∨o3=hR8):=by
 have hl:=jAs;have k1:=jAk;have k2:=jAl;have k3:=jAm;have k4:=jAn;have k5:=jAo;have k6:=jAp;have k7:=jAq;rw [←k2,←k3] at hl;have hh:∀l∈[gCo,gCp,gCq,gCr,gCs,gCt,gCu],∃hd∈hG9,l=gDh hd:=fun l hm=>by
  rw [k2] at hm;obtain⟨a,h1,h2⟩:=List.mem_map.1 hm;exact⟨a,h1,h2.symm⟩
 have hm:∀l∈[[40,99,97,108,108,32,98,111,116,104,32,53,41],gAx,gAy,gAz,gA0,gA1,gA2,gA3,gA4,gA5],∃m∈hHa,l=fmt m:=fun l hm=>by
  rw [k3] at hm;obtain⟨a,h1,h2⟩:=List.mem_map.1 hm;exact⟨a,h1,h2.symm⟩
 rw [List.all_append,List.all_append] at hl;simp only [Bool.and_eq_true,List.all_eq_true,decide_eq_true_eq] at hl;obtain⟨⟨hl1,hl2⟩,hl3⟩:=hl;have l1:=hl1 kU (by simp);have l9:=hl1 yC (by simp);have ad:=hl1 gHj (by simp);have ae:=hl1 gHk (by simp);have ag:=hl1 gHl (by simp);obtain⟨x,c1,e1,e2,e3,e4⟩:=gGs c 8 h (by omega) (by omega);unfold gN8;rw [jO e1];have hb:∃l∈[gCo,gCp,gCq,gCr,gCs,gCt,gCu],(cnd (x==0) (gd (kU.length+gCo.length≤4294967296) (some (kU++gCo))) (cnd (x==1) (gd (kU.length+gCp.length≤4294967296) (some (kU++gCp))) (cnd (x==2) (gd (kU.length+gCq.length≤4294967296) (some (kU++gCq))) (cnd (x==3) (gd (kU.length+gCr.length≤4294967296) (some (kU++gCr))) (cnd (x==4) (gd (kU.length+gCs.length≤4294967296) (some (kU++gCs))) (cnd (x==5) (gd (kU.length+gCt.length≤4294967296) (some (kU++gCt))) (gd (kU.length+gCu.length≤4294967296) (some (kU++gCu)))))))))=some (kU++l):=by
  have g:∀l∈[gCo,gCp,gCq,gCr,gCs,gCt,gCu],gd (kU.length+l.length≤4294967296) (some (kU++l))=some (kU++l):=fun l hm=>mI (by have:=hl2 l hm;omega);cases x==0 with
  | true=>exact⟨gCo,by simp,by rw [gT];exact g _ (by simp)⟩
  | false=>
  cases x==1 with
  | true=>exact⟨gCp,by simp,by rw [gI,gT];exact g _ (by simp)⟩
  | false=>
  cases x==2 with
  | true=>exact⟨gCq,by simp,by rw [gI,gI,gT];exact g _ (by simp)⟩
  | false=>
  cases x==3 with
  | true=>exact⟨gCr,by simp,by rw [gI,gI,gI,gT];exact g _ (by simp)⟩
  | false=>
  cases x==4 with
  | true=>exact⟨gCs,by simp,by rw [gI,gI,gI,gI,gT];exact g _ (by simp)⟩
  | false=>
  cases x==5 with
  | true=>exact⟨gCt,by simp,by rw [gI,gI,gI,gI,gI,gT];exact g _ (by simp)⟩
  | false=>exact⟨gCu,by simp,by rw [gI,gI,gI,gI,gI,gI];exact g _ (by simp)⟩
 obtain⟨l,hlm,hb⟩:=hb;rw [jO hb];have ll:=hl2 l hlm;obtain⟨hd,q1,rfl⟩:=hh l hlm;rw [mI (by simp only [List.length_append];omega)];obtain⟨t,c2,f1,f2,f3⟩:=gVr c1 [[40,99,97,108,108,32,98,111,116,104,32,53,41],gAx,gAy,gAz,gA0,gA1,gA2,gA3,gA4,gA5] e4 (by simp) (by simp);rw [jO f1];have lt:=hl3 t f3;obtain⟨m,q2,rfl⟩:=hm t f3;rw [mI (by simp only [List.length_append];omega),mI (by simp only [List.length_append,List.length_cons,List.length_nil];omega)];obtain⟨y1,c3,g1,g2⟩:=gM9 c2 2 f2 (by omega) (by omega);rw [jO g1];obtain⟨f,q3,r1⟩:=hHb (x:=(y1,c3)) (b:=kU++gDh hd++yC++fmt m++[41]) k5 (by simp only [List.length_append,List.length_cons,List.length_nil];omega)
 have lo1:(gDh f).length≤1000:=by rcases q3 with rfl | rfl;· simp [gDh]
                                  ·rw [←k5];exact ad
 rw [jO r1];obtain⟨y2,c4,g3,g4⟩:=gM9 c3 3 g2 (by omega) (by omega);rw [jO g3];obtain⟨y,q4,r2⟩:=hHb (x:=(y2,c4)) (b:=kU++gDh hd++yC++fmt m++[41]++gDh f) k6 (by simp only [List.length_append,List.length_cons,List.length_nil];omega)
 have lo2:(gDh y).length≤1000:=by rcases q4 with rfl | rfl;· simp [gDh]
                                  ·rw [←k6];exact ae
 rw [jO r2];obtain⟨y3,c5,g5,g6⟩:=gM9 c4 4 g4 (by omega) (by omega);rw [jO g5];obtain⟨o3,q5,r3⟩:=hHb (x:=(y3,c5)) (b:=kU++gDh hd++yC++fmt m++[41]++gDh f++gDh y) k7 (by simp only [List.length_append,List.length_cons,List.length_nil];omega)
 have lo3:(gDh o3).length≤1000:=by rcases q5 with rfl | rfl;· simp [gDh]
                                   ·rw [←k7];exact ag
 rw [jO r3,mI (by simp only [List.length_append,List.length_cons,List.length_nil];omega)];refine⟨hd,m,f,y,o3,c5,?_,g6,q1,q2,q3,q4,q5⟩;rw [hSc,←k1,←k4 m];simp only [List.append_assoc]
def zD(c:uG):List qL→LS→Option (Bool)
 | [],f=>lt_ ((cnd c.auto ((cnd c.assoc (true) ((cnd (decide ((c.signatures.length:Int) > 0)) (true) ((decide ((c.supertraits.length:Int) > 0))))))) (false))) fun h=>
(cnd h (
(some false)) (
bnd ((cnd (mH c.name) (bnd (yA c.supertraits 4) fun y=>
(cnd y (bnd (yA f 6) fun aa=>
(some aa)) ((some false)))) ((some false)))) fun ab=>
(some ab)))
 | x6::xs,f=>bnd (gWk x6) fun x7=>
(cnd (!x7) (
(some false)) (
gd (f.length+[x6.name].length≤4294967296) (
zD c xs (f++[x6.name]))))
def gD2(c:uG):Option (Bool):=
zD c c.signatures []
theorem gLe(a0:uG){r:Bool}(h:gD2 a0=some r):gY Tryz.prog 177 [.d (gM2 a0)] [.b r]:=by
 obtain⟨f,aa,ab,ac,c⟩:=a0;unfold gD2 at h;refine SpI Tryz.func177 fun A _=>?_;refine goL ?_;refine gGk ?_;refine goL ?_;refine noB ?_;refine wJ 0 4 (fun z4=>?_);refine kS (fun(y3:Nat)(y1:LS)(v2:Nat)=>⟨[(1,.ptr 0 0),(3,.sl 1 v2),(4,.N y3)],[bTr f aa ab ac c,.own 9 1 v2 (jL y1)],Tryz.f177.ntmps⟩) (fun y3 y1 v2=>zD (uG.mk f aa ab ac c) (c.drop y3) y1=some r) (fun y3 y1 v2=>c.length - y3) 0 [] 0 eJ h ?_;rintro y3 y1 v2 h;refine goL ?_;refine kX (fun c5=>?_) (fun c5=>?_)
 ·have y:=uR c5;obtain⟨x6,al,am⟩:=drop_at y;rw [am,zD.eq_2] at h;obtain⟨ah,ba,⟨ap,aq,ar⟩,bb,bc,⟨au,av,aw,ax,⟨ai,aj,ak⟩,ay,a3⟩⟩:=x6;refine noS ?_;refine jY (jA ?_);refine goL ?_;refine jI (jJ y3 (gPw al)) ?_;obtain⟨x7,a6,h⟩:=gM h;refine jI (gF (hOu _ a6)) ?_;refine kX (fun c8=>?_) (fun c8=>?_)
  ·replace h:=kD c8 h;exact goR h
  ·replace h:=kE c8 h;refine goS ?_;refine jI (jJ y3 (gPw al)) ?_;refine gBc ah ?_;obtain⟨g9,h⟩:=mY h;refine gIe g9 ?_;refine goL ?_;refine jI (jW y3 (by omega)) ?_;exact⟨(y3+1),(y1++[ah]),(v2+1),h,by omega,eJ⟩
 ·have y:=uS c5;rw [jC y,zD.eq_1] at h;refine goX ?_;obtain⟨a8,hb10,h⟩:=qA h;refine jT ⟨[(1,.ptr 0 0),(3,.sl 1 v2),(46,.B a8)],[bTr f aa ab ac c,.own 9 1 v2 (jL y1)],Tryz.f177.ntmps⟩ ?_ ?_
  ·refine gqA 31 hb10 (fun bf hb10=>?_);refine gqO 34 hb10 (fun bg hb10=>?_);exact gqZ 40 hb10
  refine goC h ?_ ?_<;>intro bh h
  ·exact goR h
  ·refine goS ?_;refine jI (gF (qG f)) ?_;obtain⟨a9,hb15,h⟩:=gM h;refine jT ⟨[(2,.B a9)],[bTr f aa ab ac c,.own 9 1 v2 (jL y1)],Tryz.f177.ntmps⟩ ?_ ?_
   ·refine gqA 50 hb15 (fun bi hb15=>?_);obtain⟨bj,an,hb15⟩:=gM hb15;refine jI (gF (gAc _ _ an)) ?_;refine gqA 55 hb15 (fun bk hb15=>?_);obtain⟨bl,ao,hb15⟩:=gM hb15;refine gBn (gV9 (gAc y1 6 ao)) ?_;cases hb15;exact eJ
   exact goR h
def vL(a0:gD)(x1:gD)(x3:LS):List gD→(List pV)→Option (mP × Bool)
 | [],c=>bnd (bnd (qN a0) fun ad=>
(cnd (!ad) ((some true)) ((cnd ((a0.list.length:Int)==0) ((some true)) (bnd (gEf (mP.mk x1.atom x3 c)) fun ae=>
bnd (gCl 5000 ae a0) fun ag=>
(some (!ag))))))) fun ah=>
(cnd ah (
(some ((mP.mk [] [] []),false))) (
(some ((mP.mk x1.atom x3 c),true))))
 | f::xs,c=>bnd (qM f 0) fun h=>
bnd (gJs f 1) fun ai=>
bnd (gRj ai) fun y=>
gd (c.length+[(pV.mk h.atom y)].length≤4294967296) (
vL a0 x1 x3 xs (c++[(pV.mk h.atom y)]))
def gD3(c:gD):Option (mP × Bool):=
bnd (qM c 1) fun f=>
bnd (qM c 2) fun h=>
bnd (gCz h) fun y=>
bnd (gJs c 3) fun x4=>
vL c f y x4 []
theorem gN1(a0:gD){r:mP × Bool}(h:gD3 a0=some r):gY Tryz.prog 133 [.d (pJ a0)] [gFu r.1,.b r.2]:=by
 obtain⟨y,aa⟩:=a0;unfold gD3 at h;refine SpI Tryz.func133 fun A _=>?_;refine gId ?_;refine jK (P:=Tryz.prog) Mix.h [(0,true),(1,true),(2,true),(3,true),(4,true),(5,true),(6,true),(7,false),(8,false)] (by kernel_rfl) ?_;refine goY ?_;obtain⟨⟨f,ak⟩,aw,h⟩:=gM h;refine jF rfl (gF (uB _ _ aw)) ?_;refine jF rfl (gIq) ?_;refine goY ?_;obtain⟨⟨be,bf⟩,ax,h⟩:=gM h;refine jF rfl (gF (uB _ _ ax)) ?_;obtain⟨x3,ay,h⟩:=gM h;refine jF rfl (gF (gE8 _ ay)) ?_;refine goY ?_;refine kQ ?_;refine goL ?_;obtain⟨x4,a4,h⟩:=gM h;refine jI (gF (gO1 _ _ a4)) ?_;refine noB ?_;refine yT 221 2 2 2 rfl rfl (by repeat constructor) (by repeat constructor) (by repeat constructor) (by repeat constructor) ?_;show V _ _ _ _ _;refine gB0 5 (fun z8=>?_);refine kS (fun(y7:Nat)(y5:List pV)(v6:Nat)=>⟨[(1,.ptr 0 0),(2,.ptr 1 0),(4,.ptr 2 0),(5,.L 2 (gX x4)),(6,.N y7)],[bSx y aa,.box [.S [],.nilsl,.nilsl],.box [.S f,.L 1 (jL x3),.sl 3 v6],.arr 221 2 v6 (wN y5)],Tryz.f133.ntmps⟩) (fun y7 y5 v6=>vL (gD.mk y aa) (gD.mk f ak) x3 (x4.drop y7) y5=some r) (fun y7 y5 v6=>x4.length - y7) 0 [] 0 eJ h ?_;rintro y7 y5 v6 h;refine goL ?_;refine kX (fun c9=>?_) (fun c9=>?_)
 ·have c:=uR c9;obtain⟨a6,ag,ah⟩:=drop_at c;rw [ah,vL.eq_2] at h;obtain⟨a7,a8⟩:=a6;refine noS ?_;refine jY (jA ?_);refine uM (P:=Tryz.prog) Mix.h [(0,true),(1,true),(2,true),(3,true),(4,true),(5,true),(6,true),(7,true),(8,true),(9,true),(10,true),(11,true),(12,true),(13,true),(14,true),(15,false),(16,false),(17,true),(18,false)] (by kernel_rfl) ?_;refine goY ?_;refine jF rfl (jJ y7 (uK ag)) ?_;refine goY ?_;obtain⟨⟨ab,a9⟩,al,h⟩:=gM h;refine jF rfl (gF (uB _ _ al)) ?_;refine jF rfl (gIq) ?_;refine goY ?_;refine jF rfl (jJ y7 (uK ag)) ?_;refine goY ?_;obtain⟨bg,am,h⟩:=gM h;refine jF rfl (gF (gO1 _ _ am)) ?_;obtain⟨an,ao,h⟩:=gM h;refine jF rfl (gF (hEm _ ao)) ?_;refine goY ?_;refine qE (T:=193) (us:=wN [(pV.mk ab an)]) ?_;obtain⟨ba,h⟩:=mY h;refine pW (T:=193) ba ?_;refine goY ?_;refine kQ ?_;refine goL ?_;refine jI (jW y7 (by omega)) ?_;exact⟨(y7+1),(y5++[(pV.mk ab an)]),(v6+1),h,by omega,eJ⟩
 ·have c:=uS c9;rw [jC c,vL.eq_1] at h;refine noX ?_;refine gId ?_;refine kP 3 rfl rfl ?_;obtain⟨bb,hb15,h⟩:=gM h;refine uE (P:=Tryz.prog) Mix.h ⟨[(2,.ptr 1 0),(4,.ptr 2 0),(55,.B bb)],[bSx y aa,.box [.S [],.nilsl,.nilsl],.box [.S f,.L 1 (jL x3),.sl 3 v6],.frz 221 2 v6 (wN y5)],Tryz.f133.ntmps⟩ (by kernel_rfl) ?_ ?_
  ·refine goL ?_;obtain⟨bh,ap,hb15⟩:=gM hb15;refine gFd (gF (yG _ ap)) ?_;refine goL ?_;refine vG 43 (fun ai=>?_) (fun ai=>?_)
   ·replace hb15:=kD ai hb15;refine goL ?_;cases hb15;exact eJ
   ·replace hb15:=kE ai hb15;refine goL ?_;refine vG 49 (fun aj=>?_) (fun aj=>?_)
    ·replace hb15:=kD aj hb15;refine goL ?_;cases hb15;exact eJ
    ·replace hb15:=kE aj hb15;refine goL ?_;obtain⟨⟨bc,bd⟩,aq,hb15⟩:=gM hb15;refine hOm (hJi (gOp (mP.mk f x3 y5) aq)) ?_;refine goL ?_;obtain⟨bi,ar,hb15⟩:=gM hb15;refine gC1 (gF (gGq _ _ _ ar)) ?_;refine goL ?_;cases hb15;exact eJ
  refine goC h ?_ ?_<;>intro bj h
  ·refine goL ?_;refine zZ (jX TBd.h TZ.h rfl (by repeat constructor)) ?_;exact goR h
  ·refine goS ?_;refine jG ?_;cases h;exact qD
def vM(h:gD):List gC0→(List gD)→Option (gD)
 | [],c=>bnd (gP5 true (gD.mk h.atom c)) fun aa=>
(some aa)
 | f::xs,c=>lt_ (mF f.name) fun ab=>
bnd (gBh f.vars) fun ac=>
bnd (gNn 5000 f.body) fun ad=>
bnd (gIx [ab,ac,ad]) fun y=>
gd (c.length+[y].length≤4294967296) (
vM h xs (c++[y]))
def gD4(c:kG):Option (gD):=
bnd (gBv c) fun x1=>
(cnd (!x1) (
(some (gD.mk [] []))) (
bnd ((cnd c.default_ (
gd (([]:LS).length+([[100,101,102,97,117,108,116]]:LS).length≤4294967296) (
(some ([]++[[100,101,102,97,117,108,116]])))) (
(some [])))) fun b3=>
bnd ((cnd c.hasAssoc (
bnd (gM1 5000 c.assoc) fun x9=>
bnd (gIx [x9]) fun f=>
(some (f.atom,f.list))) (
(some ([],[]))))) fun b7=>
lt_ (mF [105,110,115,116]) fun y=>
lt_ (mF c.trait) fun aa=>
bnd (gBh c.vars) fun ab=>
bnd (gM1 5000 c.head) fun ac=>
bnd (gMl c.where_) fun ad=>
bnd (gBh b3) fun ae=>
bnd (gJt [y,aa,ab,ac,ad,ae,(gD.mk b7.1 b7.2)]) fun h=>
vM h c.methods h.list))
theorem gN2(a0:kG){r:gD}(h:gD4 a0=some r):gY Tryz.prog 173 [.d (gCc a0)] [pJ r]:=by
 obtain⟨a4,ax,⟨an,ao,ap⟩,av,a5,a6,⟨aq,ar,au⟩,a3⟩:=a0;unfold gD4 at h;refine SpI Tryz.func173 fun A _=>?_;refine goL ?_;obtain⟨x1,ci,h⟩:=gM h;refine jI (gF (gIr _ ci)) ?_;refine kX (fun c2=>?_) (fun c2=>?_)
 ·replace h:=kD c2 h;refine goL ?_;refine zZ (jX TBd.h TZ.h rfl (by repeat constructor)) ?_;exact goR h
 ·replace h:=kE c2 h;refine goS ?_;refine gGk ?_;refine goL ?_;obtain⟨b3,hb3,h⟩:=gM h;refine gNi (fun v4=>⟨[(1,.ptr 0 0),(2,.ptr 1 0),(3,.sl 2 v4)],[bIn a4 ax an ao ap av a5 a6 aq ar au a3,.box [.S [],.nilsl],.own 9 1 v4 (jL b3)],Tryz.f173.ntmps⟩) ?_ (fun v4=>?_)
  ·refine kX (fun c5=>?_) (fun c5=>?_)
   ·replace hb3:=kD c5 hb3;refine goL ?_;refine gBc ([100,101,102,97,117,108,116]:LB) ?_;obtain⟨g6,hb3⟩:=mY hb3;refine gIe g6 ?_;refine goL ?_;cases hb3;exact⟨(0+1),eJ⟩
   ·replace hb3:=kE c5 hb3;refine gAn ?_;cases hb3;exact⟨0,eJ⟩
  refine goL ?_;refine gBn (jX TBd.h TZ.h rfl (by repeat constructor)) ?_;refine gYm 2 3 1 rfl rfl (by repeat constructor) (by repeat constructor) ?_;obtain⟨⟨c,f⟩,hb7,h⟩:=gM h;refine gE4 ⟨[(1,.ptr 0 0),(2,.ptr 1 0),(3,.sl 2 v4),(4,.ptr 3 0)],[bIn a4 ax an ao ap av a5 a6 aq ar au a3,.box [.S [],.nilsl],.own 9 1 v4 (jL b3),bSx c f],Tryz.f173.ntmps⟩ ?_ ?_
  ·refine kX (fun c8=>?_) (fun c8=>?_)
   ·replace hb7:=kD c8 hb7;refine goL ?_;obtain⟨⟨b1,b2⟩,cm,hb7⟩:=gM hb7;refine qK (gF (gKu _ _ cm)) ?_;refine gAo (u:=(.st [.s b1,.sl 2 (gX b2)])) ?_;refine uZ 4 rfl rfl ?_;refine hKl ?_;obtain⟨⟨cn,co⟩,b8,hb7⟩:=gM hb7;refine gBn (hJi (gMs [(gD.mk b1 b2)] b8)) ?_;cases hb7;exact eJ
   ·replace hb7:=kE c8 hb7;refine gAn ?_;cases hb7;exact eJ
  refine gId ?_;refine qU 2 rfl rfl ?_;refine hZ4 ?_;obtain⟨⟨y,aa⟩,b9,h⟩:=qA h;have sx11:=mO [105,110,115,116];rw [b9] at sx11;obtain⟨⟨ab,ac⟩,ca,h⟩:=qA h;have sx12:=mO a4;rw [ca] at sx12;obtain⟨⟨ad,ae⟩,bj,h⟩:=gM h;obtain⟨⟨ah,ai⟩,bd,h⟩:=gM h;obtain⟨⟨aj,ak⟩,ba,h⟩:=gM h;obtain⟨⟨al,am⟩,a8,h⟩:=gM h;obtain⟨⟨aw,ay⟩,a7,h⟩:=gM h;refine qJ (P:=Tryz.prog) Mix.h (.q 1 (.q 2 (.q 4 (.q 5 (.q 7 (.q 8 (.q 10 (.q 11 (.q 13 (.q 15 (.h 0 (.h 3 (.h 6 (.h 9 (.h 12 (.h 14 (.h 16 (.h 17 (.h 18 (.h 19 .nil .nil) .nil) (.h 18 (.h 17 (.h 19 .nil .nil) .nil) .nil)) (.h 18 (.h 16 (.h 17 (.h 19 .nil .nil) .nil) .nil) .nil)) (.h 18 (.h 14 (.h 16 (.h 17 (.h 19 .nil .nil) .nil) .nil) .nil) .nil)) (.h 18 (.h 12 (.h 14 (.h 16 (.h 17 (.h 19 .nil .nil) .nil) .nil) .nil) .nil) .nil)) (.h 18 (.h 9 (.h 12 (.h 14 (.h 16 (.h 17 (.h 19 .nil .nil) .nil) .nil) .nil) .nil) .nil) .nil)) (.h 18 (.h 6 (.h 9 (.h 12 (.h 14 (.h 16 (.h 17 (.h 19 .nil .nil) .nil) .nil) .nil) .nil) .nil) .nil) .nil)) (.h 18 (.h 3 (.h 6 (.h 9 (.h 12 (.h 14 (.h 16 (.h 17 (.h 19 .nil .nil) .nil) .nil) .nil) .nil) .nil) .nil) .nil) .nil)) (.h 18 (.h 0 (.h 3 (.h 6 (.h 9 (.h 12 (.h 14 (.h 16 (.h 17 (.h 19 .nil .nil) .nil) .nil) .nil) .nil) .nil) .nil) .nil) .nil) .nil)))))))))))) ⟨[(1,.ptr 0 0),(2,.ptr 1 0),(5,.ptr 6 0)],[bIn a4 ax an ao ap av a5 a6 aq ar au a3,.box [.S [],.nilsl],.frz 9 1 v4 (jL b3),bSx c f,.frz 135 2 0 (gX [(gD.mk y aa),(gD.mk ab ac),(gD.mk ad ae),(gD.mk ah ai),(gD.mk aj ak),(gD.mk al am),(gD.mk c f)]),.arr 135 2 0 (gX ay),.box [.S aw,.sl 5 0]],Tryz.f173.ntmps⟩ (by kernel_rfl) ?_ ?_
  ·refine goT ?_;refine uV (pX (sx11) jU) ?_ ?_
   ·refine uV (pX (sx12) jU) ?_ ?_
    ·refine uV (pX (uO ax bj) jU) ?_ ?_
     ·refine uV (pX (gKu 5000 (gB.mk an ao ap) bd) jU) ?_ ?_
      ·refine uV (pX (gE5 av ba) jU) ?_ ?_
       ·refine uV (pX (uO b3 a8) jU) ?_ ?_
        ·refine uV (qE (T:=133) (us:=gX [(gD.mk y aa),(gD.mk ab ac),(gD.mk ad ae),(gD.mk ah ai),(gD.mk aj ak),(gD.mk al am),(gD.mk c f)]) jU) ?_ ?_
         ·refine uV (gBe 4 rfl rfl (gC5 (sv:=.ag [.S aw,.sl 5 0]) (L':=[bIn a4 ax an ao ap av a5 a6 aq ar au a3,.box [.S [],.nilsl],.frz 9 1 v4 (jL b3),bSx c f,.frz 135 2 0 (gX [(gD.mk y aa),(gD.mk ab ac),(gD.mk ad ae),(gD.mk ah ai),(gD.mk aj ak),(gD.mk al am),(gD.mk c f)]),.arr 135 2 0 (gX ay)]) [] (vD [(gD.mk y aa),(gD.mk ab ac),(gD.mk ad ae),(gD.mk ah ai),(gD.mk aj ak),(gD.mk al am),(gD.mk c f)] a7) jU)) ?_ ?_
          ·refine goT ?_;refine jV ?_;exact qX 0 [0,1,2,3,4,5,6]
          refine goT ?_;refine jR (gBe 4 rfl rfl (gC5 (sv:=.ag [.S aw,.sl 6 0]) (L':=[bIn a4 ax an ao ap av a5 a6 aq ar au a3,.box [.S [],.nilsl],.frz 9 1 v4 (jL b3),bSx c f,.frz 135 2 0 (gX [(gD.mk y aa),(gD.mk ab ac),(gD.mk ad ae),(gD.mk ah ai),(gD.mk aj ak),(gD.mk al am),(gD.mk c f)]),.box [.S [],.nilsl],.arr 135 2 0 (gX ay)]) [] (vD [(gD.mk y aa),(gD.mk ab ac),(gD.mk ad ae),(gD.mk ah ai),(gD.mk aj ak),(gD.mk al am),(gD.mk c f)] a7) jU)) ?_;refine goT ?_;refine jV ?_;exact qX 0 [0,1,2,3,4,6,5]
         refine goT ?_;refine jR (qE (T:=133) (us:=gX [(gD.mk y aa),(gD.mk ab ac),(gD.mk ad ae),(gD.mk ah ai),(gD.mk aj ak),(gD.mk al am),(gD.mk c f)]) jU) ?_;refine jR (gBe 5 rfl rfl (gC5 (sv:=.ag [.S aw,.sl 6 0]) (L':=[bIn a4 ax an ao ap av a5 a6 aq ar au a3,.box [.S [],.nilsl],.frz 9 1 v4 (jL b3),bSx c f,.box [.S [],.nilsl],.frz 135 2 0 (gX [(gD.mk y aa),(gD.mk ab ac),(gD.mk ad ae),(gD.mk ah ai),(gD.mk aj ak),(gD.mk al am),(gD.mk c f)]),.arr 135 2 0 (gX ay)]) [] (vD [(gD.mk y aa),(gD.mk ab ac),(gD.mk ad ae),(gD.mk ah ai),(gD.mk aj ak),(gD.mk al am),(gD.mk c f)] a7) jU)) ?_;refine goT ?_;refine jV ?_;exact qX 0 [0,1,2,3,5,6,4]
        refine goT ?_;refine jR (pX (uO b3 a8) jU) ?_;refine jR (qE (T:=133) (us:=gX [(gD.mk y aa),(gD.mk ab ac),(gD.mk ad ae),(gD.mk ah ai),(gD.mk aj ak),(gD.mk al am),(gD.mk c f)]) jU) ?_;refine jR (gBe 5 rfl rfl (gC5 (sv:=.ag [.S aw,.sl 6 0]) (L':=[bIn a4 ax an ao ap av a5 a6 aq ar au a3,.box [.S [],.nilsl],.frz 9 1 v4 (jL b3),bSx c f,.box [.S [],.nilsl],.frz 135 2 0 (gX [(gD.mk y aa),(gD.mk ab ac),(gD.mk ad ae),(gD.mk ah ai),(gD.mk aj ak),(gD.mk al am),(gD.mk c f)]),.arr 135 2 0 (gX ay)]) [] (vD [(gD.mk y aa),(gD.mk ab ac),(gD.mk ad ae),(gD.mk ah ai),(gD.mk aj ak),(gD.mk al am),(gD.mk c f)] a7) jU)) ?_;refine goT ?_;refine jV ?_;exact qX 0 [0,1,2,3,5,6,4]
       refine goT ?_;refine jR (pX (gE5 av ba) jU) ?_;refine jR (pX (uO b3 a8) jU) ?_;refine jR (qE (T:=133) (us:=gX [(gD.mk y aa),(gD.mk ab ac),(gD.mk ad ae),(gD.mk ah ai),(gD.mk aj ak),(gD.mk al am),(gD.mk c f)]) jU) ?_;refine jR (gBe 5 rfl rfl (gC5 (sv:=.ag [.S aw,.sl 6 0]) (L':=[bIn a4 ax an ao ap av a5 a6 aq ar au a3,.box [.S [],.nilsl],.frz 9 1 v4 (jL b3),bSx c f,.box [.S [],.nilsl],.frz 135 2 0 (gX [(gD.mk y aa),(gD.mk ab ac),(gD.mk ad ae),(gD.mk ah ai),(gD.mk aj ak),(gD.mk al am),(gD.mk c f)]),.arr 135 2 0 (gX ay)]) [] (vD [(gD.mk y aa),(gD.mk ab ac),(gD.mk ad ae),(gD.mk ah ai),(gD.mk aj ak),(gD.mk al am),(gD.mk c f)] a7) jU)) ?_;refine goT ?_;refine jV ?_;exact qX 0 [0,1,2,3,5,6,4]
      refine goT ?_;refine jR (pX (gKu 5000 (gB.mk an ao ap) bd) jU) ?_;refine jR (pX (gE5 av ba) jU) ?_;refine jR (pX (uO b3 a8) jU) ?_;refine jR (qE (T:=133) (us:=gX [(gD.mk y aa),(gD.mk ab ac),(gD.mk ad ae),(gD.mk ah ai),(gD.mk aj ak),(gD.mk al am),(gD.mk c f)]) jU) ?_;refine jR (gBe 5 rfl rfl (gC5 (sv:=.ag [.S aw,.sl 6 0]) (L':=[bIn a4 ax an ao ap av a5 a6 aq ar au a3,.box [.S [],.nilsl],.frz 9 1 v4 (jL b3),bSx c f,.box [.S [],.nilsl],.frz 135 2 0 (gX [(gD.mk y aa),(gD.mk ab ac),(gD.mk ad ae),(gD.mk ah ai),(gD.mk aj ak),(gD.mk al am),(gD.mk c f)]),.arr 135 2 0 (gX ay)]) [] (vD [(gD.mk y aa),(gD.mk ab ac),(gD.mk ad ae),(gD.mk ah ai),(gD.mk aj ak),(gD.mk al am),(gD.mk c f)] a7) jU)) ?_;refine goT ?_;refine jV ?_;exact qX 0 [0,1,2,3,5,6,4]
     refine goT ?_;refine jR (pX (uO ax bj) jU) ?_;refine jR (pX (gKu 5000 (gB.mk an ao ap) bd) jU) ?_;refine jR (pX (gE5 av ba) jU) ?_;refine jR (pX (uO b3 a8) jU) ?_;refine jR (qE (T:=133) (us:=gX [(gD.mk y aa),(gD.mk ab ac),(gD.mk ad ae),(gD.mk ah ai),(gD.mk aj ak),(gD.mk al am),(gD.mk c f)]) jU) ?_;refine jR (gBe 5 rfl rfl (gC5 (sv:=.ag [.S aw,.sl 6 0]) (L':=[bIn a4 ax an ao ap av a5 a6 aq ar au a3,.box [.S [],.nilsl],.frz 9 1 v4 (jL b3),bSx c f,.box [.S [],.nilsl],.frz 135 2 0 (gX [(gD.mk y aa),(gD.mk ab ac),(gD.mk ad ae),(gD.mk ah ai),(gD.mk aj ak),(gD.mk al am),(gD.mk c f)]),.arr 135 2 0 (gX ay)]) [] (vD [(gD.mk y aa),(gD.mk ab ac),(gD.mk ad ae),(gD.mk ah ai),(gD.mk aj ak),(gD.mk al am),(gD.mk c f)] a7) jU)) ?_;refine goT ?_;refine jV ?_;exact qX 0 [0,1,2,3,5,6,4]
    refine goT ?_;refine jR (pX (sx12) jU) ?_;refine jR (pX (uO ax bj) jU) ?_;refine jR (pX (gKu 5000 (gB.mk an ao ap) bd) jU) ?_;refine jR (pX (gE5 av ba) jU) ?_;refine jR (pX (uO b3 a8) jU) ?_;refine jR (qE (T:=133) (us:=gX [(gD.mk y aa),(gD.mk ab ac),(gD.mk ad ae),(gD.mk ah ai),(gD.mk aj ak),(gD.mk al am),(gD.mk c f)]) jU) ?_;refine jR (gBe 5 rfl rfl (gC5 (sv:=.ag [.S aw,.sl 6 0]) (L':=[bIn a4 ax an ao ap av a5 a6 aq ar au a3,.box [.S [],.nilsl],.frz 9 1 v4 (jL b3),bSx c f,.box [.S [],.nilsl],.frz 135 2 0 (gX [(gD.mk y aa),(gD.mk ab ac),(gD.mk ad ae),(gD.mk ah ai),(gD.mk aj ak),(gD.mk al am),(gD.mk c f)]),.arr 135 2 0 (gX ay)]) [] (vD [(gD.mk y aa),(gD.mk ab ac),(gD.mk ad ae),(gD.mk ah ai),(gD.mk aj ak),(gD.mk al am),(gD.mk c f)] a7) jU)) ?_;refine goT ?_;refine jV ?_;exact qX 0 [0,1,2,3,5,6,4]
   refine goT ?_;refine jR (pX (sx11) jU) ?_;refine jR (pX (sx12) jU) ?_;refine jR (pX (uO ax bj) jU) ?_;refine jR (pX (gKu 5000 (gB.mk an ao ap) bd) jU) ?_;refine jR (pX (gE5 av ba) jU) ?_;refine jR (pX (uO b3 a8) jU) ?_;refine jR (qE (T:=133) (us:=gX [(gD.mk y aa),(gD.mk ab ac),(gD.mk ad ae),(gD.mk ah ai),(gD.mk aj ak),(gD.mk al am),(gD.mk c f)]) jU) ?_;refine jR (gBe 5 rfl rfl (gC5 (sv:=.ag [.S aw,.sl 6 0]) (L':=[bIn a4 ax an ao ap av a5 a6 aq ar au a3,.box [.S [],.nilsl],.frz 9 1 v4 (jL b3),bSx c f,.box [.S [],.nilsl],.frz 135 2 0 (gX [(gD.mk y aa),(gD.mk ab ac),(gD.mk ad ae),(gD.mk ah ai),(gD.mk aj ak),(gD.mk al am),(gD.mk c f)]),.arr 135 2 0 (gX ay)]) [] (vD [(gD.mk y aa),(gD.mk ab ac),(gD.mk ad ae),(gD.mk ah ai),(gD.mk aj ak),(gD.mk al am),(gD.mk c f)] a7) jU)) ?_;refine goT ?_;refine jV ?_;exact qX 0 [0,1,2,3,5,6,4]
  refine goL ?_;refine noB ?_;refine wJ 0 11 (fun cu=>?_);refine kS (fun(bb:Nat)(bf:List gD)(bk:Nat)=>⟨[(1,.ptr 0 0),(2,.ptr 1 0),(5,.ptr 6 0),(6,.N bb)],[bIn a4 ax an ao ap av a5 a6 aq ar au a3,.box [.S [],.nilsl],.frz 9 1 v4 (jL b3),bSx c f,.frz 135 2 0 (gX [(gD.mk y aa),(gD.mk ab ac),(gD.mk ad ae),(gD.mk ah ai),(gD.mk aj ak),(gD.mk al am),(gD.mk c f)]),.arr 135 2 bk (gX bf),.box [.S aw,.sl 5 bk]],Tryz.f173.ntmps⟩) (fun bb bf bk=>vM (gD.mk aw ay) (a3.drop bb) bf=some r) (fun bb bf bk=>a3.length - bb) 0 ay 0 eJ h ?_;rintro bb bf bk h;refine goL ?_;refine kX (fun b4=>?_) (fun b4=>?_)
  ·have bc:=uR b4;obtain⟨cp,cb,b5⟩:=drop_at bc;rw [b5,vM.eq_2] at h;obtain⟨b6,b7,⟨bl,bm,bn,bo,⟨bg,bh,bi⟩,bp,bq⟩⟩:=cp;refine noS ?_;refine jY (jA ?_);refine goL ?_;refine qK (jJ bb (hJm cb)) ?_;refine gId ?_;refine uM (P:=Tryz.prog) Mix.h [(0,true),(1,true),(2,true),(3,true),(5,true),(6,true),(8,true),(9,true),(4,false),(7,false),(10,false),(11,false),(12,false),(13,false),(14,false),(15,true),(16,false)] (by kernel_rfl) ?_;refine goY ?_;obtain⟨⟨br,bt⟩,cc,h⟩:=qA h;have sx24:=mO b6;rw [cc] at sx24;refine pX (sx24) ?_;obtain⟨⟨bu,bv⟩,cd,h⟩:=gM h;refine pX (uO b7 cd) ?_;obtain⟨⟨bw,bx⟩,ce,h⟩:=gM h;refine pX (hA4 5000 (kI.mk bl bm bn bo (gB.mk bg bh bi) bp bq) ce) ?_;refine qE (T:=133) (us:=gX [(gD.mk br bt),(gD.mk bu bv),(gD.mk bw bx)]) ?_;refine gBe 8 rfl rfl ?_;obtain⟨⟨bz,b0⟩,cf,h⟩:=gM h;refine pX (gMs [(gD.mk br bt),(gD.mk bu bv),(gD.mk bw bx)] cf) ?_;refine qE (T:=133) (us:=gX [(gD.mk bz b0)]) ?_;obtain⟨cq,h⟩:=mY h;refine pW (T:=133) cq ?_;refine goY ?_;refine kQ ?_;refine goL ?_;refine jI (jW bb (by omega)) ?_;exact⟨(bb+1),(bf++[(gD.mk bz b0)]),(bk+1),h,by omega,eJ⟩
  ·have bc:=uS b4;rw [jC bc,vM.eq_1] at h;refine goX ?_;refine uZ 5 rfl rfl ?_;refine hKl ?_;obtain⟨⟨cr,cs⟩,cg,h⟩:=gM h;refine zZ (hJi (gWt true (gD.mk aw bf) cg)) ?_;exact goR h
def vN(c:mK):List gHv→(List gD)→Option (gD)
 | [],h=>lt_ (mF [102,110]) fun y=>
lt_ (mF c.name) fun aa=>
bnd (gBh c.vars) fun ab=>
bnd (gMl c.where_) fun ac=>
bnd (gM1 5000 c.result) fun ad=>
bnd (gNn 5000 c.body) fun ae=>
bnd (gIx [y,aa,ab,ac,(gD.mk [] h),ad,ae]) fun ag=>
bnd (gP5 true ag) fun ah=>
(some ah)
 | x8::xs,h=>lt_ (mF x8.name) fun x9=>
bnd (gM1 5000 x8.type_) fun ai=>
bnd (gIx [x9,ai]) fun f=>
gd (h.length+[f].length≤4294967296) (
vN c xs (h++[f]))
def gD5(c:mK):Option (gD):=
bnd (gBw c) fun f=>
(cnd (!f) (
(some (gD.mk [] []))) (
vN c c.params []))
theorem gN3(a0:mK){r:gD}(h:gD5 a0=some r):gY Tryz.prog 174 [.d (gFv a0)] [pJ r]:=by
 obtain⟨am,an,ao,ak,⟨aa,ab,ac⟩,⟨ad,ae,ag,ah,⟨c,f,y⟩,ai,aj⟩⟩:=a0;unfold gD5 at h;refine SpI Tryz.func174 fun A _=>?_;refine goL ?_;obtain⟨x1,b1,h⟩:=gM h;refine jI (gF (gIs (mK.mk am an ao ak (gB.mk aa ab ac) (kI.mk ad ae ag ah (gB.mk c f y) ai aj)) b1)) ?_;refine kX (fun c2=>?_) (fun c2=>?_)
 ·replace h:=kD c2 h;refine goL ?_;refine zZ (jX TBd.h TZ.h rfl (by repeat constructor)) ?_;exact goR h
 ·replace h:=kE c2 h;refine goS ?_;refine gBn (jX TBd.h TZ.h rfl (by repeat constructor)) ?_;refine noB ?_;refine yT 135 2 2 1 rfl rfl (by repeat constructor) (by repeat constructor) (by repeat constructor) (by repeat constructor) ?_;show V _ _ _ _ _;refine wJ 0 3 (fun z6=>?_);refine kS (fun(y5:Nat)(y3:List gD)(v4:Nat)=>⟨[(1,.ptr 0 0),(2,.ptr 1 0),(3,.ptr 2 0),(4,.N y5)],[.box [.S am,.L 1 (jL an),.L 4 (kY ao),.L 4 (gHw ak),.I aa,.S ab,.L 3 (jH ac),.I ad,.S ae,.S ag,.I ah,.I c,.S f,.L 3 (jH y),.L 9 (gCa ai),.L 11 (gK1 aj)],.box [.S [],.nilsl],.box [.S [],.sl 3 v4],.arr 135 2 v4 (gX y3)],Tryz.f174.ntmps⟩) (fun y5 y3 v4=>vN (mK.mk am an ao ak (gB.mk aa ab ac) (kI.mk ad ae ag ah (gB.mk c f y) ai aj)) (ak.drop y5) y3=some r) (fun y5 y3 v4=>ak.length - y5) 0 [] 0 eJ h ?_;rintro y5 y3 v4 h;refine goL ?_;refine kX (fun c7=>?_) (fun c7=>?_)
  ·have al:=uR c7;obtain⟨x8,bl,bm⟩:=drop_at al;rw [bm,vN.eq_2] at h;obtain⟨bn,⟨bc,bd,be⟩⟩:=x8;refine noS ?_;refine jY (jA ?_);refine uM (P:=Tryz.prog) Mix.h [(0,true),(1,true),(2,true),(3,true),(4,true),(5,true),(6,true),(7,true),(9,true),(10,true),(11,true),(12,true),(13,true),(14,true),(8,false),(15,false),(16,false),(17,false),(18,false),(19,false),(20,true),(21,false)] (by kernel_rfl) ?_;refine goY ?_;refine jF rfl (jJ y5 (hC8 bl)) ?_;refine goY ?_;refine jF rfl (jJ y5 (hC8 bl)) ?_;refine goY ?_;obtain⟨⟨bg,bh⟩,b4,h⟩:=qA h;have sx9:=mO bn;rw [b4] at sx9;refine pX (sx9) ?_;obtain⟨⟨ap,aq⟩,bo,h⟩:=gM h;refine pX (gKu 5000 (gB.mk bc bd be) bo) ?_;refine qE (T:=133) (us:=gX [(gD.mk bg bh),(gD.mk ap aq)]) ?_;refine gBe 4 rfl rfl ?_;obtain⟨⟨ar,au⟩,bp,h⟩:=gM h;refine pX (gMs [(gD.mk bg bh),(gD.mk ap aq)] bp) ?_;refine qE (T:=133) (us:=gX [(gD.mk ar au)]) ?_;obtain⟨b5,h⟩:=mY h;refine pW (T:=133) b5 ?_;refine goY ?_;refine kQ ?_;refine goL ?_;refine jI (jW y5 (by omega)) ?_;exact⟨(y5+1),(y3++[(gD.mk ar au)]),(v4+1),h,by omega,eJ⟩
  ·have al:=uS c7;rw [jC al,vN.eq_1] at h;refine noX ?_;refine kP 3 rfl rfl ?_;refine hWt ?_;refine jK (P:=Tryz.prog) Mix.h [(1,true),(2,true),(4,true),(5,true),(7,true),(8,true),(10,true),(11,true),(12,true),(14,true),(15,true),(0,false),(3,false),(6,false),(9,false),(13,false),(16,false),(17,false),(18,false),(19,false),(20,false)] (by kernel_rfl) ?_;refine goY ?_;obtain⟨⟨av,aw⟩,bq,h⟩:=qA h;have sx13:=mO [102,110];rw [bq] at sx13;refine pX (sx13) ?_;obtain⟨⟨ax,ay⟩,br,h⟩:=qA h;have sx14:=mO am;rw [br] at sx14;refine pX (sx14) ?_;obtain⟨⟨a3,a4⟩,bt,h⟩:=gM h;refine pX (uO an bt) ?_;obtain⟨⟨a5,a6⟩,bu,h⟩:=gM h;refine pX (gE5 ao bu) ?_;obtain⟨⟨a7,a8⟩,bv,h⟩:=gM h;refine pX (gKu 5000 (gB.mk aa ab ac) bv) ?_;obtain⟨⟨a9,ba⟩,bw,h⟩:=gM h;refine pX (hA4 5000 (kI.mk ad ae ag ah (gB.mk c f y) ai aj) bw) ?_;refine qE (T:=133) (us:=gX [(gD.mk av aw),(gD.mk ax ay),(gD.mk a3 a4),(gD.mk a5 a6),(gD.mk [] y3),(gD.mk a7 a8),(gD.mk a9 ba)]) ?_;refine gBe 4 rfl rfl ?_;obtain⟨⟨bi,bj⟩,bx,h⟩:=gM h;refine pX (gMs [(gD.mk av aw),(gD.mk ax ay),(gD.mk a3 a4),(gD.mk a5 a6),(gD.mk [] y3),(gD.mk a7 a8),(gD.mk a9 ba)] bx) ?_;obtain⟨⟨b6,b7⟩,bz,h⟩:=gM h;refine pX (gWt true (gD.mk bi bj) bz) ?_;refine goY ?_;refine kQ ?_;exact goR h
end Go.Proofs.YtegahmhnmjnhhaaGreat
