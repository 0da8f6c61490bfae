import Derived.Test.YtfpdlnkkcnmebaaGreatB4
set_option maxHeartbeats 4000000
set_option linter.unusedVariables false
set_option linter.unusedSimpArgs false
set_option linter.unusedSectionVars false
namespace Go.Proofs.YtfpdlnkkcnmebaaGreat
open Go Go.Eng
attribute [local irreducible] V VO VQ VY Quiet QR jF mJ Rng qI qJ qB
def isB(b:UInt8):Bool:=gF5 (b.toNat:Int)
mutual
def fmt:gD→LB
 | ⟨a,l⟩=>match a with
   | []=>40::(gSc l++[41])
   | b::a=>b::a
def gSc:List gD→LB
 | []=>[]
 | x::l=>fmt x++gDe l
def gDe:List gD→LB
 | []=>[]
 | x::l=>32::(fmt x++gDe l)
end
mutual
def wfx:gD→Bool
 | ⟨a,l⟩=>match a with
   | []=>hOx l
   | b::a=>(b::a).all isB && l.isEmpty
def hOx:List gD→Bool
 | []=>true
 | x::l=>wfx x && hOx l
end
mutual
def ndx:gD→Nat
 | ⟨_,l⟩=>1+gYl l
def gYl:List gD→Nat
 | []=>0
 | x::l=>ndx x+gYl l
end
mutual
def dpx:gD→Nat
 | ⟨a,l⟩=>match a with
   | []=>1+hKl l
   | _::_=>0
def hKl:List gD→Nat
 | []=>0
 | x::l=>max (dpx x) (hKl l)
end
theorem gEe{s:LB}{p:Nat}{b:UInt8}{t:LB}(h:s.drop p=b::t):at? s (p:Int)=some b∧s.drop (p+1)=t∧p < s.length:=by
 have hp:p < s.length:=by
  rcases Nat.lt_or_ge p s.length with c | c
  ·exact c
  ·rw [List.drop_eq_nil_of_le c] at h;cases h
 rw [List.drop_eq_getElem_cons hp] at h;simp only [List.cons.injEq] at h;exact⟨by rw [gCk,List.getElem?_eq_getElem hp,h.1],h.2,hp⟩
theorem gW3{m:Nat}(h:m≤4294967296):IntKind.i64.wrap ((m:Int)+1)=((m+1:Nat):Int):=by rw [gAb _ (by omega) (by omega)];omega
def isW(b:UInt8):Bool:=b==32 || b==10
theorem hHv(b:UInt8):cnd ((b.toNat:Int)==32) (some true) (some ((b.toNat:Int)==10))=some (isW b):=by
 have c:((b.toNat:Int)==32)=(b==32):=Bool.eq_iff_iff.2 (by simp only [beq_iff_eq,←UInt8.toNat_inj];change _↔b.toNat=32;omega);have f:((b.toNat:Int)==10)=(b==10):=Bool.eq_iff_iff.2 (by simp only [beq_iff_eq,←UInt8.toNat_inj];change _↔b.toNat=10;omega);rw [c,f];unfold isW;cases b==32<;>rfl
theorem hJr{s:LB}{p:Nat}{b:UInt8}{t:LB}(h:s.drop p=b::t)(hb:isW b=true)(hl:s.length≤4294967296)(d z:Int)(y:Bool)(n:Nat)(c:vJ)(hc:c.s=s):zO c (n+1) (p:Int)=zO c n ((p+1:Nat):Int):=by
 obtain⟨f,q,h3⟩:=gEe h;rw [zO,hc,show decide ((p:Int) < (s.length:Int))=true from decide_eq_true (by omega)];simp only [jV,f,bnd,hHv,hb];rw [gW3 (by omega)]
theorem gYm{s:LB}{p:Nat}(h:s.drop p=[]∨∃b t,s.drop p=b::t∧isW b=false)(n:Nat)(c:vJ)(hc:c.s=s):zO c (n+1) (p:Int)=some ⟨s,p,c.deep,c.size,c.bad⟩:=by
 rcases h with h | ⟨b,t,h,hb⟩
 ·have:¬p < s.length:=fun hp=>by rw [List.drop_eq_getElem_cons hp] at h;cases h
  rw [zO,hc,show decide ((p:Int) < (s.length:Int))=false from decide_eq_false (by omega)];rfl
 ·obtain⟨f,q,y⟩:=gEe h;rw [zO,hc,show decide ((p:Int) < (s.length:Int))=true from decide_eq_true (by omega)];simp only [jV,f,bnd,hHv,hb,jC]
theorem hGh{s:LB}{p:Nat}{d z:Int}{y:Bool}(h:s.drop p=[]∨∃b t,s.drop p=b::t∧isW b=false):gM4 ⟨s,p,d,z,y⟩=some ⟨s,p,d,z,y⟩:=gYm h 4999 ⟨s,p,d,z,y⟩ rfl
theorem hSn{s:LB}{p:Nat}{d z:Int}{y:Bool}{b:UInt8}{t:LB}(h:s.drop p=32::b::t)(hb:isW b=false)(hl:s.length≤4294967296):gM4 ⟨s,p,d,z,y⟩=some ⟨s,(p+1:Nat),d,z,y⟩:=by
 have c:=(gEe h).2.1;exact(hJr h (by decide) hl d z y 4999 ⟨s,p,d,z,y⟩ rfl).trans (gYm (.inr ⟨b,t,c,hb⟩) 4998 ⟨s,p,d,z,y⟩ rfl)
theorem hJt{b:UInt8}(h:isB b=true):isW b=false:=by
 cases hw:isW b with
 | false=>rfl
 | true=>
   unfold isW at hw;simp only [Bool.or_eq_true,beq_iff_eq] at hw;rcases hw with rfl | rfl
   ·exact absurd h (by decide)
   ·exact absurd h (by decide)
def stop(r:LB):Prop:=∀b t,r=b::t→isB b=false
theorem hDh(rec:vJ→Option (gD × vJ)){s:LB}{p0:Nat}{d z:Int}(y:Nat)(hl:s.length≤4294967296){rest:LB}(hs:stop rest):∀(a:LB)(p n:Nat),a.all isB=true→s.drop p=a++rest→p0 < p+a.length→a.length < n→
  p0≤p→p≤s.length→zP rec ⟨s,p0,d,z,false⟩ y n (p:Int)=some (⟨(s.drop p0).take (p+a.length - p0),[]⟩,⟨s,((p+a.length:Nat):Int),d,IntKind.i64.wrap (z+1),false⟩)
 | [],p,n+1,_,h,c,_,hp,hlen=>by
   have hb:(cnd (decide ((p:Int) < (s.length:Int))) (bnd (at? s (p:Int)) fun x9=>some (gF5 (x9.toNat:Int))) (some false))=some false:=by
    by_cases hp1:p < s.length
    ·obtain⟨x,f,q⟩:=drop_at hp1;rw [show decide ((p:Int) < (s.length:Int))=true from decide_eq_true (by omega),jV,gCk,f];simp only [bnd];rw [q] at h;exact congrArg some (hs x _ (by simpa using h.symm))
    ·rw [show decide ((p:Int) < (s.length:Int))=false from decide_eq_false (by omega),jC]
   rw [zP];simp only [];rw [hb];simp only [bnd,jC];simp only [List.length_nil,Nat.add_zero] at c;rw [show decide ((p:Int) > (p0:Int))=true from decide_eq_true (by omega),jV,uF ⟨by omega,by omega,by omega⟩];simp
 | b::a,p,n+1,ha,h,c,hn,hp,_=>by
   simp only [List.all_cons,Bool.and_eq_true] at ha;obtain⟨f,q,h3⟩:=gEe (by simpa using h);rw [zP];simp only [];rw [show decide ((p:Int) < (s.length:Int))=true from decide_eq_true (by omega)];simp only [jV,f,bnd];rw [show gF5 (b.toNat:Int)=true from ha.1];simp only [jV];rw [gW3 (by omega)]
   have:=hDh rec (p0:=p0) (d:=d) (z:=z) y hl hs a (p+1) n ha.2 q (by simp at c;omega) (by simp at hn;omega) (by omega) (by omega)
   rw [this];simp only [List.length_cons];rw [show p+1+a.length=p+(a.length+1) by omega]
 | a,p,0,_,_,_,hn,_,_=>absurd hn (Nat.not_lt_zero _)
theorem gW4{x:gD}(hx:wfx x=true):∃b t,fmt x=b::t∧isW b=false∧b≠41∧(b=40∨isB b=true):=by
 obtain⟨a,l⟩:=x;cases a with
 | nil=>exact⟨40,_,by rw [fmt],by decide,by decide,.inl rfl⟩
 | cons b a=>
   simp only [wfx,List.all_cons,Bool.and_eq_true] at hx;refine⟨b,a,by rw [fmt],hJt hx.1.1,fun h=>?_,.inr hx.1.1⟩;subst h;exact absurd hx.1.1 (by decide)
theorem hJu{x:gD}(hx:wfx x=true):1≤(fmt x).length:=by
 obtain⟨b,t,h,_⟩:=gW4 hx;rw [h];simp
theorem gVs{s:LB}{p:Nat}{d z:Int}{x:gD}{rest:LB}(n:Nat)(hx:wfx x=true)(h:s.drop p=fmt x++rest)(hz:0≤z∧z < 900):gBg (n+1) ⟨s,p,d,z,false⟩=zP (gBg n) ⟨s,p,d,z,false⟩ n n (p:Int):=by
 obtain⟨b,t,c,f,_⟩:=gW4 hx;rw [c] at h;have q:=(gEe (by simpa using h)).2.2;rw [gBg];unfold gOl;rw [hGh (.inr ⟨b,_,by simpa using h,f⟩)];simp only [bnd,lt_];rw [show decide ((p:Int)≥(s.length:Int))=false from decide_eq_false (by omega),gAb _ (by omega) (by omega),show decide (z+1 > 900)=false from decide_eq_false (by omega)];rfl
theorem hDi{s:LB}{p:Nat}{d z:Int}{b:UInt8}{a:LB}{rest:LB}(n:Nat)(hl:s.length≤4294967296)(hx:wfx ⟨b::a,[]⟩=true)(h:s.drop p=(b::a)++rest)(hs:stop rest)(hn:a.length+1 < n)(hz:0≤z∧z < 900) :
  gBg (n+1) ⟨s,p,d,z,false⟩=some (⟨b::a,[]⟩,⟨s,((p+(a.length+1):Nat):Int),d,z+1,false⟩):=by
 have hlen:p≤s.length:=Nat.le_of_lt (gEe (by simpa using h)).2.2;rw [gVs n hx (by rw [fmt];exact h) hz];have ha:(b::a).all isB=true:=by simpa [wfx] using hx
 rw [hDh (gBg n) (p0:=p) (d:=d) (z:=z) n hl hs (b::a) p n ha h (by simp) (by simpa using hn) (Nat.le_refl _) hlen,gAb _ (by omega) (by omega),h];simp only [List.length_cons,Nat.add_sub_cancel_left];rw [show a.length+1=(b::a).length by simp,List.take_left]
theorem hJw(rec:vJ→Option (gD × vJ)){s:LB}{p:Nat}{d z:Int}{t:LB}(n c:Nat)(hl:s.length≤4294967296)(h:s.drop p=40::t)(hd:0≤d∧d < 14)(hz:0≤z∧z < 900) :
  zP rec ⟨s,p,d,z,false⟩ c (n+1) (p:Int)=vL rec c s ((p+1:Nat):Int) (d+1) (z+1) false []:=by
 obtain⟨f,q,y⟩:=gEe h;rw [zP];simp only [];rw [show decide ((p:Int) < (s.length:Int))=true from decide_eq_true (by omega)];simp only [jV,f,bnd];rw [show gF5 (((40:UInt8).toNat:Nat):Int)=false from by decide];simp only [jC];rw [show decide ((p:Int) > (p:Int))=false from decide_eq_false (by omega),show((((40:UInt8).toNat:Nat):Int) != 40)=false from by decide];simp only [jC];rw [show (d==14)=false from beq_eq_false_iff_ne.2 (by omega)];simp only [jC];rw [gW3 (by omega),gAb _ (by omega) (by omega),gAb _ (by omega) (by omega)]
theorem hGj(rec:vJ→Option (gD × vJ)){s:LB}{p:Nat}{d z:Int}{rest:LB}(n:Nat)(l:List gD)(hl:s.length≤4294967296)(h:s.drop p=41::rest)(hd:0≤d∧d≤14) :
  vL rec (n+1) s (p:Int) d z false l=some (⟨[],l⟩,⟨s,((p+1:Nat):Int),d - 1,z,false⟩):=by
 obtain⟨c,f,q⟩:=gEe h;rw [vL];simp only [Bool.not_false,jV];rw [hGh (.inr ⟨41,rest,h,by decide⟩)];simp only [bnd];rw [show decide ((p:Int) < (s.length:Int))=true from decide_eq_true (by omega)];simp only [jV,c];rw [show ((((41:UInt8).toNat:Nat):Int)==41)=true from by decide];simp only [jV];rw [gW3 (by omega),gAb _ (by omega) (by omega)]
theorem hJz (rec:vJ→Option (gD × vJ)){s:LB}{p:Nat}{d z z':Int}{x:gD}{rest:LB}(n:Nat)(l:List gD)(hl:s.length≤4294967296)(hx:wfx x=true)
  (h:s.drop p=fmt x++rest∨s.drop p=32::(fmt x++rest)) (hrec:∀p':Nat,s.drop p'=fmt x++rest→p≤p'→rec ⟨s,p',d,z,false⟩=some (x,⟨s,((p'+(fmt x).length:Nat):Int),d,z',false⟩)) (hll:l.length≤4294967295) :
  ∃p':Nat,s.drop p'=fmt x++rest∧(p'=p∨p'=p+1)∧vL rec (n+1) s (p:Int) d z false l=vL rec n s ((p'+(fmt x).length:Nat):Int) d z' false (l++[x]):=by
 obtain⟨b,t,hb,hw,hne,_⟩:=gW4 hx;have key:∀p':Nat,s.drop p'=fmt x++rest→p≤p'→gM4 ⟨s,p,d,z,false⟩=some ⟨s,p',d,z,false⟩→vL rec (n+1) s (p:Int) d z false l=vL rec n s ((p'+(fmt x).length:Nat):Int) d z' false (l++[x]):=by
  intro p' h' hp hs;rw [vL];simp only [Bool.not_false,jV];rw [hs];simp only [bnd];have c:=h';rw [hb] at c;obtain⟨f,q,y⟩:=gEe (by simpa using c);rw [show decide ((p':Int) < (s.length:Int))=true from decide_eq_true (by omega)];simp only [jV,f];rw [show ((b.toNat:Int)==41)=false from beq_eq_false_iff_ne.2 (fun he=>hne (UInt8.toNat_inj.1 (by change _=41;omega)))];simp only [jC];rw [hrec p' h' hp];simp only;rw [uF (by simp;omega)]
 rcases h with h | h
 ·have c:=h;rw [hb] at c;exact⟨p,h,.inl rfl,key p h (Nat.le_refl _) (hGh (.inr ⟨b,_,by simpa using c,hw⟩))⟩
 ·have c:=h;rw [hb] at c;exact⟨p+1,(gEe h).2.1,.inr rfl,key (p+1) (gEe h).2.1 (by omega) (hSn (by simpa using c) hw hl)⟩
mutual
theorem hDj{s:LB}(hl:s.length≤4294967296):∀(x:gD)(p n:Nat)(d z:Int)(rest:LB),wfx x=true→s.drop p=fmt x++rest→stop rest→0≤d→d+dpx x≤14→0≤z→z+ndx x≤900→(fmt x).length+1 < n→
  gBg n ⟨s,p,d,z,false⟩=some (x,⟨s,((p+(fmt x).length:Nat):Int),d,z+ndx x,false⟩)
 | ⟨[],l⟩,p,n+1,d,z,rest,hx,h,hs,h1,h2,q,h4,c=>by
   have h4':z+(1+gYl l:Nat)≤900:=h4;have h2':d+(1+hKl l:Nat)≤14:=h2;have h5':(gSc l).length+1+1 < n:=by simp only [fmt,List.length_cons,List.length_append,List.length_nil] at c;omega
   rw [gVs n hx h ⟨q,by omega⟩];have f:s.drop p=40::(gSc l++41::rest):=by rw [h,fmt];simp
   cases n with
   | zero=>omega
   | succ n=>
     rw [hJw (gBg (n+1)) n (n+1) hl f ⟨h1,by omega⟩ ⟨q,by omega⟩];rw [gYn hl l (p+1) (n+1) (n+1) (d+1) (z+1) (gSc l) [] rest (by simpa [wfx] using hx) (gEe f).2.1 (.inl rfl) (by omega) (by omega) (by omega) (by omega) (by omega) (by omega) (by simp only [List.length_nil];omega)];simp only [List.nil_append,fmt,List.length_cons,List.length_append,List.length_nil,ndx];rw [show p+1+(gSc l).length+1=p+((gSc l).length+(0+1)+1) by omega,show d+1 - 1=d by omega,show z+1+(gYl l:Int)=z+((1+gYl l:Nat):Int) by omega]
 | ⟨b::a,l⟩,p,n+1,d,z,rest,hx,h,hs,h1,h2,q,h4,c=>by
   have hx':=hx;simp only [wfx,Bool.and_eq_true,List.isEmpty_iff] at hx';obtain⟨_,rfl⟩:=hx';have h4':z+(1+0:Nat)≤900:=h4;simp only [fmt] at h c ⊢;rw [hDi n hl hx h hs (by simp only [List.length_cons] at c;omega) ⟨q,by omega⟩];rfl
 | ⟨[],l⟩,p,0,d,z,rest,_,_,_,_,_,_,_,c=>absurd c (Nat.not_lt_zero _)
 | ⟨b::a,l⟩,p,0,d,z,rest,_,_,_,_,_,_,_,c=>absurd c (Nat.not_lt_zero _)
theorem gYn{s:LB}(hl:s.length≤4294967296):∀(l:List gD)(p k n:Nat)(d z:Int)(w:LB)(acc:List gD)(rest:LB),hOx l=true→s.drop p=w++41::rest→(w=gSc l∨w=gDe l)→0 < d→d+hKl l≤14→0≤z→z+gYl l≤900→
  w.length+1 < k→w.length < n→acc.length+gYl l≤900→vL (gBg k) n s (p:Int) d z false acc=some (⟨[],acc++l⟩,⟨s,((p+w.length+1:Nat):Int),d - 1,z+gYl l,false⟩)
 | [],p,k,n+1,d,z,w,acc,rest,hx,h,hw,h1,h2,q,h4,c,f,h7=>by
   obtain rfl:w=[]:=by rcases hw with rfl | rfl<;>rfl
   rw [hGj (gBg k) n acc hl (by simpa using h) ⟨by omega,by simp only [hKl] at h2;omega⟩];simp [gYl]
 | x::l,p,k,n+1,d,z,w,acc,rest,hx,h,hw,h1,h2,q,h4,c,f,h7=>by
   simp only [hOx,Bool.and_eq_true] at hx;have h2':d+(max (dpx x) (hKl l):Nat)≤14:=h2;have h4':z+(ndx x+gYl l:Nat)≤900:=h4;have h7':acc.length+(ndx x+gYl l)≤900:=h7;have hst:stop (gDe l++41::rest):=by
    cases l with
    | nil=>intro b t hb;simp only [gDe,List.nil_append,List.cons.injEq] at hb;rw [←hb.1];decide
    | cons y l=>intro b t hb;simp only [gDe,List.cons_append,List.cons.injEq] at hb;rw [←hb.1];decide
   have hfm:=hJu hx.1;have hwl:w.length=(fmt x).length+(gDe l).length∨w.length=1+((fmt x).length+(gDe l).length):=by
    rcases hw with rfl | rfl
    ·left;simp [gSc]
    ·right;simp only [gDe,List.length_cons,List.length_append];omega
   have hd:s.drop p=fmt x++(gDe l++41::rest)∨s.drop p=32::(fmt x++(gDe l++41::rest)):=by
    rcases hw with rfl | rfl
    ·left;rw [h,gSc,List.append_assoc]
    ·right;rw [h,gDe];simp
   obtain⟨p',e1,e2,e3⟩:=hJz (gBg k) (d:=d) (z:=z) (z':=z+ndx x) n acc hl hx.1 hd (fun p' hp' _=>hDj hl x p' k d z _ hx.1 hp' hst (by omega) (by omega) q (by omega) (by omega)) (by omega);rw [e3];have e4:s.drop (p'+(fmt x).length)=gDe l++41::rest:=by
    rw [←List.drop_drop,e1,List.drop_left]
   have hnd:1≤ndx x:=by obtain⟨a,xs⟩:=x;simp only [ndx];omega
   rw [gYn hl l (p'+(fmt x).length) k n d (z+ndx x) (gDe l) (acc++[x]) rest hx.2 e4 (.inr rfl) h1 (by omega) (by omega) (by omega) (by omega) (by omega) (by simp only [List.length_append,List.length_cons,List.length_nil];omega)];have hpp:p'+(fmt x).length+(gDe l).length=p+w.length:=by
    rcases hw with rfl | rfl
    ·rcases e2 with rfl | rfl
     ·simp only [gSc,List.length_append];omega
     ·exfalso;have h8:=congrArg List.length e1
      have h9:=congrArg List.length h;simp only [List.length_drop,List.length_append,List.length_cons,gSc] at h8 h9;omega
    ·rcases e2 with rfl | rfl
     ·exfalso;have h8:=congrArg List.length e1
      have h9:=congrArg List.length h;simp only [List.length_drop,List.length_append,List.length_cons,gDe] at h8 h9;omega
     ·simp only [gDe,List.length_cons,List.length_append];omega
   rw [hpp,List.append_assoc];simp only [List.singleton_append,gYl];rw [show z+(ndx x:Int)+(gYl l:Int)=z+((ndx x+gYl l:Nat):Int) by omega]
 | [],p,k,0,d,z,w,acc,rest,_,_,_,_,_,_,_,_,f,_=>absurd f (Nat.not_lt_zero _)
 | x::l,p,k,0,d,z,w,acc,rest,_,_,_,_,_,_,_,_,f,_=>absurd f (Nat.not_lt_zero _)
end
def gHu(c:List gD):Option (gD):=
gd (([]:List gD).length+c.length≤4294967296) (
(some (gD.mk [] ([]++c))))
theorem gLc(c:List gD){r:gD}(h:gHu c=some r):jF Tryz.prog 219 [.L 2 (jA c)] [qC r]:=by
 unfold gHu at h;refine SpI Tryz.func219 fun A _=>?_;refine goL ?_;refine zS ?_;refine goL ?_;obtain⟨f,h⟩:=pO h;refine gAi f ?_;refine gAc (jU TBd.h TZ.h rfl (by repeat constructor)) ?_;refine gW 1 rfl rfl ?_;refine jG ?_;cases h;exact uA
def vC(c:gB→LB→Option (Int))(a1:LB):List gB→Int→Option (Int)
 | [],f=>(some f)
 | q::xs,f=>bnd (c q a1) fun h=>
vC c a1 xs (IntKind.i64.wrap (f+h))
def gCt(c:gB→LB→Option (Int))(f:gB)(a1:LB):Option (Int):=
lt_ ((cnd (f.kind==1) ((f.name==a1)) (false))) fun h=>
bnd ((cnd h (
(some 1)) (
(some 0)))) fun q=>
vC c a1 f.args q
theorem gLf{c:gB→LB→Option (Int)}(f:∀(x0:gB)(x1:LB){r:Int},c x0 x1=some r→jF Tryz.prog 241 [.d (kZ x0),.S x1] [.i .i64 r])(a0:gB)(a1:LB){r:Int}(h:gCt c a0 a1=some r):jF Tryz.prog 241 [.d (kZ a0),.S a1] [.i .i64 r]:=by
 obtain⟨aa,ab,q⟩:=a0;unfold gCt at h;refine SpI Tryz.func241 fun A _=>?_;refine goL ?_;obtain⟨b1,hb1,h⟩:=qW h;refine kC ⟨[(1,.S a1),(2,.ptr 0 0),(5,.I 0),(15,.B b1)],[bTy aa ab q],Tryz.f241.ntmps⟩ ?_ ?_
 ·exact gqZ 10 hb1
 refine goL ?_;obtain⟨b3,hb3,h⟩:=gJ h;refine gAn ⟨[(1,.S a1),(2,.ptr 0 0),(5,.I b3)],[bTy aa ab q],Tryz.f241.ntmps⟩ ?_ ?_
 ·refine mQ (fun c4=>?_) (fun c4=>?_)
  ·replace hb3:=kT c4 hb3;refine goL ?_;cases hb3;exact eJ
  ·replace hb3:=kU c4 hb3;refine yE ?_;cases hb3;exact eJ
 refine goL ?_;refine noB ?_;refine yP 0 2 (fun z7=>?_);refine gEt (fun(y6:Nat)(y5:Int)=>⟨[(1,.S a1),(2,.ptr 0 0),(5,.I y5),(6,.N y6)],[bTy aa ab q],Tryz.f241.ntmps⟩) (fun y6 y5=>vC c a1 (q.drop y6) y5=some r) (fun y6 y5=>q.length - y6) 0 b3 eJ h ?_;rintro y6 y5 h;refine goL ?_;refine mQ (fun c8=>?_) (fun c8=>?_)
 ·have y:=vF c8;obtain⟨x9,ak,ae⟩:=drop_at y;rw [ae,vC.eq_2] at h;obtain⟨ap,aq,ar⟩:=x9;refine noS ?_;refine kH (jE ?_);refine goL ?_;refine jK (jM y6 (gEk ak)) ?_;obtain⟨al,ag,h⟩:=gJ h;refine qM (gG (f _ _ ag)) ?_;refine jK (pV) ?_;refine jK (kD y6 (by omega)) ?_;exact⟨(y6+1),(IntKind.i64.wrap (y5+al)),h,by omega,eJ⟩
 ·have y:=vG c8;rw [jH y,vC.eq_1] at h;refine goX ?_;refine jG ?_;cases h;exact uA
def gCu:Nat→gB→LB→Option (Int)
 | 0,_,_=>none
 | n+1,c,f=>gCt (gCu n) c f
theorem gLg:∀(n:Nat)(c:gB)(f:LB){r:Int},gCu n c f=some r→jF Tryz.prog 241 [.d (kZ c),.S f] [.i .i64 r]:=by
 intro n
 induction n with
 | zero=>intro c f r h;cases h
 | succ n ih=>intro c f r h;exact gLf ih c f h
def gEf(f:LS→Option (LS × LS × LS × LS)):List gZ→LS→Option (LS × LS × LS × LS)
 | [],c=>(f c)
 | h::xs,c=>gd (c.length+[h.name].length≤4294967296) (
gEf f xs (c++[h.name]))
def gEg(q:LS)(y:LS)(f:LS):List kI→LS→Option (LS × LS × LS × LS)
 | [],c=>(some (q,y,f,c))
 | h::xs,c=>gd (c.length+[h.name].length≤4294967296) (
gEg q y f xs (c++[h.name]))
def gCc(y:jX)(y1:LS):List kP→LS→LS→Option (LS × LS × LS × LS)
 | [],h,c=>gEg y1 h c y.functions []
 | f::xs,h,c=>gd (h.length+[f.name].length≤4294967296) (
gEf (fun q=>gCc y y1 xs (h++[f.name]) q) f.constructors c)
def gEh(f:jX):List mE→LS→Option (LS × LS × LS × LS)
 | [],c=>gCc f c f.dataTypes [] []
 | h::xs,c=>gd (c.length+[h.name].length≤4294967296) (
gEh f xs (c++[h.name]))
def gNy(c:jX):Option (LS × LS × LS × LS):=
gEh c c.traits []
theorem gZo(a0:jX){r:LS × LS × LS × LS}(h:gNy a0=some r):jF Tryz.prog 191 [.d (gD8 a0)] [.sl 1 (gP r.1),.sl 1 (gP r.2.1),.sl 1 (gP r.2.2.1),.sl 1 (gP r.2.2.2)]:=by
 obtain⟨aa,ab,f,c,ac,q⟩:=a0;unfold gNy at h;refine SpI Tryz.func191 fun A _=>?_;refine goL ?_;refine gB9 ?_;refine goL ?_;refine gB9 ?_;refine goL ?_;refine gB9 ?_;refine goL ?_;refine gB9 ?_;refine goL ?_;refine noB ?_;refine yP 0 2 (fun z4=>?_);refine kV (fun(y3:Nat)(y1:LS)(v2:Nat)=>⟨[(1,.ptr 0 0),(6,.sl 1 v2),(7,.sl 2 0),(8,.sl 3 0),(9,.sl 4 0),(10,.N y3)],[bPk aa ab f c ac q,.own 9 1 v2 (gP y1),.own 9 1 0 [],.own 9 1 0 [],.own 9 1 0 []],Tryz.f191.ntmps⟩) (fun y3 y1 v2=>gEh (jX.mk aa ab f c ac q) (f.drop y3) y1=some r) (fun y3 y1 v2=>f.length - y3) 0 [] 0 eJ h ?_;rintro y3 y1 v2 h;refine goL ?_;refine mQ (fun c5=>?_) (fun c5=>?_)
 ·have an:=vF c5;obtain⟨x6,bw,bh⟩:=drop_at an;rw [bh,gEh.eq_2] at h;obtain⟨a6,b8,b9,ca,cb⟩:=x6;refine noS ?_;refine kH (jE ?_);refine goL ?_;refine jK (jM y3 (gUq bw)) ?_;refine yF a6 ?_;obtain⟨g7,h⟩:=pO h;refine gDn g7 ?_;refine goL ?_;refine jK (kD y3 (by omega)) ?_;exact⟨(y3+1),(y1++[a6]),(v2+1),h,by omega,eJ⟩
 ·have an:=vG c5;rw [jH an,gEh.eq_1] at h;refine goX ?_;refine noB ?_;refine yP 0 3 (fun ce=>?_);refine gWg (fun(y:Nat)(y8:LS)(al:LS)(v9:Nat)(am:Nat)=>⟨[(1,.ptr 0 0),(6,.sl 1 v2),(7,.sl 2 v9),(8,.sl 3 am),(9,.sl 4 0),(11,.N y)],[bPk aa ab f c ac q,.own 9 1 v2 (gP y1),.own 9 1 v9 (gP y8),.own 9 1 am (gP al),.own 9 1 0 []],Tryz.f191.ntmps⟩) (fun y y8 al v9 am=>gCc (jX.mk aa ab f c ac q) y1 (c.drop y) y8 al=some r) (fun y y8 al v9 am=>c.length - y) 0 [] [] 0 0 eJ h ?_;rintro y y8 al v9 am h;refine goL ?_;refine mQ (fun a7=>?_) (fun a7=>?_)
  ·have ad:=vF a7;obtain⟨bx,aw,a8⟩:=drop_at ad;rw [a8,gCc.eq_2] at h;obtain⟨ae,a9,ao⟩:=bx;refine noS ?_;refine kH (jE ?_);refine goL ?_;refine jK (jM y (gMn aw)) ?_;refine yF ae ?_;obtain⟨bz,h⟩:=pO h;refine gDn bz ?_;refine goL ?_;refine noB ?_;refine kV (fun(ag:Nat)(ah:LS)(ap:Nat)=>⟨[(1,.ptr 0 0),(6,.sl 1 v2),(7,.sl 2 (v9+1)),(8,.sl 3 ap),(9,.sl 4 0),(11,.N y),(12,.N ag)],[bPk aa ab f c ac q,.own 9 1 v2 (gP y1),.own 9 1 (v9+1) (gP (y8++[ae])),.own 9 1 ap (gP ah),.own 9 1 0 [],.dead 1],Tryz.f191.ntmps⟩) (fun ag ah ap=>gEf (fun ah=>gCc (jX.mk aa ab f c ac q) y1 (c.drop (y+1)) (y8++[(kP.mk ae a9 ao).name]) ah) (ao.drop ag) ah=some r) (fun ag ah ap=>ao.length - ag) 0 al am eJ h ?_;rintro ag ah ap h;refine goL ?_;refine jK (jM y (gMn aw)) ?_;refine mQ (fun ba=>?_) (fun ba=>?_)
   ·have ai:=vF ba;refine gCm 56 (fun cf=>?_);obtain⟨b0,bi,bb⟩:=drop_at ai;rw [bb,gEf.eq_2] at h;obtain⟨ax,b1⟩:=b0;refine noS ?_;refine kH (jE ?_);refine goL ?_;refine jK (jM y (gMn aw)) ?_;refine jK (jM ag (gDh bi)) ?_;refine yF ax ?_;obtain⟨b2,h⟩:=pO h;refine gDn b2 ?_;refine goL ?_;refine jK (kD ag (by omega)) ?_;exact⟨(ag+1),(ah++[ax]),(ap+1),h,by omega,eJ⟩
   ·have ai:=vG ba;rw [jH ai,gEf.eq_1] at h;refine goX ?_;refine jK (kD y (by omega)) ?_;exact⟨(y+1),(y8++[ae]),ah,(v9+1),ap,h,by omega,eJ⟩
  ·have ad:=vG a7;rw [jH ad,gCc.eq_1] at h;refine goX ?_;refine noB ?_;refine yP 0 5 (fun cg=>?_);refine kV (fun(aj:Nat)(aq:LS)(ar:Nat)=>⟨[(1,.ptr 0 0),(6,.sl 1 v2),(7,.sl 2 v9),(8,.sl 3 am),(9,.sl 4 ar),(13,.N aj)],[bPk aa ab f c ac q,.own 9 1 v2 (gP y1),.own 9 1 v9 (gP y8),.own 9 1 am (gP al),.own 9 1 ar (gP aq)],Tryz.f191.ntmps⟩) (fun aj aq ar=>gEg y1 y8 al (q.drop aj) aq=some r) (fun aj aq ar=>q.length - aj) 0 [] 0 eJ h ?_;rintro aj aq ar h;refine goL ?_;refine mQ (fun bc=>?_) (fun bc=>?_)
   ·have ak:=vF bc;obtain⟨b3,bj,bd⟩:=drop_at ak;rw [bd,gEg.eq_2] at h;obtain⟨ay,b4,b5,b6,⟨bk,bl,bm⟩,⟨bn,bo,bp,bq,⟨be,bf,bg⟩,br,bt⟩⟩:=b3;refine noS ?_;refine kH (jE ?_);refine goL ?_;refine jK (jM aj (gUw bj)) ?_;refine yF ay ?_;obtain⟨b7,h⟩:=pO h;refine gDn b7 ?_;refine goL ?_;refine jK (kD aj (by omega)) ?_;exact⟨(aj+1),(aq++[ay]),(ar+1),h,by omega,eJ⟩
   ·have ak:=vG bc;rw [jH ak,gEg.eq_1] at h;refine goX ?_;refine mI 1 rfl rfl ?_;refine mI 2 rfl rfl ?_;refine mI 3 rfl rfl ?_;refine mI 4 rfl rfl ?_;refine jG ?_;cases h;exact uA
def gH4(c:Int)(a1:LB)(a2:List gU):Option (gU):=
gd (([]:List gU).length+a2.length≤4294967296) (
(some (gU.mk c [] a1 0 (gB.mk 0 [] []) ([]++a2) [])))
theorem gCv(c:Int)(a1:LB)(a2:List gU){r:gU}(h:gH4 c a1 a2=some r):jF Tryz.prog 144 [.I c,.S a1,.L 9 (jS a2)] [zJ r]:=by
 unfold gH4 at h;refine SpI Tryz.func144 fun A _=>?_;refine goL ?_;refine zS ?_;refine goL ?_;obtain⟨f,h⟩:=pO h;refine gAi f ?_;refine gAc (jU TBd.h TZ.h rfl (by repeat constructor)) ?_;refine gW 1 rfl rfl ?_;refine jG ?_;cases h;exact uA
def gIl(list:List gD):Option (gD):=
gd (([]:List gD).length+list.length≤4294967296) (
(some (gD.mk [] ([]++list))))
theorem vK(list:List gD){r:gD}(h:gIl list=some r):Go.Eng.Spec Tryz.prog 219 [.L 2 (jA list)] [] (fun sv Lo=>sv=.ag [.S r.atom,.sl 0 0]∧Lo=[.arr 223 2 0 (jA r.list)]):=by
 unfold gIl at h;refine kS 0 Tryz.func219 rfl (by kernel_rfl) rfl rfl fun A _=>?_;refine goL ?_;refine zS ?_;refine goL ?_;obtain⟨c,h⟩:=pO h;refine gAi c ?_;refine gAc (jU TBd.h TZ.h rfl (by repeat constructor)) ?_;refine hKk (fr':=[(2,.ptr 1 0)]) (Lc:=[.arr 223 2 (0+1) (jA ([]++list)),.box [.S [],.sl 0 (0+1)]]) 0 [1,0] ?_;refine hSf (fr':=[(2,.ptr 1 0)]) (L':=[.arr 223 2 0 (jA ([]++list)),.box [.S [],.sl 0 0]]) 0 0 ?_;refine jG ?_;obtain rfl:=Option.some.inj h;exact gBa [.ag [.S [],.sl 0 0]] _ ⟨rfl,rfl⟩
end Go.Proofs.YtfpdlnkkcnmebaaGreat
