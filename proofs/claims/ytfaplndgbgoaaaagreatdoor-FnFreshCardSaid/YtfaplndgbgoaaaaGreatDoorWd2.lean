import Derived.Test.YtfaplndgbgoaaaaGreatDoorEng38
import Derived.Test.YtfaplndgbgoaaaaGreatDoorEng67
import Derived.Test.YtfaplndgbgoaaaaGreatDoorB5
import Derived.KernelRfl
import Derived.Test.YtfaplndgbgoaaaaGreatDoorB6
import Derived.Test.YtfaplndgbgoaaaaGreatDoorB7
import Derived.Test.YtfaplndgbgoaaaaGreatDoorCur
import Derived.Test.YtfaplndgbgoaaaaGreatDoorSfi0
import Derived.Test.YtfaplndgbgoaaaaGreatDoorB14
set_option maxHeartbeats 4000000
set_option linter.unusedVariables false
set_option linter.unusedSimpArgs false
set_option linter.unusedSectionVars false
namespace Go.Proofs.YtfaplndgbgoaaaaGreatDoor
open Go Go.Eng
attribute [local irreducible] V VO VQ VY Quiet QR jB kX Rng uJ uY qW
def isB(b:UInt8):Bool:=gD9 (b.toNat:Int)
mutual
def fmt:gB→List UInt8
 | ⟨a,l⟩=>match a with
   | []=>40::(gOj l++[41])
   | b::a=>b::a
def gOj:List gB→List UInt8
 | []=>[]
 | x::l=>fmt x++gBq l
def gBq:List gB→List UInt8
 | []=>[]
 | x::l=>32::(fmt x++gBq l)
end
mutual
def wfx:gB→Bool
 | ⟨a,l⟩=>match a with
   | []=>hKk l
   | b::a=>(b::a).all isB && l.isEmpty
def hKk:List gB→Bool
 | []=>true
 | x::l=>wfx x && hKk l
end
mutual
def ndx:gB→Nat
 | ⟨_,l⟩=>1+gUi l
def gUi:List gB→Nat
 | []=>0
 | x::l=>ndx x+gUi l
end
mutual
def dpx:gB→Nat
 | ⟨a,l⟩=>match a with
   | []=>1+hFv l
   | _::_=>0
def hFv:List gB→Nat
 | []=>0
 | x::l=>max (dpx x) (hFv l)
end
theorem gCp{s:List UInt8}{p:Nat}{b:UInt8}{t:List UInt8}(h:s.drop p=b::t):at? s (p:Int)=some b∧s.drop (p+1)=t∧p < s.length:=by
 have hp:p < s.length:=by
  rcases Nat.lt_or_ge p s.length with h1 | h1
  ·exact h1
  ·rw [List.drop_eq_nil_of_le h1] at h;cases h
 rw [List.drop_eq_getElem_cons hp] at h
 simp only [List.cons.injEq] at h
 exact⟨by rw [gD7,List.getElem?_eq_getElem hp,h.1],h.2,hp⟩
theorem gP4{m:Nat}(h:m≤4294967296):IntKind.i64.wrap ((m:Int)+1)=((m+1:Nat):Int):=by rw [wP _ (by omega) (by omega)];omega
def isW(b:UInt8):Bool:=b==32 || b==10
theorem hC6(b:UInt8):cnd ((b.toNat:Int)==32) (some true) (some ((b.toNat:Int)==10))=some (isW b):=by
 have h1:((b.toNat:Int)==32)=(b==32):=Bool.eq_iff_iff.2 (by simp only [beq_iff_eq,←UInt8.toNat_inj];change _↔b.toNat=32;omega)
 have h2:((b.toNat:Int)==10)=(b==10):=Bool.eq_iff_iff.2 (by simp only [beq_iff_eq,←UInt8.toNat_inj];change _↔b.toNat=10;omega)
 rw [h1,h2]
 unfold isW
 cases b==32<;>rfl
theorem hE3{s:List UInt8}{p:Nat}{b:UInt8}{t:List UInt8}(h:s.drop p=b::t)(hb:isW b=true)(hl:s.length≤4294967296)(d z:Int)(y:Bool)(n:Nat)(c:uE)(hc:c.s=s):yC c (n+1) (p:Int)=yC c n ((p+1:Nat):Int):=by
 obtain⟨h1,h2,h3⟩:=gCp h
 rw [yC,hc,show decide ((p:Int) < (s.length:Int))=true from decide_eq_true (by omega)]
 simp only [jH,h1,bnd,hC6,hb]
 rw [gP4 (by omega)]
theorem gUj{s:List UInt8}{p:Nat}(h:s.drop p=[]∨∃b t,s.drop p=b::t∧isW b=false)(n:Nat)(c:uE)(hc:c.s=s):yC c (n+1) (p:Int)=some ⟨s,p,c.deep,c.size,c.bad⟩:=by
 rcases h with h | ⟨b,t,h,hb⟩
 ·have:¬p < s.length:=fun hp=>by rw [List.drop_eq_getElem_cons hp] at h;cases h
  rw [yC,hc,show decide ((p:Int) < (s.length:Int))=false from decide_eq_false (by omega)]
  rfl
 ·obtain⟨h1,h2,h3⟩:=gCp h
  rw [yC,hc,show decide ((p:Int) < (s.length:Int))=true from decide_eq_true (by omega)]
  simp only [jH,h1,bnd,hC6,hb,gP]
theorem hBp{s:List UInt8}{p:Nat}{d z:Int}{y:Bool}(h:s.drop p=[]∨∃b t,s.drop p=b::t∧isW b=false):gKy ⟨s,p,d,z,y⟩=some ⟨s,p,d,z,y⟩:=gUj h 4999 ⟨s,p,d,z,y⟩ rfl
theorem hO6{s:List UInt8}{p:Nat}{d z:Int}{y:Bool}{b:UInt8}{t:List UInt8}(h:s.drop p=32::b::t)(hb:isW b=false)(hl:s.length≤4294967296):gKy ⟨s,p,d,z,y⟩=some ⟨s,(p+1:Nat),d,z,y⟩:=by
 have h2:=(gCp h).2.1
 exact(hE3 h (by decide) hl d z y 4999 ⟨s,p,d,z,y⟩ rfl).trans (gUj (.inr ⟨b,t,h2,hb⟩) 4998 ⟨s,p,d,z,y⟩ rfl)
theorem hE4{b:UInt8}(h:isB b=true):isW b=false:=by
 cases hw:isW b with
 | false=>rfl
 | true=>
   unfold isW at hw
   simp only [Bool.or_eq_true,beq_iff_eq] at hw
   rcases hw with rfl | rfl
   ·exact absurd h (by decide)
   ·exact absurd h (by decide)
def stop(r:List UInt8):Prop:=∀b t,r=b::t→isB b=false
theorem gYt(rec:uE→Option (gB × uE)){s:List UInt8}{p0:Nat}{d z:Int}(n0:Nat)(hl:s.length≤4294967296){rest:List UInt8}(hs:stop rest):∀(a:List UInt8) (p n:Nat),a.all isB=true→s.drop p=a++rest→p0 < p+a.length→a.length < n→
  p0≤p→p≤s.length→yA rec ⟨s,p0,d,z,false⟩ n0 n (p:Int)=some (⟨(s.drop p0).take (p+a.length - p0),[]⟩,⟨s,((p+a.length:Nat):Int),d,IntKind.i64.wrap (z+1),false⟩)
 | [],p,n+1,_,h,h0,_,hp,hlen=>by
   have hb:(cnd (decide ((p:Int) < (s.length:Int))) (bnd (at? s (p:Int)) fun x9=>some (gD9 (x9.toNat:Int))) (some false))=some false:=by
    by_cases hp1:p < s.length
    ·obtain⟨x,h1,h2⟩:=drop_at hp1
     rw [show decide ((p:Int) < (s.length:Int))=true from decide_eq_true (by omega),jH,gD7,h1]
     simp only [bnd]
     rw [h2] at h
     exact congrArg some (hs x _ (by simpa using h.symm))
    ·rw [show decide ((p:Int) < (s.length:Int))=false from decide_eq_false (by omega),gP]
   rw [yA]
   simp only []
   rw [hb]
   simp only [bnd,gP]
   simp only [List.length_nil,Nat.add_zero] at h0
   rw [show decide ((p:Int) > (p0:Int))=true from decide_eq_true (by omega),jH,pF ⟨by omega,by omega,by omega⟩]
   simp
 | b::a,p,n+1,ha,h,h0,hn,hp,_=>by
   simp only [List.all_cons,Bool.and_eq_true] at ha
   obtain⟨h1,h2,h3⟩:=gCp (by simpa using h)
   rw [yA]
   simp only []
   rw [show decide ((p:Int) < (s.length:Int))=true from decide_eq_true (by omega)]
   simp only [jH,h1,bnd]
   rw [show gD9 (b.toNat:Int)=true from ha.1]
   simp only [jH]
   rw [gP4 (by omega)]
   have:=gYt rec (p0:=p0) (d:=d) (z:=z) n0 hl hs a (p+1) n ha.2 h2 (by simp at h0;omega) (by simp at hn;omega) (by omega) (by omega)
   rw [this]
   simp only [List.length_cons]
   rw [show p+1+a.length=p+(a.length+1) by omega]
 | a,p,0,_,_,_,hn,_,_=>absurd hn (Nat.not_lt_zero _)
theorem gS5{x:gB}(hx:wfx x=true):∃b t,fmt x=b::t∧isW b=false∧b≠41∧(b=40∨isB b=true):=by
 obtain⟨a,l⟩:=x
 cases a with
 | nil=>exact⟨40,_,by rw [fmt],by decide,by decide,.inl rfl⟩
 | cons b a=>
   simp only [wfx,List.all_cons,Bool.and_eq_true] at hx
   refine⟨b,a,by rw [fmt],hE4 hx.1.1,fun h=>?_,.inr hx.1.1⟩
   subst h
   exact absurd hx.1.1 (by decide)
theorem hE5{x:gB}(hx:wfx x=true):1≤(fmt x).length:=by
 obtain⟨b,t,h,_⟩:=gS5 hx
 rw [h]
 simp
theorem gRs{s:List UInt8}{p:Nat}{d z:Int}{x:gB}{rest:List UInt8}(n:Nat)(hx:wfx x=true)(h:s.drop p=fmt x++rest)(hz:0≤z∧z < 900):gAa (n+1) ⟨s,p,d,z,false⟩=yA (gAa n) ⟨s,p,d,z,false⟩ n n (p:Int):=by
 obtain⟨b,t,h1,h2,_⟩:=gS5 hx
 rw [h1] at h
 have h3:=(gCp (by simpa using h)).2.2
 rw [gAa]
 unfold gLn
 rw [hBp (.inr ⟨b,_,by simpa using h,h2⟩)]
 simp only [bnd,lt_]
 rw [show decide ((p:Int)≥(s.length:Int))=false from decide_eq_false (by omega),wP _ (by omega) (by omega),show decide (z+1 > 900)=false from decide_eq_false (by omega)]
 rfl
theorem gYu{s:List UInt8}{p:Nat}{d z:Int}{b:UInt8}{a:List UInt8}{rest:List UInt8}(n:Nat)(hl:s.length≤4294967296)(hx:wfx ⟨b::a,[]⟩=true)(h:s.drop p=(b::a)++rest)(hs:stop rest)(hn:a.length+1 < n)(hz:0≤z∧z < 900) :
  gAa (n+1) ⟨s,p,d,z,false⟩=some (⟨b::a,[]⟩,⟨s,((p+(a.length+1):Nat):Int),d,z+1,false⟩):=by
 have hlen:p≤s.length:=Nat.le_of_lt (gCp (by simpa using h)).2.2
 rw [gRs n hx (by rw [fmt];exact h) hz]
 have ha:(b::a).all isB=true:=by simpa [wfx] using hx
 rw [gYt (gAa n) (p0:=p) (d:=d) (z:=z) n hl hs (b::a) p n ha h (by simp) (by simpa using hn) (Nat.le_refl _) hlen,wP _ (by omega) (by omega),h]
 simp only [List.length_cons,Nat.add_sub_cancel_left]
 rw [show a.length+1=(b::a).length by simp,List.take_left]
theorem hE6(rec:uE→Option (gB × uE)){s:List UInt8}{p:Nat}{d z:Int}{t:List UInt8}(n n0:Nat)(hl:s.length≤4294967296)(h:s.drop p=40::t)(hd:0≤d∧d < 14)(hz:0≤z∧z < 900) :
  yA rec ⟨s,p,d,z,false⟩ n0 (n+1) (p:Int)=uH rec n0 s ((p+1:Nat):Int) (d+1) (z+1) false []:=by
 obtain⟨h1,h2,h3⟩:=gCp h
 rw [yA]
 simp only []
 rw [show decide ((p:Int) < (s.length:Int))=true from decide_eq_true (by omega)]
 simp only [jH,h1,bnd]
 rw [show gD9 (((40:UInt8).toNat:Nat):Int)=false from by decide]
 simp only [gP]
 rw [show decide ((p:Int) > (p:Int))=false from decide_eq_false (by omega),show((((40:UInt8).toNat:Nat):Int) != 40)=false from by decide]
 simp only [gP]
 rw [show (d==14)=false from beq_eq_false_iff_ne.2 (by omega)]
 simp only [gP]
 rw [gP4 (by omega),wP _ (by omega) (by omega),wP _ (by omega) (by omega)]
theorem hBq(rec:uE→Option (gB × uE)){s:List UInt8}{p:Nat}{d z:Int}{rest:List UInt8}(n:Nat)(l:List gB)(hl:s.length≤4294967296)(h:s.drop p=41::rest)(hd:0≤d∧d≤14) :
  uH rec (n+1) s (p:Int) d z false l=some (⟨[],l⟩,⟨s,((p+1:Nat):Int),d - 1,z,false⟩):=by
 obtain⟨h1,h2,h3⟩:=gCp h
 rw [uH]
 simp only [Bool.not_false,jH]
 rw [hBp (.inr ⟨41,rest,h,by decide⟩)]
 simp only [bnd]
 rw [show decide ((p:Int) < (s.length:Int))=true from decide_eq_true (by omega)]
 simp only [jH,h1]
 rw [show ((((41:UInt8).toNat:Nat):Int)==41)=true from by decide]
 simp only [jH]
 rw [gP4 (by omega),wP _ (by omega) (by omega)]
theorem hE7 (rec:uE→Option (gB × uE)) {s:List UInt8} {p:Nat} {d z z':Int} {x:gB} {rest:List UInt8} (n:Nat) (l:List gB) (hl:s.length≤4294967296) (hx:wfx x=true)
  (h:s.drop p=fmt x++rest∨s.drop p=32::(fmt x++rest)) (hrec:∀p':Nat,s.drop p'=fmt x++rest→p≤p'→rec ⟨s,p',d,z,false⟩=some (x,⟨s,((p'+(fmt x).length:Nat):Int),d,z',false⟩)) (hll:l.length≤4294967295) :
  ∃p':Nat,s.drop p'=fmt x++rest∧(p'=p∨p'=p+1)∧uH rec (n+1) s (p:Int) d z false l=uH rec n s ((p'+(fmt x).length:Nat):Int) d z' false (l++[x]):=by
 obtain⟨b,t,hb,hw,hne,_⟩:=gS5 hx
 have key:∀p':Nat,s.drop p'=fmt x++rest→p≤p'→gKy ⟨s,p,d,z,false⟩=some ⟨s,p',d,z,false⟩→uH rec (n+1) s (p:Int) d z false l=uH rec n s ((p'+(fmt x).length:Nat):Int) d z' false (l++[x]):=by
  intro p' h' hp hs
  rw [uH]
  simp only [Bool.not_false,jH]
  rw [hs]
  simp only [bnd]
  have h0:=h'
  rw [hb] at h0
  obtain⟨h1,h2,h3⟩:=gCp (by simpa using h0)
  rw [show decide ((p':Int) < (s.length:Int))=true from decide_eq_true (by omega)]
  simp only [jH,h1]
  rw [show ((b.toNat:Int)==41)=false from beq_eq_false_iff_ne.2 (fun he=>hne (UInt8.toNat_inj.1 (by change _=41;omega)))]
  simp only [gP]
  rw [hrec p' h' hp]
  simp only
  rw [pF (by simp;omega)]
 rcases h with h | h
 ·have h0:=h
  rw [hb] at h0
  exact⟨p,h,.inl rfl,key p h (Nat.le_refl _) (hBp (.inr ⟨b,_,by simpa using h0,hw⟩))⟩
 ·have h0:=h
  rw [hb] at h0
  exact⟨p+1,(gCp h).2.1,.inr rfl,key (p+1) (gCp h).2.1 (by omega) (hO6 (by simpa using h0) hw hl)⟩
mutual
theorem gYv{s:List UInt8}(hl:s.length≤4294967296):∀(x:gB) (p n:Nat) (d z:Int) (rest:List UInt8),wfx x=true→s.drop p=fmt x++rest→stop rest→0≤d→d+dpx x≤14→0≤z→z+ndx x≤900→(fmt x).length+1 < n→
  gAa n ⟨s,p,d,z,false⟩=some (x,⟨s,((p+(fmt x).length:Nat):Int),d,z+ndx x,false⟩)
 | ⟨[],l⟩,p,n+1,d,z,rest,hx,h,hs,h1,h2,h3,h4,h5=>by
   have h4':z+(1+gUi l:Nat)≤900:=h4
   have h2':d+(1+hFv l:Nat)≤14:=h2
   have h5':(gOj l).length+1+1 < n:=by simp only [fmt,List.length_cons,List.length_append,List.length_nil] at h5;omega
   rw [gRs n hx h ⟨h3,by omega⟩]
   have h6:s.drop p=40::(gOj l++41::rest):=by rw [h,fmt];simp
   cases n with
   | zero=>omega
   | succ n=>
     rw [hE6 (gAa (n+1)) n (n+1) hl h6 ⟨h1,by omega⟩ ⟨h3,by omega⟩]
     rw [gUk hl l (p+1) (n+1) (n+1) (d+1) (z+1) (gOj l) [] rest (by simpa [wfx] using hx) (gCp h6).2.1 (.inl rfl) (by omega) (by omega) (by omega) (by omega) (by omega) (by omega) (by simp only [List.length_nil];omega)]
     simp only [List.nil_append,fmt,List.length_cons,List.length_append,List.length_nil,ndx]
     rw [show p+1+(gOj l).length+1=p+((gOj l).length+(0+1)+1) by omega,show d+1 - 1=d by omega,show z+1+(gUi l:Int)=z+((1+gUi l:Nat):Int) by omega]
 | ⟨b::a,l⟩,p,n+1,d,z,rest,hx,h,hs,h1,h2,h3,h4,h5=>by
   have hx':=hx
   simp only [wfx,Bool.and_eq_true,List.isEmpty_iff] at hx'
   obtain⟨_,rfl⟩:=hx'
   have h4':z+(1+0:Nat)≤900:=h4
   simp only [fmt] at h h5 ⊢
   rw [gYu n hl hx h hs (by simp only [List.length_cons] at h5;omega) ⟨h3,by omega⟩]
   rfl
 | ⟨[],l⟩,p,0,d,z,rest,_,_,_,_,_,_,_,h5=>absurd h5 (Nat.not_lt_zero _)
 | ⟨b::a,l⟩,p,0,d,z,rest,_,_,_,_,_,_,_,h5=>absurd h5 (Nat.not_lt_zero _)
theorem gUk{s:List UInt8}(hl:s.length≤4294967296):∀(l:List gB) (p k n:Nat) (d z:Int) (w:List UInt8) (acc:List gB) (rest:List UInt8),hKk l=true→s.drop p=w++41::rest→(w=gOj l∨w=gBq l)→0 < d→d+hFv l≤14→0≤z→z+gUi l≤900→
  w.length+1 < k→w.length < n→acc.length+gUi l≤900→uH (gAa k) n s (p:Int) d z false acc=some (⟨[],acc++l⟩,⟨s,((p+w.length+1:Nat):Int),d - 1,z+gUi l,false⟩)
 | [],p,k,n+1,d,z,w,acc,rest,hx,h,hw,h1,h2,h3,h4,h5,h6,h7=>by
   obtain rfl:w=[]:=by rcases hw with rfl | rfl<;>rfl
   rw [hBq (gAa k) n acc hl (by simpa using h) ⟨by omega,by simp only [hFv] at h2;omega⟩]
   simp [gUi]
 | x::l,p,k,n+1,d,z,w,acc,rest,hx,h,hw,h1,h2,h3,h4,h5,h6,h7=>by
   simp only [hKk,Bool.and_eq_true] at hx
   have h2':d+(max (dpx x) (hFv l):Nat)≤14:=h2
   have h4':z+(ndx x+gUi l:Nat)≤900:=h4
   have h7':acc.length+(ndx x+gUi l)≤900:=h7
   have hst:stop (gBq l++41::rest):=by
    cases l with
    | nil=>intro b t hb;simp only [gBq,List.nil_append,List.cons.injEq] at hb;rw [←hb.1];decide
    | cons y l=>intro b t hb;simp only [gBq,List.cons_append,List.cons.injEq] at hb;rw [←hb.1];decide
   have hfm:=hE5 hx.1
   have hwl:w.length=(fmt x).length+(gBq l).length∨w.length=1+((fmt x).length+(gBq l).length):=by
    rcases hw with rfl | rfl
    ·left;simp [gOj]
    ·right;simp only [gBq,List.length_cons,List.length_append];omega
   have hd:s.drop p=fmt x++(gBq l++41::rest)∨s.drop p=32::(fmt x++(gBq l++41::rest)):=by
    rcases hw with rfl | rfl
    ·left;rw [h,gOj,List.append_assoc]
    ·right;rw [h,gBq];simp
   obtain⟨p',e1,e2,e3⟩:=hE7 (gAa k) (d:=d) (z:=z) (z':=z+ndx x) n acc hl hx.1 hd (fun p' hp' _=>gYv hl x p' k d z _ hx.1 hp' hst (by omega) (by omega) h3 (by omega) (by omega)) (by omega)
   rw [e3]
   have e4:s.drop (p'+(fmt x).length)=gBq l++41::rest:=by
    rw [←List.drop_drop,e1,List.drop_left]
   have hnd:1≤ndx x:=by obtain⟨a,xs⟩:=x;simp only [ndx];omega
   rw [gUk hl l (p'+(fmt x).length) k n d (z+ndx x) (gBq l) (acc++[x]) rest hx.2 e4 (.inr rfl) h1 (by omega) (by omega) (by omega) (by omega) (by omega) (by simp only [List.length_append,List.length_cons,List.length_nil];omega)]
   have hpp:p'+(fmt x).length+(gBq l).length=p+w.length:=by
    rcases hw with rfl | rfl
    ·rcases e2 with rfl | rfl
     ·simp only [gOj,List.length_append];omega
     ·exfalso
      have h8:=congrArg List.length e1
      have h9:=congrArg List.length h
      simp only [List.length_drop,List.length_append,List.length_cons,gOj] at h8 h9
      omega
    ·rcases e2 with rfl | rfl
     ·exfalso
      have h8:=congrArg List.length e1
      have h9:=congrArg List.length h
      simp only [List.length_drop,List.length_append,List.length_cons,gBq] at h8 h9
      omega
     ·simp only [gBq,List.length_cons,List.length_append];omega
   rw [hpp,List.append_assoc]
   simp only [List.singleton_append,gUi]
   rw [show z+(ndx x:Int)+(gUi l:Int)=z+((ndx x+gUi l:Nat):Int) by omega]
 | [],p,k,0,d,z,w,acc,rest,_,_,_,_,_,_,_,_,h6,_=>absurd h6 (Nat.not_lt_zero _)
 | x::l,p,k,0,d,z,w,acc,rest,_,_,_,_,_,_,_,_,h6,_=>absurd h6 (Nat.not_lt_zero _)
end
end Go.Proofs.YtfaplndgbgoaaaaGreatDoor
set_option maxHeartbeats 4000000
set_option linter.unusedVariables false
set_option linter.unusedSimpArgs false
set_option linter.unusedSectionVars false
namespace Go.Proofs.YtfaplndgbgoaaaaGreatDoor
open Go Go.Eng
attribute [local irreducible] V VO VQ VY Quiet QR jB kX Rng uJ uY qW
def kA(s:List UInt8):gB:=⟨s,[]⟩
def kL(l:List gB):gB:=⟨[],l⟩
def ka0:gB:=kA [112,97,99,107,97,103,101]
def ka1:gB:=kA [99,111,114,101]
def ka2:gB:=kA [116,114,97,105,116]
def ka3:gB:=kA [115,104,111,119]
def ka4:gB:=kA [109]
def ka5:gB:=kA [105,110,116]
def ka6:gB:=kA [116,119,111]
def ka7:gB:=kA [39,115,101,108,102]
def ka8:gB:=kA [120]
def ka9:gB:=kA [121]
def hFw:gB:=kA [43]
def gP5:gB:=kA [109,101,116,104,111,100]
def hC7:gB:=kA [101,113]
def hHq:gB:=kA [115,97,109,101]
def hO7:gB:=kA [98,111,111,108]
def hHr:gB:=kA [111,114,100]
def hHs:gB:=kA [108,101,115,115]
def gYw:gB:=kA [97,100,100]
def hKl:gB:=kA [97,115,115,111,99]
def hFx:gB:=kA [112,108,117,115]
def hUm:gB:=kA [115,101,110,100]
def hUn:gB:=kA [97,117,116,111]
def hHt:gB:=kA [100,97,116,97]
def hBs:gB:=kA [108,105,115,116]
def gUl:gB:=kA [97]
def hE8:gB:=kA [110,105,108]
def hE9:gB:=kA [99,111,110,115]
def gK1:gB:=kA [39,97]
def hFy:gB:=kA [112,97,105,114]
def hRm:gB:=kA [98]
def hO8:gB:=kA [39,98]
def gVs:gB:=kA [98,111,120]
def hRn:gB:=kA [117,110,105,116]
def gOk:gB:=kA [105,110,115,116]
def hO9:gB:=kA [105,102]
def hBt:gB:=kA [49]
def hFa:gB:=kA [48]
def gYx:gB:=kA [99,97,115,101]
def hHu:gB:=kA [104]
def hFz:gB:=kA [116]
def hUo:gB:=kA [100,101,102,97,117,108,116]
def hRo:gB:=kA [55]
def hKm:gB:=kA [122]
def hRp:gB:=kA [45]
def hUp:gB:=kA [61]
def hRq:gB:=kA [60]
def hKp:gB:=kA [112]
def hKq:gB:=kA [113]
def gUm:gB:=kA [110,101,119]
def hF0:gB:=kA [102,110]
def hKu:gB:=kA [105,100]
def hHv:gB:=kA [98,111,116,104]
def hUq:gB:=kA [97,112,112]
def gS6:gB:=kA [116,97,103]
def hPa:gB:=kA [110,111,110,101]
def hUr:gB:=kA [57]
def hBu:gB:=kA [110]
def hRt:gB:=kA [52]
def hRu:gB:=kA [53]
def hKv:gB:=kA [116,114,117,101]
def hUs:gB:=kA [102,97,108,115,101]
def hUt:gB:=kA [109,97,105,110]
def hBv:gB:=kA [99,97,108,108]
def hKw:gB:=kA [50]
def hRw:gB:=kA [116,104,101]
def hRx:gB:=kA [51]
def hUu:gB:=kA [108,101,116]
def hUv:gB:=kA [112,97,99,107]
def hRz:gB:=kA [108,101,110]
def hUw:gB:=kA [115,117,109]
def hR3:gB:=kA [103,114,111,119]
def gRt:List gB:=[ka0,ka1,kL []]
def gYy:List gB:=[kL [ka2,ka3,kL [],kL [],kL [ka4,kL [],ka5],kL [ka6,kL [ka7],ka5,kL [ka8,ka9],kL [hFw,kL [gP5,ka3,ka4,ka8],kL [gP5,ka3,ka4,ka9]]]],kL [ka2,hC7,kL [],kL [],kL [hHq,kL [ka7],hO7]],kL [ka2,hHr,kL [hC7],kL [],kL [hHs,kL [ka7],hO7]],kL [ka2,gYw,kL [],kL [hKl],kL [hFx,kL [ka7],kL [hKl,gYw,ka7]]],kL [ka2,hUm,kL [],kL [hUn]],kL [hHt,hBs,kL [gUl],kL [hE8],kL [hE9,gK1,kL [hBs,gK1]]],kL [hHt,hFy,kL [gUl,hRm],kL [hFy,gK1,hO8]],kL [hHt,gVs,kL [gUl],kL [gVs,gK1]],kL [hHt,hRn,kL [],kL [hRn]],kL [gOk,ka3,kL [],ka5,kL [],kL [],kL [],kL [ka4,kL [ka8],ka8]],kL [gOk,ka3,kL [],hO7,kL [],kL [],kL [],kL [ka4,kL [ka8],kL [hO9,ka8,hBt,hFa]]]]
def gUn:Bool→List gB
 | true=>[kL [gOk,ka3,kL [gUl],kL [hBs,gK1],kL [kL [ka3,gK1]],kL [],kL [],kL [ka4,kL [ka8],kL [gYx,ka8,kL [hE8,hFa],kL [hE9,hHu,hFz,kL [hFw,kL [gP5,ka3,ka4,hHu],kL [gP5,ka3,ka4,hFz]]]]]]]
 | false=>[kL [gOk,ka3,kL [gUl],kL [hBs,gK1],kL [],kL [hUo],kL [],kL [ka4,kL [ka8],hRo]],kL [gOk,ka3,kL [],kL [hBs,ka5],kL [],kL [],kL [],kL [ka4,kL [ka8],kL [gYx,ka8,kL [hE8,hFa],kL [hE9,hHu,hFz,kL [hFw,hHu,kL [gP5,ka3,ka4,hFz]]]]]]]
def gYz:List gB:=[kL [gOk,ka3,kL [gUl,hRm],kL [hFy,gK1,hO8],kL [kL [ka3,gK1],kL [ka3,hO8]],kL [],kL [],kL [ka4,kL [ka8],kL [gYx,ka8,kL [hFy,ka9,hKm,kL [hRp,kL [gP5,ka3,ka4,ka9],kL [gP5,ka3,ka4,hKm]]]]]],kL [gOk,hC7,kL [],ka5,kL [],kL [],kL [],kL [hHq,kL [ka8,ka9],kL [hUp,ka8,ka9]]],kL [gOk,hHr,kL [],ka5,kL [],kL [],kL [],kL [hHs,kL [ka8,ka9],kL [hRq,ka8,ka9]]],kL [gOk,hC7,kL [gUl],kL [gVs,gK1],kL [kL [hC7,gK1]],kL [],kL [],kL [hHq,kL [ka8,ka9],kL [gYx,ka8,kL [gVs,hKp,kL [gYx,ka9,kL [gVs,hKq,kL [gP5,hC7,hHq,hKp,hKq]]]]]]],kL [gOk,gYw,kL [],ka5,kL [],kL [],kL [ka5],kL [hFx,kL [ka8,ka9],kL [hFw,ka8,ka9]]],kL [gOk,gYw,kL [gUl],kL [gVs,gK1],kL [kL [gYw,gK1]],kL [],kL [kL [gVs,kL [hKl,gYw,gK1]]],kL [hFx,kL [ka8,ka9],kL [gYx,ka8,kL [gVs,hKp,kL [gYx,ka9,kL [gVs,hKq,kL [gUm,gVs,kL [gP5,gYw,hFx,hKp,hKq]]]]]]]],kL [hF0,hKu,kL [gUl],kL [],kL [kL [ka8,gK1]],gK1,ka8],kL [hF0,hHv,kL [gUl],kL [kL [ka3,gK1]],kL [kL [ka8,gK1]],ka5,kL [gP5,ka3,ka6,ka8,ka8]]]
def gRu:List gB:=[ka0,hUq,kL [ka1]]
def hFb:List gB:=[kL [hHt,gS6,kL [],kL [gS6,ka5],kL [hPa]]]
def gY0:List (List gB):=[[kL [gOk,ka3,kL [],ka5,kL [],kL [],kL [],kL [ka4,kL [ka8],hUr]]],
 [kL [gOk,ka3,kL [],gS6,kL [],kL [],kL [],kL [ka4,kL [ka8],kL [gYx,ka8,kL [hPa,hFa],kL [gS6,hBu,hBu]]]]],
 [kL [gOk,ka3,kL [],kL [hBs,gS6],kL [],kL [],kL [],kL [ka4,kL [ka8],hRt]],kL [gOk,ka3,kL [],gS6,kL [],kL [],kL [],kL [ka4,kL [ka8],hRu]]],
 [kL [gOk,hHr,kL [],gS6,kL [],kL [],kL [],kL [hHs,kL [ka8,ka9],hKv]]],
 [kL [gOk,hC7,kL [],gS6,kL [],kL [],kL [],kL [hHq,kL [ka8,ka9],hKv]],kL [gOk,hHr,kL [],gS6,kL [],kL [],kL [],kL [hHs,kL [ka8,ka9],hUs]]],
 [kL [gOk,ka3,kL [gUl],gK1,kL [kL [hC7,gK1]],kL [],kL [],kL [ka4,kL [ka8],hBt]]],
 [kL [gOk,ka3,kL [],gS6,kL [],kL [],kL [],kL [ka4,kL [ka8],kL [gYx,ka8,kL [gS6,hBu,hBu],kL [hPa,hFa]]]]]]
def gRv(m:gB):gB:=kL [hF0,hUt,kL [],kL [],kL [],ka5,m]
def gY1:List gB:=[kL [hBv,hHv,hRu],kL [gP5,ka3,ka4,kL [gUm,hE9,hBt,kL [gUm,hE9,hKw,kL [hRw,kL [hBs,ka5],kL [gUm,hE8]]]]],kL [hBv,hHv,kL [gUm,hFy,hRx,hKv]],kL [hFw,kL [hBv,hKu,hRt],kL [gP5,ka3,ka4,kL [gUm,gS6,hRo]]],kL [hUu,hKm,kL [gP5,gYw,hFx,kL [gUm,gVs,hBt],kL [gUm,gVs,hKw]],kL [gYx,hKm,kL [gVs,hBu,hBu]]],kL [gP5,ka3,ka4,kL [gUm,hE8]],kL [gP5,ka3,ka4,kL [hUv,ka3,hRx]],kL [hO9,kL [gP5,hHr,hHs,hBt,hKw],kL [hBv,hHv,hKv],hFa],kL [gP5,ka3,ka4,kL [gUm,hE9,kL [gUm,gS6,hBt],kL [hRw,kL [hBs,gS6],kL [gUm,hE8]]]],kL [hBv,hHv,kL [hBv,hKu,kL [hBv,hKu,kL [gUm,gS6,hKw]]]]]
def hFc:List gB:=[kL [hF0,hRz,kL [gUl],kL [],kL [kL [ka8,kL [hBs,gK1]]],ka5,kL [gYx,ka8,kL [hE8,hFa],kL [hE9,hHu,hFz,kL [hFw,hBt,kL [hBv,hRz,hFz]]]]]]
def hFd:List gB:=[kL [hF0,hUw,kL [gUl],kL [kL [gYw,gK1]],kL [kL [ka8,gK1],kL [ka9,gK1]],kL [hKl,gYw,gK1],kL [gP5,gYw,hFx,ka8,ka9]]]
def hFe:List gB:=[kL [hF0,hR3,kL [gUl],kL [kL [ka3,gK1]],kL [kL [hBu,ka5],kL [ka8,gK1]],ka5,kL [hO9,kL [hRq,hBu,hBt],kL [gP5,ka3,ka4,ka8],kL [hBv,hR3,kL [hRp,hBu,hBt],kL [gUm,hFy,ka8,ka8]]]]]
def gP6(b:Bool):gB:=kL (gRt++(gYy++(gUn b++gYz)))
def hFh(h:List gB)(m:gB)(o1 o2 o3:List gB):gB:=kL (gRu++(hFb++(h++(gRv m::(o1++(o2++o3))))))
theorem gF2:∀(a b:List gB),gBq (a++b)=gBq a++gBq b
 | [],b=>by simp [gBq]
 | x::a,b=>by simp only [List.cons_append,gBq,gF2 a b,List.append_assoc]
theorem gUo:∀{a:List gB} (b:List gB),a≠[]→gOj (a++b)=gOj a++gBq b
 | [],b,h=>absurd rfl h
 | x::a,b,_=>by simp only [List.cons_append,gOj,gF2 a b,List.append_assoc]
theorem hPb:vI++vJ++wK++yB=40::(gOj gRt++gBq gYy):=by kernel_rfl
theorem hPc:gBm=gBq (gUn true):=by kernel_rfl
theorem hPd:gBn=gBq (gUn false):=by kernel_rfl
theorem hPe:qX++uI++vK++uW++vU++wV=gBq gYz:=by kernel_rfl
theorem hPf:kF=40::(gOj gRu++gBq hFb):=by kernel_rfl
theorem hPg:[gAx,gAy,gAz,gA0,gA1,gA2,gA3]=gY0.map gBq:=by kernel_rfl
theorem hPh:[[40,99,97,108,108,32,98,111,116,104,32,53,41],yX,yY,yZ,zA,zB,zC,zD,zF,zG]=gY1.map fmt:=by kernel_rfl
theorem hPi(m:gB):vZ++fmt m++[41]=gBq [gRv m]:=by
 have h:vZ=32::40::(gOj (gRv (kL [])).list.dropLast++[32]):=by kernel_rfl
 rw [h]
 simp only [gRv,gBq,kL,fmt,gOj,List.dropLast,List.append_nil,List.nil_append,List.cons_append,List.append_assoc]
theorem hPj:gEy=gBq hFc:=by kernel_rfl
theorem hPk:gEz=gBq hFd:=by kernel_rfl
theorem hPl:gE0=gBq hFe:=by kernel_rfl
end Go.Proofs.YtfaplndgbgoaaaaGreatDoor
set_option maxHeartbeats 4000000
set_option linter.unusedVariables false
set_option linter.unusedSimpArgs false
set_option linter.unusedSectionVars false
namespace Go.Proofs.YtfaplndgbgoaaaaGreatDoor
open Go Go.Eng
attribute [local irreducible] V VO VQ VY Quiet QR jB kX Rng uJ uY qW
def gAq(c:jA):Prop:=0≤c.i∧c.b.length≤1048576
theorem hFi(c:jA)(h:gAq c):∃x c',gEe c=some (x,c')∧0≤x∧x≤255∧gAq c':=by
 obtain⟨h1,h2⟩:=h
 unfold gEe
 cases hc:decide (c.i < (c.b.length:Int))with
 | true=>
   have h3:=of_decide_eq_true hc
   have hx:at? c.b c.i=some (c.b[c.i.toNat]'(by omega)):=by unfold at?;rw [if_pos h1];exact List.getElem?_eq_getElem _
   simp only [jH]
   rw [kG hx]
   refine⟨_,_,rfl,(gLv _).1,(gLv _).2,?_,h2⟩
   simp only
   rw [wP _ (by omega) (by omega)]
   omega
 | false=>exact⟨_,_,rfl,(gLv _).1,(gLv _).2,h1,h2⟩
theorem gEi(c:jA)(n:Int)(h:gAq c)(h0:0 < n)(h1:n≤256):∃x c',yQ c n=some (x,c')∧0≤x∧x < n∧gAq c':=by
 obtain⟨x,c',e,e1,e2,e3⟩:=hFi c h
 unfold yQ
 rw [show decide (n≤0)=false from decide_eq_false (by omega),show decide (n≤256)=true from decide_eq_true h1]
 simp only [jH,gP]
 rw [kG e,pF (by omega)]
 exact⟨_,_,rfl,Int.tmod_nonneg _ e1,Int.tmod_lt_of_pos _ h0,e3⟩
theorem gP7(c:jA)(l:List (List UInt8))(h:gAq c)(h0:0 < l.length)(h1:l.length≤256):∃x c',gEf c l=some (x,c')∧gAq c'∧x∈l:=by
 obtain⟨x,c',e,e1,e2,e3⟩:=gEi c l.length h (by omega) (by omega)
 unfold gEf
 have hx:at? l x=some (l[x.toNat]'(by omega)):=by unfold at?;rw [if_pos e1];exact List.getElem?_eq_getElem _
 rw [kG e,kG hx]
 exact⟨_,_,rfl,e3,List.getElem_mem _⟩
theorem gJh(c:jA)(n:Int)(h:gAq c)(h0:0 < n)(h1:n≤256):∃x c',gCm c n=some (x,c')∧gAq c':=by
 obtain⟨x,c',e,_,_,e3⟩:=gEi c n h h0 h1
 unfold gCm
 rw [kG e]
 exact⟨_,_,rfl,e3⟩
theorem hBy(b:Bool):fmt (gP6 b)=(40::(gOj gRt++gBq gYy))++gBq (gUn b)++gBq gYz++[41]:=by
 have h:gRt≠[]:=by simp [gRt]
 simp only [gP6,kL,fmt,gUo _ h,gF2,List.cons_append,List.append_assoc]
theorem hFj(h:List gB)(m:gB)(o1 o2 o3:List gB):fmt (hFh h m o1 o2 o3)=(40::(gOj gRu++gBq hFb))++gBq h++gBq [gRv m]++gBq o1++gBq o2++gBq o3++[41]:=by
 have h0:gRu≠[]:=by simp [gRu]
 have h1:∀l:List gB,gBq (gRv m::l)=gBq [gRv m]++gBq l:=fun l=>gF2 [gRv m] l
 simp only [hFh,kL,fmt]
 rw [gUo _ h0,gF2,gF2,h1,gF2,gF2]
 simp only [List.cons_append,List.append_assoc]
theorem hPm:([vI,vJ,wK,yB,gBm,gBn,qX,uI,vK,uW,vU,wV].all fun l=>decide (l.length≤1000))=true:=by kernel_rfl
theorem hPn:(([kF,vZ,gEy,gEz,gE0]++gY0.map gBq++gY1.map fmt).all fun l=>decide (l.length≤1000))=true:=by kernel_rfl
set_option maxRecDepth 100000 in
theorem hFk(c:jA)(h:gAq c):∃b c',gHy c=some (fmt (gP6 b),c')∧gAq c':=by
 have hl:∀l∈[vI,vJ,wK,yB,gBm,gBn,qX,uI,vK,uW,vU,wV],l.length≤1000:=fun l hm=>of_decide_eq_true (List.all_eq_true.1 hPm l hm)
 have l1:=hl vI (.head _)
 have l2:=hl vJ (.tail _ (.head _))
 have l3:=hl wK (.tail _ (.tail _ (.head _)))
 have l4:=hl yB (.tail _ (.tail _ (.tail _ (.head _))))
 have l5:=hl gBm (.tail _ (.tail _ (.tail _ (.tail _ (.head _)))))
 have l6:=hl gBn (.tail _ (.tail _ (.tail _ (.tail _ (.tail _ (.head _))))))
 have l7:=hl qX (.tail _ (.tail _ (.tail _ (.tail _ (.tail _ (.tail _ (.head _)))))))
 have l8:=hl uI (.tail _ (.tail _ (.tail _ (.tail _ (.tail _ (.tail _ (.tail _ (.head _))))))))
 have l9:=hl vK (.tail _ (.tail _ (.tail _ (.tail _ (.tail _ (.tail _ (.tail _ (.tail _ (.head _)))))))))
 have l10:=hl uW (.tail _ (.tail _ (.tail _ (.tail _ (.tail _ (.tail _ (.tail _ (.tail _ (.tail _ (.head _))))))))))
 have l11:=hl vU (.tail _ (.tail _ (.tail _ (.tail _ (.tail _ (.tail _ (.tail _ (.tail _ (.tail _ (.tail _ (.head _)))))))))))
 have l12:=hl wV (.tail _ (.tail _ (.tail _ (.tail _ (.tail _ (.tail _ (.tail _ (.tail _ (.tail _ (.tail _ (.tail _ (.head _))))))))))))
 clear hl
 obtain⟨x,c',e,e3⟩:=gJh c 2 h (by omega) (by omega)
 have t0:=hPb;have t1:=hPc;have t2:=hPd;have t3:=hPe
 have f:=hBy
 rw [←t0,←t3] at f
 have ft:=f true
 have ff:=f false
 rw [←t1] at ft
 rw [←t2] at ff
 clear f t0 t1 t2 t3
 unfold gHy
 generalize vI=a1 at *
 generalize vJ=a2 at *
 generalize wK=a3 at *
 generalize yB=a4 at *
 generalize gBm=a5 at *
 generalize gBn=a6 at *
 generalize qX=a7 at *
 generalize uI=a8 at *
 generalize vK=a9 at *
 generalize uW=a10 at *
 generalize vU=a11 at *
 generalize wV=a12 at *
 rw [pF (by omega),pF (by simp only [List.length_append];omega),pF (by simp only [List.length_append];omega),kG e]
 cases x with
 | true=>
   simp only [jH]
   rw [pF (by simp only [List.length_append];omega)]
   simp only [bnd]
   iterate 7 rw [pF (by simp only [List.length_append,List.length_cons,List.length_nil];omega)]
   refine⟨true,c',?_,e3⟩
   rw [ft]
   simp only [List.append_assoc]
 | false=>
   simp only [gP]
   rw [pF (by simp only [List.length_append];omega)]
   simp only [bnd]
   iterate 7 rw [pF (by simp only [List.length_append,List.length_cons,List.length_nil];omega)]
   refine⟨false,c',?_,e3⟩
   rw [ff]
   simp only [List.append_assoc]
theorem gY2{x:Bool × jA}{b s:List UInt8}{o:List gB}(hs:s=gBq o)(hl:b.length+s.length≤4294967296):∃o',(o'=[]∨o'=o)∧(cnd x.1 (gd (b.length+s.length≤4294967296) (some (b++s))) (some b))=some (b++gBq o'):=by
 cases x.1 with
 | true=>exact⟨o,.inr rfl,by simp only [jH];rw [pF hl,hs]⟩
 | false=>exact⟨[],.inl rfl,by simp [gP,gBq]⟩
set_option maxRecDepth 100000 in
theorem hHx(c:jA)(h:gAq c):∃hd m o1 o2 o3 c',gJy c=some (fmt (hFh hd m o1 o2 o3),c')∧gAq c'∧hd∈gY0∧m∈gY1∧(o1=[]∨o1=hFc)∧(o2=[]∨o2=hFd)∧(o3=[]∨o3=hFe):=by
 have hl:=hPn
 have k1:=hPf;have k2:=hPg;have k3:=hPh;have k4:=hPi;have k5:=hPj;have k6:=hPk;have k7:=hPl
 rw [←k2,←k3] at hl
 have hh:∀l∈[gAx,gAy,gAz,gA0,gA1,gA2,gA3],∃hd∈gY0,l=gBq hd:=fun l hm=>by
  rw [k2] at hm
  obtain⟨a,h1,h2⟩:=List.mem_map.1 hm
  exact⟨a,h1,h2.symm⟩
 have hm:∀l∈[[40,99,97,108,108,32,98,111,116,104,32,53,41],yX,yY,yZ,zA,zB,zC,zD,zF,zG],∃m∈gY1,l=fmt m:=fun l hm=>by
  rw [k3] at hm
  obtain⟨a,h1,h2⟩:=List.mem_map.1 hm
  exact⟨a,h1,h2.symm⟩
 rw [List.all_append,List.all_append] at hl
 simp only [Bool.and_eq_true,List.all_eq_true,decide_eq_true_eq] at hl
 obtain⟨⟨hl1,hl2⟩,hl3⟩:=hl
 have l1:=hl1 kF (by simp)
 have l9:=hl1 vZ (by simp)
 have l19:=hl1 gEy (by simp)
 have l20:=hl1 gEz (by simp)
 have l21:=hl1 gE0 (by simp)
 obtain⟨x,c1,e1,e2,e3,e4⟩:=gEi c 8 h (by omega) (by omega)
 unfold gJy
 rw [kG e1]
 have hb:∃l∈[gAx,gAy,gAz,gA0,gA1,gA2,gA3],(cnd (x==0) (gd (kF.length+gAx.length≤4294967296) (some (kF++gAx))) (cnd (x==1) (gd (kF.length+gAy.length≤4294967296) (some (kF++gAy))) (cnd (x==2) (gd (kF.length+gAz.length≤4294967296) (some (kF++gAz))) (cnd (x==3) (gd (kF.length+gA0.length≤4294967296) (some (kF++gA0))) (cnd (x==4) (gd (kF.length+gA1.length≤4294967296) (some (kF++gA1))) (cnd (x==5) (gd (kF.length+gA2.length≤4294967296) (some (kF++gA2))) (gd (kF.length+gA3.length≤4294967296) (some (kF++gA3)))))))))=some (kF++l):=by
  have g:∀l∈[gAx,gAy,gAz,gA0,gA1,gA2,gA3],gd (kF.length+l.length≤4294967296) (some (kF++l))=some (kF++l):=fun l hm=>pF (by have:=hl2 l hm;omega)
  cases x==0 with
  | true=>exact⟨gAx,by simp,by rw [jH];exact g _ (by simp)⟩
  | false=>
  cases x==1 with
  | true=>exact⟨gAy,by simp,by rw [gP,jH];exact g _ (by simp)⟩
  | false=>
  cases x==2 with
  | true=>exact⟨gAz,by simp,by rw [gP,gP,jH];exact g _ (by simp)⟩
  | false=>
  cases x==3 with
  | true=>exact⟨gA0,by simp,by rw [gP,gP,gP,jH];exact g _ (by simp)⟩
  | false=>
  cases x==4 with
  | true=>exact⟨gA1,by simp,by rw [gP,gP,gP,gP,jH];exact g _ (by simp)⟩
  | false=>
  cases x==5 with
  | true=>exact⟨gA2,by simp,by rw [gP,gP,gP,gP,gP,jH];exact g _ (by simp)⟩
  | false=>exact⟨gA3,by simp,by rw [gP,gP,gP,gP,gP,gP];exact g _ (by simp)⟩
 obtain⟨l,hlm,hb⟩:=hb
 rw [kG hb]
 have ll:=hl2 l hlm
 obtain⟨hd,q1,rfl⟩:=hh l hlm
 rw [pF (by simp only [List.length_append];omega)]
 obtain⟨t,c2,f1,f2,f3⟩:=gP7 c1 [[40,99,97,108,108,32,98,111,116,104,32,53,41],yX,yY,yZ,zA,zB,zC,zD,zF,zG] e4 (by simp) (by simp)
 rw [kG f1]
 have lt:=hl3 t f3
 obtain⟨m,q2,rfl⟩:=hm t f3
 rw [pF (by simp only [List.length_append];omega),pF (by simp only [List.length_append,List.length_cons,List.length_nil];omega)]
 obtain⟨y1,c3,g1,g2⟩:=gJh c2 2 f2 (by omega) (by omega)
 rw [kG g1]
 obtain⟨o1,q3,r1⟩:=gY2 (x:=(y1,c3)) (b:=kF++gBq hd++vZ++fmt m++[41]) k5 (by simp only [List.length_append,List.length_cons,List.length_nil];omega)
 have lo1:(gBq o1).length≤1000:=by rcases q3 with rfl | rfl;· simp [gBq]
                                   ·rw [←k5];exact l19
 rw [kG r1]
 obtain⟨y2,c4,g3,g4⟩:=gJh c3 3 g2 (by omega) (by omega)
 rw [kG g3]
 obtain⟨o2,q4,r2⟩:=gY2 (x:=(y2,c4)) (b:=kF++gBq hd++vZ++fmt m++[41]++gBq o1) k6 (by simp only [List.length_append,List.length_cons,List.length_nil];omega)
 have lo2:(gBq o2).length≤1000:=by rcases q4 with rfl | rfl;· simp [gBq]
                                   ·rw [←k6];exact l20
 rw [kG r2]
 obtain⟨y3,c5,g5,g6⟩:=gJh c4 4 g4 (by omega) (by omega)
 rw [kG g5]
 obtain⟨o3,q5,r3⟩:=gY2 (x:=(y3,c5)) (b:=kF++gBq hd++vZ++fmt m++[41]++gBq o1++gBq o2) k7 (by simp only [List.length_append,List.length_cons,List.length_nil];omega)
 have lo3:(gBq o3).length≤1000:=by rcases q5 with rfl | rfl;· simp [gBq]
                                   ·rw [←k7];exact l21
 rw [kG r3,pF (by simp only [List.length_append,List.length_cons,List.length_nil];omega)]
 refine⟨hd,m,o1,o2,o3,c5,?_,g6,q1,q2,q3,q4,q5⟩
 rw [hFj,←k1,←k4 m]
 simp only [List.append_assoc]
end Go.Proofs.YtfaplndgbgoaaaaGreatDoor
