import Derived.Test.YtfjncckelekpiaaGreatP5
set_option maxHeartbeats 4000000
set_option linter.unusedVariables false
set_option linter.unusedSimpArgs false
set_option linter.unusedSectionVars false
namespace Go.Proofs.YtfjncckelekpiaaGreat
open Go Go.Eng
attribute [local irreducible] V VO VQ VY Quiet QR gW pJ Rng vF uW uI
theorem hUv1:((fam.take 280).all fun q=>hZy (jE4 q) 1500)=true:=by kernel_rfl
theorem hUv2:((fam.drop 280).all fun q=>hZy (jE4 q) 1500)=true:=by kernel_rfl
theorem hUv:(fam.all fun q=>hZy (jE4 q) 1500)=true:=by rw [← List.take_append_drop 280 fam,List.all_append,hUv1,hUv2];rfl
theorem hUw(b:Bool):wJ (gXq b)=some (pC b,true):=by cases b<;>kernel_rfl
theorem hGq(b:Bool):(hZy (gXq b) 3000 && pkB (pC b))=true:=by cases b<;>kernel_rfl
theorem hXm:(gSq.all fun h=>pkB (apP (h.map gQj) []))=true:=by kernel_rfl
inductive DW:gG→Prop
 | one (b:Bool):DW ⟨[pC b]⟩
 | two (b:Bool) {h:List gH} {m:gH} {o1 o2 o3:List gH} (h1:h∈gSq) (h2:m∈gY4) (h3:o1=[]∨o1=hBe) (h4:o2=[]∨o2=hBf) (h5:o3=[]∨o3=hBh):DW ⟨[pC b,apP (h.map gQj) (fns m o1 o2 o3)]⟩
structure WD (w:gG):Prop where
 core:∃b rest,w=⟨pC b::rest⟩
 len:w.packages.length≤3
 pk:∀p∈w.packages,PK p
theorem DW.wd{w:gG}(h:DW w):WD w:=by
 have hC:∀b,PK (pC b):=fun b=>by have:=hGq b;rw [Bool.and_eq_true] at this;exact hSq this.2
 cases h with
 | one b=>exact⟨⟨b,[],rfl⟩,by simp,fun p hp=>by obtain rfl:=List.mem_singleton.1 hp;exact hC b⟩
 | @two b h m q y o3 f h2 h3 h4 h5=>
   refine⟨⟨b,_,rfl⟩,by simp,fun p hp=>?_⟩;simp only [List.mem_cons,List.not_mem_nil,or_false] at hp;rcases hp with rfl | rfl
   ·exact hC b
   ·exact hSq (show pkB (apP (h.map gQj) [])=true from List.all_eq_true.1 hXm h f)
theorem WD.look{w:gG}(h:WD w){o:gI}{i:jF}(hi:gT3 w o=some i):IK i:=by
 obtain⟨p,f,q⟩:=gS2 hi;exact(h.pk p (List.mem_of_getElem? (yY f).2)).1.1.2 i (List.mem_of_getElem? (yY q).2)
def hOr(n:Nat):List jF→Nat→List gI
 | [],_=>[]
 | _::l,k=>⟨(n:Int),(k:Int)⟩::hOr n l (k+1)
theorem gUz(n:Nat):∀(l:List jF)(k:Nat),(hOr n l k).length=l.length
 | [],_=>rfl
 | _::l,k=>by simp [hOr,gUz n l (k+1)]
theorem hSs(n:Nat)(f:List gI→Option (List gI)):∀(l:List jF)(k:Nat)(acc:List gI),acc.length+l.length≤4294967296→vO n f l k acc=f (acc++hOr n l k)
 | [],k,acc,_=>by simp [vO,hOr]
 | x::l,k,acc,h=>by
   simp only [List.length_cons] at h;rw [vO,wI (by simp;omega),hSs n f l (k+1) _ (by simp;omega)];simp [hOr]
theorem hGr{n:Nat}{o:gI}:∀{l:List jF}{k:Nat},o∈hOr n l k→∃j:Nat,o=⟨(n:Int),((k+j:Nat):Int)⟩∧j < l.length
 | [],k,h=>by simp [hOr] at h
 | x::l,k,h=>by
   simp only [hOr,List.mem_cons] at h;rcases h with rfl | h
   ·exact⟨0,rfl,by simp⟩
   ·obtain⟨j,f,q⟩:=hGr h;exact⟨j+1,by rw [f];congr 2;omega,by simp;omega⟩
def hIm:List jL→Nat→List gI
 | [],_=>[]
 | p::ps,n=>hOr n p.instances 0++hIm ps (n+1)
theorem hGs:∀(ps:List jL)(n:Nat),(∀p∈ps,PK p)→(hIm ps n).length≤100*ps.length
 | [],n,_=>by simp [hIm]
 | p::ps,n,h=>by
   have f:=(h p (by simp)).1.1.1;have y:=hGs ps (n+1) fun q hq=>h q (by simp [hq]);simp only [hIm,List.length_append,gUz,List.length_cons];omega
theorem hSu:∀(ps:List jL)(n:Nat)(acc:List gI),acc.length+(hIm ps n).length≤4294967296→uH ps n acc=some (acc++hIm ps n)
 | [],n,acc,_=>by simp [uH,hIm]
 | p::ps,n,acc,h=>by
   simp only [hIm,List.length_append,gUz] at h;rw [uH,hSs n _ p.instances 0 acc (by omega)];rw [hSu ps (n+1) _ (by simp [gUz];omega)];simp [hIm]
theorem hGt{o:gI}:∀{ps:List jL}{n:Nat},o∈hIm ps n→∃(j m:Nat)(p:jL)(i:jF),o=⟨((n+j:Nat):Int),(m:Int)⟩∧ps[j]? =some p∧p.instances[m]? =some i
 | [],n,h=>by simp [hIm] at h
 | p::ps,n,h=>by
   simp only [hIm,List.mem_append] at h;rcases h with h | h
   ·obtain⟨m,f,y⟩:=hGr h;exact⟨0,m,p,p.instances[m],by rw [f];simp,rfl,List.getElem?_eq_getElem y⟩
   ·obtain⟨j,m,q,i,f,y,h3⟩:=hGt h;exact⟨j+1,m,q,i,by rw [f];congr 2;omega,y,h3⟩
theorem WD.sw{w:gG}(h:WD w):∃all,SW w all:=by
 have hl:=h.len;have hn:=hGs w.packages 0 h.pk;refine⟨hIm w.packages 0,⟨by unfold gAa;rw [hSu _ 0 [] (by simp only [List.length_nil];omega)];rfl,by omega,fun o ho=>?_⟩⟩;obtain⟨j,m,p,i,rfl,f,q⟩:=hGt ho;have hi:gT3 w ⟨((0+j:Nat):Int),(m:Int)⟩=some i:=by
  unfold gT3;simp only [Nat.zero_add];rw [gBb,f];simp only [bnd];rw [gBb,q]
 exact⟨i,hi,(h.look hi).hd,(h.look hi).hs⟩
def trB(w:gG)(n:LB)(l:LS):Bool:=(uC w n).1.supertraits==l
structure TrB (w:gG)(n:LB)(l:LS):Prop where
 s:(uC w n).1.supertraits=l
theorem hXn{w:gG}{n:LB}{l:LS}(h:trB w n l=true):TrB w n l:=⟨by unfold trB at h;exact beq_iff_eq.1 h⟩
theorem hUx(b:Bool)(rest:List jL):trB ⟨pC b::rest⟩ gTi []=true:=by cases b<;>kernel_rfl
theorem jE6{c:kP}(hc:gHv c):Dk DW (gPe c):=by
 obtain⟨b,c1,e1,e2⟩:=hTh c hc;have hC:=hGq b;rw [Bool.and_eq_true] at hC;obtain⟨p1,p4,p5,p6⟩:=hN2 (by omega) hC.1 (hUw b);obtain⟨y,c2,f1,f2⟩:=gSr c1 5 e2 (by omega) (by omega);unfold gPe gIh;rw [kX e1,kX f1];cases y with
 | true=>
   have hP:gAh (fmt (gXq b))=some (⟨[pC b]⟩,-1):=by
    unfold gAh;rw [kX (hXh _ p5 (by omega))];simp only [vT,p4,gZ,p1,bnd,lt_,Bool.not_true];rw [show (((([]:List jL).length:Nat):Int)==5)=false from by decide,gZ,wI (by simp)];rfl
   simp only [kJ,bnd];rw [hP];exact dkS f2 (.one b)
 | false=>
   simp only [gZ];obtain⟨hd,m,f,q,o3,c3,g1,g2,g3,g4,g5,g6,g7⟩:=hVt c2 f2;have hm:=hN3 g3 g4 g5 g6 g7;obtain⟨q1,q4,q5,q6⟩:=hN2 (by omega) (List.all_eq_true.1 hUv _ hm) (hXl hm);have q1:gBq (fmt (hJp hd m f q o3))=some (apP (hd.map gQj) (fns m f q o3),true):=q1;have q4:gHu (fmt (hJp hd m f q o3))=false:=q4;have q5:noL (fmt (hJp hd m f q o3))=true:=q5;have q6:(fmt (hJp hd m f q o3)).length≤1500:=q6;rw [wI (by simp;omega),kX g1,wI (by simp;omega)];simp only [bnd];have hP:gAh (fmt (gXq b)++[10]++fmt (hJp hd m f q o3))=some (⟨[pC b,apP (hd.map gQj) (fns m f q o3)]⟩,-1):=by
    unfold gAh;have hs:gHt (fmt (gXq b)++[10]++fmt (hJp hd m f q o3)) 10=some [fmt (gXq b),fmt (hJp hd m f q o3)]:=hXi _ _ p5 q5 (by omega);rw [kX hs];simp only [vT,p4,q4,gZ,p1,q1,bnd,lt_,Bool.not_true];rw [show (((([]:List jL).length:Nat):Int)==5)=false from by decide,gZ,wI (by simp)];rw [show ((((([]++[pC b]):List jL).length:Nat):Int)==5)=false from by simp,gZ,wI (by simp)];rfl
   rw [hP];exact dkS g2 (.two b g3 g4 g5 g6 g7)
end Go.Proofs.YtfjncckelekpiaaGreat
