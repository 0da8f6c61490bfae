import Derived.Test.YtfjncckelekpiaaGreatRd
set_option maxHeartbeats 4000000
set_option linter.unusedVariables false
set_option linter.unusedSimpArgs false
set_option linter.unusedSectionVars false
namespace Go.Proofs.YtfjncckelekpiaaGreat
open Go Go.Eng
attribute [local irreducible] V VO VQ VY Quiet QR gW pJ Rng vF uW uI
def kA(s:LB):gH:=⟨s,[]⟩
def kL(l:List gH):gH:=⟨[],l⟩
def ka0:gH:=kA [112,97,99,107,97,103,101]
def ka1:gH:=kA [99,111,114,101]
def ka2:gH:=kA [116,114,97,105,116]
def ka3:gH:=kA [115,104,111,119]
def ka4:gH:=kA [109]
def ka5:gH:=kA [105,110,116]
def ka6:gH:=kA [116,119,111]
def ka7:gH:=kA [39,115,101,108,102]
def ka8:gH:=kA [120]
def ka9:gH:=kA [121]
def hVb:gH:=kA [43]
def gY3:gH:=kA [109,101,116,104,111,100]
def hRn:gH:=kA [101,113]
def hVn:gH:=kA [115,97,109,101]
def hZ6:gH:=kA [98,111,111,108]
def hVo:gH:=kA [111,114,100]
def hVp:gH:=kA [108,101,115,115]
def hJk:gH:=kA [97,100,100]
def hXr:gH:=kA [97,115,115,111,99]
def hVc:gH:=kA [112,108,117,115]
def jH9:gH:=kA [115,101,110,100]
def jIa:gH:=kA [97,117,116,111]
def hVq:gH:=kA [100,97,116,97]
def hPc:gH:=kA [108,105,115,116]
def hFd:gH:=kA [97]
def hTb:gH:=kA [110,105,108]
def hTc:gH:=kA [99,111,110,115]
def gSp:gH:=kA [39,97]
def hVd:gH:=kA [112,97,105,114]
def jE9:gH:=kA [98]
def hZ7:gH:=kA [39,98]
def hHl:gH:=kA [98,111,120]
def jFa:gH:=kA [117,110,105,116]
def gX3:gH:=kA [105,110,115,116]
def hZ8:gH:=kA [105,102]
def hPd:gH:=kA [49]
def hTd:gH:=kA [48]
def hJl:gH:=kA [99,97,115,101]
def hVr:gH:=kA [104]
def hVe:gH:=kA [116]
def jIb:gH:=kA [100,101,102,97,117,108,116]
def jFb:gH:=kA [55]
def hXs:gH:=kA [122]
def jFc:gH:=kA [45]
def jIc:gH:=kA [61]
def jFd:gH:=kA [60]
def hXt:gH:=kA [112]
def hXu:gH:=kA [113]
def hFe:gH:=kA [110,101,119]
def hVf:gH:=kA [102,110]
def hXv:gH:=kA [105,100]
def hVs:gH:=kA [98,111,116,104]
def jId:gH:=kA [97,112,112]
def hDi:gH:=kA [116,97,103]
def hZ9:gH:=kA [110,111,110,101]
def jIe:gH:=kA [57]
def hPe:gH:=kA [110]
def jFe:gH:=kA [52]
def jFf:gH:=kA [53]
def hXw:gH:=kA [116,114,117,101]
def jIf:gH:=kA [102,97,108,115,101]
def jIg:gH:=kA [109,97,105,110]
def hPf:gH:=kA [99,97,108,108]
def hXx:gH:=kA [50]
def jFg:gH:=kA [116,104,101]
def jFh:gH:=kA [51]
def jIh:gH:=kA [108,101,116]
def jIi:gH:=kA [112,97,99,107]
def jFi:gH:=kA [108,101,110]
def jIj:gH:=kA [115,117,109]
def jFj:gH:=kA [103,114,111,119]
def hA9:List gH:=[ka0,ka1,kL []]
def hJm:List gH:=[kL [ka2,ka3,kL [],kL [],kL [ka4,kL [],ka5],kL [ka6,kL [ka7],ka5,kL [ka8,ka9],kL [hVb,kL [gY3,ka3,ka4,ka8],kL [gY3,ka3,ka4,ka9]]]],kL [ka2,hRn,kL [],kL [],kL [hVn,kL [ka7],hZ6]],kL [ka2,hVo,kL [hRn],kL [],kL [hVp,kL [ka7],hZ6]],kL [ka2,hJk,kL [],kL [hXr],kL [hVc,kL [ka7],kL [hXr,hJk,ka7]]],kL [ka2,jH9,kL [],kL [jIa]],kL [hVq,hPc,kL [hFd],kL [hTb],kL [hTc,gSp,kL [hPc,gSp]]],kL [hVq,hVd,kL [hFd,jE9],kL [hVd,gSp,hZ7]],kL [hVq,hHl,kL [hFd],kL [hHl,gSp]],kL [hVq,jFa,kL [],kL [jFa]],kL [gX3,ka3,kL [],ka5,kL [],kL [],kL [],kL [ka4,kL [ka8],ka8]],kL [gX3,ka3,kL [],hZ6,kL [],kL [],kL [],kL [ka4,kL [ka8],kL [hZ8,ka8,hPd,hTd]]]]
def hFh:Bool→List gH
 | true=>[kL [gX3,ka3,kL [hFd],kL [hPc,gSp],kL [kL [ka3,gSp]],kL [],kL [],kL [ka4,kL [ka8],kL [hJl,ka8,kL [hTb,hTd],kL [hTc,hVr,hVe,kL [hVb,kL [gY3,ka3,ka4,hVr],kL [gY3,ka3,ka4,hVe]]]]]]]
 | false=>[kL [gX3,ka3,kL [hFd],kL [hPc,gSp],kL [],kL [jIb],kL [],kL [ka4,kL [ka8],jFb]],kL [gX3,ka3,kL [],kL [hPc,ka5],kL [],kL [],kL [],kL [ka4,kL [ka8],kL [hJl,ka8,kL [hTb,hTd],kL [hTc,hVr,hVe,kL [hVb,hVr,kL [gY3,ka3,ka4,hVe]]]]]]]
def hJn:List gH:=[kL [gX3,ka3,kL [hFd,jE9],kL [hVd,gSp,hZ7],kL [kL [ka3,gSp],kL [ka3,hZ7]],kL [],kL [],kL [ka4,kL [ka8],kL [hJl,ka8,kL [hVd,ka9,hXs,kL [jFc,kL [gY3,ka3,ka4,ka9],kL [gY3,ka3,ka4,hXs]]]]]],kL [gX3,hRn,kL [],ka5,kL [],kL [],kL [],kL [hVn,kL [ka8,ka9],kL [jIc,ka8,ka9]]],kL [gX3,hVo,kL [],ka5,kL [],kL [],kL [],kL [hVp,kL [ka8,ka9],kL [jFd,ka8,ka9]]],kL [gX3,hRn,kL [hFd],kL [hHl,gSp],kL [kL [hRn,gSp]],kL [],kL [],kL [hVn,kL [ka8,ka9],kL [hJl,ka8,kL [hHl,hXt,kL [hJl,ka9,kL [hHl,hXu,kL [gY3,hRn,hVn,hXt,hXu]]]]]]],kL [gX3,hJk,kL [],ka5,kL [],kL [],kL [ka5],kL [hVc,kL [ka8,ka9],kL [hVb,ka8,ka9]]],kL [gX3,hJk,kL [hFd],kL [hHl,gSp],kL [kL [hJk,gSp]],kL [],kL [kL [hHl,kL [hXr,hJk,gSp]]],kL [hVc,kL [ka8,ka9],kL [hJl,ka8,kL [hHl,hXt,kL [hJl,ka9,kL [hHl,hXu,kL [hFe,hHl,kL [gY3,hJk,hVc,hXt,hXu]]]]]]]],kL [hVf,hXv,kL [hFd],kL [],kL [kL [ka8,gSp]],gSp,ka8],kL [hVf,hVs,kL [hFd],kL [kL [ka3,gSp]],kL [kL [ka8,gSp]],ka5,kL [gY3,ka3,ka6,ka8,ka8]]]
def hBc:List gH:=[ka0,jId,kL [ka1]]
def hJo:List gH:=[kL [hVq,hDi,kL [],kL [hDi,ka5],kL [hZ9]]]
def gSq:List (List gH):=[[kL [gX3,ka3,kL [],ka5,kL [],kL [],kL [],kL [ka4,kL [ka8],jIe]]],
 [kL [gX3,ka3,kL [],hDi,kL [],kL [],kL [],kL [ka4,kL [ka8],kL [hJl,ka8,kL [hZ9,hTd],kL [hDi,hPe,hPe]]]]],
 [kL [gX3,ka3,kL [],kL [hPc,hDi],kL [],kL [],kL [],kL [ka4,kL [ka8],jFe]],kL [gX3,ka3,kL [],hDi,kL [],kL [],kL [],kL [ka4,kL [ka8],jFf]]],
 [kL [gX3,hVo,kL [],hDi,kL [],kL [],kL [],kL [hVp,kL [ka8,ka9],hXw]]],
 [kL [gX3,hRn,kL [],hDi,kL [],kL [],kL [],kL [hVn,kL [ka8,ka9],hXw]],kL [gX3,hVo,kL [],hDi,kL [],kL [],kL [],kL [hVp,kL [ka8,ka9],jIf]]],
 [kL [gX3,ka3,kL [hFd],gSp,kL [kL [hRn,gSp]],kL [],kL [],kL [ka4,kL [ka8],hPd]]],
 [kL [gX3,ka3,kL [],hDi,kL [],kL [],kL [],kL [ka4,kL [ka8],kL [hJl,ka8,kL [hDi,hPe,hPe],kL [hZ9,hTd]]]]]]
def gQm(m:gH):gH:=kL [hVf,jIg,kL [],kL [],kL [],ka5,m]
def gY4:List gH:=[kL [hPf,hVs,jFf],kL [gY3,ka3,ka4,kL [hFe,hTc,hPd,kL [hFe,hTc,hXx,kL [jFg,kL [hPc,ka5],kL [hFe,hTb]]]]],kL [hPf,hVs,kL [hFe,hVd,jFh,hXw]],kL [hVb,kL [hPf,hXv,jFe],kL [gY3,ka3,ka4,kL [hFe,hDi,jFb]]],kL [jIh,hXs,kL [gY3,hJk,hVc,kL [hFe,hHl,hPd],kL [hFe,hHl,hXx]],kL [hJl,hXs,kL [hHl,hPe,hPe]]],kL [gY3,ka3,ka4,kL [hFe,hTb]],kL [gY3,ka3,ka4,kL [jIi,ka3,jFh]],kL [hZ8,kL [gY3,hVo,hVp,hPd,hXx],kL [hPf,hVs,hXw],hTd],kL [gY3,ka3,ka4,kL [hFe,hTc,kL [hFe,hDi,hPd],kL [jFg,kL [hPc,hDi],kL [hFe,hTb]]]],kL [hPf,hVs,kL [hPf,hXv,kL [hPf,hXv,kL [hFe,hDi,hXx]]]]]
def hBe:List gH:=[kL [hVf,jFi,kL [hFd],kL [],kL [kL [ka8,kL [hPc,gSp]]],ka5,kL [hJl,ka8,kL [hTb,hTd],kL [hTc,hVr,hVe,kL [hVb,hPd,kL [hPf,jFi,hVe]]]]]]
def hBf:List gH:=[kL [hVf,jIj,kL [hFd],kL [kL [hJk,gSp]],kL [kL [ka8,gSp],kL [ka9,gSp]],kL [hXr,hJk,gSp],kL [gY3,hJk,hVc,ka8,ka9]]]
def hBh:List gH:=[kL [hVf,jFj,kL [hFd],kL [kL [ka3,gSp]],kL [kL [hPe,ka5],kL [ka8,gSp]],ka5,kL [hZ8,kL [jFd,hPe,hPd],kL [gY3,ka3,ka4,ka8],kL [hPf,jFj,kL [jFc,hPe,hPd],kL [hFe,hVd,ka8,ka8]]]]]
def gXq(b:Bool):gH:=kL (hA9++(hJm++(hFh b++hJn)))
def hJp(h:List gH)(m:gH)(f y o3:List gH):gH:=kL (hBc++(hJo++(h++(gQm m::(f++(y++o3))))))
theorem gLq:∀(a b:List gH),gFt (a++b)=gFt a++gFt b
 | [],b=>by simp [gFt]
 | x::a,b=>by simp only [List.cons_append,gFt,gLq a b,List.append_assoc]
theorem hFi:∀{a:List gH}(b:List gH),a≠[]→gYi (a++b)=gYi a++gFt b
 | [],b,h=>absurd rfl h
 | x::a,b,_=>by simp only [List.cons_append,gYi,gLq a b,List.append_assoc]
theorem jAa:zA++zB++gAe++gA5=40::(gYi hA9++gFt hJm):=by kernel_rfl
theorem jAb:gFp=gFt (hFh true):=by kernel_rfl
theorem jAc:gFq=gFt (hFh false):=by kernel_rfl
theorem jAd:wR++wZ++zC++yR++zQ++gAv=gFt hJn:=by kernel_rfl
theorem jAe:mH=40::(gYi hBc++gFt hJo):=by kernel_rfl
theorem jAf:[gEg,gEh,gEi,gEj,gEk,gEl,gEm]=gSq.map gFt:=by kernel_rfl
theorem jAg:[[40,99,97,108,108,32,98,111,116,104,32,53,41],gB2,gB3,gB4,gB5,gB6,gB7,gB8,gB9,gCa]=gY4.map fmt:=by kernel_rfl
theorem jAh(m:gH):zV++fmt m++[41]=gFt [gQm m]:=by
 have h:zV=32::40::(gYi (gQm (kL [])).list.dropLast++[32]):=by kernel_rfl
 rw [h];simp only [gQm,gFt,kL,fmt,gYi,List.dropLast,List.append_nil,List.nil_append,List.cons_append,List.append_assoc]
theorem jAi:gKp=gFt hBe:=by kernel_rfl
theorem jAj:gKq=gFt hBf:=by kernel_rfl
theorem jAk:gKr=gFt hBh:=by kernel_rfl
def gHv(c:kP):Prop:=0≤c.i∧c.b.length≤1048576
theorem hTf(c:kP)(h:gHv c):∃x c',gKc c=some (x,c')∧0≤x∧x≤255∧gHv c':=by
 obtain⟨f,y⟩:=h;unfold gKc;cases hc:decide (c.i < (c.b.length:Int))with
 | true=>
   have h3:=of_decide_eq_true hc;have hx:at? c.b c.i=some (c.b[c.i.toNat]'(by omega)):=by unfold at?;rw [if_pos f];exact List.getElem?_eq_getElem _
   simp only [kJ];rw [kX hx];refine⟨_,_,rfl,(gUp _).1,(gUp _).2,?_,y⟩;simp only;rw [gD7 _ (by omega) (by omega)];omega
 | false=>exact⟨_,_,rfl,(gUp _).1,(gUp _).2,f,y⟩
theorem gUe(c:kP)(n:Int)(h:gHv c)(f:0 < n)(y:n≤256):∃x c',gAt c n=some (x,c')∧0≤x∧x < n∧gHv c':=by
 obtain⟨x,c',e,e1,e2,e3⟩:=hTf c h;unfold gAt;rw [show decide (n≤0)=false from decide_eq_false (by omega),show decide (n≤256)=true from decide_eq_true y];simp only [kJ,gZ];rw [kX e,wI (by omega)];exact⟨_,_,rfl,Int.tmod_nonneg _ e1,Int.tmod_lt_of_pos _ f,e3⟩
theorem hJq(c:kP)(l:LS)(h:gHv c)(h0:0 < l.length)(h1:l.length≤256):∃x c',gDc c l=some (x,c')∧gHv c'∧x∈l:=by
 obtain⟨x,c',e,f,e2,y⟩:=gUe c l.length h (by omega) (by omega);unfold gDc;have hx:at? l x=some (l[x.toNat]'(by omega)):=by unfold at?;rw [if_pos f];exact List.getElem?_eq_getElem _
 rw [kX e,kX hx];exact⟨_,_,rfl,y,List.getElem_mem _⟩
theorem gSr(c:kP)(n:Int)(h:gHv c)(f:0 < n)(y:n≤256):∃x c',gG4 c n=some (x,c')∧gHv c':=by
 obtain⟨x,c',e,_,_,e3⟩:=gUe c n h f y;unfold gG4;rw [kX e];exact⟨_,_,rfl,e3⟩
theorem hPg(b:Bool):fmt (gXq b)=(40::(gYi hA9++gFt hJm))++gFt (hFh b)++gFt hJn++[41]:=by
 have h:hA9≠[]:=by simp [hA9]
 simp only [gXq,kL,fmt,hFi _ h,gLq,List.cons_append,List.append_assoc]
theorem hTg(h:List gH)(m:gH)(f y o3:List gH):fmt (hJp h m f y o3)=(40::(gYi hBc++gFt hJo))++gFt h++gFt [gQm m]++gFt f++gFt y++gFt o3++[41]:=by
 have h0:hBc≠[]:=by simp [hBc]
 have h1:∀l:List gH,gFt (gQm m::l)=gFt [gQm m]++gFt l:=fun l=>gLq [gQm m] l;simp only [hJp,kL,fmt];rw [hFi _ h0,gLq,gLq,h1,gLq,gLq];simp only [List.cons_append,List.append_assoc]
theorem jAl:([zA,zB,gAe,gA5,gFp,gFq,wR,wZ,zC,yR,zQ,gAv].all fun l=>decide (l.length≤1000))=true:=by kernel_rfl
theorem jAm:(([mH,zV,gKp,gKq,gKr]++gSq.map gFt++gY4.map fmt).all fun l=>decide (l.length≤1000))=true:=by kernel_rfl
set_option maxRecDepth 100000 in
theorem hTh(c:kP)(h:gHv c):∃b c',gO0 c=some (fmt (gXq b),c')∧gHv c':=by
 have hl:∀l∈[zA,zB,gAe,gA5,gFp,gFq,wR,wZ,zC,yR,zQ,gAv],l.length≤1000:=fun l hm=>of_decide_eq_true (List.all_eq_true.1 jAl l hm);have l1:=hl zA (.head _);have l2:=hl zB (.tail _ (.head _));have l3:=hl gAe (.tail _ (.tail _ (.head _)));have l4:=hl gA5 (.tail _ (.tail _ (.tail _ (.head _))));have l5:=hl gFp (.tail _ (.tail _ (.tail _ (.tail _ (.head _)))));have l6:=hl gFq (.tail _ (.tail _ (.tail _ (.tail _ (.tail _ (.head _))))));have l7:=hl wR (.tail _ (.tail _ (.tail _ (.tail _ (.tail _ (.tail _ (.head _)))))));have l8:=hl wZ (.tail _ (.tail _ (.tail _ (.tail _ (.tail _ (.tail _ (.tail _ (.head _))))))));have l9:=hl zC (.tail _ (.tail _ (.tail _ (.tail _ (.tail _ (.tail _ (.tail _ (.tail _ (.head _)))))))));have ae:=hl yR (.tail _ (.tail _ (.tail _ (.tail _ (.tail _ (.tail _ (.tail _ (.tail _ (.tail _ (.head _))))))))));have ag:=hl zQ (.tail _ (.tail _ (.tail _ (.tail _ (.tail _ (.tail _ (.tail _ (.tail _ (.tail _ (.tail _ (.head _)))))))))));have ah:=hl gAv (.tail _ (.tail _ (.tail _ (.tail _ (.tail _ (.tail _ (.tail _ (.tail _ (.tail _ (.tail _ (.tail _ (.head _))))))))))));clear hl;obtain⟨x,c',e,y⟩:=gSr c 2 h (by omega) (by omega);have t0:=jAa;have t1:=jAb;have t2:=jAc;have t3:=jAd;have f:=hPg;rw [←t0,←t3] at f;have ft:=f true;have ff:=f false;rw [←t1] at ft;rw [←t2] at ff;clear f t0 t1 t2 t3;unfold gO0;generalize zA=a1 at *;generalize zB=a2 at *;generalize gAe=a3 at *;generalize gA5=a4 at *;generalize gFp=a5 at *;generalize gFq=a6 at *;generalize wR=a7 at *;generalize wZ=a8 at *;generalize zC=a9 at *;generalize yR=ai at *;generalize zQ=aj at *;generalize gAv=ak at *;rw [wI (by omega),wI (by simp only [List.length_append];omega),wI (by simp only [List.length_append];omega),kX e];cases x with
 | true=>
   simp only [kJ];rw [wI (by simp only [List.length_append];omega)];simp only [bnd]
   iterate 7 rw [wI (by simp only [List.length_append,List.length_cons,List.length_nil];omega)]
   refine⟨true,c',?_,y⟩;rw [ft];simp only [List.append_assoc]
 | false=>
   simp only [gZ];rw [wI (by simp only [List.length_append];omega)];simp only [bnd]
   iterate 7 rw [wI (by simp only [List.length_append,List.length_cons,List.length_nil];omega)]
   refine⟨false,c',?_,y⟩;rw [ff];simp only [List.append_assoc]
theorem hJr{x:Bool × kP}{b s:LB}{o:List gH}(hs:s=gFt o)(hl:b.length+s.length≤4294967296):∃o',(o'=[]∨o'=o)∧(cnd x.1 (gd (b.length+s.length≤4294967296) (some (b++s))) (some b))=some (b++gFt o'):=by
 cases x.1 with
 | true=>exact⟨o,.inr rfl,by simp only [kJ];rw [wI hl,hs]⟩
 | false=>exact⟨[],.inl rfl,by simp [gZ,gFt]⟩
set_option maxRecDepth 100000 in
theorem hVt(c:kP)(h:gHv c):∃hd m f y o3 c',gQ9 c=some (fmt (hJp hd m f y o3),c')∧gHv c'∧hd∈gSq∧m∈gY4∧(f=[]∨f=hBe)∧(y=[]∨y=hBf)∧(o3=[]∨o3=hBh):=by
 have hl:=jAm;have k1:=jAe;have k2:=jAf;have k3:=jAg;have k4:=jAh;have k5:=jAi;have k6:=jAj;have k7:=jAk;rw [←k2,←k3] at hl;have hh:∀l∈[gEg,gEh,gEi,gEj,gEk,gEl,gEm],∃hd∈gSq,l=gFt hd:=fun l hm=>by
  rw [k2] at hm;obtain⟨a,h1,h2⟩:=List.mem_map.1 hm;exact⟨a,h1,h2.symm⟩
 have hm:∀l∈[[40,99,97,108,108,32,98,111,116,104,32,53,41],gB2,gB3,gB4,gB5,gB6,gB7,gB8,gB9,gCa],∃m∈gY4,l=fmt m:=fun l hm=>by
  rw [k3] at hm;obtain⟨a,h1,h2⟩:=List.mem_map.1 hm;exact⟨a,h1,h2.symm⟩
 rw [List.all_append,List.all_append] at hl;simp only [Bool.and_eq_true,List.all_eq_true,decide_eq_true_eq] at hl;obtain⟨⟨hl1,hl2⟩,hl3⟩:=hl;have l1:=hl1 mH (by simp);have l9:=hl1 zV (by simp);have ad:=hl1 gKp (by simp);have ae:=hl1 gKq (by simp);have ag:=hl1 gKr (by simp);obtain⟨x,c1,e1,e2,e3,e4⟩:=gUe c 8 h (by omega) (by omega);unfold gQ9;rw [kX e1];have hb:∃l∈[gEg,gEh,gEi,gEj,gEk,gEl,gEm],(cnd (x==0) (gd (mH.length+gEg.length≤4294967296) (some (mH++gEg))) (cnd (x==1) (gd (mH.length+gEh.length≤4294967296) (some (mH++gEh))) (cnd (x==2) (gd (mH.length+gEi.length≤4294967296) (some (mH++gEi))) (cnd (x==3) (gd (mH.length+gEj.length≤4294967296) (some (mH++gEj))) (cnd (x==4) (gd (mH.length+gEk.length≤4294967296) (some (mH++gEk))) (cnd (x==5) (gd (mH.length+gEl.length≤4294967296) (some (mH++gEl))) (gd (mH.length+gEm.length≤4294967296) (some (mH++gEm)))))))))=some (mH++l):=by
  have g:∀l∈[gEg,gEh,gEi,gEj,gEk,gEl,gEm],gd (mH.length+l.length≤4294967296) (some (mH++l))=some (mH++l):=fun l hm=>wI (by have:=hl2 l hm;omega);cases x==0 with
  | true=>exact⟨gEg,by simp,by rw [kJ];exact g _ (by simp)⟩
  | false=>
  cases x==1 with
  | true=>exact⟨gEh,by simp,by rw [gZ,kJ];exact g _ (by simp)⟩
  | false=>
  cases x==2 with
  | true=>exact⟨gEi,by simp,by rw [gZ,gZ,kJ];exact g _ (by simp)⟩
  | false=>
  cases x==3 with
  | true=>exact⟨gEj,by simp,by rw [gZ,gZ,gZ,kJ];exact g _ (by simp)⟩
  | false=>
  cases x==4 with
  | true=>exact⟨gEk,by simp,by rw [gZ,gZ,gZ,gZ,kJ];exact g _ (by simp)⟩
  | false=>
  cases x==5 with
  | true=>exact⟨gEl,by simp,by rw [gZ,gZ,gZ,gZ,gZ,kJ];exact g _ (by simp)⟩
  | false=>exact⟨gEm,by simp,by rw [gZ,gZ,gZ,gZ,gZ,gZ];exact g _ (by simp)⟩
 obtain⟨l,hlm,hb⟩:=hb;rw [kX hb];have ll:=hl2 l hlm;obtain⟨hd,q1,rfl⟩:=hh l hlm;rw [wI (by simp only [List.length_append];omega)];obtain⟨t,c2,f1,f2,f3⟩:=hJq c1 [[40,99,97,108,108,32,98,111,116,104,32,53,41],gB2,gB3,gB4,gB5,gB6,gB7,gB8,gB9,gCa] e4 (by simp) (by simp);rw [kX f1];have lt:=hl3 t f3;obtain⟨m,q2,rfl⟩:=hm t f3;rw [wI (by simp only [List.length_append];omega),wI (by simp only [List.length_append,List.length_cons,List.length_nil];omega)];obtain⟨y1,c3,g1,g2⟩:=gSr c2 2 f2 (by omega) (by omega);rw [kX g1];obtain⟨f,q3,r1⟩:=hJr (x:=(y1,c3)) (b:=mH++gFt hd++zV++fmt m++[41]) k5 (by simp only [List.length_append,List.length_cons,List.length_nil];omega)
 have lo1:(gFt f).length≤1000:=by rcases q3 with rfl | rfl;· simp [gFt]
                                  ·rw [←k5];exact ad
 rw [kX r1];obtain⟨y2,c4,g3,g4⟩:=gSr c3 3 g2 (by omega) (by omega);rw [kX g3];obtain⟨y,q4,r2⟩:=hJr (x:=(y2,c4)) (b:=mH++gFt hd++zV++fmt m++[41]++gFt f) k6 (by simp only [List.length_append,List.length_cons,List.length_nil];omega)
 have lo2:(gFt y).length≤1000:=by rcases q4 with rfl | rfl;· simp [gFt]
                                  ·rw [←k6];exact ae
 rw [kX r2];obtain⟨y3,c5,g5,g6⟩:=gSr c4 4 g4 (by omega) (by omega);rw [kX g5];obtain⟨o3,q5,r3⟩:=hJr (x:=(y3,c5)) (b:=mH++gFt hd++zV++fmt m++[41]++gFt f++gFt y) k7 (by simp only [List.length_append,List.length_cons,List.length_nil];omega)
 have lo3:(gFt o3).length≤1000:=by rcases q5 with rfl | rfl;· simp [gFt]
                                   ·rw [←k7];exact ag
 rw [kX r3,wI (by simp only [List.length_append,List.length_cons,List.length_nil];omega)];refine⟨hd,m,f,y,o3,c5,?_,g6,q1,q2,q3,q4,q5⟩;rw [hTg,←k1,←k4 m];simp only [List.append_assoc]
def Dk{α:Type}(p:α→Prop)(o:Option (α × kP)):Prop:=∃x c',o=some (x,c')∧gHv c'∧p x
section
variable {α β:Type}{p:α→Prop}{q:β→Prop}
theorem dkB{f:Option (β × kP)}{k:β × kP→Option (α × kP)}(h:Dk q f)(hk:∀x c',gHv c'→q x→Dk p (k (x,c'))):Dk p (bnd f k):=by
 obtain⟨x,c',e,y,h2⟩:=h;rw [kX e];exact hk x c' y h2
theorem dkC{b:Bool}{x y:Option (α × kP)}(f:b=true→Dk p x)(h2:b=false→Dk p y):Dk p (cnd b x y):=by
 cases b with
 | true=>exact f rfl
 | false=>exact h2 rfl
theorem dkG{P:Prop} [Decidable P]{x:Option (α × kP)}(hP:P)(h:Dk p x):Dk p (gd P x):=by rw [wI hP];exact h
theorem dkS{c:kP}{x:α}(hc:gHv c)(h:p x):Dk p (some (x,c)):=⟨x,c,rfl,hc,h⟩
theorem dkO{f:Option β}{k:β→Option (α × kP)}{x:β}(e:f=some x)(h:Dk p (k x)):Dk p (bnd f k):=by rw [kX e];exact h
end
theorem hVg{c:kP}{n:Int}(h:gHv c)(f:0 < n)(y:n≤256):Dk (fun x=>0≤x∧x < n) (gAt c n):=by
 obtain⟨x,c',e,e1,e2,e3⟩:=gUe c n h f y;exact⟨x,c',e,e3,e1,e2⟩
theorem hTi{c:kP}{l:LS}(h:gHv c)(f:0 < l.length)(y:l.length≤256):Dk (fun x=>x∈l) (gDc c l):=by
 obtain⟨x,c',e,e1,e2⟩:=hJq c l h f y;exact⟨x,c',e,e1,e2⟩
theorem jIk{c:kP}{n:Int}(h:gHv c)(f:0 < n)(y:n≤256):Dk (fun _=>True) (gG4 c n):=by
 obtain⟨x,c',e,e1⟩:=gSr c n h f y;exact⟨x,c',e,e1,trivial⟩
theorem jAn(d:Nat)(h:d≤8):IntKind.i64.wrap (((d+1:Nat):Int) - 1)=(d:Int):=by
 rw [gD7 _ (by omega) (by omega)];omega
theorem gVn(s:LB)(args:List gF)(h:args.length≤4294967296):gGh s args=some ⟨2,s,args⟩:=by
 unfold gGh;rw [wI (by simpa using h)];rfl
def TK(n:Nat)(t:gF):Prop:=tok t∧dyS t∧tnd t+1≤n
theorem TK.more{n m:Nat}{t:gF}(h:TK n t)(hm:n≤m):TK m t:=⟨h.1,h.2.1,Nat.le_trans h.2.2 hm⟩
theorem TK.mk{n:Nat}{k:Int}{s:LB}{ts:List gF}(hk:k=4→s=gTi)(h:∀t∈ts,tok t∧dyS t)(hl:ts.length≤10)(hn:gN5 ts+2≤n):TK n ⟨k,s,ts⟩:=by
 refine⟨?_,⟨hk,hAp.2 fun t ht=>(h t ht).2⟩,by simp only [tnd];omega⟩;simp only [tok];exact⟨by omega,gSh.2 fun t ht=>(h t ht).1⟩
theorem TK.nil{k:Int}{s:LB}(hk:k=4→s=gTi):TK 2 ⟨k,s,[]⟩:=.mk hk (by simp) (by simp) (by simp [gN5])
theorem TK.one{n:Nat}{k:Int}{s:LB}{t:gF}(hk:k=4→s=gTi)(h:TK n t):TK (n+1) ⟨k,s,[t]⟩:=.mk hk (fun u hu=>by obtain rfl:=List.mem_singleton.1 hu;exact⟨h.1,h.2.1⟩) (by simp) (by have:=h.2.2;simp only [gN5];omega)
theorem tyK(vars:LS)(hv:vars.length≤256):∀(n d:Nat),d < n→d≤8→∀c,gHv c→Dk (TK (2^(d+1))) (gYa n c vars (d:Int))
 | 0,d,h,_=>by omega
 | n+1,d,h,h8=>fun c hc=>by
   have hp:2≤2^(d+1):=by have:=Nat.one_le_two_pow (n:=d);rw [Nat.pow_succ];omega
   rw [gYa.eq_2];unfold hFw;refine dkB (hVg hc (by omega) (by omega)) fun x c1 h1 hx=>?_;simp only [lt_];refine dkC (fun e=>?_) fun _=>?_
   ·have hl:0 < vars.length:=by
     cases aa:decide (x < 3)with
     | true=>
       rw [aa] at e
       have:=of_decide_eq_true (show decide ((vars.length:Int) > 0)=true from e)
       omega
     | false=>
       rw [aa] at e;cases e
    refine dkB (hVg h1 (by omega) (by omega)) fun y c2 f hy=>?_
    have:at? vars y=some (vars[y.toNat]'(by omega)):=by unfold at?;rw [if_pos hy.1];exact List.getElem?_eq_getElem _
    exact dkO this (dkS f ((TK.nil (fun h=>absurd h (by decide))).more hp))
   ·refine dkC (fun _=>?_) fun e=>?_
    ·refine dkB (hTi h1 (by simp) (by simp)) fun y c2 f _=>?_;exact dkO (gVn _ _ (by simp)) (dkS f ((TK.nil (fun h=>absurd h (by decide))).more hp))
    ·have hd:0 < d:=by
      cases ab:decide (x < 5)with
      | true=>
        rw [ab] at e;cases e
      | false=>
        rw [ab] at e
        have:=of_decide_eq_false (show decide ((d:Int)≤0)=false from e)
        omega
     obtain⟨d,rfl⟩:∃e,d=e+1:=⟨d - 1,by omega⟩
     rw [jAn d (by omega)];have hq:2^(d+1+1)=2^(d+1)+2^(d+1):=by rw [Nat.pow_succ];omega
     have hp1:2≤2^(d+1):=by have:=Nat.one_le_two_pow (n:=d);rw [Nat.pow_succ];omega
     have hrec:=fun c hc=>tyK vars hv n d (by omega) (by omega) c hc;refine dkC (fun _=>?_) fun _=>?_
     ·refine dkB (hrec _ h1) fun t1 c2 f k1=>dkB (hrec _ f) fun t2 c3 h3 k2=>?_;refine dkO (gVn _ _ (by simp)) (dkS h3 (.mk (fun h=>absurd h (by decide)) (fun u hu=>?_) (by simp) ?_))
      ·simp only [List.mem_cons,List.not_mem_nil,or_false] at hu;rcases hu with rfl | rfl
       ·exact⟨k1.1,k1.2.1⟩
       ·exact⟨k2.1,k2.2.1⟩
      ·have:=k1.2.2
       have:=k2.2.2
       simp only [gN5];omega
     ·refine dkB (hTi h1 (by simp) (by simp)) fun y c2 f _=>dkB (hrec _ f) fun t1 c3 h3 k1=>?_;exact dkO (gVn _ _ (by simp)) (dkS h3 ((k1.one (fun h=>absurd h (by decide))).more (by omega)))
theorem hJt(s:LB){t:gF}(h:tok t):gPv s t=some ⟨3,s,[t]⟩:=by
 unfold gPv;rw [wI h];rfl
theorem jAo(d:Nat)(hd:d≤3){c:kP}(hc:gHv c):Dk (TK (2^(d+1)+2)) (gRt c (d:Int)):=by
 have hp:2≤2^(d+1):=by have:=Nat.one_le_two_pow (n:=d);rw [Nat.pow_succ];omega
 unfold gRt;refine dkB (tyK [[97],[98]] (by simp) 5000 d (by omega) (by omega) c hc) fun t c1 h1 k=>dkB (hVg h1 (by omega) (by omega)) fun x c2 f _=>?_;refine dkC (fun _=>?_) fun _=>dkC (fun _=>?_) fun _=>dkC (fun _=>?_) fun _=>?_
 ·refine dkB (hTi f (by simp) (by simp)) fun y c3 h3 _=>?_;exact dkO (hJt y k.1) (dkS h3 ((k.one (fun h=>absurd h (by decide))).more (by omega)))
 ·exact dkO (hJt _ k.1) (dkO (gVn _ _ (by simp)) (dkS f (((k.one (fun h=>absurd h (by decide))).one (fun h=>absurd h (by decide))).more (by omega))))
 ·exact dkS f ((TK.nil fun _=>rfl).more (by omega))
 ·exact dkS f (k.more (by omega))
def wE(x5:gU)(f:Bool→Option (Bool)):List gU→Bool→Option (Bool)
 | [],y=>(f y)
 | aa::xs,y=>lt_ (cnd y (true) (gDw aa x5)) fun ab=>
wE x5 f xs ab
def uM(f:jF):List gU→Option (Bool)
 | []=>(some true)
 | y::xs=>wE y (fun y6=>cnd (!y6) (some false) (
uM f xs )) f.where_ false
def gDn(f:jF):Option (Bool):=
bnd (gJ1 f.assoc) fun y=>
uM f y
theorem gOc(a0:jF){r:Bool}(h:gDn a0=some r):gW Tryz.prog 110 [.d (vY a0)] [.b r]:=by
 obtain⟨ag,ah,⟨f,y,aa⟩,ae,ai,aj,⟨ab,ac,ad⟩,ak⟩:=a0;unfold gDn at h;refine SpI Tryz.func110 fun A _=>?_;refine goL ?_;obtain⟨x1,bb,h⟩:=gK h;refine gX (gD (gT2 _ bb)) ?_;refine noB ?_;refine gB0 3 (fun z3=>?_);refine kZ (fun(y2:Nat)=>⟨[(1,.ptr 0 0),(3,.L 4 (kM x1)),(4,.N y2)],[bIn ag ah f y aa ae ai aj ab ac ad ak],Tryz.f110.ntmps⟩) (fun y2=>uM (jF.mk ag ah (gF.mk f y aa) ae ai aj (gF.mk ab ac ad) ak) (x1.drop y2)  =some r) (fun y2=>x1.length - y2) 0 eJ h ?_;rintro y2 h;refine goL ?_;refine kN (fun c4=>?_) (fun c4=>?_)
 ·have al:=qB c4;obtain⟨x5,bd,a7⟩:=drop_at al;rw [a7,uM.eq_2] at h;obtain⟨ax,⟨an,ao,ap⟩⟩:=x5;refine noS ?_;refine kC (gP ?_);refine goL ?_;refine noB ?_;refine pG 0 5 (fun z8=>?_)
  refine gAg (fun(y7:Nat)(y6:Bool)=>⟨[(1,.ptr 0 0),(3,.L 4 (kM x1)),(4,.N y2),(5,.B y6),(6,.N y7)],[bIn ag ah f y aa ae ai aj ab ac ad ak],Tryz.f110.ntmps⟩) (fun y7 y6=>wE (gU.mk ax (gF.mk an ao ap)) (fun y6=>cnd (!y6) (some false) (
uM (jF.mk ag ah (gF.mk f y aa) ae ai aj (gF.mk ab ac ad) ak) (x1.drop (y2+1)) )) (ae.drop y7) y6=some r) (fun y7 y6=>ae.length - y7) 0 false eJ h ?_
  rintro y7 y6 h;refine goL ?_;refine kN (fun c9=>?_) (fun c9=>?_)
  ·have am:=qB c9;obtain⟨bf,a8,a2⟩:=drop_at am;rw [a2,wE.eq_2] at h;obtain⟨a3,⟨ar,au,av⟩⟩:=bf;refine noS ?_;refine kC (gP ?_);obtain⟨a9,hb11,h⟩:=pI h;refine hEm (P:=Tryz.prog) Mix.h ⟨[(1,.ptr 0 0),(3,.L 4 (kM x1)),(4,.N y2),(6,.N y7),(5,.B a9)],[bIn ag ah f y aa ae ai aj ab ac ad ak],Tryz.f110.ntmps⟩ (by kernel_rfl) ?_ ?_
   ·refine goL ?_;refine qE 24 (fun a4=>?_) (fun a4=>?_)
    ·replace hb11:=jU a4 hb11;refine goL ?_;cases hb11;exact eJ
    ·replace hb11:=jV a4 hb11;refine goL ?_;refine wN (gV y7 (gF3 a8)) ?_;refine goL ?_;refine wN (gV y2 (gF3 bd)) ?_;refine goL ?_;refine wN (gD (gOp (gU.mk a3 (gF.mk ar au av)) (gU.mk ax (gF.mk an ao ap)))) ?_;refine goL ?_;cases hb11;exact eJ
   refine goL ?_;refine gX (jK y7 (by omega)) ?_;exact⟨(y7+1),a9,h,by omega,eJ⟩
  ·have am:=qC c9;rw [gT am,wE.eq_1] at h;refine goX ?_;refine kN (fun a5=>?_) (fun a5=>?_)
   ·replace h:=jU a5 h;exact goR h
   ·replace h:=jV a5 h;refine goS ?_;refine gX (jK y2 (by omega)) ?_;exact⟨(y2+1),h,by omega,eJ⟩
 ·have al:=qC c4;rw [gT al,uM.eq_1] at h;refine goX ?_;refine jH ?_;cases h;exact mM
def gOd(a0:gG)(a1:Int)(a2:Int)(a3:Int):Option (pQ × gY × Bool):=
bnd (at? a0.packages a1) fun x1=>
(cnd (!(gBa a2 0 (IntKind.i64.wrap ((x1.traits.length:Int) - 1)))) (some ((pQ.mk 0 0 0 0 [] [] [] (gF.mk 0 [] []) (jN.mk 0 [] [] 0 (gF.mk 0 [] []) [] [] [] [])),(gY.mk 0 [] [] 0 (gF.mk 0 [] []) [] []),false)) (
bnd (at? x1.traits a2) fun x3=>
bnd (gS1 x3) fun x4=>
bnd (cnd (!(gBa a3 0 (IntKind.i64.wrap ((x4.signatures.length:Int) - 1)))) (some true) (bnd (at? x4.signatures a3) fun x7=>
cnd (!x7.hasDefault) (some true) (some ((x7.vars.length:Int) !=(IntKind.i64.wrap ((x7.params.length:Int)+1)))))) fun b5=>
(cnd b5 (some ((pQ.mk 0 0 0 0 [] [] [] (gF.mk 0 [] []) (jN.mk 0 [] [] 0 (gF.mk 0 [] []) [] [] [] [])),(gY.mk 0 [] [] 0 (gF.mk 0 [] []) [] []),false)) (
bnd (at? x4.signatures a3) fun f=>
lt_ (gM4 [115,101,108,102]) fun y=>
bnd (gNg f.vars y f.params) fun ae=>
some ((pQ.mk 1 a1 a2 a3 [[115,101,108,102]] [(gU.mk x4.name y)] ae f.result (jN.mk 0 [] [] 0 (gF.mk 0 [] []) [] [] [] [])),f.body,true)))))
theorem hBi(a0:gG)(a1:Int)(a2:Int)(a3:Int){r:pQ × gY × Bool}(h:gOd a0 a1 a2 a3=some r):gW Tryz.prog 70 [.d (jX a0),.I a1,.I a2,.I a3] [gXy r.1,vX r.2.1,.b r.2.2]:=by
 obtain⟨aq⟩:=a0;unfold gOd at h;refine SpI Tryz.func70 fun A _=>?_;refine goL ?_;obtain⟨x1,ab,h⟩:=gK h;obtain⟨f,ab⟩:=yY ab;obtain⟨b1,b2,ar,b3,b4,b6⟩:=x1;refine gX (kY f (mX ab)) ?_;refine pX (pR) ?_;refine gX (gD (gIv a2 0 (IntKind.i64.wrap ((ar.length:Int) - 1)))) ?_;refine kN (fun c2=>?_) (fun c2=>?_)
 ·replace h:=jU c2 h;refine goL ?_;refine uX (jI TBd.h TZ.h rfl (by repeat constructor)) ?_;refine uX (jI TBd.h TZ.h rfl (by repeat constructor)) ?_;exact goR h
 ·replace h:=jV c2 h;refine goS ?_;refine gX (kY f (mX ab)) ?_;obtain⟨x3,ae,h⟩:=gK h;obtain⟨au,ae⟩:=yY ae;obtain⟨b7,b8,b9,ca,cb⟩:=x3;refine gX (kY au (gLc ae)) ?_;obtain⟨⟨ac,av,aw,ax,ad⟩,br,h⟩:=gK h;refine pX (gD (hHr _ br)) ?_;refine gCj ?_;obtain⟨b5,hb5,h⟩:=gK h;refine qN (P:=Tryz.prog) Mix.h ⟨[(1,.I a1),(2,.I a2),(3,.I a3),(8,.ptr 1 0),(9,.ptr 2 0),(11,.ptr 3 0),(71,.B b5)],[bPr aq,.box [.I 0,.I 0,.I 0,.I 0,.nilsl,.nilsl,.nilsl,.I 0,.S [],.nilsl,.I 0,.S [],.S [],.I 0,.I 0,.S [],.nilsl,.nilsl,.nilsl,.nilsl,.nilsl],.box [.I 0,.S [],.S [],.I 0,.I 0,.S [],.nilsl,.nilsl,.nilsl],bTr ac av aw ax ad],Tryz.f70.ntmps⟩ (by kernel_rfl) ?_ ?_
  ·refine goL ?_;refine wC (pR) ?_;refine wC (gD (gIv a3 0 (IntKind.i64.wrap ((ad.length:Int) - 1)))) ?_;refine goL ?_;refine qE 45 (fun c6=>?_) (fun c6=>?_) (by first | rfl | (simp only [jG,gQ];rfl))
   ·replace hb5:=jU c6 hb5;refine goL ?_;cases hb5;exact⟨rfl,⟨⟨rfl,rfl⟩,⟨rfl,rfl⟩,⟨rfl,rfl⟩,⟨rfl,rfl⟩,⟨rfl,rfl⟩,⟨rfl,rfl⟩,⟨by first | rfl | (simp only [jG,gQ];rfl),rfl⟩,trivial⟩,⟨_,rfl⟩,rfl⟩
   ·replace hb5:=jV c6 hb5;refine goL ?_;obtain⟨x7,y,hb5⟩:=gK hb5;obtain⟨aa,y⟩:=yY y;obtain⟨cc,cd,⟨bg,bh,bi⟩,ce,cf,⟨bj,bk,bl,bm,⟨an,ao,ap⟩,bn,bo⟩⟩:=x7;refine wN (kY aa (vU y)) ?_;refine goL ?_;refine qE 54 (fun c8=>?_) (fun c8=>?_) (by first | rfl | (simp only [jG,gQ];rfl))
    ·replace hb5:=jU c8 hb5;refine goL ?_;cases hb5;exact⟨rfl,⟨⟨rfl,rfl⟩,⟨rfl,rfl⟩,⟨rfl,rfl⟩,⟨rfl,rfl⟩,⟨rfl,rfl⟩,⟨rfl,rfl⟩,⟨by first | rfl | (simp only [jG,gQ];rfl),rfl⟩,trivial⟩,⟨_,rfl⟩,rfl⟩
    ·replace hb5:=jV c8 hb5;refine goL ?_;refine wN (kY aa (vU y)) ?_;refine goL ?_;refine wN (kY aa (vU y)) ?_;refine goL ?_;refine wN (pR) ?_;refine goL ?_;cases hb5;exact⟨rfl,⟨⟨rfl,rfl⟩,⟨rfl,rfl⟩,⟨rfl,rfl⟩,⟨rfl,rfl⟩,⟨rfl,rfl⟩,⟨rfl,rfl⟩,⟨by first | rfl | (simp only [jG,gQ];rfl),rfl⟩,trivial⟩,⟨_,rfl⟩,rfl⟩
  refine goC h ?_ ?_<;>intro c9 h
  ·refine goL ?_;refine uX (jI TBd.h TZ.h rfl (by repeat constructor)) ?_;refine uX (jI TBd.h TZ.h rfl (by repeat constructor)) ?_;exact goR h
  ·refine goS ?_;obtain⟨bv,f,h⟩:=gK h;obtain⟨ag,f⟩:=yY f;obtain⟨bw,bx,⟨ay,a4,a5⟩,bz,b0,⟨a6,a7,a8,a9,⟨ah,ai,aj⟩,ba,bb⟩⟩:=bv;refine gX (kY ag (vU f)) ?_;obtain⟨⟨ak,al,am⟩,bc,h⟩:=pI h;have sx11:=gVi [115,101,108,102];rw [bc] at sx11;refine pX (gD (sx11)) ?_;refine gCj ?_;refine sZ 1 ?_;refine goW ?_;refine uK (us:=kD [[115,101,108,102]]) ?_;refine goW ?_;refine uK (us:=kM [(gU.mk ac (gF.mk ak al am))]) ?_;refine goW ?_;obtain⟨ck,bd,h⟩:=gK h;refine kR (fun _=>gD (gWd _ _ _ bd)) ?_;refine goW ?_;refine jY ?_;refine gCj ?_;refine sZ 0 ?_;refine goW ?_;refine jY ?_;exact goR h
def gVo(a0:gG)(a1:Int)(a2:Int)(a3:Int):Option (pQ × gY × Bool):=
bnd (gNk a0 (gI.mk a1 a2)) fun f=>
lt_ (cnd (!f.2) (true) (!(gBa a3 0 (IntKind.i64.wrap ((f.1.methods.length:Int) - 1))))) fun b2=>
(cnd b2 (some ((pQ.mk 0 0 0 0 [] [] [] (gF.mk 0 [] []) (jN.mk 0 [] [] 0 (gF.mk 0 [] []) [] [] [] [])),(gY.mk 0 [] [] 0 (gF.mk 0 [] []) [] []),false)) (
bnd (at? f.1.methods a3) fun y=>
bnd (gKe a0 f.1.trait y.name f.1.head) fun x6=>
lt_ (cnd (!x6.2.2) (true) ((y.vars.length:Int) !=(IntKind.i64.wrap ((x6.1.length:Int)+1)))) fun b7=>
(cnd b7 (some ((pQ.mk 0 0 0 0 [] [] [] (gF.mk 0 [] []) (jN.mk 0 [] [] 0 (gF.mk 0 [] []) [] [] [] [])),(gY.mk 0 [] [] 0 (gF.mk 0 [] []) [] []),false)) (
bnd (gNg y.vars f.1.head x6.1) fun ac=>
some ((pQ.mk 2 a1 a2 a3 f.1.vars f.1.where_ ac x6.2.1 (jN.mk 0 [] [] 0 (gF.mk 0 [] []) [] [] [] [])),y.body,true)))))
theorem hJu(a0:gG)(a1:Int)(a2:Int)(a3:Int){r:pQ × gY × Bool}(h:gVo a0 a1 a2 a3=some r):gW Tryz.prog 71 [.d (jX a0),.I a1,.I a2,.I a3] [gXy r.1,vX r.2.1,.b r.2.2]:=by
 obtain⟨a4⟩:=a0;unfold gVo at h;refine SpI Tryz.func71 fun A _=>?_;refine goL ?_;refine uX (jI TBd.h TZ.h rfl (by repeat constructor)) ?_;obtain⟨⟨⟨ag,ah,⟨f,y,aa⟩,ai,aj,ak,⟨ab,ac,ad⟩,ae⟩,bh⟩,be,h⟩:=gK h;refine gX (gD (gZk _ _ be)) ?_;obtain⟨b2,hb2,h⟩:=pI h;refine kG ⟨[(1,.I a1),(2,.I a2),(3,.I a3),(4,.ptr 0 0),(8,.ptr 1 0),(9,.ptr 2 0),(11,.ptr 3 0),(36,.B b2)],[bPr a4,.box [.I 0,.I 0,.I 0,.I 0,.nilsl,.nilsl,.nilsl,.I 0,.S [],.nilsl,.I 0,.S [],.S [],.I 0,.I 0,.S [],.nilsl,.nilsl,.nilsl,.nilsl,.nilsl],.box [.I 0,.S [],.S [],.I 0,.I 0,.S [],.nilsl,.nilsl,.nilsl],bIn ag ah f y aa ai aj ak ab ac ad ae],Tryz.f71.ntmps⟩ ?_ ?_
 ·refine gqO 28 hb2 (fun c3 hb2=>?_);refine pX (pR) ?_;refine gRx ?_;refine gX (gD (gIv a3 0 (IntKind.i64.wrap ((ae.length:Int) - 1)))) ?_;cases hb2;exact eJ
 refine goC h ?_ ?_<;>intro c4 h
 ·refine goL ?_;refine uX (jI TBd.h TZ.h rfl (by repeat constructor)) ?_;refine uX (jI TBd.h TZ.h rfl (by repeat constructor)) ?_;exact goR h
 ·refine goS ?_;obtain⟨x5,a5,h⟩:=gK h;obtain⟨a7,a5⟩:=yY a5;obtain⟨a8,a9,⟨ao,ap,aq,ar,⟨al,am,an⟩,au,av⟩⟩:=x5;refine gX (kY a7 (gMi a5)) ?_;obtain⟨⟨ba,⟨aw,ax,ay⟩,bi⟩,bf,h⟩:=gK h;refine gX (gD (gR5 _ _ _ _ bf)) ?_;obtain⟨b7,hb7,h⟩:=pI h;refine kG ⟨[(1,.I a1),(2,.I a2),(3,.I a3),(8,.ptr 1 0),(9,.ptr 2 0),(11,.ptr 3 0),(13,.ptr 4 0),(14,.L 3 (jJ ba)),(15,.ptr 5 0),(66,.B b7)],[bPr a4,.box [.I 0,.I 0,.I 0,.I 0,.nilsl,.nilsl,.nilsl,.I 0,.S [],.nilsl,.I 0,.S [],.S [],.I 0,.I 0,.S [],.nilsl,.nilsl,.nilsl,.nilsl,.nilsl],.box [.I 0,.S [],.S [],.I 0,.I 0,.S [],.nilsl,.nilsl,.nilsl],bIn ag ah f y aa ai aj ak ab ac ad ae,.box [.S a8,.L 1 (kD a9),.I ao,.S ap,.S aq,.I ar,.I al,.S am,.L 3 (jJ an),.L 9 (vP au),.L 11 (gBv av)],bTy aw ax ay],Tryz.f71.ntmps⟩ ?_ ?_
  ·refine uJ 58 (fun c8=>?_) (fun c8=>?_) (by first | rfl | (simp only [jG,gQ];rfl))
   ·replace hb7:=jU c8 hb7;refine goL ?_;cases hb7;exact⟨rfl,⟨⟨rfl,rfl⟩,⟨rfl,rfl⟩,⟨rfl,rfl⟩,⟨rfl,rfl⟩,⟨rfl,rfl⟩,⟨rfl,rfl⟩,⟨rfl,rfl⟩,⟨rfl,rfl⟩,⟨rfl,rfl⟩,⟨by first | rfl | (simp only [jG,gQ];rfl),rfl⟩,trivial⟩,⟨_,rfl⟩,rfl⟩
   ·replace hb7:=jV c8 hb7;refine goL ?_;refine gRx ?_;refine gX (pR) ?_;cases hb7;exact⟨rfl,⟨⟨rfl,rfl⟩,⟨rfl,rfl⟩,⟨rfl,rfl⟩,⟨rfl,rfl⟩,⟨rfl,rfl⟩,⟨rfl,rfl⟩,⟨rfl,rfl⟩,⟨rfl,rfl⟩,⟨rfl,rfl⟩,⟨by first | rfl | (simp only [jG,gQ];rfl),rfl⟩,trivial⟩,⟨_,rfl⟩,rfl⟩
  refine goC h ?_ ?_<;>intro c9 h
  ·refine goL ?_;refine uX (jI TBd.h TZ.h rfl (by repeat constructor)) ?_;refine uX (jI TBd.h TZ.h rfl (by repeat constructor)) ?_;exact goR h
  ·refine noS ?_;refine sZ 1 ?_;refine goW ?_;obtain⟨bm,bb,h⟩:=gK h;refine kR (fun _=>gD (gWd _ _ _ bb)) ?_;refine goW ?_;refine jY ?_;refine gCj ?_;refine sZ 0 ?_;refine goW ?_;refine jY ?_;exact goR h
def gOe(c:kP):Option (gU × kP):=
bnd (gYa 5000 c [[97],[98]] 3) fun x1=>
bnd (gAt x1.2 8) fun f=>
bnd (cnd (f.1==0) (
bnd (gRt f.2 2) fun x5=>
some (x5.2.b,x5.2.i,x5.2.h,x5.1.kind,x5.1.name,x5.1.args)) (cnd (f.1==1) (
bnd (gGh [116,97,103] []) fun x7=>
some (f.2.b,f.2.i,f.2.h,x7.kind,x7.name,x7.args)) (cnd (f.1==2) (
bnd (gDc f.2 [[116,97,103],[105,110,116],[98,111,111,108]]) fun x9=>
bnd (gGh x9.1 []) fun ah=>
bnd (gGh [108,105,115,116] [ah]) fun y=>
some (x9.2.b,x9.2.i,x9.2.h,y.kind,y.name,y.args)) (some (f.2.b,f.2.i,f.2.h,x1.1.kind,x1.1.name,x1.1.args))))) fun b3=>
bnd (gDc (kP.mk b3.1 b3.2.1 b3.2.2.1) [[115,104,111,119],[115,104,111,119],[101,113],[111,114,100],[97,100,100],[115,101,110,100],[122,122]]) fun ac=>
(some ((gU.mk ac.1 (gF.mk b3.2.2.2.1 b3.2.2.2.2.1 b3.2.2.2.2.2)),ac.2))
theorem hJw(c:kP){r:gU × kP}(h:gOe c=some r):Go.Eng.Spec Tryz.prog 34 [.ptr 0 0] [bCu c.b c.i c.h] (fun sv Lo=>sv=.d (gCq r.1)∧Lo=[bCu r.2.b r.2.i r.2.h]):=by
 obtain⟨bb,bc,bd⟩:=c;unfold gOe at h;refine pK 1 Tryz.func34 rfl (by kernel_rfl) rfl rfl fun A _=>?_;refine goL ?_;refine gPb (us:=kD [[97],[98]]) ?_;refine qV 2 rfl rfl ?_;obtain⟨⟨⟨ax,ay,a0⟩,⟨ae,ag,ah⟩⟩,be,h⟩:=gK h;refine gCt 0 (hR3 5000 (kP.mk bb bc bd) [[97],[98]] 3 be) ?_;refine goL ?_;obtain⟨⟨bp,⟨f,y,aa⟩⟩,bf,h⟩:=gK h;refine gCt 0 (gG0 (kP.mk ae ag ah) 8 bf) ?_;refine goL ?_;obtain⟨⟨am,an,ao,ai,aj,ak⟩,hb3,h⟩:=gK h;refine gHf ⟨[(0,.ptr 0 0),(2,.ptr 1 0),(3,.ptr 3 0)],[bCu am an ao,.box [.S [],.I 0,.S [],.nilsl],.frz 9 1 0 (kD [[97],[98]]),bTy ai aj ak],Tryz.f34.ntmps⟩ ?_ ?_
 ·refine gP ?_;refine goL ?_;refine kN (fun c4=>?_) (fun c4=>?_)
  ·replace hb3:=jU c4 hb3;refine goL ?_;obtain⟨⟨⟨a2,a3,a4⟩,⟨a5,a6,a7⟩⟩,bh,hb3⟩:=gK hb3;refine gCt 0 (hPv (kP.mk f y aa) 2 bh) ?_;refine goL ?_;cases hb3;exact eJ
  ·replace hb3:=jV c4 hb3;refine goL ?_;refine kN (fun c6=>?_) (fun c6=>?_)
   ·replace hb3:=jU c6 hb3;refine goL ?_;obtain⟨⟨bq,br,bt⟩,bj,hb3⟩:=gK hb3;refine gX (gD (gMa _ _ bj)) ?_;cases hb3;exact eJ
   ·replace hb3:=jV c6 hb3;refine goL ?_;refine kN (fun c8=>?_) (fun c8=>?_)
    ·replace hb3:=jU c8 hb3;refine goL ?_;refine gPb (us:=kD [[116,97,103],[105,110,116],[98,111,111,108]]) ?_;refine qV 4 rfl rfl ?_;obtain⟨⟨bu,⟨a8,a9,ba⟩⟩,bl,hb3⟩:=gK hb3;refine gCt 0 (gLw (kP.mk f y aa) [[116,97,103],[105,110,116],[98,111,111,108]] bl) ?_;obtain⟨⟨ab,ac,ad⟩,ap,hb3⟩:=gK hb3;refine pX (gD (gMa _ _ ap)) ?_;refine uN (u:=(.st [.i .i64 ab,.s ac,.sl 3 (jJ ad)])) ?_;refine qV 5 rfl rfl ?_;obtain⟨⟨bm,bn,bo⟩,aq,hb3⟩:=gK hb3;refine gC1 (hDc (gMa [108,105,115,116] [(gF.mk ab ac ad)] aq)) ?_;cases hb3;exact eJ
    ·replace hb3:=jV c8 hb3;refine gCs ?_;cases hb3;exact eJ
 refine gCj ?_;refine sZ 0 ?_;refine goW ?_;refine uK (us:=kD [[115,104,111,119],[115,104,111,119],[101,113],[111,114,100],[97,100,100],[115,101,110,100],[122,122]]) ?_;obtain⟨⟨al,⟨ar,au,av⟩⟩,aw,h⟩:=gK h;refine gSk (LH.c1 0 (gLw _ _ aw)) ?_;refine goW ?_;refine jY ?_;refine goL ?_;refine jH ?_;obtain rfl:=Option.some.inj h;exact gHr [.d (.st [.s al,.st [.i .i64 ai,.s aj,.sl 3 (jJ ak)]])] _ ⟨rfl,rfl⟩
def gAk(a0:gG)(a1:Int)(y:Int)(a3:Int)(a4:Int):Option (pQ × gY × Bool):=
(cnd (!(gBa y 0 (IntKind.i64.wrap ((a0.packages.length:Int) - 1)))) (some ((pQ.mk 0 0 0 0 [] [] [] (gF.mk 0 [] []) (jN.mk 0 [] [] 0 (gF.mk 0 [] []) [] [] [] [])),(gY.mk 0 [] [] 0 (gF.mk 0 [] []) [] []),false)) (cnd (a1==1) (
bnd (gOd a0 y a3 a4) fun x3=>
some (x3.1,x3.2.1,x3.2.2)) (cnd (a1==2) (
bnd (gVo a0 y a3 a4) fun x5=>
some (x5.1,x5.2.1,x5.2.2)) (cnd (a1==3) (
bnd (at? a0.packages y) fun x7=>
lt_ (cnd (!(gBa a3 0 (IntKind.i64.wrap ((x7.functions.length:Int) - 1)))) (true) (a4 != 0)) fun b8=>
(cnd b8 (some ((pQ.mk 0 0 0 0 [] [] [] (gF.mk 0 [] []) (jN.mk 0 [] [] 0 (gF.mk 0 [] []) [] [] [] [])),(gY.mk 0 [] [] 0 (gF.mk 0 [] []) [] []),false)) (
bnd (at? x7.functions a3) fun ag=>
bnd (gW7 ag) fun f=>
some ((pQ.mk 3 y a3 0 f.vars f.where_ f.params f.result (jN.mk 0 [] [] 0 (gF.mk 0 [] []) [] [] [] [])),f.body,true)))) (some ((pQ.mk 0 0 0 0 [] [] [] (gF.mk 0 [] []) (jN.mk 0 [] [] 0 (gF.mk 0 [] []) [] [] [] [])),(gY.mk 0 [] [] 0 (gF.mk 0 [] []) [] []),false))))))
theorem gTy(a0:gG)(a1:Int)(a2:Int)(a3:Int)(a4:Int){r:pQ × gY × Bool}(h:gAk a0 a1 a2 a3 a4=some r):gW Tryz.prog 52 [.d (jX a0),.I a1,.I a2,.I a3,.I a4] [gXy r.1,vX r.2.1,.b r.2.2]:=by
 obtain⟨aa⟩:=a0;unfold gAk at h;refine SpI Tryz.func52 fun A _=>?_;refine goL ?_;refine pX (pR) ?_;refine gX (gD (gIv a2 0 (IntKind.i64.wrap ((aa.length:Int) - 1)))) ?_;refine kN (fun c1=>?_) (fun c1=>?_)
 ·replace h:=jU c1 h;refine goL ?_;refine uX (jI TBd.h TZ.h rfl (by repeat constructor)) ?_;refine uX (jI TBd.h TZ.h rfl (by repeat constructor)) ?_;exact goR h
 ·replace h:=jV c1 h;refine goS ?_;refine gP ?_;refine goC h ?_ ?_<;>intro c2 h
  ·refine goL ?_;obtain⟨⟨⟨cf,cg,ch,ci,cj,ck,cl,⟨aq,ar,au⟩,⟨av,aw,ax,ay,⟨ab,ac,ad⟩,a5,a6,a7,a8⟩⟩,⟨cm,cn,co,cp,⟨a9,ba,bb⟩,cq,cr⟩,dn⟩,db,h⟩:=gK h;refine pX (gD (hBi _ _ _ _ db)) ?_;exact goR h
  ·refine goC h ?_ ?_<;>intro c4 h
   ·refine goL ?_;obtain⟨⟨⟨cs,ct,cu,cv,cw,cx,cy,⟨bc,bd,be⟩,⟨bf,bg,bh,bi,⟨ae,ag,ah⟩,bj,bk,bl,bm⟩⟩,⟨cz,c0,c3,c5,⟨bn,bo,bp⟩,c7,c8⟩,dp⟩,dc,h⟩:=gK h;refine pX (gD (hJu _ _ _ _ dc)) ?_;exact goR h
   ·refine goC h ?_ ?_<;>intro c6 h
    ·refine goL ?_;obtain⟨x7,y,h⟩:=gK h;obtain⟨ai,y⟩:=yY y;obtain⟨dq,dr,ds,dt,du,bq⟩:=x7;refine gX (kY ai (mX y)) ?_;refine pX (pR) ?_;refine gX (gD (gIv a3 0 (IntKind.i64.wrap ((bq.length:Int) - 1)))) ?_;obtain⟨b8,hb8,h⟩:=pI h;refine kG ⟨[(2,.I a2),(3,.I a3),(5,.ptr 0 0),(10,.ptr 1 0),(11,.ptr 2 0),(60,.B b8)],[bPr aa,.box [.I 0,.I 0,.I 0,.I 0,.nilsl,.nilsl,.nilsl,.I 0,.S [],.nilsl,.I 0,.S [],.S [],.I 0,.I 0,.S [],.nilsl,.nilsl,.nilsl,.nilsl,.nilsl],.box [.I 0,.S [],.S [],.I 0,.I 0,.S [],.nilsl,.nilsl,.nilsl]],Tryz.f52.ntmps⟩ ?_ ?_
     ·exact gqZ 57 hb8
     refine goC h ?_ ?_<;>intro dx h
     ·refine goL ?_;refine uX (jI TBd.h TZ.h rfl (by repeat constructor)) ?_;refine uX (jI TBd.h TZ.h rfl (by repeat constructor)) ?_;exact goR h
     ·refine goS ?_;refine gX (kY ai (mX y)) ?_;obtain⟨dd,f,h⟩:=gK h;obtain⟨aj,f⟩:=yY f;obtain⟨de,df,dg,dh,⟨br,bt,bu⟩,⟨bv,bw,bx,bz,⟨ak,al,am⟩,b0,b1⟩⟩:=dd;refine gX (kY aj (gLd f)) ?_;obtain⟨⟨di,dj,dk,dl,⟨b2,b3,b4⟩,⟨b5,b6,b7,b9,⟨an,ao,ap⟩,ca,cb⟩⟩,cc,h⟩:=gK h;refine pX (gD (hUt _ cc)) ?_;refine gCj ?_;refine sZ 0 ?_;refine goW ?_;refine jY ?_;exact goR h
    ·refine goS ?_;refine uX (jI TBd.h TZ.h rfl (by repeat constructor)) ?_;refine uX (jI TBd.h TZ.h rfl (by repeat constructor)) ?_;exact goR h
end Go.Proofs.YtfjncckelekpiaaGreat
