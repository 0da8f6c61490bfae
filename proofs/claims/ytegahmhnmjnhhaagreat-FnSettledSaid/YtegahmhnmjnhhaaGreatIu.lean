import Derived.Test.YtegahmhnmjnhhaaGreatIr
set_option maxHeartbeats 4000000
set_option linter.unusedVariables false
set_option linter.unusedSimpArgs false
set_option linter.unusedSectionVars false
namespace Go.Proofs.YtegahmhnmjnhhaaGreat
open Go Go.Eng
attribute [local irreducible] V VO VQ VY Quiet QR jC kT Rng mU mV mI
def gMj(c:gB):Option (Bool):=
bnd ((cnd (c.kind==1) (bnd (zO c.name) fun f=>
(some f)) ((some false)))) fun h=>
(some h)
theorem hC6(a0:gB){r:Bool}(h:gMj a0=some r):jC Tryz.prog 48 [.d (jS a0)] [.b r]:=by
 obtain⟨c,f,y⟩:=a0;unfold gMj at h;refine SpI Tryz.func48 fun A _=>?_;refine goL ?_;obtain⟨b1,hb1,h⟩:=gP h;refine jT ⟨[(2,.B b1)],[bTy c f y],Tryz.f48.ntmps⟩ ?_ ?_
 ·refine gqA 6 hb1 (fun c2 hb1=>?_);obtain⟨x3,ab,hb1⟩:=gP hb1;refine jL (gF (gKl _ ab)) ?_;cases hb1;exact eJ
 exact goR h
def gS1(c:gB):Option (Bool):=
bnd ((cnd (c.kind==3) (bnd (gT1 c) fun f=>
(some f)) ((some false)))) fun h=>
(some h)
theorem hPr(a0:gB){r:Bool}(h:gS1 a0=some r):jC Tryz.prog 51 [.d (jS a0)] [.b r]:=by
 obtain⟨c,f,y⟩:=a0;unfold gS1 at h;refine SpI Tryz.func51 fun A _=>?_;refine goL ?_;obtain⟨b1,hb1,h⟩:=gP h;refine jT ⟨[(2,.B b1)],[bTy c f y],Tryz.f51.ntmps⟩ ?_ ?_
 ·refine gqA 6 hb1 (fun c2 hb1=>?_);obtain⟨x3,ab,hb1⟩:=gP hb1;refine jL (gF (hOu _ ab)) ?_;cases hb1;exact eJ
 exact goR h
def gDk(c:Int→Int→Int→(List gG)→(List jB)→(List jN)→Int→Int→kP→gB→gB→Int→Option (Int × Int × List gG × List jB))(next:Int)(count:Int)(node:Int)(os:List jN)(q:kP)(nested:Int)(x3:gB):List gB→Nat→Int→Int→(List gG)→(List jB)→Option (Int × Int × List gG × List jB)
 | [],h,y,aa,ab,ac=>(some (y,aa,ab,ac))
 | ad::xs,h,y,aa,ab,ac=>bnd (at? x3.args (h:Int)) fun ae=>
bnd (c next count node ab ac os y aa q ad ae (IntKind.i64.wrap (nested+1))) fun f=>
gDk c next count node os q nested x3 xs (h+1) f.1 f.2.1 f.2.2.1 f.2.2.2
def gMk(c:Int→Int→Int→(List gG)→(List jB)→(List jN)→Int→Int→kP→gB→gB→Int→Option (Int × Int × List gG × List jB))(next:Int)(count:Int)(node:Int)(l1:List gG)(h:List jB)(os:List jN)(code:Int)(att:Int)(q:kP)(x:gB)(y:gB)(nested:Int):Option (Int × Int × List gG × List jB):=
(cnd (code != 0) (
(some (code,att,l1,h))) (
bnd (gPi next count node l1 h os code att x) fun x2=>
bnd (gPi next count node l1 h os code att y) fun x3=>
(cnd (teq x2 x3) (
(some (code,att,l1,h))) (
lt_ ((cnd (decide (nested > 40)) (true) ((decide ((IntKind.i64.wrap ((tsz x2)+(tsz x3))) > 2000))))) fun b5=>
(cnd b5 (
lt_ (gI2 next count node l1 h os code att 6) fun x8=>
(some (x8.1,x8.2,l1,h))) (
bnd (gMj x2) fun x9=>
(cnd x9 (
bnd (gPj next count node l1 h os code att x2 x3) fun ah=>
(some (ah.1,ah.2.1,ah.2.2,h))) (
bnd (gMj x3) fun ak=>
(cnd ak (
bnd (gPj next count node l1 h os code att x3 x2) fun ai=>
(some (ai.1,ai.2.1,ai.2.2,h))) (
bnd (gGx next count node l1 h os code att q x2) fun aa=>
(cnd aa.2.1 (
bnd (c next count node l1 h os aa.2.2.1 aa.2.2.2 q aa.1 x3 (IntKind.i64.wrap (nested+1))) fun ae=>
(some (ae.1,ae.2.1,ae.2.2.1,ae.2.2.2))) (
(cnd (aa.2.2.1 != 0) (
(some (aa.2.2.1,aa.2.2.2,l1,h))) (
bnd (gGx next count node l1 h os aa.2.2.1 aa.2.2.2 q x3) fun f=>
(cnd f.2.1 (
bnd (c next count node l1 h os f.2.2.1 f.2.2.2 q x2 f.1 (IntKind.i64.wrap (nested+1))) fun ag=>
(some (ag.1,ag.2.1,ag.2.2.1,ag.2.2.2))) (
(cnd (f.2.2.1 != 0) (
(some (f.2.2.1,f.2.2.2,l1,h))) (
bnd (gS1 x2) fun al=>
bnd ((cnd al ((some true)) (bnd (gS1 x3) fun am=>
(some am)))) fun an=>
(cnd an (
gd (h.length+[(jB.mk x2 x3 node)].length≤4294967296) (
(some (f.2.2.1,f.2.2.2,l1,(h++[(jB.mk x2 x3 node)]))))) (
lt_ ((cnd (x2.kind != x3.kind) (true) ((cnd (!(x2.name==x3.name)) (true) ((cnd ((x2.args.length:Int) !=(x3.args.length:Int)) (true) ((x2.kind==3)))))))) fun ao=>
(cnd ao (
lt_ (gI2 next count node l1 h os f.2.2.1 f.2.2.2 1) fun aj=>
(some (aj.1,aj.2,l1,h))) (
gDk c next count node os q nested x3 x2.args 0 f.2.2.1 f.2.2.2 l1 h))))))))))))))))))))))
theorem hNq{a4:Int→Int→Int→(List gG)→(List jB)→(List jN)→Int→Int→kP→gB→gB→Int→Option (Int × Int × List gG × List jB)}(a3:∀(x0:Int) (x1:Int) (x2:Int) (x3:List gG) (x4:List jB) (x5:List jN) (x6:Int) (x7:Int) (x8:kP) (x9:gB) (cz:gB) (c0:Int) (w0:Nat) (w1:Nat) (w2:Nat) {r:Int × Int × List gG × List jB},a4 x0 x1 x2 x3 x4 x5 x6 x7 x8 x9 cz c0=some r→Go.Eng.Spec Tryz.prog 23 [.ptr 0 0,.ptr 4 0,.d (jS x9),.d (jS cz),.I c0] [.box [.I x0,.I x1,.I x2,.sl 1 w0,.sl 2 w1,.sl 3 w2,.I x6,.I x7],.arr 101 4 w0 (gN x3),.arr 79 7 w1 (gW x4),.arr 81 5 w2 (gT x5),.box [.L 6 (gX x8.w.packages),.L 6 (gM x8.assumed)]] (fun sv Lo=>∃v'1 v'2,sv=.tup []∧Lo=[.box [.I x0,.I x1,.I x2,.sl 1 v'1,.sl 2 v'2,.sl 3 w2,.I r.1,.I r.2.1],.arr 101 4 v'1 (gN r.2.2.1),.arr 79 7 v'2 (gW r.2.2.2),.arr 81 5 w2 (gT x5),.box [.L 6 (gX x8.w.packages),.L 6 (gM x8.assumed)]]))(next:Int)(count:Int)(node:Int)(l1:List gG)(l2:List jB)(os:List jN)(code:Int)(att:Int)(q:kP)(x:gB)(y:gB)(nested:Int)(v1:Nat)(v2:Nat)(f:Nat){r:Int × Int × List gG × List jB}(h:gMk a4 next count node l1 l2 os code att q x y nested=some r):Go.Eng.Spec Tryz.prog 23 [.ptr 0 0,.ptr 4 0,.d (jS x),.d (jS y),.I nested] [.box [.I next,.I count,.I node,.sl 1 v1,.sl 2 v2,.sl 3 f,.I code,.I att],.arr 101 4 v1 (gN l1),.arr 79 7 v2 (gW l2),.arr 81 5 f (gT os),.box [.L 6 (gX q.w.packages),.L 6 (gM q.assumed)]] (fun sv Lo=>∃v'1 v'2,sv=.tup []∧Lo=[.box [.I next,.I count,.I node,.sl 1 v'1,.sl 2 v'2,.sl 3 f,.I r.1,.I r.2.1],.arr 101 4 v'1 (gN r.2.2.1),.arr 79 7 v'2 (gW r.2.2.2),.arr 81 5 f (gT os),.box [.L 6 (gX q.w.packages),.L 6 (gM q.assumed)]]):=by
 obtain⟨⟨c⟩,ae⟩:=q;obtain⟨an,ao,ap⟩:=x;obtain⟨ai,aj,ak⟩:=y;unfold gMk at h;refine kM 5 Tryz.func23 rfl (by kernel_rfl) rfl rfl fun A _=>?_;refine goC h ?_ ?_<;>intro c1 h
 ·refine jK ?_;obtain rfl:=Option.some.inj h;exact zB [] [.box [.I next,.I count,.I node,.sl 1 v1,.sl 2 v2,.sl 3 f,.I code,.I att],.arr 101 4 v1 (gN l1),.arr 79 7 v2 (gW l2),.arr 81 5 f (gT os),.box [.L 6 (gX c),.L 6 (gM ae)]] ⟨v1,v2,rfl,rfl⟩
 ·refine noS ?_;obtain⟨⟨al,am,ah⟩,bi,h⟩:=gP h;obtain⟨⟨ab,ac,ad⟩,a7,h⟩:=gP h;refine qH (P:=Tryz.prog) Mix.h (.q 0 (.q 1 (.q 3 (.q 4 (.h 2 (.h 5 (.h 6 (.h 7 (.h 8 (.h 9 .nil .nil) .nil) .nil) (.h 7 (.h 6 (.h 8 (.h 9 .nil .nil) .nil) .nil) .nil)) (.h 6 (.h 5 (.h 7 (.h 8 (.h 9 .nil .nil) .nil) .nil) (.h 7 (.h 5 (.h 8 (.h 9 .nil .nil) .nil) .nil) .nil)) (.h 7 (.h 5 (.h 6 (.h 8 (.h 9 .nil .nil) .nil) .nil) (.h 6 (.h 5 (.h 8 (.h 9 .nil .nil) .nil) .nil) .nil)) .nil))) (.h 6 (.h 2 (.h 5 (.h 7 (.h 8 (.h 9 .nil .nil) .nil) .nil) (.h 7 (.h 5 (.h 8 (.h 9 .nil .nil) .nil) .nil) .nil)) (.h 7 (.h 2 (.h 5 (.h 8 (.h 9 .nil .nil) .nil) .nil) .nil) .nil)) (.h 7 (.h 2 (.h 5 (.h 6 (.h 8 (.h 9 .nil .nil) .nil) .nil) (.h 6 (.h 5 (.h 8 (.h 9 .nil .nil) .nil) .nil) .nil)) (.h 6 (.h 2 (.h 5 (.h 8 (.h 9 .nil .nil) .nil) .nil) .nil) .nil)) .nil))))))) ⟨[(0,.ptr 0 0),(1,.ptr 4 0),(4,.I nested),(10,.ptr 7 0),(11,.ptr 8 0)],[.box [.I next,.I count,.I node,.sl 1 v1,.sl 2 v2,.sl 3 f,.I code,.I att],.arr 101 4 v1 (gN l1),.arr 79 7 v2 (gW l2),.arr 81 5 f (gT os),.box [.L 6 (gX c),.L 6 (gM ae)],bTy an ao ap,bTy ai aj ak,bTy al am ah,bTy ab ac ad],Tryz.f23.ntmps⟩ (by kernel_rfl) ?_ ?_
  ·refine goT ?_;refine vW (vH (sv:=.d (.st [.i .i64 al,.s am,.sl 3 (jJ ah)])) (L':=[.box [.I next,.I count,.I node,.sl 1 v1,.sl 2 v2,.sl 3 f,.I code,.I att],.arr 101 4 v1 (gN l1),.arr 79 7 v2 (gW l2),.arr 81 5 f (gT os),.box [.L 6 (gX c),.L 6 (gM ae)],bTy an ao ap,bTy ai aj ak]) [0,1,2,3] (gC1 next count node l1 l2 os code att (gB.mk an ao ap) v1 v2 f bi) jX) ?_ ?_
   ·refine vW (vH (sv:=.d (.st [.i .i64 ab,.s ac,.sl 3 (jJ ad)])) (L':=[.box [.I next,.I count,.I node,.sl 1 v1,.sl 2 v2,.sl 3 f,.I code,.I att],.arr 101 4 v1 (gN l1),.arr 79 7 v2 (gW l2),.arr 81 5 f (gT os),.box [.L 6 (gX c),.L 6 (gM ae)],bTy an ao ap,bTy ai aj ak]) [0,1,2,3] (gC1 next count node l1 l2 os code att (gB.mk ai aj ak) v1 v2 f a7) jX) ?_ ?_
    ·refine vW (hSy rfl (by repeat constructor) (by repeat(first | exact vV.nil | (apply vV.keep;focus ((repeat constructor);done)) | (apply vV.dep;focus kernel_rfl))) jX) ?_ ?_
     ·refine goT ?_;refine jY ?_;exact uK 5 [0,1,2,3,4,5,6,7,8]
     refine goT ?_;refine jY ?_;exact uK 5 [0,1,2,3,4,5,6,8,7]
    refine vW (hSy rfl (by repeat constructor) (by repeat(first | exact vV.nil | (apply vV.keep;focus ((repeat constructor);done)) | (apply vV.dep;focus kernel_rfl))) jX) ?_ ?_
    ·refine vW (vH (sv:=.d (.st [.i .i64 ab,.s ac,.sl 3 (jJ ad)])) (L':=[.box [.I next,.I count,.I node,.sl 1 v1,.sl 2 v2,.sl 3 f,.I code,.I att],.arr 101 4 v1 (gN l1),.arr 79 7 v2 (gW l2),.arr 81 5 f (gT os),.box [.L 6 (gX c),.L 6 (gM ae)],bTy an ao ap,bTy ai aj ak,.box [.I 0,.S [],.nilsl]]) [0,1,2,3] (gC1 next count node l1 l2 os code att (gB.mk ai aj ak) v1 v2 f a7) jX) ?_ ?_
     ·refine goT ?_;refine jY ?_;exact uK 5 [0,1,2,3,4,5,6,7,8]
     refine goT ?_;refine jV (vH (sv:=.d (.st [.i .i64 ab,.s ac,.sl 3 (jJ ad)])) (L':=[.box [.I next,.I count,.I node,.sl 1 v1,.sl 2 v2,.sl 3 f,.I code,.I att],.arr 101 4 v1 (gN l1),.arr 79 7 v2 (gW l2),.arr 81 5 f (gT os),.box [.L 6 (gX c),.L 6 (gM ae)],bTy an ao ap,bTy ai aj ak,.box [.I 0,.S [],.nilsl],.box [.I 0,.S [],.nilsl]]) [0,1,2,3] (gC1 next count node l1 l2 os code att (gB.mk ai aj ak) v1 v2 f a7) jX) ?_;refine goT ?_;refine jY ?_;exact uK 5 [0,1,2,3,4,5,6,7,8]
    refine goT ?_;refine vW (vH (sv:=.d (.st [.i .i64 ab,.s ac,.sl 3 (jJ ad)])) (L':=[.box [.I next,.I count,.I node,.sl 1 v1,.sl 2 v2,.sl 3 f,.I code,.I att],.arr 101 4 v1 (gN l1),.arr 79 7 v2 (gW l2),.arr 81 5 f (gT os),.box [.L 6 (gX c),.L 6 (gM ae)],bTy an ao ap,bTy ai aj ak,.box [.I 0,.S [],.nilsl]]) [0,1,2,3] (gC1 next count node l1 l2 os code att (gB.mk ai aj ak) v1 v2 f a7) jX) ?_ ?_
    ·refine goT ?_;refine jY ?_;exact uK 5 [0,1,2,3,4,5,6,8,7]
    refine goT ?_;refine jV (vH (sv:=.d (.st [.i .i64 ab,.s ac,.sl 3 (jJ ad)])) (L':=[.box [.I next,.I count,.I node,.sl 1 v1,.sl 2 v2,.sl 3 f,.I code,.I att],.arr 101 4 v1 (gN l1),.arr 79 7 v2 (gW l2),.arr 81 5 f (gT os),.box [.L 6 (gX c),.L 6 (gM ae)],bTy an ao ap,bTy ai aj ak,.box [.I 0,.S [],.nilsl],.box [.I 0,.S [],.nilsl]]) [0,1,2,3] (gC1 next count node l1 l2 os code att (gB.mk ai aj ak) v1 v2 f a7) jX) ?_;refine goT ?_;refine jY ?_;exact uK 5 [0,1,2,3,4,5,6,8,7]
   refine vW (hSy rfl (by repeat constructor) (by repeat(first | exact vV.nil | (apply vV.keep;focus ((repeat constructor);done)) | (apply vV.dep;focus kernel_rfl))) jX) ?_ ?_
   ·refine vW (vH (sv:=.d (.st [.i .i64 al,.s am,.sl 3 (jJ ah)])) (L':=[.box [.I next,.I count,.I node,.sl 1 v1,.sl 2 v2,.sl 3 f,.I code,.I att],.arr 101 4 v1 (gN l1),.arr 79 7 v2 (gW l2),.arr 81 5 f (gT os),.box [.L 6 (gX c),.L 6 (gM ae)],bTy an ao ap,bTy ai aj ak,.box [.I 0,.S [],.nilsl]]) [0,1,2,3] (gC1 next count node l1 l2 os code att (gB.mk an ao ap) v1 v2 f bi) jX) ?_ ?_
    ·refine vW (vH (sv:=.d (.st [.i .i64 ab,.s ac,.sl 3 (jJ ad)])) (L':=[.box [.I next,.I count,.I node,.sl 1 v1,.sl 2 v2,.sl 3 f,.I code,.I att],.arr 101 4 v1 (gN l1),.arr 79 7 v2 (gW l2),.arr 81 5 f (gT os),.box [.L 6 (gX c),.L 6 (gM ae)],bTy an ao ap,bTy ai aj ak,.box [.I 0,.S [],.nilsl]]) [0,1,2,3] (gC1 next count node l1 l2 os code att (gB.mk ai aj ak) v1 v2 f a7) jX) ?_ ?_
     ·refine goT ?_;refine jY ?_;exact uK 5 [0,1,2,3,4,5,6,7,8]
     refine goT ?_;refine jV (vH (sv:=.d (.st [.i .i64 ab,.s ac,.sl 3 (jJ ad)])) (L':=[.box [.I next,.I count,.I node,.sl 1 v1,.sl 2 v2,.sl 3 f,.I code,.I att],.arr 101 4 v1 (gN l1),.arr 79 7 v2 (gW l2),.arr 81 5 f (gT os),.box [.L 6 (gX c),.L 6 (gM ae)],bTy an ao ap,bTy ai aj ak,.box [.I 0,.S [],.nilsl],.box [.I 0,.S [],.nilsl]]) [0,1,2,3] (gC1 next count node l1 l2 os code att (gB.mk ai aj ak) v1 v2 f a7) jX) ?_;refine goT ?_;refine jY ?_;exact uK 5 [0,1,2,3,4,5,6,7,8]
    refine goT ?_;refine jV (vH (sv:=.d (.st [.i .i64 al,.s am,.sl 3 (jJ ah)])) (L':=[.box [.I next,.I count,.I node,.sl 1 v1,.sl 2 v2,.sl 3 f,.I code,.I att],.arr 101 4 v1 (gN l1),.arr 79 7 v2 (gW l2),.arr 81 5 f (gT os),.box [.L 6 (gX c),.L 6 (gM ae)],bTy an ao ap,bTy ai aj ak,.box [.I 0,.S [],.nilsl],.box [.I 0,.S [],.nilsl]]) [0,1,2,3] (gC1 next count node l1 l2 os code att (gB.mk an ao ap) v1 v2 f bi) jX) ?_;refine jV (vH (sv:=.d (.st [.i .i64 ab,.s ac,.sl 3 (jJ ad)])) (L':=[.box [.I next,.I count,.I node,.sl 1 v1,.sl 2 v2,.sl 3 f,.I code,.I att],.arr 101 4 v1 (gN l1),.arr 79 7 v2 (gW l2),.arr 81 5 f (gT os),.box [.L 6 (gX c),.L 6 (gM ae)],bTy an ao ap,bTy ai aj ak,.box [.I 0,.S [],.nilsl],.box [.I 0,.S [],.nilsl]]) [0,1,2,3] (gC1 next count node l1 l2 os code att (gB.mk ai aj ak) v1 v2 f a7) jX) ?_;refine goT ?_;refine jY ?_;exact uK 5 [0,1,2,3,4,5,6,7,8]
   refine goT ?_;refine vW (vH (sv:=.d (.st [.i .i64 al,.s am,.sl 3 (jJ ah)])) (L':=[.box [.I next,.I count,.I node,.sl 1 v1,.sl 2 v2,.sl 3 f,.I code,.I att],.arr 101 4 v1 (gN l1),.arr 79 7 v2 (gW l2),.arr 81 5 f (gT os),.box [.L 6 (gX c),.L 6 (gM ae)],bTy an ao ap,bTy ai aj ak,.box [.I 0,.S [],.nilsl]]) [0,1,2,3] (gC1 next count node l1 l2 os code att (gB.mk an ao ap) v1 v2 f bi) jX) ?_ ?_
   ·refine vW (vH (sv:=.d (.st [.i .i64 ab,.s ac,.sl 3 (jJ ad)])) (L':=[.box [.I next,.I count,.I node,.sl 1 v1,.sl 2 v2,.sl 3 f,.I code,.I att],.arr 101 4 v1 (gN l1),.arr 79 7 v2 (gW l2),.arr 81 5 f (gT os),.box [.L 6 (gX c),.L 6 (gM ae)],bTy an ao ap,bTy ai aj ak,.box [.I 0,.S [],.nilsl]]) [0,1,2,3] (gC1 next count node l1 l2 os code att (gB.mk ai aj ak) v1 v2 f a7) jX) ?_ ?_
    ·refine goT ?_;refine jY ?_;exact uK 5 [0,1,2,3,4,5,6,8,7]
    refine goT ?_;refine jV (vH (sv:=.d (.st [.i .i64 ab,.s ac,.sl 3 (jJ ad)])) (L':=[.box [.I next,.I count,.I node,.sl 1 v1,.sl 2 v2,.sl 3 f,.I code,.I att],.arr 101 4 v1 (gN l1),.arr 79 7 v2 (gW l2),.arr 81 5 f (gT os),.box [.L 6 (gX c),.L 6 (gM ae)],bTy an ao ap,bTy ai aj ak,.box [.I 0,.S [],.nilsl],.box [.I 0,.S [],.nilsl]]) [0,1,2,3] (gC1 next count node l1 l2 os code att (gB.mk ai aj ak) v1 v2 f a7) jX) ?_;refine goT ?_;refine jY ?_;exact uK 5 [0,1,2,3,4,5,6,8,7]
   refine goT ?_;refine jV (vH (sv:=.d (.st [.i .i64 al,.s am,.sl 3 (jJ ah)])) (L':=[.box [.I next,.I count,.I node,.sl 1 v1,.sl 2 v2,.sl 3 f,.I code,.I att],.arr 101 4 v1 (gN l1),.arr 79 7 v2 (gW l2),.arr 81 5 f (gT os),.box [.L 6 (gX c),.L 6 (gM ae)],bTy an ao ap,bTy ai aj ak,.box [.I 0,.S [],.nilsl],.box [.I 0,.S [],.nilsl]]) [0,1,2,3] (gC1 next count node l1 l2 os code att (gB.mk an ao ap) v1 v2 f bi) jX) ?_;refine jV (vH (sv:=.d (.st [.i .i64 ab,.s ac,.sl 3 (jJ ad)])) (L':=[.box [.I next,.I count,.I node,.sl 1 v1,.sl 2 v2,.sl 3 f,.I code,.I att],.arr 101 4 v1 (gN l1),.arr 79 7 v2 (gW l2),.arr 81 5 f (gT os),.box [.L 6 (gX c),.L 6 (gM ae)],bTy an ao ap,bTy ai aj ak,.box [.I 0,.S [],.nilsl],.box [.I 0,.S [],.nilsl]]) [0,1,2,3] (gC1 next count node l1 l2 os code att (gB.mk ai aj ak) v1 v2 f a7) jX) ?_;refine goT ?_;refine jY ?_;exact uK 5 [0,1,2,3,4,5,6,8,7]
  refine goL ?_;refine jL (gF (gIt (gB.mk al am ah) (gB.mk ab ac ad))) ?_;refine kX (fun c4=>?_) (fun c4=>?_)
  ·replace h:=kD c4 h;refine jK ?_;obtain rfl:=Option.some.inj h;exact zB [] [.box [.I next,.I count,.I node,.sl 1 v1,.sl 2 v2,.sl 3 f,.I code,.I att],.arr 101 4 v1 (gN l1),.arr 79 7 v2 (gW l2),.arr 81 5 f (gT os),.box [.L 6 (gX c),.L 6 (gM ae)]] ⟨v1,v2,rfl,rfl⟩
  ·replace h:=kE c4 h;refine noS ?_;refine gH2 ?_;obtain⟨b5,hb5,h⟩:=qB h;refine uJ (P:=Tryz.prog) Mix.h ⟨[(0,.ptr 0 0),(1,.ptr 4 0),(4,.I nested),(10,.ptr 7 0),(11,.ptr 8 0),(41,.B b5)],[.box [.I next,.I count,.I node,.sl 1 v1,.sl 2 v2,.sl 3 f,.I code,.I att],.arr 101 4 v1 (gN l1),.arr 79 7 v2 (gW l2),.arr 81 5 f (gT os),.box [.L 6 (gX c),.L 6 (gM ae)],bTy an ao ap,bTy ai aj ak,bTy al am ah,bTy ab ac ad],Tryz.f23.ntmps⟩ (by kernel_rfl) ?_ ?_
   ·refine goL ?_;refine yQ 34 (fun c6=>?_) (fun c6=>?_)
    ·replace hb5:=kD c6 hb5;refine goL ?_;cases hb5;exact eJ
    ·replace hb5:=kE c6 hb5;refine goL ?_;refine gDf (gF (gKe (gB.mk al am ah))) ?_;refine goL ?_;refine gDf (gF (gKe (gB.mk ab ac ad))) ?_;refine gDf (pR) ?_;refine goL ?_;cases hb5;exact eJ
   refine goC h ?_ ?_<;>intro c7 h
   ·refine goL ?_;obtain⟨⟨cc,cd⟩,dq,h⟩:=qB h;have sx8:=gWg next count node l1 l2 os code att 6 v1 v2 f
    rw [dq] at sx8;refine yY [0,1,2,3] (sx8) ?_;rintro _ _ ⟨rfl,rfl⟩;show VO _ _ _ _ ⟨(_,.tup [])::_,[.box [.I next,.I count,.I node,.sl 1 v1,.sl 2 v2,.sl 3 f,.I cc,.I cd],.arr 101 4 v1 (gN l1),.arr 79 7 v2 (gW l2),.arr 81 5 f (gT os),.box [.L 6 (gX c),.L 6 (gM ae)],bTy an ao ap,bTy ai aj ak,bTy al am ah,bTy ab ac ad],_⟩ _;refine goL ?_;refine jK ?_;obtain rfl:=Option.some.inj h;exact zB [] [.box [.I next,.I count,.I node,.sl 1 v1,.sl 2 v2,.sl 3 f,.I cc,.I cd],.arr 101 4 v1 (gN l1),.arr 79 7 v2 (gW l2),.arr 81 5 f (gT os),.box [.L 6 (gX c),.L 6 (gM ae)]] ⟨v1,v2,rfl,rfl⟩
   ·refine goS ?_;obtain⟨x9,dr,h⟩:=gP h;refine jL (gF (hC6 _ dr)) ?_;refine kX (fun cf=>?_) (fun cf=>?_)
    ·replace h:=kD cf h;refine goL ?_;obtain⟨⟨bj,bk,bl⟩,c2,h⟩:=gP h;refine yY [0,1,2,3] (hJm next count node l1 l2 os code att (gB.mk al am ah) (gB.mk ab ac ad) v1 v2 f c2) ?_;rintro _ _ ⟨bm,rfl,rfl⟩;show VO _ _ _ _ ⟨(_,.tup [])::_,[.box [.I next,.I count,.I node,.sl 1 bm,.sl 2 v2,.sl 3 f,.I bj,.I bk],.arr 101 4 bm (gN bl),.arr 79 7 v2 (gW l2),.arr 81 5 f (gT os),.box [.L 6 (gX c),.L 6 (gM ae)],bTy an ao ap,bTy ai aj ak,bTy al am ah,bTy ab ac ad],_⟩ _;refine goL ?_;refine jK ?_;obtain rfl:=Option.some.inj h;exact zB [] [.box [.I next,.I count,.I node,.sl 1 bm,.sl 2 v2,.sl 3 f,.I bj,.I bk],.arr 101 4 bm (gN bl),.arr 79 7 v2 (gW l2),.arr 81 5 f (gT os),.box [.L 6 (gX c),.L 6 (gM ae)]] ⟨bm,v2,rfl,rfl⟩
    ·replace h:=kE cf h;refine goS ?_;obtain⟨d4,c3,h⟩:=gP h;refine jL (gF (hC6 _ c3)) ?_;refine kX (fun cg=>?_) (fun cg=>?_)
     ·replace h:=kD cg h;refine goL ?_;obtain⟨⟨bn,bo,bp⟩,c5,h⟩:=gP h;refine yY [0,1,2,3] (hJm next count node l1 l2 os code att (gB.mk ab ac ad) (gB.mk al am ah) v1 v2 f c5) ?_;rintro _ _ ⟨bq,rfl,rfl⟩;show VO _ _ _ _ ⟨(_,.tup [])::_,[.box [.I next,.I count,.I node,.sl 1 bq,.sl 2 v2,.sl 3 f,.I bn,.I bo],.arr 101 4 bq (gN bp),.arr 79 7 v2 (gW l2),.arr 81 5 f (gT os),.box [.L 6 (gX c),.L 6 (gM ae)],bTy an ao ap,bTy ai aj ak,bTy al am ah,bTy ab ac ad],_⟩ _;refine goL ?_;refine jK ?_;obtain rfl:=Option.some.inj h;exact zB [] [.box [.I next,.I count,.I node,.sl 1 bq,.sl 2 v2,.sl 3 f,.I bn,.I bo],.arr 101 4 bq (gN bp),.arr 79 7 v2 (gW l2),.arr 81 5 f (gT os),.box [.L 6 (gX c),.L 6 (gM ae)]] ⟨bq,v2,rfl,rfl⟩
     ·replace h:=kE cg h;refine goS ?_;obtain⟨⟨⟨aq,ar,au⟩,ch,a9,ba⟩,c8,h⟩:=gP h;refine yY [0,1,2,3,4] (gUn next count node l1 l2 os code att (kP.mk (gI.mk c) ae) (gB.mk al am ah) v1 v2 f c8) ?_;rintro _ _ ⟨rfl,rfl⟩;show VO _ _ _ _ ⟨(_,.tup [.d (.st [.i .i64 aq,.s ar,.sl 3 (jJ au)]),.B ch])::_,[.box [.I next,.I count,.I node,.sl 1 v1,.sl 2 v2,.sl 3 f,.I a9,.I ba],.arr 101 4 v1 (gN l1),.arr 79 7 v2 (gW l2),.arr 81 5 f (gT os),.box [.L 6 (gX c),.L 6 (gM ae)],bTy an ao ap,bTy ai aj ak,bTy al am ah,bTy ab ac ad],_⟩ _;refine goC h ?_ ?_<;>intro d5 h
      ·refine goL ?_;refine qI (pR) ?_;obtain⟨⟨br,bt,bu,bv⟩,c9,h⟩:=gP h;refine yY [0,1,2,3,4] (a3 next count node l1 l2 os a9 ba (kP.mk (gI.mk c) ae) (gB.mk aq ar au) (gB.mk ab ac ad) (IntKind.i64.wrap (nested+1)) v1 v2 f c9) ?_;rintro _ _ ⟨bw,bx,rfl,rfl⟩;show VO _ _ _ _ ⟨(_,.tup [])::_,[.box [.I next,.I count,.I node,.sl 1 bw,.sl 2 bx,.sl 3 f,.I br,.I bt],.arr 101 4 bw (gN bu),.arr 79 7 bx (gW bv),.arr 81 5 f (gT os),.box [.L 6 (gX c),.L 6 (gM ae)],bTy an ao ap,bTy ai aj ak,bTy al am ah,bTy ab ac ad,bTy aq ar au],_⟩ _;refine goL ?_;refine jK ?_;obtain rfl:=Option.some.inj h;exact zB [] [.box [.I next,.I count,.I node,.sl 1 bw,.sl 2 bx,.sl 3 f,.I br,.I bt],.arr 101 4 bw (gN bu),.arr 79 7 bx (gW bv),.arr 81 5 f (gT os),.box [.L 6 (gX c),.L 6 (gM ae)]] ⟨bw,bx,rfl,rfl⟩
      ·refine goS ?_;refine kX (fun ci=>?_) (fun ci=>?_)
       ·replace h:=kD ci h;refine jK ?_;obtain rfl:=Option.some.inj h;exact zB [] [.box [.I next,.I count,.I node,.sl 1 v1,.sl 2 v2,.sl 3 f,.I a9,.I ba],.arr 101 4 v1 (gN l1),.arr 79 7 v2 (gW l2),.arr 81 5 f (gT os),.box [.L 6 (gX c),.L 6 (gM ae)]] ⟨v1,v2,rfl,rfl⟩
       ·replace h:=kE ci h;refine goS ?_;obtain⟨⟨⟨ax,ay,a0⟩,cj,a5,a6⟩,da,h⟩:=gP h;refine yY [0,1,2,3,4] (gUn next count node l1 l2 os a9 ba (kP.mk (gI.mk c) ae) (gB.mk ab ac ad) v1 v2 f da) ?_;rintro _ _ ⟨rfl,rfl⟩;show VO _ _ _ _ ⟨(_,.tup [.d (.st [.i .i64 ax,.s ay,.sl 3 (jJ a0)]),.B cj])::_,[.box [.I next,.I count,.I node,.sl 1 v1,.sl 2 v2,.sl 3 f,.I a5,.I a6],.arr 101 4 v1 (gN l1),.arr 79 7 v2 (gW l2),.arr 81 5 f (gT os),.box [.L 6 (gX c),.L 6 (gM ae)],bTy an ao ap,bTy ai aj ak,bTy al am ah,bTy ab ac ad,bTy aq ar au],_⟩ _;refine goC h ?_ ?_<;>intro d6 h
        ·refine goL ?_;refine qI (pR) ?_;obtain⟨⟨bz,b0,b1,b2⟩,db,h⟩:=gP h;refine yY [0,1,2,3,4] (a3 next count node l1 l2 os a5 a6 (kP.mk (gI.mk c) ae) (gB.mk al am ah) (gB.mk ax ay a0) (IntKind.i64.wrap (nested+1)) v1 v2 f db) ?_;rintro _ _ ⟨b3,b4,rfl,rfl⟩;show VO _ _ _ _ ⟨(_,.tup [])::_,[.box [.I next,.I count,.I node,.sl 1 b3,.sl 2 b4,.sl 3 f,.I bz,.I b0],.arr 101 4 b3 (gN b1),.arr 79 7 b4 (gW b2),.arr 81 5 f (gT os),.box [.L 6 (gX c),.L 6 (gM ae)],bTy an ao ap,bTy ai aj ak,bTy al am ah,bTy ab ac ad,bTy aq ar au,bTy ax ay a0],_⟩ _;refine goL ?_;refine jK ?_;obtain rfl:=Option.some.inj h;exact zB [] [.box [.I next,.I count,.I node,.sl 1 b3,.sl 2 b4,.sl 3 f,.I bz,.I b0],.arr 101 4 b3 (gN b1),.arr 79 7 b4 (gW b2),.arr 81 5 f (gT os),.box [.L 6 (gX c),.L 6 (gM ae)]] ⟨b3,b4,rfl,rfl⟩
        ·refine goS ?_;refine kX (fun ck=>?_) (fun ck=>?_)
         ·replace h:=kD ck h;refine jK ?_;obtain rfl:=Option.some.inj h;exact zB [] [.box [.I next,.I count,.I node,.sl 1 v1,.sl 2 v2,.sl 3 f,.I a5,.I a6],.arr 101 4 v1 (gN l1),.arr 79 7 v2 (gW l2),.arr 81 5 f (gT os),.box [.L 6 (gX c),.L 6 (gM ae)]] ⟨v1,v2,rfl,rfl⟩
         ·replace h:=kE ck h;refine goS ?_;obtain⟨d7,dc,h⟩:=gP h;refine jL (gF (hPr _ dc)) ?_;obtain⟨ds,hb30,h⟩:=gP h;refine jT ⟨[(0,.ptr 0 0),(1,.ptr 4 0),(4,.I nested),(10,.ptr 7 0),(11,.ptr 8 0),(103,.B ds)],[.box [.I next,.I count,.I node,.sl 1 v1,.sl 2 v2,.sl 3 f,.I a5,.I a6],.arr 101 4 v1 (gN l1),.arr 79 7 v2 (gW l2),.arr 81 5 f (gT os),.box [.L 6 (gX c),.L 6 (gM ae)],bTy an ao ap,bTy ai aj ak,bTy al am ah,bTy ab ac ad,bTy aq ar au,bTy ax ay a0],Tryz.f23.ntmps⟩ ?_ ?_
          ·refine gqO 99 hb30 (fun d8 hb30=>?_);obtain⟨d9,dd,hb30⟩:=gP hb30;refine jL (gF (hPr _ dd)) ?_;cases hb30;exact eJ
          refine goC h ?_ ?_<;>intro ea h
          ·refine jO (P:=Tryz.prog) Mix.h [(0,true),(1,true),(2,true),(3,true),(4,true),(5,true),(6,true),(7,true),(8,true),(9,true),(10,true),(11,true),(12,false),(13,false),(14,true),(15,true),(16,false)] (by kernel_rfl) ?_;refine goY ?_;refine qE (T:=29) (us:=gW [(jB.mk (gB.mk al am ah) (gB.mk ab ac ad) node)]) ?_;obtain⟨dt,h⟩:=mW h;refine pV (T:=29) dt ?_;refine goY ?_;refine kQ ?_;refine goL ?_;refine jK ?_;obtain rfl:=Option.some.inj h;exact zB [] [.box [.I next,.I count,.I node,.sl 1 v1,.sl 2 (v2+1),.sl 3 f,.I a5,.I a6],.arr 101 4 v1 (gN l1),.arr 79 7 (v2+1) (gW (l2++[(jB.mk (gB.mk al am ah) (gB.mk ab ac ad) node)])),.arr 81 5 f (gT os),.box [.L 6 (gX c),.L 6 (gM ae)]] ⟨v1,(v2+1),rfl,rfl⟩
          ·refine goS ?_;obtain⟨du,hb35,h⟩:=qB h;refine jT ⟨[(0,.ptr 0 0),(1,.ptr 4 0),(4,.I nested),(10,.ptr 7 0),(11,.ptr 8 0),(145,.B du)],[.box [.I next,.I count,.I node,.sl 1 v1,.sl 2 v2,.sl 3 f,.I a5,.I a6],.arr 101 4 v1 (gN l1),.arr 79 7 v2 (gW l2),.arr 81 5 f (gT os),.box [.L 6 (gX c),.L 6 (gM ae)],bTy an ao ap,bTy ai aj ak,bTy al am ah,bTy ab ac ad,bTy aq ar au,bTy ax ay a0],Tryz.f23.ntmps⟩ ?_ ?_
           ·refine pX 125 (fun cl=>?_) (fun cl=>?_) (by first | rfl | (simp only [jG,gV];rfl))
            ·replace hb35:=kD cl hb35;refine goL ?_;cases hb35;exact⟨rfl,⟨⟨rfl,rfl⟩,⟨rfl,rfl⟩,⟨rfl,rfl⟩,⟨rfl,rfl⟩,⟨rfl,rfl⟩,⟨by first | rfl | (simp only [jG,gV];rfl),rfl⟩,trivial⟩,⟨_,rfl⟩,rfl⟩
            ·replace hb35:=kE cl hb35;refine goL ?_;refine pX 132 (fun cm=>?_) (fun cm=>?_) (by first | rfl | (simp only [jG,gV];rfl))
             ·replace hb35:=kD cm hb35;refine goL ?_;cases hb35;exact⟨rfl,⟨⟨rfl,rfl⟩,⟨rfl,rfl⟩,⟨rfl,rfl⟩,⟨rfl,rfl⟩,⟨rfl,rfl⟩,⟨by first | rfl | (simp only [jG,gV];rfl),rfl⟩,trivial⟩,⟨_,rfl⟩,rfl⟩
             ·replace hb35:=kE cm hb35;refine goL ?_;refine pX 141 (fun cn=>?_) (fun cn=>?_) (by first | rfl | (simp only [jG,gV];rfl))
              ·replace hb35:=kD cn hb35;refine goL ?_;cases hb35;exact⟨rfl,⟨⟨rfl,rfl⟩,⟨rfl,rfl⟩,⟨rfl,rfl⟩,⟨rfl,rfl⟩,⟨rfl,rfl⟩,⟨by first | rfl | (simp only [jG,gV];rfl),rfl⟩,trivial⟩,⟨_,rfl⟩,rfl⟩
              ·replace hb35:=kE cn hb35;refine goL ?_;cases hb35;exact⟨rfl,⟨⟨rfl,rfl⟩,⟨rfl,rfl⟩,⟨rfl,rfl⟩,⟨rfl,rfl⟩,⟨rfl,rfl⟩,⟨by first | rfl | (simp only [jG,gV];rfl),rfl⟩,trivial⟩,⟨_,rfl⟩,rfl⟩
           refine goC h ?_ ?_<;>intro eb h
           ·refine goL ?_;obtain⟨⟨b6,b7⟩,de,h⟩:=qB h;have sx40:=gWg next count node l1 l2 os a5 a6 1 v1 v2 f
            rw [de] at sx40;refine yY [0,1,2,3] (sx40) ?_;rintro _ _ ⟨rfl,rfl⟩;show VO _ _ _ _ ⟨(_,.tup [])::_,[.box [.I next,.I count,.I node,.sl 1 v1,.sl 2 v2,.sl 3 f,.I b6,.I b7],.arr 101 4 v1 (gN l1),.arr 79 7 v2 (gW l2),.arr 81 5 f (gT os),.box [.L 6 (gX c),.L 6 (gM ae)],bTy an ao ap,bTy ai aj ak,bTy al am ah,bTy ab ac ad,bTy aq ar au,bTy ax ay a0],_⟩ _;refine goL ?_;refine jK ?_;obtain rfl:=Option.some.inj h;exact zB [] [.box [.I next,.I count,.I node,.sl 1 v1,.sl 2 v2,.sl 3 f,.I b6,.I b7],.arr 101 4 v1 (gN l1),.arr 79 7 v2 (gW l2),.arr 81 5 f (gT os),.box [.L 6 (gX c),.L 6 (gM ae)]] ⟨v1,v2,rfl,rfl⟩
           ·refine goS ?_;refine noB ?_;refine gBx 149 (fun ec=>?_);refine hIc (fun(a8:Nat) (be:Int) (bf:Int) (bg:List gG) (bh:List jB) (bb:Nat) (bc:Nat)=>⟨[(0,.ptr 0 0),(1,.ptr 4 0),(4,.I nested),(10,.ptr 7 0),(11,.ptr 8 0),(150,.I (ah.length:Int)),(151,.N a8)],[.box [.I next,.I count,.I node,.sl 1 bb,.sl 2 bc,.sl 3 f,.I be,.I bf],.arr 101 4 bb (gN bg),.arr 79 7 bc (gW bh),.arr 81 5 f (gT os),.box [.L 6 (gX c),.L 6 (gM ae)],bTy an ao ap,bTy ai aj ak,bTy al am ah,bTy ab ac ad,bTy aq ar au,bTy ax ay a0],Tryz.f23.ntmps⟩) (fun a8 be bf bg bh bb bc=>gDk a4 next count node os (kP.mk (gI.mk c) ae) nested (gB.mk ab ac ad) (ah.drop a8) a8 be bf bg bh=some r) (fun a8 be bf bg bh bb bc=>ah.length - a8) 0 a5 a6 l1 l2 v1 v2 eJ h ?_;rintro a8 be bf bg bh bb bc h;refine goL ?_;refine jW (kX (fun co=>?_) (fun co=>?_))
            ·have bd:=uR co;obtain⟨dv,df,cp⟩:=drop_at bd;rw [cp,gDk.eq_2] at h;obtain⟨cq,cr,cs⟩:=dv;refine noS ?_;refine jW (jE ?_);refine gH2 ?_;refine uF (P:=Tryz.prog) Mix.h [(0,true),(1,true),(2,true),(3,true),(4,true),(5,true),(6,true),(7,true),(8,true),(9,true),(10,true),(11,true),(12,true),(13,true),(14,false)] (by kernel_rfl) ?_;refine goY ?_;refine jI rfl (jM a8 (zL df)) ?_;refine goY ?_;obtain⟨dw,ce,h⟩:=gP h;rw [yZ] at ce;obtain⟨ct,cu,cv⟩:=dw;refine jI rfl (jM a8 (zL ce)) ?_;refine goY ?_;refine jI rfl (pR) ?_;obtain⟨⟨b8,b9,ca,cb⟩,dg,h⟩:=gP h;refine gUg [0,1,2,3,4] (a3 next count node bg bh os be bf (kP.mk (gI.mk c) ae) (gB.mk cq cr cs) (gB.mk ct cu cv) (IntKind.i64.wrap (nested+1)) bb bc f dg) ?_;rintro _ _ ⟨cw,cx,rfl,rfl⟩;refine gSt (sv:=.tup []) (L':=[.box [.I next,.I count,.I node,.sl 1 cw,.sl 2 cx,.sl 3 f,.I b8,.I b9],.arr 101 4 cw (gN ca),.arr 79 7 cx (gW cb),.arr 81 5 f (gT os),.box [.L 6 (gX c),.L 6 (gM ae)],bTy an ao ap,bTy ai aj ak,bTy al am ah,bTy ab ac ad,bTy aq ar au,bTy ax ay a0]) (by repeat(first | exact vV.nil | (apply vV.keep;focus ((repeat constructor);done)) | (apply vV.dep;focus kernel_rfl))) ?_;refine kQ ?_;refine goL ?_;refine jL (jR a8 (by omega)) ?_;exact⟨(a8+1),b8,b9,ca,cb,cw,cx,h,by omega,eJ⟩
            ·have bd:=uS co;rw [jF bd,gDk.eq_1] at h;refine gSn ?_;show mI _ _ _ _ _ _;obtain rfl:=Option.some.inj h;exact hEz [] [.box [.I next,.I count,.I node,.sl 1 bb,.sl 2 bc,.sl 3 f,.I be,.I bf],.arr 101 4 bb (gN bg),.arr 79 7 bc (gW bh),.arr 81 5 f (gT os),.box [.L 6 (gX c),.L 6 (gM ae)]] ⟨bb,bc,rfl,rfl⟩
def gC6:Nat→Int→Int→Int→(List gG)→(List jB)→(List jN)→Int→Int→kP→gB→gB→Int→Option (Int × Int × List gG × List jB)
 | 0,_,_,_,_,_,_,_,_,_,_,_,_=>none
 | n+1,h,y,x2,x3,x4,x5,x6,x7,x8,x9,c,f=>gMk (gC6 n) h y x2 x3 x4 x5 x6 x7 x8 x9 c f
theorem hNr:∀(n:Nat) (x0:Int) (x1:Int) (x2:Int) (x3:List gG) (x4:List jB) (x5:List jN) (x6:Int) (x7:Int) (y:kP) (x9:gB) (c:gB) (f:Int) (w0:Nat) (w1:Nat) (w2:Nat) {r:Int × Int × List gG × List jB},gC6 n x0 x1 x2 x3 x4 x5 x6 x7 y x9 c f=some r→Go.Eng.Spec Tryz.prog 23 [.ptr 0 0,.ptr 4 0,.d (jS x9),.d (jS c),.I f] [.box [.I x0,.I x1,.I x2,.sl 1 w0,.sl 2 w1,.sl 3 w2,.I x6,.I x7],.arr 101 4 w0 (gN x3),.arr 79 7 w1 (gW x4),.arr 81 5 w2 (gT x5),.box [.L 6 (gX y.w.packages),.L 6 (gM y.assumed)]] (fun sv Lo=>∃v'1 v'2,sv=.tup []∧Lo=[.box [.I x0,.I x1,.I x2,.sl 1 v'1,.sl 2 v'2,.sl 3 w2,.I r.1,.I r.2.1],.arr 101 4 v'1 (gN r.2.2.1),.arr 79 7 v'2 (gW r.2.2.2),.arr 81 5 w2 (gT x5),.box [.L 6 (gX y.w.packages),.L 6 (gM y.assumed)]]):=by
 intro n
 induction n with
 | zero=>intro x0 x1 x2 x3 x4 x5 x6 x7 y x9 c f w0 w1 w2 r h;cases h
 | succ n ih=>intro x0 x1 x2 x3 x4 x5 x6 x7 y x9 c f w0 w1 w2 r h;exact hNq ih x0 x1 x2 x3 x4 x5 x6 x7 y x9 c f w0 w1 w2 h
end Go.Proofs.YtegahmhnmjnhhaaGreat
