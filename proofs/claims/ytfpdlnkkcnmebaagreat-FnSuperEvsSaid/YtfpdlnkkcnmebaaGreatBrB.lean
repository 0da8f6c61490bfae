import Derived.Test.YtfpdlnkkcnmebaaGreatEng53
set_option linter.unusedVariables false
set_option linter.unusedSimpArgs false
namespace Go.Proofs.YtfpdlnkkcnmebaaGreat
open Go Go.Eng Go.RowKit
theorem hHy {H:Type}{enc:TypeId × Value→H}{P:Program}{w:World}{sp:Nat→Bool}{held:Bool}{T e:TypeId}{v:Value}{d:DataW H}{ps:List MemPlace}(hund:P.underlying T=some (.slice e))(he:P.underlying e=some (.int .u8))(hce:P.cellsOf e=1)(hbe:0 < P.bytesOf e)
  (h:DataW.Trod enc P w 0 sp held T v d ps) (hw:∀x∈d.weights P T,x≤reachBytes) (hna:∀cs,v≠.agg cs):∃code:LB,SVr (fun b=>b < w.heap.size) [] [] w (.d (.sl 1 (gEb code))) v:=by
 obtain⟨fuel,h⟩:=h;have hc:v.cells=#[v]:=by cases v<;>first | rfl | (exact absurd rfl (hna _))
 rw [hc] at h
 suffices hs:∃code:LB,Rd (fun b=>b < w.heap.size) w (.sl 1 (gEb code)) [v] by
  obtain⟨code,c⟩:=hs;refine⟨code,?_⟩;simp only [SVr];exact⟨[v],by simp [val,U.isSt],c⟩
 have hlenB:∀l:LB,(gEb l).length=l.length:=fun l=>Enc.len l;cases fuel with
 | zero=>simp [DataW.trod] at h
 | succ fuel=>
   rcases DataW.trod_slice hund h with ⟨f,hx⟩ | ⟨a,len,cap,elems,rest,n,hn,f,hx,_,hlc,_,hel,hget,_,_⟩
   ·simp at f;subst f;exact⟨[],by simp only [Rd,gEb];exact⟨by simp [yC],none,0,rfl,.inl trivial⟩⟩
   ·obtain rfl:fuel=n:=by omega
    simp at f;subst f;simp only [Prod.mk.injEq] at hx;obtain⟨rfl,rfl⟩:=hx;simp only [DataW.weights,hund] at hw;have hlen:len≤big:=by
     have c:=hw _ (List.mem_cons_self);simp only [List.length_map] at c;refine hAh (Nat.le_trans ?_ c);rw [hel]
     calc len≤len*P.bytesOf e:=Nat.le_mul_of_pos_right _ hbe
      _≤(len+rest.length)*P.bytesOf e:=Nat.mul_le_mul_right _ (by omega)
    have each:∀i,i < len→∃x:UInt8,(a.spot=none→At w a.block (a.off+i*1) [.int .u8 (x.toNat:Int)])∧(i=0→a.spot=none)∧a.block < w.heap.size:=by
     intro i hi;have c:=hget i hi;rw [List.getElem?_eq_getElem (by omega)] at c;cases hc:w.cells? 0 (a.add (i*P.cellsOf e)) (P.cellsOf e)with
     | none=>rw [hc] at c;simp at c
     | some cs=>
       rw [hc] at c;simp only [Option.bind_some] at c;rw [hce] at hc;obtain⟨y,k2,q⟩:=hEx (by omega) hc;obtain⟨m,rfl,_,hwf⟩:=DataW.trod_int he c;simp [Lit.wf,IntKind.min,IntKind.max,IntKind.bits,IntKind.signed] at hwf;have hblk:(a.add (i*1)).block=a.block:=by unfold Addr.add;split<;>rfl
       refine⟨UInt8.ofNat m.toNat,fun hsp=>?_,fun f=>?_,?_⟩
       ·have hoff:(a.add (i*1)).off=a.off+i*1:=by unfold Addr.add;split<;>simp_all
        rw [hblk,hoff] at q;have e1:((UInt8.ofNat m.toNat).toNat:Int)=m:=by
         rw [UInt8.toNat_ofNat'];omega
        rw [e1];exact q
       ·subst f;rw [Nat.zero_mul] at k2;exact k2
       ·rw [←hblk];exact q.lt
    obtain⟨us,hul,hus⟩:=gP6 len each;refine⟨us,?_⟩;simp only [Rd];refine⟨by rw [hlenB,hul];exact hlen,some a,cap - len,by rw [hlenB,hul,Nat.add_sub_cancel' hlc],?_⟩;by_cases f:us=[]
    ·subst f;exact .inl rfl
    ·have hpos:0 < len:=by rw [←hul];exact List.length_pos_iff.2 f
     obtain⟨u0,_,hsp,hblt⟩:=each 0 hpos;have hsp:=hsp rfl;refine .inr ⟨a.block,a.off,?_,hblt,RdE.mk (gEb us) a.off (fun k u hk=>?_)⟩
     ·obtain⟨b,o,sp⟩:=a;simp only at hsp;subst hsp;rfl
     ·have hk2:k < us.length:=by rw [←hlenB];exact(List.getElem?_eq_some_iff.1 hk).1
      have hk3:=hIz (List.getElem?_eq_getElem hk2);rw [hk] at hk3;obtain rfl:=Option.some.inj hk3;obtain⟨y,_,_⟩:=hus k _ (List.getElem?_eq_getElem hk2);exact⟨_,rfl,y hsp,by simp only [Rd]⟩
end Go.Proofs.YtfpdlnkkcnmebaaGreat
