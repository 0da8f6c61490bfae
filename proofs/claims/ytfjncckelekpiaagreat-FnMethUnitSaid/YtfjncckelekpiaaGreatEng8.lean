import Derived.Test.YtfjncckelekpiaaGreatEng4
namespace Go.Eng
open Go Go.RowKit
theorem gH8 {P:Program}{T:TypeId}{g:Bool}{n bs:Nat}(h:tyI P T=some (g,n,bs))(w:World)(b off:Nat)(cs:List Value)(hl:cs.length=n)(hat:At w b off cs)
  (hg:g=false→n=1):(loadVar T ⟨b,off,none⟩).run P w=.ok (if g then .agg cs.toArray else cs.headD undef) w:=by
 obtain⟨row,e,fz,h1,h2⟩:=hat;have hc:∀(j:Nat)(v:Value),cs[j]? =some v→w.cell? ((⟨b,off,none⟩:Addr).add j)=some v:=by
  intro j v hv;have hj:=(List.getElem?_eq_some_iff.1 hv).1
  have:=h2 j hj
  rw [hv] at this;rw [Addr.add_lit];simp [World.cell?,h1,this]
 cases g with
 | true=>
   have:=run_loadCells_list (P:=P) w ⟨b,off,none⟩ cs hc
   rw [hl] at this;simp [loadVar,gO6 h,run_sizeOf h,this]
 | false=>
   have hn:=hg rfl
   match cs,hl with
   | [c],_=>
     have:=hc 0 c rfl
     rw [Addr.add_lit,Nat.add_zero] at this;simp [loadVar,gO6 h,this]
   | [],hl=>simp at hl;omega
   | _::_::_,hl=>simp at hl;omega
theorem gF6{u:U}(h:u.isSt=false):u.sz=1:=by
 cases u<;>simp_all [U.isSt,U.sz]
section
variable {P:Program}{A:Amb}{σ:St}
variable {dst:Option Nat}{ty:TypeId}{pos:String}{af:Array Edge}{g:Option (Nat × Bool)}{x y:Operand}{sv:SV}
theorem hXd{T:TypeId}{u:U}{gg:Bool}{n bs:Nat}(hx:σ.ev x=.dp u)(hT:tyI P T=some (gg,n,bs))(hg:u.isSt=gg)(hn:u.sz=n):Quiet P A σ ⟨dst,.load T x,ty,pos,af,g⟩ (.d u):=Quiet.pure fun S env a w hH ho=>by
 have h1:=ho x (by simp [Op.operands]);rw [hx] at h1;simp only [SVr] at h1;obtain⟨b,off,cs,h2,h3,h4,h5⟩:=h1;subst hg;subst hn;refine⟨val u cs,?_,?_⟩
 ·have:=gH8 hT w b off cs (Rd.length u cs h5) h4 (fun h=>gF6 h)
  simp [execOp,Instr.loadAt,h2,Instr.sureAddr,this,val]
 ·simp only [SVr];exact⟨cs,rfl,h5⟩
theorem gYf{T:TypeId}{us:List U}{u:U}{f fo:Nat}(hx:σ.ev x=.dp (.st us))(hF:tyF P T f=some fo)(hf:us[f]? =some u)(hfo:U.szs (us.take f)=fo) :
  Quiet P A σ ⟨dst,.fieldAddr T x f,ty,pos,af,g⟩ (.dp u):=Quiet.pure fun S env a w hH ho=>by
 have h1:=ho x (by simp [Op.operands]);rw [hx] at h1;simp only [SVr] at h1;obtain⟨b,off,cs,h2,h3,h4,h5⟩:=h1;unfold tyF at hF;split at hF
 ·rename_i fs hund;split at hF
  ·rename_i fd hfd;split at hF
   ·cases hF
   ·rename_i hz;cases hty:tyI P fd.type with
    | none=>rw [hty] at hF;simp at hF
    | some t3=>
      obtain⟨q1,q2,q3⟩:=t3;rw [hty] at hF hz;simp only [Option.map_some,Option.some.injEq] at hF hz;refine⟨.pointer (some ⟨b,off+fo,none⟩),?_,?_⟩
      ·simp [execOp,Instr.fieldAt,h2,Instr.sureAddr,run_underlying hund,hfd,fieldPlace,run_sizeOf hty,hz,Addr.add_lit,hF]
      ·simp only [SVr];simp only [Rd] at h5;obtain⟨row,e,fz,r1,r2⟩:=h4;have key:∀(us:List U)(cs:List Value)(f:Nat),Rds S w us cs→us[f]? =some u→∃c1 c2 c3,cs=c1++c2++c3∧c1.length=U.szs (us.take f)∧Rd S w u c2:=by
        intro us
        induction us with
        | nil=>intro cs f _ hf;simp at hf
        | cons u0 us ih=>
          intro cs f h hf;simp only [Rds] at h;obtain⟨d1,d2,rfl,k2,k3⟩:=h;cases f with
          | zero=>
            simp at hf;subst hf;exact⟨[],d1,d2,by simp,by simp [U.szs],k2⟩
          | succ f=>
            simp only [List.getElem?_cons_succ] at hf;obtain⟨c1,c2,c3,rfl,e1,e2⟩:=ih d2 f k3 hf;exact⟨d1++c1,c2,c3,by simp,by simp [U.szs,e1,Rd.length _ _ k2],e2⟩
       obtain⟨c1,c2,c3,rfl,e1,e2⟩:=key us cs f h5 hf;refine⟨b,off+fo,c2,rfl,h3,⟨row,e,fz,r1,fun j hj=>?_⟩,e2⟩
       have:=r2 (fo+j) (by simp;omega)
       rw [show off+fo+j=off+(fo+j) by omega,this,List.append_assoc,List.getElem?_append_right (by omega),List.getElem?_append_left (by omega)];congr 1;omega
  ·cases hF
 ·cases hF
theorem hM8{T:TypeId}{f fo:Nat}(hF:tyF P T f=some fo)(w:World)(b off:Nat):(Instr.fieldAt T (.pointer (some ⟨b,off,none⟩)) f).run P w=.ok (.pointer (some ⟨b,off+fo,none⟩)) w:=by
 unfold tyF at hF;split at hF
 ·rename_i fs hund;split at hF
  ·rename_i fd hfd;split at hF
   ·cases hF
   ·rename_i hz;cases hty:tyI P fd.type with
    | none=>rw [hty] at hF;simp at hF
    | some t3=>
      obtain⟨q1,q2,q3⟩:=t3;rw [hty] at hF hz;simp only [Option.map_some,Option.some.injEq] at hF hz;simp [Instr.fieldAt,Instr.sureAddr,run_underlying hund,hfd,fieldPlace,run_sizeOf hty,hz,Addr.add_lit,hF]
  ·cases hF
 ·cases hF
theorem gW2{T:TypeId}{i off f fo:Nat}(hx:σ.ev x=.ptr i off)(hF:tyF P T f=some fo) :
  Quiet P A σ ⟨dst,.fieldAddr T x f,ty,pos,af,g⟩ (.ptr i (off+fo)):=Quiet.pure fun S env a w hH ho=>by
 have h1:=ho x (by simp [Op.operands]);rw [hx] at h1;simp only [SVr] at h1;obtain⟨b,h2,h3⟩:=h1;refine⟨.pointer (some ⟨b,off+fo,none⟩),by simp only [execOp,h3,Sem.run_bind,hM8 hF,Result.andThen_ok,Sem.run_pure],?_⟩;simp only [SVr];exact⟨b,h2,rfl⟩
theorem hIc{T:TypeId}{i off:Nat}{cs:List SV}{bs:Nat}(hx:σ.ev x=.ptr i off)(hL:σ.L[i]? =some (.box cs))(hT:tyI P T=some (false,1,bs))(hc:cs[off]? =some sv) :
  Quiet P A σ ⟨dst,.load T x,ty,pos,af,g⟩ sv:=Quiet.pure fun S env a w hH ho=>by
 have h1:=ho x (by simp [Op.operands]);rw [hx] at h1;simp only [SVr] at h1;obtain⟨b,h2,h3⟩:=h1;obtain⟨b',vals,e,k1,k2,k3,k4⟩:=hH.objs i _ _ hL h2;simp only [Value.pointer.injEq,Option.some.injEq,Addr.mk.injEq,and_true] at k1;subst k1;obtain⟨v,m1,m2⟩:=kV.get k3 off sv hc;refine⟨v,?_,m2⟩
 have:=gH8 hT w b off [v] rfl ⟨vals,e,(0,0),k2,fun j hj=>?_⟩ (fun _=>rfl)
 ·simp [execOp,Instr.loadAt,h3,Instr.sureAddr,this]
 ·simp at hj;subst hj;simpa using m1
theorem hEo{T:TypeId}{i off n:Nat}{cs ds:List SV}{bs:Nat}(hx:σ.ev x=.ptr i off)(hL:σ.L[i]? =some (.box cs))(hT:tyI P T=some (true,n,bs))(hn:Nat.ble (off+n) cs.length=true)(hc:(cs.drop off).take n=ds) :
  Quiet P A σ ⟨dst,.load T x,ty,pos,af,g⟩ (.ag ds):=Quiet.pure fun S env a w hH ho=>by
 have h1:=ho x (by simp [Op.operands]);rw [hx] at h1;simp only [SVr] at h1;obtain⟨b,h2,h3⟩:=h1;obtain⟨b',vals,e,k1,k2,k3,k4⟩:=hH.objs i _ _ hL h2;simp only [Value.pointer.injEq,Option.some.injEq,Addr.mk.injEq,and_true] at k1;subst k1;have hlen:=kV.length k3;have hn':=Nat.le_of_ble_eq_true hn;have m1:=zX.take n (zX.drop off ((kV.iff _ _).1 k3));rw [hc] at m1;refine⟨.agg ((vals.toList.drop off).take n).toArray,?_,?_⟩
 ·have hl:((vals.toList.drop off).take n).length=n:=by simp at hlen ⊢;omega
  have:=gH8 hT w b off ((vals.toList.drop off).take n) hl ⟨vals,e,(0,0),k2,fun j hj=>?_⟩ (fun h=>by cases h)
  ·simp [execOp,Instr.loadAt,h3,Instr.sureAddr,this]
  ·rw [hl] at hj;rw [List.getElem?_take,if_pos hj,List.getElem?_drop];simp
 ·simp only [SVr];exact⟨_,rfl,(kV.iff _ _).2 m1⟩
theorem SVr.slice{S:Nat→Prop}{L:List LO}{env:List Value}{w:World}{z:Nat}{us:List U}{v:Value}:SVr S L env w (.d (.sl z us)) v↔
  us.length≤big∧∃base cap,v=.slice base us.length (us.length+cap)∧(us=[]∨∃b off,base=some ⟨b,off,none⟩∧S b∧RdE S w z b off us):=by
 simp only [SVr,RdV,Rd];constructor
 ·rintro⟨cs,h1,h2,base,cap,h3,h4⟩;subst h3;exact⟨h2,base,cap,h1,h4⟩
 ·rintro⟨h2,base,cap,h3,h4⟩;exact⟨[.slice base us.length (us.length+cap)],h3,h2,base,cap,rfl,h4⟩
theorem hM9 {T e:TypeId}{z:Nat}{us:List U}{u:U}{k:IntKind}{n:Int}{gg:Bool}{bs:Nat}(hx:σ.ev x=.d (.sl z us))(hy:σ.ev y=.d (.i k n))(hT:tyE P T=some e)(he:tyI P e=some (gg,z,bs))
  (hn:0≤n) (hu:us[n.toNat]? =some u):Quiet P A σ ⟨dst,.indexAddr T x y,ty,pos,af,g⟩ (.dp u):=Quiet.pure fun S env a w hH ho=>by
 have h1:=ho x (by simp [Op.operands]);have h2:=ho y (by simp [Op.operands]);rw [hx,SVr.slice] at h1;rw [hy,SVr.int] at h2;obtain⟨_,base,cap,h3,h4⟩:=h1;have hlt:=(List.getElem?_eq_some_iff.1 hu).1;rcases h4 with h4 | ⟨b,off,h4,h5,h6⟩
 ·subst h4;simp at hu
 ·obtain⟨cs,c1,c2,c3⟩:=RdE.get us off n.toNat u h6 hu;subst h4;refine⟨.pointer (some ⟨b,off+n.toNat*z,none⟩),?_,?_⟩
  ·have hlt':n < (us.length:Int):=by omega
   simp [execOp,Instr.indexAt,h2,h3,asIntOf,run_underlying (gA8 hT),run_sizeOf he,hn,hlt',Addr.add_lit]
  ·simp only [SVr];exact⟨b,off+n.toNat*z,cs,rfl,h5,c2,c3⟩
theorem hUp{T e:TypeId}{z:Nat}{us:List U}{T':TypeId}(hx:σ.ev x=.d (.sl z us))(hT:tyE P T=some e) :
  Quiet P A σ ⟨dst,.call { callee:=.builtin .len,args:=#[x],argTypes:=#[T] },T',pos,af,g⟩ (.d (.i .i64 us.length)):=Quiet.pure fun S env a w hH ho=>by
 have h1:=ho x (by simp [Op.operands,Call.operands]);rw [hx,SVr.slice] at h1;obtain⟨_,base,cap,h3,h4⟩:=h1;exact⟨.int .i64 us.length,by simp [execOp,resolve,invoke,builtin,Builtin.len_,h3,run_underlying (gA8 hT),goInt],SVr.int.2 rfl⟩
theorem hCo{T e:TypeId}{T':TypeId}(hx:σ.ev x=.nilsl)(hT:tyE P T=some e) :
  Quiet P A σ ⟨dst,.call { callee:=.builtin .len,args:=#[x],argTypes:=#[T] },T',pos,af,g⟩ (.d (.i .i64 0)):=Quiet.pure fun S env a w hH ho=>by
 have h1:=ho x (by simp [Op.operands,Call.operands]);rw [hx] at h1;simp only [SVr] at h1;exact⟨.int .i64 0,by simp [execOp,resolve,invoke,builtin,Builtin.len_,h1,run_underlying (gA8 hT),goInt],SVr.int.2 rfl⟩
theorem hCp{T:TypeId}{l:LB}{T':TypeId}(hx:σ.ev x=.d (.s l))(hT:P.underlying T=some .string) :
  Quiet P A σ ⟨dst,.call { callee:=.builtin .len,args:=#[x],argTypes:=#[T] },T',pos,af,g⟩ (.d (.i .i64 l.length)):=Quiet.pure fun S env a w hH ho=>by
 have h1:=ho x (by simp [Op.operands,Call.operands]);rw [hx,SVr.str] at h1;exact⟨.int .i64 l.length,by simp [execOp,resolve,invoke,builtin,Builtin.len_,h1.2,run_underlying hT,goInt];rfl,SVr.int.2 rfl⟩
theorem hGj{S:Nat→Prop}{L:List LO}{env:List Value}{w:World}{e z ver:Nat}{es:List U}{hv:Value}(h:gLm S L env w (.arr e z ver es) hv) :
  (hv=.slice none 0 0∧es=[])∨∃b cap,hv=.slice (some ⟨b,0,none⟩) es.length cap:=by
 obtain⟨_,_,xs,⟨_,h | ⟨g,cap,cur,rfl,_⟩⟩,_⟩:=h
 ·exact .inl ⟨h.1,List.eq_nil_of_length_eq_zero h.2⟩
 ·exact .inr ⟨g,cap,rfl⟩
theorem hNa{T e:TypeId}{i ver e' z:Nat}{es:List U}{T':TypeId}(hx:σ.ev x=.sl i ver)(hL:σ.L[i]? =some (.arr e' z ver es))(hT:tyE P T=some e) :
  Quiet P A σ ⟨dst,.call { callee:=.builtin .len,args:=#[x],argTypes:=#[T] },T',pos,af,g⟩ (.d (.i .i64 es.length)):=Quiet.pure fun S env a w hH ho=>by
 have h1:=ho x (by simp [Op.operands,Call.operands]);rw [hx] at h1;simp only [SVr] at h1;obtain⟨hv,o,k1,k2,k3,k5,k4⟩:=h1;rw [hL] at k2;obtain rfl:=Option.some.inj k2;have k6:=k4 rfl;rcases hGj (hH.objs i _ hv hL k1)with ⟨r1,r2⟩ | ⟨b,cap,r1⟩
 ·subst r2;exact⟨.int .i64 0,by simp [execOp,resolve,invoke,builtin,Builtin.len_,k6,r1,run_underlying (gA8 hT),goInt],SVr.int.2 rfl⟩
 ·exact⟨.int .i64 es.length,by simp [execOp,resolve,invoke,builtin,Builtin.len_,k6,r1,run_underlying (gA8 hT),goInt],SVr.int.2 rfl⟩
theorem gW3 {T e:TypeId}{i ver z:Nat}{es:List U}{k:IntKind}{n:Int}{gg:Bool}{bs:Nat}(hx:σ.ev x=.sl i ver)(hL:σ.L[i]? =some (.arr e z ver es))(hy:σ.ev y=.d (.i k n))(hT:tyE P T=some e)(he:tyI P e=some (gg,z,bs))
  (hn:0≤n) (hn2:n < es.length):Quiet P A σ ⟨dst,.indexAddr T x y,ty,pos,af,g⟩ (.ep i ver z n.toNat 0):=Quiet.pure fun S env a w hH ho=>by
 have h1:=ho x (by simp [Op.operands]);have h2:=ho y (by simp [Op.operands]);rw [hy,SVr.int] at h2;rw [hx] at h1;simp only [SVr] at h1;obtain⟨hv,o,k1,k2,k3,k5,k4⟩:=h1;rw [hL] at k2;obtain rfl:=Option.some.inj k2;have k6:=k4 rfl;rcases hGj (hH.objs i _ hv hL k1)with ⟨r1,r2⟩ | ⟨b,cap,r1⟩
 ·subst r2;simp at hn2;omega
 ·refine⟨.pointer (some ⟨b,n.toNat*z,none⟩),?_,?_⟩
  ·simp [execOp,Instr.indexAt,h2,k6,r1,asIntOf,run_underlying (gA8 hT),run_sizeOf he,hn,hn2,Addr.add_lit]
  ·simp only [SVr];exact⟨hv,_,k1,hL,Nat.le_refl _,rfl,fun _=>⟨b,by rw [r1];rfl,rfl⟩⟩
inductive AsO:LO→Nat→Nat→List U→Prop
 | own {e z v:Nat} {es:List U}:AsO (.own e z v es) z v es
 | ownp {h:Value} {e z:Nat} {es:List U}:AsO (.ownp h e z es) z 0 es
theorem AsO.own'{S:Nat→Prop}{L:List LO}{env:List Value}{w:World}{o:LO}{z ver:Nat}{es:List U}{hv:Value}(h:AsO o z ver es)(ho:gLm S L env w o hv) :
  o.ver=ver∧o.live=true∧(∀b,o.ft w hv b↔b∈(U.sl z es).fp w [hv])∧∃e,gLm S L env w (.own e z ver es) hv:=by
 cases h with
 | own=>exact⟨rfl,rfl,fun _=>Iff.rfl,_,ho⟩
 | ownp=>exact⟨rfl,rfl,fun _=>Iff.rfl,_,ho.2⟩
theorem gZ7{S:Nat→Prop}{L:List LO}{env:List Value}{w:World}{o:LO}{z ver:Nat}{es:List U}{hv:Value}(ha:AsO o z ver es)(h:gLm S L env w o hv) :
  o.ver=ver∧((hv=.slice none 0 0∧es=[])∨∃b cap,hv=.slice (some ⟨b,0,none⟩) es.length cap):=by
 obtain⟨hver,_,_,e,h⟩:=ha.own' h;refine⟨hver,?_⟩;obtain⟨_,_,⟨xs,⟨_,h | ⟨g,cap,cur,rfl,_⟩⟩,_⟩,_⟩:=h
 ·exact .inl ⟨h.1,List.eq_nil_of_length_eq_zero h.2⟩
 ·exact .inr ⟨g,cap,rfl⟩
theorem hCq{T e:TypeId}{i ver z:Nat}{o:LO}{es:List U}{T':TypeId}(hx:σ.ev x=.sl i ver)(hL:σ.L[i]? =some o)(ha:AsO o z ver es)(hT:tyE P T=some e) :
  Quiet P A σ ⟨dst,.call { callee:=.builtin .len,args:=#[x],argTypes:=#[T] },T',pos,af,g⟩ (.d (.i .i64 es.length)):=Quiet.pure fun S env a w hH ho=>by
 have h1:=ho x (by simp [Op.operands,Call.operands]);rw [hx] at h1;simp only [SVr] at h1;obtain⟨hv,o',k1,k2,k3,k5,k4⟩:=h1;rw [hL] at k2;obtain rfl:=Option.some.inj k2;obtain⟨hver,hform⟩:=gZ7 ha (hH.objs i _ hv hL k1);have k6:=k4 hver.symm;rcases hform with ⟨r1,r2⟩ | ⟨b,cap,r1⟩
 ·subst r2;exact⟨.int .i64 0,by simp [execOp,resolve,invoke,builtin,Builtin.len_,k6,r1,run_underlying (gA8 hT),goInt],SVr.int.2 rfl⟩
 ·exact⟨.int .i64 es.length,by simp [execOp,resolve,invoke,builtin,Builtin.len_,k6,r1,run_underlying (gA8 hT),goInt],SVr.int.2 rfl⟩
theorem hEp {T e:TypeId}{i ver z:Nat}{o:LO}{es:List U}{k:IntKind}{n:Int}{gg:Bool}{bs:Nat}(hx:σ.ev x=.sl i ver)(hL:σ.L[i]? =some o)(ha:AsO o z ver es)(hy:σ.ev y=.d (.i k n))(hT:tyE P T=some e)(he:tyI P e=some (gg,z,bs))
  (hn:0≤n) (hn2:n < es.length):Quiet P A σ ⟨dst,.indexAddr T x y,ty,pos,af,g⟩ (.ep i ver z n.toNat 0):=Quiet.pure fun S env a w hH ho=>by
 have h1:=ho x (by simp [Op.operands]);have h2:=ho y (by simp [Op.operands]);rw [hy,SVr.int] at h2;rw [hx] at h1;simp only [SVr] at h1;obtain⟨hv,o',k1,k2,k3,k5,k4⟩:=h1;rw [hL] at k2;obtain rfl:=Option.some.inj k2;obtain⟨hver,hform⟩:=gZ7 ha (hH.objs i _ hv hL k1);have k6:=k4 hver.symm;rcases hform with ⟨r1,r2⟩ | ⟨b,cap,r1⟩
 ·subst r2;simp at hn2;omega
 ·refine⟨.pointer (some ⟨b,n.toNat*z,none⟩),?_,?_⟩
  ·simp [execOp,Instr.indexAt,h2,k6,r1,asIntOf,run_underlying (gA8 hT),run_sizeOf he,hn,hn2,Addr.add_lit]
  ·simp only [SVr];exact⟨hv,_,k1,hL,by rw [hver];exact Nat.le_refl _,rfl,fun _=>⟨b,by rw [r1];rfl,rfl⟩⟩
theorem hEs{T:TypeId}{i ver z k off f fo:Nat}{z':Nat}{o:LO}{es:List U}(hx:σ.ev x=.ep i ver z k off)(hL:σ.L[i]? =some o)(ha:AsO o z' ver es)(hF:tyF P T f=some fo) :
  Quiet P A σ ⟨dst,.fieldAddr T x f,ty,pos,af,g⟩ (.ep i ver z k (off+fo)):=Quiet.pure fun S env a w hH ho=>by
 have h1:=ho x (by simp [Op.operands]);rw [hx] at h1;simp only [SVr] at h1;obtain⟨hv,o',k1,k2,k3,k5,k4⟩:=h1;rw [hL] at k2;obtain rfl:=Option.some.inj k2;have hver:=(gZ7 ha (hH.objs i _ hv hL k1)).1;obtain⟨b,e1,e2⟩:=k4 hver.symm;refine⟨.pointer (some ⟨b,k*z+off+fo,none⟩),by simp only [execOp,e2,Sem.run_bind,hM8 hF,Result.andThen_ok,Sem.run_pure],?_⟩;simp only [SVr];exact⟨hv,_,k1,hL,by rw [hver];exact Nat.le_refl _,rfl,fun _=>⟨b,e1,by rw [Nat.add_assoc]⟩⟩
theorem gZ8{w:World}{e z n:Nat}{hv:Value}{xs:List Value}{b:Nat}(h:w.ownsRow 0 e z hv n xs)(hb:blk hv=some b):At w b 0 xs:=by
 rcases h.2 with ⟨rfl,_⟩ | ⟨g,cap,cur,rfl,_,h1,_,_,_,h2⟩
 ·simp [blk] at hb
 ·simp [blk] at hb;subst hb;refine⟨cur,e,(0,0),h1,fun j hj=>?_⟩;rw [←h2] at hj ⊢;rw [List.getElem?_take];simp at hj;rw [if_pos (by omega)];simp
theorem hNd{T:TypeId}{i ver z k:Nat}{e':Nat}{es:List U}{u:U}{gg:Bool}{bs:Nat}(hx:σ.ev x=.ep i ver z k 0)(hL:σ.L[i]? =some (.arr e' z ver es))(hu:es[k]? =some u)(hT:tyI P T=some (gg,z,bs))(hg:u.isSt=gg) :
  Quiet P A σ ⟨dst,.load T x,ty,pos,af,g⟩ (.d u):=Quiet.pure fun S env a w hH ho=>by
 have h1:=ho x (by simp [Op.operands]);rw [hx] at h1;simp only [SVr] at h1;obtain⟨hv,o,k1,k2,k3,k5,k4⟩:=h1;rw [hL] at k2;obtain rfl:=Option.some.inj k2;obtain⟨b,e1,e2⟩:=k4 rfl;obtain⟨_,hz,xs,h3,h4⟩:=hH.objs i _ hv hL k1;have h5:=Rds.get es xs k u hz h4 hu;have hat:=gZ8 h3 e1;have huz:=hz u (List.mem_of_getElem? hu);subst hg;refine⟨val u ((xs.drop (k*z)).take z),?_,?_⟩
 ·obtain⟨row,e,fz,r1,r2⟩:=hat;have hl:=Rd.length _ _ h5;rw [huz] at hl
  have:=gH8 hT w b (k*z) ((xs.drop (k*z)).take z) hl ⟨row,e,fz,r1,fun j hj=>?_⟩ (fun h=>by rw [←huz];exact gF6 h)
  ·simp [execOp,Instr.loadAt,e2,Instr.sureAddr,this,val]
  ·rw [hl] at hj;rw [List.getElem?_take,if_pos hj,List.getElem?_drop]
   have:=r2 (k*z+j) (by simp at hl;omega)
   simpa using this
 ·simp only [SVr];exact⟨_,rfl,h5⟩
end
mutual
def SV.one:SV→Bool
 | .junk=>false
 | .ag _=>false
 | .tup _=>false
 | .d u=> !u.isSt
 | _=>true
end
def SV.ones:List SV→Bool
 | []=>true
 | c::cs=>c.one && SV.ones cs
def SV.cells:SV→List SV
 | .ag cs=>cs
 | .d u=>u.flat.map .d
 | sv=>[sv]
section
variable {S S':Nat→Prop}{L L':List LO}{env env':List Value}{w w':World}
theorem SVr.oneCell{sv:SV}{v:Value}(h1:sv.one=true)(h:SVr S L env w sv v):v.oneCell'=true:=by
 cases sv with
 | junk=>simp [SV.one] at h1
 | ag cs=>simp [SV.one] at h1
 | tup cs=>simp [SV.one] at h1
 | d u=>
   simp only [SVr] at h;obtain⟨cs,rfl,h⟩:=h;have hl:=Rd.length _ _ h;have hst:u.isSt=false:=by simpa [SV.one] using h1
   rw [gF6 hst] at hl
   match cs,hl with
   | [c],_=>
     have:=Rd.oneCell _ _ h c (by simp)
     simp [val,hst,this]
 | ptr i off=>simp only [SVr] at h;obtain⟨b,_,rfl⟩:=h;rfl
 | sl i ver=>simp only [SVr] at h;obtain⟨_,_,_,_,_,h,_⟩:=h;exact h
 | dp u=>simp only [SVr] at h;obtain⟨_,_,_,rfl,_⟩:=h;rfl
 | ep i ver z k off=>simp only [SVr] at h;obtain⟨_,_,_,_,_,h,_⟩:=h;exact h
 | fn f caps=>simp only [SVr] at h;obtain⟨_,rfl,_⟩:=h;rfl
 | nilsl=>simp only [SVr] at h;subst h;rfl
theorem kV.oneCell:∀{svs:List SV}{vs:List Value},SV.ones svs=true→kV S L env w svs vs→∀v∈vs,v.oneCell'=true
 | [],[],_,_,v,hv=>by simp at hv
 | sv::svs,v0::vs,h1,h,v,hv=>by
   simp only [SV.ones,Bool.and_eq_true] at h1;simp only [kV] at h;rcases List.mem_cons.1 hv with rfl | hv
   ·exact SVr.oneCell h1.1 h.1
   ·exact kV.oneCell h1.2 h.2 v hv
 | [],_::_,_,h,_,_=>by simp [kV] at h
 | _::_,[],_,h,_,_=>by simp [kV] at h
theorem cells_one{v:Value}(h:v.oneCell'=true):v.cells=#[v]:=by
 cases v<;>simp_all [Value.oneCell',Value.cells]
theorem SVr.leaf{u:U}(h:u.isSt=false){v:Value}:SVr S L env w (.d u) v↔Rd S w u [v]:=by
 simp only [SVr,RdV];constructor
 ·rintro⟨cs,rfl,h2⟩;have hl:=Rd.length _ _ h2;rw [gF6 h] at hl
  match cs,hl with
  | [c],_=>simpa [val,h] using h2
 ·intro h2;exact⟨[v],by simp [val,h],h2⟩
mutual
theorem U.flat_leaf:∀(u:U),∀x∈u.flat,x.isSt=false
 | .i k n,x,h=>by simp only [U.flat,List.mem_singleton] at h;subst h;rfl
 | .b _,x,h=>by simp only [U.flat,List.mem_singleton] at h;subst h;rfl
 | .s _,x,h=>by simp only [U.flat,List.mem_singleton] at h;subst h;rfl
 | .sl _ _,x,h=>by simp only [U.flat,List.mem_singleton] at h;subst h;rfl
 | .st us,x,h=>by simp only [U.flat] at h;exact U.flats_leaf us x h
theorem U.flats_leaf:∀(us:List U),∀x∈U.flats us,x.isSt=false
 | [],x,h=>by simp [U.flats] at h
 | u::us,x,h=>by
   simp only [U.flats,List.mem_append] at h;rcases h with h | h
   ·exact U.flat_leaf u x h
   ·exact U.flats_leaf us x h
end
theorem SVr.cellsr{sv:SV}{v:Value}(h1:SV.ones sv.cells=true)(h:SVr S L env w sv v):kV S L env w sv.cells v.cells.toList∧∀c∈v.cells.toList,c.oneCell'=true:=by
 have main:kV S L env w sv.cells v.cells.toList:=by
  cases sv with
  | ag cs=>
    simp only [SVr] at h;obtain⟨vs,rfl,h⟩:=h;simpa [SV.cells,Value.cells] using h
  | d u=>
    simp only [SVr] at h;obtain⟨cs,rfl,h⟩:=h;have hl:=Rd.leafs u cs h;have hcs:(val u cs).cells.toList=cs:=by
     by_cases hst:u.isSt=true
     ·simp [val,hst,Value.cells]
     ·have hst:u.isSt=false:=by simpa using hst
      have hlen:=Rd.length _ _ h;rw [gF6 hst] at hlen
      match cs,hlen,h with
      | [c],_,h=>
        have:=Rd.oneCell _ _ h c (by simp)
        simp [val,hst,cells_one this]
    rw [hcs];simp only [SV.cells];rw [kV.iff,zX.map_left];refine zX.mono (fun a b ha hab=>?_) hl;exact(SVr.leaf (U.flat_leaf u a ha)).2 hab
  | junk=>simp [SV.cells,SV.ones,SV.one] at h1
  | tup cs=>simp [SV.cells,SV.ones,SV.one] at h1
  | ptr i off=>have:=SVr.oneCell rfl h;simp only [SV.cells,cells_one this,kV];exact⟨h,trivial⟩
  | sl i ver=>have:=SVr.oneCell rfl h;simp only [SV.cells,cells_one this,kV];exact⟨h,trivial⟩
  | dp u=>have:=SVr.oneCell rfl h;simp only [SV.cells,cells_one this,kV];exact⟨h,trivial⟩
  | ep i ver z k off=>have:=SVr.oneCell rfl h;simp only [SV.cells,cells_one this,kV];exact⟨h,trivial⟩
  | fn f caps=>have:=SVr.oneCell rfl h;simp only [SV.cells,cells_one this,kV];exact⟨h,trivial⟩
  | nilsl=>have:=SVr.oneCell rfl h;simp only [SV.cells,cells_one this,kV];exact⟨h,trivial⟩
 exact⟨main,kV.oneCell h1 main⟩
end
theorem pU.new {A:Amb}{S:Nat→Prop}{L:List LO}{env:List Value}{w w':World}(h:pU A S L env w)(o:LO)(hv:Value)
  (hsz:w.heap.size≤w'.heap.size) (hold:∀b,b < w.heap.size→w'.heap[b]? =w.heap[b]?) (hos:w'.os=w.os) (htape:w'.tape=w.tape) (hout:w'.output=w.output)
  (hb:∀b,o.ft w' hv b→w.heap.size≤b∧b < w'.heap.size)
  (ho:(C:Carry S L env w S (L++[o]) (env++[hv]) w')→gLm S (L++[o]) (env++[hv]) w' o hv) :
  pU A S (L++[o]) (env++[hv]) w'∧Carry S L env w S (L++[o]) (env++[hv]) w':=by
 have hlen:=h.len;have hfe:∀(i:Nat)(o':LO)(hv':Value),L[i]? =some o'→o'.live=true→env[i]? =some hv'→∀b,o'.ft w' hv' b→o'.ft w hv' b:=fun i o' hv' h1 hl h2 b hb'=>
  (LO.ft_eq (h.objs i o' hv' h1 h2) (fun k hk=>hold k (h.excl i o' hv' k h1 hl h2 hk).2.2) b).1 hb'
 have C:Carry S L env w S (L++[o]) (env++[hv]) w':=by
  refine⟨fun _ h _=>h,fun b _ hb=>hold b hb,fun i b hi=>?_,fun i hv' o' h1 h2=>?_⟩
  ·rw [List.getElem?_append_left (List.getElem?_eq_some_iff.1 hi).1];exact hi
  ·refine⟨hv',o',?_,?_,Nat.le_refl _,fun _=>rfl⟩
   ·rw [List.getElem?_append_left (List.getElem?_eq_some_iff.1 h1).1];exact h1
   ·rw [List.getElem?_append_left (List.getElem?_eq_some_iff.1 h2).1];exact h2
 refine⟨⟨by simp [hlen],?_,?_,?_,fun b hb=>by have:=h.sS b hb;omega,h.sA,fun b h1 h2=>?_,by have:=h.size;omega,hos.trans h.os,htape.trans h.tape,hout.trans h.output,h.base.carry C h.len (by simp),h.glob⟩,C⟩
 ·intro i o' hv' h1 h2;by_cases hi:i < L.length
  ·rw [List.getElem?_append_left hi] at h1;rw [List.getElem?_append_left (by omega)] at h2;refine gLm.carry C (fun b hl hb'=>hold b ?_) (h.objs i o' hv' h1 h2);exact(h.excl i o' hv' b h1 hl h2 hb').2.2
  ·have hi':i=L.length:=by
    have:=(List.getElem?_eq_some_iff.1 h1).1
    simp at this;omega
   subst hi';rw [List.getElem?_append_right (Nat.le_refl _)] at h1;rw [List.getElem?_append_right (by omega)] at h2;simp [hlen] at h1 h2;subst h1;subst h2;exact ho C
 ·intro i o' hv' b h1 hl h2 hb';by_cases hi:i < L.length
  ·rw [List.getElem?_append_left hi] at h1;rw [List.getElem?_append_left (by omega)] at h2
   have:=h.excl i o' hv' b h1 hl h2 (hfe i o' hv' h1 hl h2 b hb')
   exact⟨this.1,this.2.1,by omega⟩
  ·have hi':i=L.length:=by
    have:=(List.getElem?_eq_some_iff.1 h1).1
    simp at this;omega
   subst hi';rw [List.getElem?_append_right (by omega)] at h1;rw [List.getElem?_append_right (by omega)] at h2;simp [hlen] at h1 h2;subst h1;subst h2
   have:=hb b hb'
   exact⟨fun hs=>by have:=h.sS _ hs;omega,.inr (Nat.le_trans h.size this.1),this.2⟩
 ·intro i j o1 o2 hv1 hv2 b h1 h2 hl1 hl2 e1 e2 b1 b2;have key:∀(i:Nat)(o':LO)(hv':Value),(L++[o])[i]? =some o'→(env++[hv])[i]? =some hv'→(L[i]? =some o'∧env[i]? =some hv'∧i < L.length)∨(i=L.length∧hv'=hv∧o'=o):=by
   intro i o' hv' h1 h2;by_cases hi:i < L.length
   ·rw [List.getElem?_append_left hi] at h1;rw [List.getElem?_append_left (by omega)] at h2;exact .inl ⟨h1,h2,hi⟩
   ·have hi':i=L.length:=by
     have:=(List.getElem?_eq_some_iff.1 h1).1
     simp at this;omega
    subst hi';rw [List.getElem?_append_right (by omega)] at h1;rw [List.getElem?_append_right (by omega)] at h2;simp [hlen] at h1 h2;exact .inr ⟨rfl,h2.symm,h1.symm⟩
  rcases key i o1 hv1 h1 e1 with ⟨k1,k2,k3⟩ | ⟨k1,k2,k4⟩<;>rcases key j o2 hv2 h2 e2 with ⟨m1,m2,m3⟩ | ⟨m1,m2,m4⟩
  ·exact h.dist i j o1 o2 hv1 hv2 b k1 m1 hl1 hl2 k2 m2 (hfe _ _ _ k1 hl1 k2 _ b1) (hfe _ _ _ m1 hl2 m2 _ b2)
  ·subst m2;subst m4
   have:=hb b b2
   have:=(h.excl i o1 hv1 b k1 hl1 k2 (hfe _ _ _ k1 hl1 k2 _ b1)).2.2
   omega
  ·subst k2;subst k4
   have:=hb b b1
   have:=(h.excl j o2 hv2 b m1 hl2 m2 (hfe _ _ _ m1 hl2 m2 _ b2)).2.2
   omega
  ·omega
 ·have:=h.size
  rw [hold b (by omega)];exact h.frame b h1 h2
theorem pU.turnF {A:Amb}{S:Nat→Prop}{L:List LO}{env:List Value}{w w':World}(h:pU A S L env w)(i:Nat)(o o2:LO)(hv:Value)
  (hL:L[i]? =some o) (hlive:o.live=true) (he:env[i]? =some hv) (hver:o2.ver=o.ver)
  (hsz:w'.heap.size=w.heap.size) (hold:∀k,¬o.ft w hv k→w'.heap[k]? =w.heap[k]?) (hos:w'.os=w.os) (htape:w'.tape=w.tape) (hout:w'.output=w.output)
  (hft:∀k,o2.ft w' hv k→o.ft w hv k)
  (ho:(C:Carry S L env w S (L.set i o2) env w')→gLm S (L.set i o2) env w' o2 hv) :
  pU A S (L.set i o2) env w'∧Carry S L env w S (L.set i o2) env w':=by
 have hi:=(List.getElem?_eq_some_iff.1 hL).1;have hex:=fun k hk=>h.excl i o hv k hL hlive he hk;have hset:∀(j:Nat)(o':LO),(L.set i o2)[j]? =some o'→(j=i∧o'=o2)∨(j≠i∧L[j]? =some o'):=by
  intro j o' hj;rw [List.getElem?_set] at hj;split at hj
  ·rename_i hij;subst hij;simp at hj;exact .inl ⟨rfl,hj.symm⟩
  ·exact .inr ⟨fun e=>by subst e;simp_all,hj⟩
 have hkeep:∀(j:Nat)(o':LO)(hv':Value),j≠i→L[j]? =some o'→o'.live=true→env[j]? =some hv'→∀k,o'.ft w hv' k→w'.heap[k]? =w.heap[k]? :=fun j o' hv' hj h3 hl h2 k hk=>
  hold k (fun e=>hj (h.dist j i o' o hv' hv k h3 hL hl hlive h2 he hk e))
 have hfe:∀(j:Nat)(o':LO)(hv':Value),j≠i→L[j]? =some o'→o'.live=true→env[j]? =some hv'→∀k,o'.ft w' hv' k→o'.ft w hv' k:=fun j o' hv' hj h3 hl h2 k hk=>
  (LO.ft_eq (h.objs j o' hv' h3 h2) (hkeep j o' hv' hj h3 hl h2) k).1 hk
 have C:Carry S L env w S (L.set i o2) env w':=by
  refine⟨fun _ h _=>h,fun k hk _=>hold k (fun e=>(hex k e).1 hk),fun i b hi=>hi,fun j hv' o' h1 h2=>?_⟩;by_cases hij:i=j
  ·subst hij;rw [hL] at h2;obtain rfl:=Option.some.inj h2;exact⟨hv',o2,h1,by rw [List.getElem?_set_self hi],by omega,fun _=>rfl⟩
  ·exact⟨hv',o',h1,by rw [List.getElem?_set_ne hij];exact h2,Nat.le_refl _,fun _=>rfl⟩
 refine⟨⟨by simp [h.len],?_,?_,?_,fun b hb=>by rw [hsz];exact h.sS b hb,h.sA,fun k h1 h2=>?_,by rw [hsz];exact h.size,hos.trans h.os,htape.trans h.tape,hout.trans h.output,h.base.carry C h.len (by simp),h.glob⟩,C⟩
 ·intro j o' hv' h1 h2;rcases hset j o' h1 with ⟨rfl,rfl⟩ | ⟨hj,h3⟩
  ·rw [he] at h2;obtain rfl:=Option.some.inj h2;exact ho C
  ·exact gLm.carry C (fun k hl hk=>hkeep j o' hv' hj h3 hl h2 k hk) (h.objs j o' hv' h3 h2)
 ·intro j o' hv' k h1 hl h2 hk;rw [hsz];rcases hset j o' h1 with ⟨rfl,rfl⟩ | ⟨hj,h3⟩
  ·rw [he] at h2;obtain rfl:=Option.some.inj h2;exact hex k (hft k hk)
  ·exact h.excl j o' hv' k h3 hl h2 (hfe j o' hv' hj h3 hl h2 k hk)
 ·intro j j' o1 o1' hv1 hv1' k h1 h2 hl1 hl2 e1 e2 b1 b2;rcases hset j o1 h1 with ⟨rfl,rfl⟩ | ⟨hj,h3⟩<;>rcases hset j' o1' h2 with ⟨rfl,rfl⟩ | ⟨hj',h3'⟩
  ·rfl
  ·rw [he] at e1;obtain rfl:=Option.some.inj e1;exact h.dist j j' o o1' _ hv1' k hL h3' hlive hl2 he e2 (hft k b1) (hfe j' o1' hv1' hj' h3' hl2 e2 k b2)
  ·rw [he] at e2;obtain rfl:=Option.some.inj e2;exact h.dist j j' o1 o hv1 _ k h3 hL hl1 hlive e1 he (hfe j o1 hv1 hj h3 hl1 e1 k b1) (hft k b2)
  ·exact h.dist j j' o1 o1' hv1 hv1' k h3 h3' hl1 hl2 e1 e2 (hfe j o1 hv1 hj h3 hl1 e1 k b1) (hfe j' o1' hv1' hj' h3' hl2 e2 k b2)
 ·by_cases hk:o.ft w hv k
  ·rcases(hex k hk).2.1 with hE | hE
   ·exact absurd hE h2
   ·omega
  ·rw [hold k hk];exact h.frame k h1 h2
theorem pU.turn {A:Amb}{S:Nat→Prop}{L:List LO}{env:List Value}{w w':World}(h:pU A S L env w)(i:Nat)(o o2:LO)(hv:Value)(b:Nat)
  (hL:L[i]? =some o) (hlive:o.live=true) (he:env[i]? =some hv) (hb:blk hv=some b) (hver:o2.ver=o.ver) (_:o2.live=true)
  (hsz:w'.heap.size=w.heap.size) (hold:∀k,k≠b→w'.heap[k]? =w.heap[k]?) (hos:w'.os=w.os) (htape:w'.tape=w.tape) (hout:w'.output=w.output)
  (ho:(C:Carry S L env w S (L.set i o2) env w')→gLm S (L.set i o2) env w' o2 hv)
  (hft1:∀k,blk hv=some k→o.ft w hv k:=by intro k hk;exact hk) (hft2:∀k,o2.ft w' hv k→blk hv=some k:=by intro k hk;exact hk) :
  pU A S (L.set i o2) env w'∧Carry S L env w S (L.set i o2) env w':=
 h.turnF i o o2 hv hL hlive he hver hsz (fun k hk=>hold k (fun e=>hk (hft1 k (e▸hb)))) hos htape hout (fun k hk=>hft1 k (hft2 k hk)) ho
section
variable {P:Program}{A:Amb}{σ:St}{K:St→Prop}
variable {ops:Array Oper}{rest:List Oper}{t:Nat}{ty:TypeId}{pos:String}{af:Array Edge}{x y:Operand}{sv:SV}
theorem gH9 {o:Oper}{σ':St}(hg:o.guard=none)
  (hs:∀(S:Nat→Prop)(env:List Value)(a:Act)(w:World),pU A S σ.L env w→(∀t,SVr S σ.L env w (look σ.fr t) (a.tmps.getD t undef))→a.tmps.size=σ.N→a.defers=[]→
   ∃n w',(execOp a.eval o).run P w=.ok n w'∧((∃v,n=.value v∧mP A σ' (a.put o.dst v) w')∨(n=.skip∧mP A σ' (a.put o.dst undef) w')))
  (h:VO P A ops rest σ' K):VO P A ops (o::rest) σ K:=by
 intro R hR a w ⟨S,env,hH,hf,hN,hd⟩;refine wpList_plain hg fun K' hK'=>?_;obtain⟨n,w',h1,h2⟩:=hs S env a w hH hf hN hd;unfold Oper.wp;rw [h1];rcases h2 with ⟨v,rfl,h2⟩ | ⟨rfl,h2⟩
 ·exact hK' _ _ (h R hR _ _ h2)
 ·exact hK' _ _ (h R hR _ _ h2)
theorem hSn {T:TypeId}{fr:List (Nat × SV)}{L L':List LO}{N i:Nat}{cs:List SV}(hx:(St.mk fr L N).ev x=sv)(hcs:sv.cells=cs)(hs:SV.ones cs=true)(ht:Nat.blt t N=true)(hi:L.length=i)(hL':L++[.box cs]=L')
  (h:VO P A ops rest ⟨(t,.ptr i 0)::fr,L',N⟩ K) :
  VO P A ops (⟨some t,.box T x,ty,pos,af,none⟩::rest) ⟨fr,L,N⟩ K:=by
 subst hi;subst hL';subst hcs;refine gH9 rfl (fun S env a w hH hf hN hd=>?_) h;have h1:=mP.ev hf hH x;rw [hx] at h1;obtain⟨h2,h3⟩:=SVr.cellsr hs h1
 obtain⟨hH',C⟩:=hH.new (w':=w.alloc (.cells (a.eval x).cells T)) (.box sv.cells) (.pointer (some ⟨w.heap.size,0,none⟩)) (by simp) (fun b hb=>heap_alloc_old w _ hb) rfl rfl rfl
  (fun b hb=>by simp [LO.ft,blk] at hb;subst hb;simp)
  (fun C=>⟨w.heap.size,_,T,rfl,heap_alloc_new w _,kV.carry C _ _ h2,h3⟩)
 refine⟨.value (.pointer (some ⟨w.heap.size,0,none⟩)),w.alloc (.cells (a.eval x).cells T),?_,.inl ⟨_,rfl,vZ hf hN hd ht hH' C ?_⟩⟩
 ·simp [execOp,Instr.box,newVar,newRow]
 ·simp only [SVr];exact⟨w.heap.size,by rw [←hH.len];simp,rfl⟩
theorem gPz{S:Nat→Prop}{L:List LO}{env:List Value}{w:World}:∀(vs:List Value),kV S L env w (vs.map gJ3) vs
 | []=>by simp [kV]
 | v::vs=>by simp only [List.map_cons,kV];exact⟨hMw v,gPz vs⟩
theorem gR4{T:TypeId}{zs:List Value}(h:tyZ P T=some zs)(w:World):∃z,(zeroValue T).run P w=.ok z w∧z.cells.toList=zs:=by
 unfold tyZ at h;split at h
 ·rename_i i hi;cases hz:i.zero with
  | none=>rw [hz] at h;simp at h
  | some z=>
    rw [hz] at h;simp only [Option.map_some,Option.some.injEq] at h;exact⟨z,by simp [zeroValue,run_typeInfo hi,hz],h⟩
 ·cases h
theorem hGk {T:TypeId}{zs:List Value}{fr:List (Nat × SV)}{L L':List LO}{N i:Nat}{cs:List SV}(hz:tyZ P T=some zs)(hcs:zs.map gJ3=cs)(hs:SV.ones cs=true)(ht:Nat.blt t N=true)(hi:L.length=i)(hL':L++[.box cs]=L')
  (h:VO P A ops rest ⟨(t,.ptr i 0)::fr,L',N⟩ K) :
  VO P A ops (⟨some t,.alloc T,ty,pos,af,none⟩::rest) ⟨fr,L,N⟩ K:=by
 subst hi;subst hL';subst hcs;refine gH9 rfl (fun S env a w hH hf hN hd=>?_) h;obtain⟨z,hrun,hcells⟩:=gR4 hz w
 obtain⟨hH',C⟩:=hH.new (w':=w.alloc (.cells z.cells T)) (.box (zs.map gJ3)) (.pointer (some ⟨w.heap.size,0,none⟩)) (by simp) (fun b hb=>heap_alloc_old w _ hb) rfl rfl rfl
  (fun b hb=>by simp [LO.ft,blk] at hb;subst hb;simp)
  (fun C=>⟨w.heap.size,_,T,rfl,heap_alloc_new w _,by rw [hcells];exact gPz zs,by rw [hcells];exact kV.oneCell hs (gPz (S:=S) (L:=[]) (env:=[]) (w:=w) zs)⟩)
 refine⟨.value (.pointer (some ⟨w.heap.size,0,none⟩)),w.alloc (.cells z.cells T),?_,.inl ⟨_,rfl,vZ hf hN hd ht hH' C ?_⟩⟩
 ·simp [execOp,Instr.alloc,newVar,newRow,hrun]
 ·simp only [SVr];exact⟨w.heap.size,by rw [←hH.len];simp,rfl⟩
theorem setRow_size(w:World)(g:Nat)(cur:Array Value):(w.setRow g cur).heap.size=w.heap.size:=by simp [World.setRow]
theorem hGl {T:TypeId}{gg:Bool}{i off n bs:Nat}{cs ds cs':List SV}{fr:List (Nat × SV)}{L L':List LO}{N:Nat}(hx:(St.mk fr L N).ev x=.ptr i off)(hL:L[i]? =some (.box cs))(hy:(St.mk fr L N).ev y=sv)(hds:sv.cells=ds)(hs:SV.ones ds=true)
  (hT:tyI P T=some (gg,n,bs)) (hn:ds.length=n) (hfit:Nat.ble (off+n) cs.length=true) (hcs':cs.take off++ds++cs.drop (off+n)=cs') (hL':L.set i (.box cs')=L')
  (h:VO P A ops rest ⟨fr,L',N⟩ K) :
  VO P A ops (⟨none,.store T x y,ty,pos,af,none⟩::rest) ⟨fr,L,N⟩ K:=by
 subst hL';subst hcs';subst hds;refine gH9 rfl (fun S env a w hH hf hN hd=>?_) h;have h1:=mP.ev hf hH x;have h2:=mP.ev hf hH y;rw [hx] at h1;rw [hy] at h2;simp only [SVr] at h1;obtain⟨b,k1,k2⟩:=h1;obtain⟨h3,h4⟩:=SVr.cellsr hs h2;obtain⟨b',vals,e,m1,m2,m3,m4⟩:=hH.objs i _ _ hL k1;simp only [Value.pointer.injEq,Option.some.injEq,Addr.mk.injEq,and_true] at m1;subst m1;have hlen:=kV.length m3;have hlen2:=kV.length h3;have hfit':=Nat.le_of_ble_eq_true hfit;have hnl:(a.eval y).cells.toList.length=n:=by omega
 have hst:=run_storeCells_at P b off e (a.eval y).cells.toList 0 vals w m2 (by simp at hlen hnl ⊢;omega) h4;have hrow:=setRow_heap w b vals ((vals.toList.take off++(a.eval y).cells.toList++vals.toList.drop (off+n)).toArray) e (0,0) m2;rw [Nat.add_zero,hnl] at hst
 obtain⟨hH',C⟩:=hH.turn (w':=w.setRow b (vals.toList.take off++(a.eval y).cells.toList++vals.toList.drop (off+n)).toArray) i (.box cs) (.box (cs.take off++sv.cells++cs.drop (off+n))) _ b hL rfl k1 rfl rfl rfl
  (setRow_size _ _ _) (fun k hk=>setRow_other w b k _ hk) rfl rfl rfl
  (fun C=>⟨b,_,e,rfl,hrow,by
   rw [kV.iff];refine zX.append (zX.append (zX.take off ((kV.iff _ _).1 (kV.carry C _ _ m3))) ((kV.iff _ _).1 (kV.carry C _ _ h3))) ?_;exact zX.drop (off+n) ((kV.iff _ _).1 (kV.carry C _ _ m3)),by
   intro v hv;simp only [List.mem_append] at hv;rcases hv with (hv | hv) | hv
   ·exact m4 v (List.mem_of_mem_take hv)
   ·exact h4 v hv
   ·exact m4 v (List.mem_of_mem_drop hv)⟩)
 refine⟨.skip,_,?_,.inr ⟨rfl,gFg hf hN hd hH' C⟩⟩;have hsz:(a.eval y).cells.size=n:=by simpa using hnl
 simp [execOp,Instr.storeAt,k2,Instr.sureAddr,storeVar,run_sizeOf hT,hsz,hst]
section
variable {T:TypeId}{fr:List (Nat × SV)}{L L':List LO}{N i j ver off n bs:Nat}{cs ds cs':List SV}{us:List U}{u:U}{gg:Bool}
end
end
section
variable {S:Nat→Prop}{w:World}
theorem RdE.gather{z b:Nat}:∀(us:List U)(off:Nat),RdE S w z b off us→(∀u∈us,u.sz=z)→∃cs,cs.length=us.length*z∧Rds S w us cs∧(∀(j:Nat)(v:Value),cs[j]? =some v→w.cell? ⟨b,off+j,none⟩=some v)
 | [],off,_,_=>⟨[],by simp,by simp [Rds],fun j v h=>by simp at h⟩
 | u::us,off,h,hz=>by
   simp only [RdE] at h;obtain⟨⟨c1,h1,⟨row,e,fz,r1,r2⟩,h3⟩,h4⟩:=h;obtain⟨c2,k1,k2,k3⟩:=RdE.gather us (off+z) h4 (fun v hv=>hz v (by simp [hv]));refine⟨c1++c2,by simp [h1,k1,Nat.add_mul];omega,?_,fun j v hj=>?_⟩
   ·simp only [Rds];exact⟨c1,c2,rfl,h3,k2⟩
   ·by_cases hlt:j < c1.length
    ·rw [List.getElem?_append_left hlt] at hj
     have:=r2 j hlt
     rw [hj] at this;simp [World.cell?,r1,this]
    ·rw [List.getElem?_append_right (by omega)] at hj
     have:=k3 _ _ hj
     rw [←this];congr 2;omega
structure Src (S:Nat→Prop)(w:World)(z:Nat)(us:List U)(v:Value)(news:List Value):Prop where
 form:∃base c,v=.slice base us.length c∧(us=[]∨∃a,base=some a∧∀(j:Nat)(u:Value),news[j]? =some u→w.cell? (a.add j)=some u)
 rds:Rds S w us news
 len:news.length=us.length*z
 one:∀u∈news,u.oneCell'=true
theorem Src.of_data{L:List LO}{env:List Value}{z:Nat}{us:List U}{v:Value}(h:SVr S L env w (.d (.sl z us)) v)(hz:∀u∈us,u.sz=z):∃news,Src S w z us v news:=by
 rw [SVr.slice] at h;obtain⟨_,base,cap,rfl,h⟩:=h;rcases h with rfl | ⟨b,off,rfl,_,h⟩
 ·exact⟨[],⟨base,_,rfl,.inl rfl⟩,by simp [Rds],by simp,by simp⟩
 ·obtain⟨cs,h1,h2,h3⟩:=RdE.gather us off h hz;exact⟨cs,⟨_,_,rfl,.inr ⟨_,rfl,fun j u hu=>by rw [Addr.add_lit];exact h3 j u hu⟩⟩,h2,h1,Rds.oneCell us cs h2⟩
theorem Src.of_arr{L:List LO}{env:List Value}{e z ver:Nat}{us:List U}{hv:Value}(h:gLm S L env w (.arr e z ver us) hv):∃news,Src S w z us hv news:=by
 obtain⟨_,hz,xs,h1,h2⟩:=h;refine⟨xs,?_,h2,h1.1,Rds.oneCell us xs h2⟩;rcases h1.2 with ⟨rfl,h0⟩ | ⟨g,cap,cur,rfl,_,hg,hc1,hc2,hc3,htake⟩
 ·exact⟨none,0,by rw [h0],.inl (List.eq_nil_of_length_eq_zero h0)⟩
 ·refine⟨some ⟨g,0,none⟩,cap,rfl,.inr ⟨_,rfl,fun j u hu=>h1.cells (g:=g) rfl j u hu⟩⟩
end
theorem hNe {P:Program}{S:Nat→Prop}{w:World}{T e:TypeId}{ty:TypeId}{gg:Bool}{z bs:Nat}{zs:List Value}(hT:tyE P T=some e)(he:tyI P e=some (gg,z,bs))(_:0 < z)(hZ:tyZ P e=some zs)(hzl:zs.length=z)
  {hv:Value} {n:Nat} {xs:List Value} (hown:w.ownsRow 0 e z hv n xs) {us:List U} {v2:Value} {news:List Value} (src:Src S w z us v2 news)
  (hbig:n+us.length≤big) (hbytes:(n+us.length)*bs≤140737488355328) :
  ∃v' w',(Builtin.append_ #[T,T] ty #[hv,v2]).run P w=.ok v' w'∧w'.ownsRow 0 e z v' (n+us.length) (xs++news)∧
   w'.os=w.os∧w'.tape=w.tape∧w'.output=w.output∧w.heap.size≤w'.heap.size∧(∀k,k < w.heap.size→blk hv≠some k→w'.heap[k]? =w.heap[k]?)∧
   (∀k,blk v'=some k→k < w'.heap.size∧(blk hv=some k∨w.heap.size≤k)):=by
 obtain⟨i,hi,his,hib⟩:=gZ2 he;have hsl:=gA8 hT;obtain⟨zv,hzv,hzc⟩:∃zv,i.zero=some zv∧zv.cells.toList=zs:=by
  unfold tyZ at hZ;simp only [hi] at hZ;cases hz:i.zero with
  | none=>simp [hz] at hZ
  | some zv=>exact⟨zv,rfl,by simpa [hz] using hZ⟩
 have hzsz:zv.cells.size=z:=by rw [←hzl,←hzc];simp
 obtain⟨⟨base,c,rfl,hbase⟩,hr,hl,h1⟩:=src;rw [gAy] at hbig;have hmax:n+us.length≤maxLen:=by simp only [maxLen];omega
 have hxl:=hown.1;by_cases hm:us=[]
 ·subst hm;have hnews:news=[]:=List.eq_nil_of_length_eq_zero (by simpa using hl);subst hnews;refine⟨hv,w,?_,by simpa using hown,rfl,rfl,rfl,Nat.le_refl _,fun _ _ _=>rfl,fun k hk=>?_⟩
  ·rcases hown.2 with ⟨rfl,rfl⟩ | ⟨g,cap,cur,rfl,_,hg,hnc,_⟩
   ·cases base<;>simp [Builtin.append_,run_underlying hsl,sizeOf,typeInfo,hi,Builtin.lenOf,Builtin.firstCells,loadCells,loadCellsFrom]
   ·cases base<;>simp [Builtin.append_,run_underlying hsl,sizeOf,typeInfo,hi,Builtin.lenOf,Builtin.firstCells,loadCells,loadCellsFrom,hnc,storeCells]
  ·rcases hown.2 with ⟨rfl,rfl⟩ | ⟨g,cap,cur,rfl,_,hg,hnc,_⟩
   ·simp [blk] at hk
   ·simp [blk] at hk;subst hk;exact⟨(Array.getElem?_eq_some_iff.1 hg).1,.inl rfl⟩
 ·have hm0:0 < us.length:=List.length_pos_iff.2 hm;obtain⟨a,rfl,hnews⟩:=hbase.resolve_left hm
  have mk:∀old,old < n+us.length→∀(cells:Array Value),cells=xs.toArray++news.toArray++Builtin.zeroCells zv.cells (grownCap w (n+us.length) old e - (n+us.length))→
    (w.drew.alloc (.cells cells e)).ownsRow 0 e z (.slice (some ⟨w.heap.size,0,none⟩) (n+us.length) (grownCap w (n+us.length) old e)) (n+us.length) (xs++news):=by
   intro old _ cells hcells;have hge:=grownCap_ge w (n+us.length) old e;refine⟨by rw [List.length_append,hxl,hl,Nat.add_mul],.inr ⟨w.heap.size,_,cells,rfl,Nat.zero_le _,heap_alloc_new w.drew _,hge,grownCap_le_maxLen w _ old e hmax,?_,?_⟩⟩
   ·rw [hcells];simp only [Array.size_append,List.size_toArray,size_zeroCells,hzsz,hxl,hl,←Nat.add_mul];congr 1;omega
   ·rw [hcells];have hlen:(n+us.length)*z=(xs++news).length:=by rw [List.length_append,hxl,hl,Nat.add_mul]
    simp only [Array.toList_append,List.append_assoc];rw [←List.append_assoc,hlen,List.take_left]
  rcases hown.2 with ⟨rfl,rfl⟩ | ⟨g,cap,cur,rfl,_,hg,hnc,hcm,hcs,htake⟩
  ·have hx:xs=[]:=List.eq_nil_of_length_eq_zero (by simpa using hxl);subst hx;have hrun:=run_append_nil (P:=P) w T ty e i zv hsl hi hzv a us.length c news (by rw [his];exact hl) hnews hm0 (by omega) (by rw [hib];simp at hbytes;omega);have ho:=mk 0 (by omega) _ rfl;simp only [Nat.zero_add,List.nil_append] at ho ⊢;refine⟨_,_,hrun,by simpa using ho,rfl,rfl,rfl,by simp,fun k hk _=>heap_alloc_old w.drew _ hk,fun k hk=>?_⟩;simp [blk] at hk;subst hk;exact⟨by simp,.inr (Nat.le_refl _)⟩
  ·by_cases hroom:n+us.length≤cap
   ·have hfit:n*i.size+news.length≤cur.size:=by rw [hl,hcs,his,←Nat.add_mul];exact Nat.mul_le_mul_right _ hroom
    have hrun:=run_append_room (P:=P) w T ty e i hsl hi g n cap cur hg a us.length c news (by rw [his];exact hl) hnews h1 hroom hfit;have hrow:=setRow_heap w g cur ((cur.toList.take (n*i.size)++news++cur.toList.drop (n*i.size+news.length)).toArray) e (0,0) hg;refine⟨_,_,hrun,⟨by rw [List.length_append,hxl,hl,Nat.add_mul],.inr ⟨g,cap,_,rfl,Nat.zero_le _,hrow,hroom,hcm,?_,?_⟩⟩,rfl,rfl,rfl,by rw [setRow_size];exact Nat.le_refl _,fun k _ hk=>setRow_other w g k _ (fun e=>hk (by simp [blk,e])),fun k hk=>?_⟩
    ·simp only [List.size_toArray,List.length_append,List.length_take,List.length_drop,Array.length_toList];omega
    ·have hlen:(n+us.length)*z=(xs++news).length:=by rw [List.length_append,hxl,hl,Nat.add_mul]
     rw [his,htake,hlen];exact List.take_left
    ·simp [blk] at hk;subst hk;exact⟨by rw [setRow_size];exact(Array.getElem?_eq_some_iff.1 hg).1,.inl (by simp [blk])⟩
   ·have holds:∀(j:Nat)(u:Value),xs[j]? =some u→w.cell? ((⟨g,0,none⟩:Addr).add j)=some u:=hown.cells (g:=g) rfl;have hrun:=run_append_grow (P:=P) w T ty e i zv hsl hi hzv ⟨g,0,none⟩ n cap xs (by rw [his];exact hxl) holds a us.length c news (by rw [his];exact hl) hnews (by omega) (by omega) (by rw [hib];exact growslice_fits (by omega) hbytes);refine⟨_,_,hrun,mk cap (by omega) _ rfl,rfl,rfl,rfl,by simp,fun k hk _=>heap_alloc_old w.drew _ hk,fun k hk=>?_⟩;simp [blk] at hk;subst hk;exact⟨by simp,.inr (Nat.le_refl _)⟩
theorem pU.move {A:Amb}{S:Nat→Prop}{L:List LO}{env:List Value}{w w':World}(h:pU A S L env w)(i:Nat)(o o2:LO)(hv hv2:Value)
  (hL:L[i]? =some o) (hlive:o.live=true) (he:env[i]? =some hv) (hver:o.ver < o2.ver) (hnp:∀b,hv≠.pointer (some ⟨b,0,none⟩))
  (hsz:w.heap.size≤w'.heap.size) (hold:∀k,k < w.heap.size→blk hv≠some k→w'.heap[k]? =w.heap[k]?) (hos:w'.os=w.os) (htape:w'.tape=w.tape) (hout:w'.output=w.output)
  (hb2:∀k,blk hv2=some k→k < w'.heap.size∧(blk hv=some k∨w.heap.size≤k))
  (ho:(C:Carry S L env w S (L.set i o2) (env.set i hv2) w')→gLm S (L.set i o2) (env.set i hv2) w' o2 hv2)
  (hft1:∀k,blk hv=some k→o.ft w hv k:=by intro k hk;exact hk) (hft2:∀k,o2.ft w' hv2 k→blk hv2=some k:=by intro k hk;exact hk) :
  pU A S (L.set i o2) (env.set i hv2) w'∧Carry S L env w S (L.set i o2) (env.set i hv2) w':=by
 have hi:=(List.getElem?_eq_some_iff.1 hL).1;have hie:=(List.getElem?_eq_some_iff.1 he).1;have hset:∀(j:Nat)(o':LO)(hv':Value),(L.set i o2)[j]? =some o'→(env.set i hv2)[j]? =some hv'→(j=i∧o'=o2∧hv'=hv2)∨(j≠i∧L[j]? =some o'∧env[j]? =some hv'):=by
  intro j o' hv' hj hj';by_cases hij:i=j
  ·subst hij;rw [List.getElem?_set_self hi] at hj;rw [List.getElem?_set_self hie] at hj';exact .inl ⟨rfl,(Option.some.inj hj).symm,(Option.some.inj hj').symm⟩
  ·rw [List.getElem?_set_ne hij] at hj hj';exact .inr ⟨fun e=>hij e.symm,hj,hj'⟩
 have hkeep:∀(j:Nat)(o':LO)(hv':Value),j≠i→L[j]? =some o'→o'.live=true→env[j]? =some hv'→∀k,o'.ft w hv' k→w'.heap[k]? =w.heap[k]? :=fun j o' hv' hj h3 hl h2 k hk=>
  hold k (h.excl j o' hv' k h3 hl h2 hk).2.2 (fun e=>hj (h.dist j i o' o hv' hv k h3 hL hl hlive h2 he hk (hft1 k e)))
 have hfe:∀(j:Nat)(o':LO)(hv':Value),j≠i→L[j]? =some o'→o'.live=true→env[j]? =some hv'→∀k,o'.ft w' hv' k→o'.ft w hv' k:=fun j o' hv' hj h3 hl h2 k hk=>
  (LO.ft_eq (h.objs j o' hv' h3 h2) (hkeep j o' hv' hj h3 hl h2) k).1 hk
 have C:Carry S L env w S (L.set i o2) (env.set i hv2) w':=by
  refine⟨fun _ h _=>h,fun k hk hlt=>hold k hlt (fun e=>(h.excl i o hv k hL hlive he (hft1 k e)).1 hk),fun j b hj=>?_,fun j hv' o' h1 h2=>?_⟩
  ·by_cases hij:i=j
   ·subst hij;rw [he] at hj;exact absurd (Option.some.inj hj) (hnp b)
   ·rw [List.getElem?_set_ne hij];exact hj
  ·by_cases hij:i=j
   ·subst hij;rw [hL] at h2;obtain rfl:=Option.some.inj h2;exact⟨hv2,o2,by rw [List.getElem?_set_self hie],by rw [List.getElem?_set_self hi],Nat.le_of_lt hver,fun e=>by omega⟩
   ·exact⟨hv',o',by rw [List.getElem?_set_ne hij];exact h1,by rw [List.getElem?_set_ne hij];exact h2,Nat.le_refl _,fun _=>rfl⟩
 have hblk:∀k,blk hv2=some k→¬S k∧(A.E k∨A.w0.heap.size≤k)∧k < w'.heap.size:=by
  intro k hk;obtain⟨h1,h2⟩:=hb2 k hk;rcases h2 with h2 | h2
  ·have:=h.excl i o hv k hL hlive he (hft1 k h2)
   exact⟨this.1,this.2.1,h1⟩
  ·exact⟨fun hs=>by have:=h.sS k hs;omega,.inr (Nat.le_trans h.size h2),h1⟩
 have hne:∀(j:Nat)(o':LO)(hv':Value)(k:Nat),j≠i→L[j]? =some o'→o'.live=true→env[j]? =some hv'→o'.ft w hv' k→blk hv2=some k→False:=by
  intro j o' hv' k hj h1 h2 h3 h4 h5;rcases(hb2 k h5).2 with h6 | h6
  ·exact hj (h.dist j i o' o hv' hv k h1 hL h2 hlive h3 he h4 (hft1 k h6))
  ·have:=(h.excl j o' hv' k h1 h2 h3 h4).2.2
   omega
 refine⟨⟨by simp [h.len],?_,?_,?_,fun b hb=>Nat.lt_of_lt_of_le (h.sS b hb) hsz,h.sA,fun k h1 h2=>?_,Nat.le_trans h.size hsz,hos.trans h.os,htape.trans h.tape,hout.trans h.output,h.base.carry C h.len (by simp),h.glob⟩,C⟩
 ·intro j o' hv' h1 h2;rcases hset j o' hv' h1 h2 with ⟨rfl,rfl,rfl⟩ | ⟨hj,h3,h4⟩
  ·exact ho C
  ·exact gLm.carry C (fun k hl hk=>hkeep j o' hv' hj h3 hl h4 k hk) (h.objs j o' hv' h3 h4)
 ·intro j o' hv' k h1 hl h2 hk;rcases hset j o' hv' h1 h2 with ⟨rfl,rfl,rfl⟩ | ⟨hj,h3,h4⟩
  ·exact hblk k (hft2 k hk)
  ·have:=h.excl j o' hv' k h3 hl h4 (hfe j o' hv' hj h3 hl h4 k hk)
   exact⟨this.1,this.2.1,by omega⟩
 ·intro j j' o1 o1' hv1 hv1' k h1 h2 hl1 hl2 e1 e2 b1 b2;rcases hset j o1 hv1 h1 e1 with ⟨rfl,rfl,rfl⟩ | ⟨hj,h3,h4⟩<;>rcases hset j' o1' hv1' h2 e2 with ⟨rfl,rfl,rfl⟩ | ⟨hj',h3',h4'⟩
  ·rfl
  ·exact(hne j' o1' hv1' k hj' h3' hl2 h4' (hfe j' o1' hv1' hj' h3' hl2 h4' k b2) (hft2 k b1)).elim
  ·exact(hne j o1 hv1 k hj h3 hl1 h4 (hfe j o1 hv1 hj h3 hl1 h4 k b1) (hft2 k b2)).elim
  ·exact h.dist j j' o1 o1' hv1 hv1' k h3 h3' hl1 hl2 h4 h4' (hfe j o1 hv1 hj h3 hl1 h4 k b1) (hfe j' o1' hv1' hj' h3' hl2 h4' k b2)
 ·by_cases hk:blk hv=some k
  ·rcases(h.excl i o hv k hL hlive he (hft1 k hk)).2.1 with hE | hE
   ·exact absurd hE h2
   ·omega
  ·rw [hold k (Nat.lt_of_lt_of_le h1 h.size) hk];exact h.frame k h1 h2
section
variable {P:Program}{A:Amb}{σ:St}{K:St→Prop}
variable {ops:Array Oper}{rest:List Oper}{t:Nat}{ty:TypeId}{pos:String}{af:Array Edge}{x y:Operand}{sv:SV}
def SrcOf(σ:St)(z:Nat)(us:List U):SV→Prop
 | .d (.sl z' us')=>z'=z∧us'=us∧∀u∈us,u.sz=z
 | .sl i ver=>∃e,σ.L[i]? =some (.arr e z ver us)
 | .nilsl=>us=[]
 | _=>False
theorem SrcOf.src{S:Nat→Prop}{env:List Value}{w:World}(hH:pU A S σ.L env w){z:Nat}{us:List U}{v:Value}(h:SrcOf σ z us sv)(hv:SVr S σ.L env w sv v):∃news,Src S w z us v news:=by
 cases sv with
 | d u=>
   cases u with
   | sl z' us'=>
     obtain⟨rfl,rfl,hz⟩:=h;exact Src.of_data hv hz
   | _=>exact h.elim
 | sl i ver=>
   obtain⟨e,h⟩:=h;simp only [SVr] at hv;obtain⟨hv',o,k1,k2,k3,k5,k4⟩:=hv;rw [h] at k2;obtain rfl:=Option.some.inj k2;rw [k4 rfl];exact Src.of_arr (hH.objs i _ _ h k1)
 | nilsl=>
   simp only [SVr] at hv
   have:us=[]:=h
   subst this;subst hv;exact⟨[],⟨none,0,rfl,.inl rfl⟩,by simp [Rds],by simp,by simp⟩
 | _=>exact h.elim
theorem hNg {T e T':TypeId}{gg:Bool}{z bs i ver:Nat}{zs:List Value}{es us:List U}{sy:SV}{fr:List (Nat × SV)}{L L':List LO}{N:Nat}(hx:(St.mk fr L N).ev x=.sl i ver)(hL:L[i]? =some (.arr e z ver es))(hy:(St.mk fr L N).ev y=sy)(hs:SrcOf ⟨fr,L,N⟩ z us sy)
  (hT:tyE P T=some e) (he:tyI P e=some (gg,z,bs)) (hZ:tyZ P e=some zs) (hz:(Nat.blt 0 z && zs.length==z)=true) (hus:∀u∈us,u.sz=z)
  (hbig:es.length+us.length≤big) (hbytes:(es.length+us.length)*bs≤140737488355328) (ht:Nat.blt t N=true) (hL':L.set i (.arr e z (ver+1) (es++us))=L')
  (h:VO P A ops rest ⟨(t,.sl i (ver+1))::fr,L',N⟩ K) :
  VO P A ops (⟨some t,.call { callee:=.builtin .append,args:=#[x,y],argTypes:=#[T,T] },T',pos,af,none⟩::rest) ⟨fr,L,N⟩ K:=by
 subst hL';refine gH9 rfl (fun S env a w hH hf hN hd=>?_) h;have h1:=mP.ev hf hH x;have h2:=mP.ev hf hH y;rw [hx] at h1;rw [hy] at h2;simp only [Bool.and_eq_true,Nat.blt_eq,beq_iff_eq] at hz;obtain⟨news,src⟩:=SrcOf.src hH hs h2;simp only [SVr] at h1;obtain⟨hv,o,k1,k2,k3,k5,k4⟩:=h1;rw [hL] at k2;obtain rfl:=Option.some.inj k2;have k6:=k4 rfl;obtain⟨hb0,hzs,xs,m1,m2⟩:=hH.objs i _ hv hL k1;obtain⟨v',w',hrun,hown,e1,e2,e3,e4,e5,e6⟩:=hNe (P:=P) (ty:=T') hT he hz.1 hZ hz.2 m1 src hbig hbytes;have hnp:∀b,hv≠.pointer (some ⟨b,0,none⟩):=by
  intro b hb;rcases m1.2 with ⟨h,_⟩ | ⟨g,cap,cur,h,_⟩<;>rw [h] at hb<;>cases hb
 obtain⟨hH',C⟩:=hH.move (w':=w') i _ (.arr e z (ver+1) (es++us)) hv v' hL rfl k1 (by simp [LO.ver]) hnp e4 e5 e1 e2 e3 e6
  (fun C=>⟨by rw [List.length_append];exact hbig,fun u hu=>(List.mem_append.1 hu).elim (hzs u) (hus u),xs++news,by rw [List.length_append];exact hown,Rds.append _ _ _ _ (Rds.mono C.hS C.hw _ _ m2) (Rds.mono C.hS C.hw _ _ src.rds)⟩)
 refine⟨.value v',w',?_,.inl ⟨_,rfl,vZ hf hN hd ht hH' C ?_⟩⟩
 ·rw [←k6] at hrun;simp [execOp,resolve,invoke,builtin,hrun]
 ·have hie:=(List.getElem?_eq_some_iff.1 k1).1;have hi:=(List.getElem?_eq_some_iff.1 hL).1;simp only [SVr];refine⟨v',_,by rw [List.getElem?_set_self hie],by rw [List.getElem?_set_self hi],Nat.le_refl _,?_,fun _=>rfl⟩;rcases hown.2 with ⟨h,_⟩ | ⟨g,cap,cur,h,_⟩<;>rw [h]<;>rfl
end
def VL(L:List LO):SV→U→Prop
 | .d u,u'=>u=u'
 | .nilsl,.sl _ us=>us=[]
 | .sl i ver,.sl z es=>∃e,L[i]? =some (.frz e z ver es)
 | _,_=>False
def VLs(L:List LO):List SV→List U→Prop
 | [],[]=>True
 | sv::svs,u::us=>VL L sv u∧VLs L svs us
 | _,_=>False
def VD(L:List LO):SV→U→Prop
 | .ag cs,.st us=>VLs L cs (U.flats us)
 | sv,u=>VL L sv u
section
variable {A:Amb}{S:Nat→Prop}{L:List LO}{env:List Value}{w:World}
theorem VL.r(hH:pU A S L env w){sv:SV}{u:U}{v:Value}(h:VL L sv u)(hv:SVr S L env w sv v):SVr S L env w (.d u) v:=by
 cases sv with
 | d u'=>have:u'=u:=h;subst this;exact hv
 | nilsl=>
   cases u with
   | sl z us=>
     have:us=[]:=h
     subst this;simp only [SVr] at hv;subst hv;exact SVr.slice.2 ⟨by simp [gAy],none,0,rfl,.inl rfl⟩
   | _=>exact h.elim
 | sl i ver=>
   cases u with
   | sl z us=>
     obtain⟨e,h⟩:=h;simp only [SVr] at hv;obtain⟨hv',o,k1,k2,k3,k5,k4⟩:=hv;rw [h] at k2;obtain rfl:=Option.some.inj k2;rw [k4 rfl];simp only [SVr];exact hH.objs i _ _ h k1
   | _=>exact h.elim
 | _=>exact h.elim
theorem VLs.r(hH:pU A S L env w):∀{svs:List SV}{us:List U}{vs:List Value},(∀u∈us,u.isSt=false)→VLs L svs us→kV S L env w svs vs→zX (fun u c=>Rd S w u [c]) us vs
 | [],[],[],_,_,_=>trivial
 | sv::svs,u::us,v::vs,hu,h,hv=>by
   simp only [kV] at hv;exact⟨(SVr.leaf (hu u (by simp))).1 (VL.r hH h.1 hv.1),VLs.r hH (fun u hu'=>hu u (by simp [hu'])) h.2 hv.2⟩
 | [],_::_,_,_,h,_=>h.elim
 | _::_,[],_,_,h,_=>h.elim
 | [],[],_::_,_,_,h=>by simp [kV] at h
 | _::_,_::_,[],_,_,h=>by simp [kV] at h
theorem VD.r(hH:pU A S L env w){sv:SV}{u:U}{v:Value}(h:VD L sv u)(hv:SVr S L env w sv v):SVr S L env w (.d u) v:=by
 cases sv with
 | ag cs=>
   cases u with
   | st us=>
     have h:VLs L cs (U.flats us):=h;simp only [SVr] at hv;obtain⟨vs,rfl,hv⟩:=hv
     have:=VLs.r hH (U.flats_leaf us) h hv
     simp only [SVr];refine⟨vs,rfl,?_⟩;simp only [Rd];exact Rds.of_leafs us vs this
   | _=>exact h.elim
 | d u'=>exact VL.r hH (show VL L (.d u') u by cases u<;>exact h) hv
 | nilsl=>exact VL.r hH (show VL L .nilsl u by cases u<;>exact h) hv
 | sl i ver=>exact VL.r hH (show VL L (.sl i ver) u by cases u<;>exact h) hv
 | junk=>cases u<;>exact h.elim
 | ptr i off=>cases u<;>exact h.elim
 | dp u=>cases u<;>exact h.elim
 | ep i ver z k off=>cases u<;>exact h.elim
 | fn f caps=>cases u<;>exact h.elim
 | tup vs=>cases u<;>exact h.elim
end
section
variable {P:Program}{A:Amb}{σ:St}{K:St→Prop}
variable {ops:Array Oper}{rest:List Oper}{t:Nat}{ty:TypeId}{pos:String}{af:Array Edge}{x y:Operand}{sv:SV}
theorem gW4{u:U}{cs:List Value}{S:Nat→Prop}{w:World}(h:Rd S w u cs):(val u cs).cells.toList=cs:=by
 by_cases hst:u.isSt=true
 ·simp [val,hst,Value.cells]
 ·have hst:u.isSt=false:=by simpa using hst
  have hlen:=Rd.length _ _ h;rw [gF6 hst] at hlen
  match cs,hlen,h with
  | [c],_,h=>
    have:=Rd.oneCell _ _ h c (by simp)
    simp [val,hst,cells_one this]
theorem hEt{α:Type}(l:List α)(a n:Nat)(m:List α)(h:a+m.length≤n)(hn:n≤l.length) :
  (l.take a++m++l.drop (a+m.length)).take n=(l.take n).take a++m++(l.take n).drop (a+m.length):=by
 have hl:(l.take a++m).length=a+m.length:=by simp only [List.length_append,List.length_take];omega
 rw [List.take_append,hl,List.take_of_length_le (by omega),List.drop_take,List.take_take,Nat.min_eq_left (by omega)]
theorem mP.freeze{a:Act}{w:World}{i e z ver:Nat}{es:List U}(hL:σ.L[i]? =some (.arr e z ver es))(h:mP A σ a w):mP A ⟨σ.fr,σ.L.set i (.frz e z ver es),σ.N⟩ a w:=by
 obtain⟨S,env,hH,hf,hN,hd⟩:=h;have hi:=(List.getElem?_eq_some_iff.1 hL).1;have hie:i < env.length:=by rw [hH.len];exact hi
 obtain⟨hv,he⟩:∃hv,env[i]? =some hv:=⟨_,List.getElem?_eq_getElem hie⟩
 have hob:=hH.objs i _ hv hL he;let S':Nat→Prop:=fun b=>S b∨blk hv=some b;have hset:∀(j:Nat)(o':LO),(σ.L.set i (.frz e z ver es))[j]? =some o'→(j=i∧o'=.frz e z ver es)∨(j≠i∧σ.L[j]? =some o'):=by
  intro j o' hj;by_cases hij:i=j
  ·subst hij;rw [List.getElem?_set_self hi] at hj;exact .inl ⟨rfl,(Option.some.inj hj).symm⟩
  ·rw [List.getElem?_set_ne hij] at hj;exact .inr ⟨fun e=>hij e.symm,hj⟩
 have C:Carry S σ.L env w S' (σ.L.set i (.frz e z ver es)) env w:=by
  refine⟨fun b hb _=>.inl hb,fun _ _ _=>rfl,fun _ _ h=>h,fun j hv' o' h1 h2=>?_⟩;by_cases hij:i=j
  ·subst hij;rw [hL] at h2;obtain rfl:=Option.some.inj h2;exact⟨hv',.frz e z ver es,h1,by rw [List.getElem?_set_self hi],Nat.le_refl _,fun _=>rfl⟩
  ·exact⟨hv',o',h1,by rw [List.getElem?_set_ne hij];exact h2,Nat.le_refl _,fun _=>rfl⟩
 refine⟨S',env,⟨by simp [hH.len],?_,?_,?_,?_,?_,hH.frame,hH.size,hH.os,hH.tape,hH.output,hH.base.carry C hH.len (by simp),hH.glob⟩,fun t=>SVr.carry C _ _ (hf t),hN,hd⟩
 ·intro j o' hv' h1 h2;rcases hset j o' h1 with ⟨rfl,rfl⟩ | ⟨hj,h3⟩
  ·rw [he] at h2;obtain rfl:=Option.some.inj h2;obtain⟨hbg,hz,xs,m1,m2⟩:=hob;have hmono:Rds S' w es xs:=Rds.mono C.hS C.hw _ _ m2
   have:RdV S' w (.sl z es) hv:=by
    rcases m1.2 with ⟨rfl,h0⟩ | ⟨g,cap,cur,rfl,hg0,hg,hnc,hcm,hcs,htake⟩
    ·have:es=[]:=List.eq_nil_of_length_eq_zero h0
     subst this;exact⟨[_],rfl,by simp only [Rd];exact⟨hbg,none,0,rfl,.inl trivial⟩⟩
    ·refine⟨[.slice (some ⟨g,0,none⟩) es.length cap],rfl,?_⟩;simp only [Rd];exact⟨hbg,_,cap - es.length,by rw [Nat.add_sub_cancel' hnc],.inr ⟨g,0,rfl,.inr rfl,RdE.of_Rds es xs 0 hz hmono (gZ8 m1 rfl)⟩⟩
   exact this
  ·exact gLm.carry C (fun _ _ _=>rfl) (hH.objs j o' hv' h3 h2)
 ·intro j o' hv' b h1 hl h2 hb;rcases hset j o' h1 with ⟨rfl,rfl⟩ | ⟨hj,h3⟩
  ·cases hl
  ·have:=hH.excl j o' hv' b h3 hl h2 hb
   refine⟨fun hs=>hs.elim this.1 (fun hs=>hj (hH.dist j i o' _ hv' hv b h3 hL hl rfl h2 he hb (show(LO.arr e z ver es).ft w hv b from hs))),this.2⟩
 ·intro j j' o1 o1' hv1 hv1' k h1 h2 hl1 hl2 e1 e2 b1 b2;rcases hset j o1 h1 with ⟨rfl,rfl⟩ | ⟨hj,h3⟩
  ·cases hl1
  ·rcases hset j' o1' h2 with ⟨rfl,rfl⟩ | ⟨hj',h3'⟩
   ·cases hl2
   ·exact hH.dist j j' o1 o1' hv1 hv1' k h3 h3' hl1 hl2 e1 e2 b1 b2
 ·intro b hb;rcases hb with hb | hb
  ·exact hH.sS b hb
  ·exact(hH.excl i _ hv b hL rfl he hb).2.2
 ·intro b hb;rcases hb with hb | hb
  ·exact hH.sA b hb
  ·exact .inr (hH.excl i _ hv b hL rfl he hb).2.1
end
end Go.Eng
