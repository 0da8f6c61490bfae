import Derived.Test.YtfpdlnkkcnmebaaGreatEng4
namespace Go.Eng
open Go Go.RowKit
theorem gFd {P:Program}{T:TypeId}{g:Bool}{n bs:Nat}(h:tyI P T=some (g,n,bs))(w:World)(b off:Nat)(cs:List Value)(hl:cs.length=n)(hat:At w b off cs)
  (hg:g=false→n=1):(loadVar T ⟨b,off,none⟩).run P w=.ok (if g then .agg cs.toArray else cs.headD undef) w:=by
 obtain⟨row,e,fz,h1,h2⟩:=hat;have hc:∀(j:Nat)(v:Value),cs[j]? =some v→w.cell? ((⟨b,off,none⟩:Addr).add j)=some v:=by
  intro j v hv;have hj:=(List.getElem?_eq_some_iff.1 hv).1
  have:=h2 j hj
  rw [hv] at this;rw [Addr.add_lit];simp [World.cell?,h1,this]
 cases g with
 | true=>
   have:=run_loadCells_list (P:=P) w ⟨b,off,none⟩ cs hc
   rw [hl] at this;simp [loadVar,gLe h,run_sizeOf h,this]
 | false=>
   have hn:=hg rfl
   match cs,hl with
   | [c],_=>
     have:=hc 0 c rfl
     rw [Addr.add_lit,Nat.add_zero] at this;simp [loadVar,gLe h,this]
   | [],hl=>simp at hl;omega
   | _::_::_,hl=>simp at hl;omega
theorem gD7{u:U}(h:u.isSt=false):u.sz=1:=by
 cases u<;>simp_all [U.isSt,U.sz]
section
variable {P:Program}{A:Amb}{σ:St}
variable {dst:Option Nat}{ty:TypeId}{pos:String}{af:Array Edge}{g:Option (Nat × Bool)}{x y:Operand}{sv:SV}
theorem hPh{T:TypeId}{u:U}{gg:Bool}{n bs:Nat}(hx:σ.ev x=.dp u)(hT:tyI P T=some (gg,n,bs))(hg:u.isSt=gg)(hn:u.sz=n):Quiet P A σ ⟨dst,.load T x,ty,pos,af,g⟩ (.d u):=Quiet.pure fun S env a w hH ho=>by
 have h1:=ho x (by simp [Op.operands]);rw [hx] at h1;simp only [SVr] at h1;obtain⟨b,off,cs,h2,h3,h4,h5⟩:=h1;subst hg;subst hn;refine⟨val u cs,?_,?_⟩
 ·have:=gFd hT w b off cs (Rd.length u cs h5) h4 (fun h=>gD7 h)
  simp [execOp,Instr.loadAt,h2,Instr.sureAddr,this,val]
 ·simp only [SVr];exact⟨cs,rfl,h5⟩
theorem gS7{T:TypeId}{us:List U}{u:U}{f fo:Nat}(hx:σ.ev x=.dp (.st us))(hF:tyF P T f=some fo)(hf:us[f]? =some u)(hfo:U.szs (us.take f)=fo) :
  Quiet P A σ ⟨dst,.fieldAddr T x f,ty,pos,af,g⟩ (.dp u):=Quiet.pure fun S env a w hH ho=>by
 have h1:=ho x (by simp [Op.operands]);rw [hx] at h1;simp only [SVr] at h1;obtain⟨b,off,cs,h2,h3,h4,h5⟩:=h1;unfold tyF at hF;split at hF
 ·rename_i fs hund;split at hF
  ·rename_i fd hfd;split at hF
   ·cases hF
   ·rename_i hz;cases hty:tyI P fd.type with
    | none=>rw [hty] at hF;simp at hF
    | some t3=>
      obtain⟨q1,q2,q3⟩:=t3;rw [hty] at hF hz;simp only [Option.map_some,Option.some.injEq] at hF hz;refine⟨.pointer (some ⟨b,off+fo,none⟩),?_,?_⟩
      ·simp [execOp,Instr.fieldAt,h2,Instr.sureAddr,run_underlying hund,hfd,fieldPlace,run_sizeOf hty,hz,Addr.add_lit,hF]
      ·simp only [SVr];simp only [Rd] at h5;obtain⟨row,e,fz,r1,r2⟩:=h4;have key:∀(us:List U)(cs:List Value)(f:Nat),Rds S w us cs→us[f]? =some u→∃c1 c2 c3,cs=c1++c2++c3∧c1.length=U.szs (us.take f)∧Rd S w u c2:=by
        intro us
        induction us with
        | nil=>intro cs f _ hf;simp at hf
        | cons u0 us ih=>
          intro cs f h hf;simp only [Rds] at h;obtain⟨d1,d2,rfl,k2,k3⟩:=h;cases f with
          | zero=>
            simp at hf;subst hf;exact⟨[],d1,d2,by simp,by simp [U.szs],k2⟩
          | succ f=>
            simp only [List.getElem?_cons_succ] at hf;obtain⟨c1,c2,c3,rfl,e1,e2⟩:=ih d2 f k3 hf;exact⟨d1++c1,c2,c3,by simp,by simp [U.szs,e1,Rd.length _ _ k2],e2⟩
       obtain⟨c1,c2,c3,rfl,e1,e2⟩:=key us cs f h5 hf;refine⟨b,off+fo,c2,rfl,h3,⟨row,e,fz,r1,fun j hj=>?_⟩,e2⟩
       have:=r2 (fo+j) (by simp;omega)
       rw [show off+fo+j=off+(fo+j) by omega,this,List.append_assoc,List.getElem?_append_right (by omega),List.getElem?_append_left (by omega)];congr 1;omega
  ·cases hF
 ·cases hF
theorem gXj{T:TypeId}{f fo:Nat}(hF:tyF P T f=some fo)(w:World)(b off:Nat):(Instr.fieldAt T (.pointer (some ⟨b,off,none⟩)) f).run P w=.ok (.pointer (some ⟨b,off+fo,none⟩)) w:=by
 unfold tyF at hF;split at hF
 ·rename_i fs hund;split at hF
  ·rename_i fd hfd;split at hF
   ·cases hF
   ·rename_i hz;cases hty:tyI P fd.type with
    | none=>rw [hty] at hF;simp at hF
    | some t3=>
      obtain⟨q1,q2,q3⟩:=t3;rw [hty] at hF hz;simp only [Option.map_some,Option.some.injEq] at hF hz;simp [Instr.fieldAt,Instr.sureAddr,run_underlying hund,hfd,fieldPlace,run_sizeOf hty,hz,Addr.add_lit,hF]
  ·cases hF
 ·cases hF
theorem gRk{T:TypeId}{i off f fo:Nat}(hx:σ.ev x=.ptr i off)(hF:tyF P T f=some fo) :
  Quiet P A σ ⟨dst,.fieldAddr T x f,ty,pos,af,g⟩ (.ptr i (off+fo)):=Quiet.pure fun S env a w hH ho=>by
 have h1:=ho x (by simp [Op.operands]);rw [hx] at h1;simp only [SVr] at h1;obtain⟨b,h2,h3⟩:=h1;refine⟨.pointer (some ⟨b,off+fo,none⟩),by simp only [execOp,h3,Sem.run_bind,gXj hF,Result.andThen_ok,Sem.run_pure],?_⟩;simp only [SVr];exact⟨b,h2,rfl⟩
theorem hAq{T:TypeId}{i off:Nat}{cs:List SV}{bs:Nat}(hx:σ.ev x=.ptr i off)(hL:σ.L[i]? =some (.box cs))(hT:tyI P T=some (false,1,bs))(hc:cs[off]? =some sv) :
  Quiet P A σ ⟨dst,.load T x,ty,pos,af,g⟩ sv:=Quiet.pure fun S env a w hH ho=>by
 have h1:=ho x (by simp [Op.operands]);rw [hx] at h1;simp only [SVr] at h1;obtain⟨b,h2,h3⟩:=h1;obtain⟨b',vals,e,k1,k2,k3,k4⟩:=hH.objs i _ _ hL h2;simp only [Value.pointer.injEq,Option.some.injEq,Addr.mk.injEq,and_true] at k1;subst k1;obtain⟨v,m1,m2⟩:=kP.get k3 off sv hc;refine⟨v,?_,m2⟩
 have:=gFd hT w b off [v] rfl ⟨vals,e,(0,0),k2,fun j hj=>?_⟩ (fun _=>rfl)
 ·simp [execOp,Instr.loadAt,h3,Instr.sureAddr,this]
 ·simp at hj;subst hj;simpa using m1
theorem gXk{T:TypeId}{i off n:Nat}{cs ds:List SV}{bs:Nat}(hx:σ.ev x=.ptr i off)(hL:σ.L[i]? =some (.box cs))(hT:tyI P T=some (true,n,bs))(hn:Nat.ble (off+n) cs.length=true)(hc:(cs.drop off).take n=ds) :
  Quiet P A σ ⟨dst,.load T x,ty,pos,af,g⟩ (.ag ds):=Quiet.pure fun S env a w hH ho=>by
 have h1:=ho x (by simp [Op.operands]);rw [hx] at h1;simp only [SVr] at h1;obtain⟨b,h2,h3⟩:=h1;obtain⟨b',vals,e,k1,k2,k3,k4⟩:=hH.objs i _ _ hL h2;simp only [Value.pointer.injEq,Option.some.injEq,Addr.mk.injEq,and_true] at k1;subst k1;have hlen:=kP.length k3;have hn':=Nat.le_of_ble_eq_true hn;have m1:=yZ.take n (yZ.drop off ((kP.iff _ _).1 k3));rw [hc] at m1;refine⟨.agg ((vals.toList.drop off).take n).toArray,?_,?_⟩
 ·have hl:((vals.toList.drop off).take n).length=n:=by simp at hlen ⊢;omega
  have:=gFd hT w b off ((vals.toList.drop off).take n) hl ⟨vals,e,(0,0),k2,fun j hj=>?_⟩ (fun h=>by cases h)
  ·simp [execOp,Instr.loadAt,h3,Instr.sureAddr,this]
  ·rw [hl] at hj;rw [List.getElem?_take,if_pos hj,List.getElem?_drop];simp
 ·simp only [SVr];exact⟨_,rfl,(kP.iff _ _).2 m1⟩
theorem SVr.slice{S:Nat→Prop}{L:List LO}{env:List Value}{w:World}{z:Nat}{us:List U}{v:Value}:SVr S L env w (.d (.sl z us)) v↔
  us.length≤big∧∃base cap,v=.slice base us.length (us.length+cap)∧(us=[]∨∃b off,base=some ⟨b,off,none⟩∧S b∧RdE S w z b off us):=by
 simp only [SVr,RdV,Rd];constructor
 ·rintro⟨cs,h1,h2,base,cap,h3,h4⟩;subst h3;exact⟨h2,base,cap,h1,h4⟩
 ·rintro⟨h2,base,cap,h3,h4⟩;exact⟨[.slice base us.length (us.length+cap)],h3,h2,base,cap,rfl,h4⟩
theorem hEo {T e:TypeId}{z:Nat}{us:List U}{u:U}{k:IntKind}{n:Int}{gg:Bool}{bs:Nat}(hx:σ.ev x=.d (.sl z us))(hy:σ.ev y=.d (.i k n))(hT:tyE P T=some e)(he:tyI P e=some (gg,z,bs))
  (hn:0≤n) (hu:us[n.toNat]? =some u):Quiet P A σ ⟨dst,.indexAddr T x y,ty,pos,af,g⟩ (.dp u):=Quiet.pure fun S env a w hH ho=>by
 have h1:=ho x (by simp [Op.operands]);have h2:=ho y (by simp [Op.operands]);rw [hx,SVr.slice] at h1;rw [hy,SVr.int] at h2;obtain⟨_,base,cap,h3,h4⟩:=h1;have hlt:=(List.getElem?_eq_some_iff.1 hu).1;rcases h4 with h4 | ⟨b,off,h4,h5,h6⟩
 ·subst h4;simp at hu
 ·obtain⟨cs,c1,c2,c3⟩:=RdE.get us off n.toNat u h6 hu;subst h4;refine⟨.pointer (some ⟨b,off+n.toNat*z,none⟩),?_,?_⟩
  ·have hlt':n < (us.length:Int):=by omega
   simp [execOp,Instr.indexAt,h2,h3,asIntOf,run_underlying (zN hT),run_sizeOf he,hn,hlt',Addr.add_lit]
  ·simp only [SVr];exact⟨b,off+n.toNat*z,cs,rfl,h5,c2,c3⟩
theorem hMw{T e:TypeId}{z:Nat}{us:List U}{T':TypeId}(hx:σ.ev x=.d (.sl z us))(hT:tyE P T=some e) :
  Quiet P A σ ⟨dst,.call { callee:=.builtin .len,args:=#[x],argTypes:=#[T] },T',pos,af,g⟩ (.d (.i .i64 us.length)):=Quiet.pure fun S env a w hH ho=>by
 have h1:=ho x (by simp [Op.operands,Call.operands]);rw [hx,SVr.slice] at h1;obtain⟨_,base,cap,h3,h4⟩:=h1;exact⟨.int .i64 us.length,by simp [execOp,resolve,invoke,builtin,Builtin.len_,h3,run_underlying (zN hT),goInt],SVr.int.2 rfl⟩
theorem gVs{T e:TypeId}{T':TypeId}(hx:σ.ev x=.nilsl)(hT:tyE P T=some e) :
  Quiet P A σ ⟨dst,.call { callee:=.builtin .len,args:=#[x],argTypes:=#[T] },T',pos,af,g⟩ (.d (.i .i64 0)):=Quiet.pure fun S env a w hH ho=>by
 have h1:=ho x (by simp [Op.operands,Call.operands]);rw [hx] at h1;simp only [SVr] at h1;exact⟨.int .i64 0,by simp [execOp,resolve,invoke,builtin,Builtin.len_,h1,run_underlying (zN hT),goInt],SVr.int.2 rfl⟩
theorem gVt{T:TypeId}{l:LB}{T':TypeId}(hx:σ.ev x=.d (.s l))(hT:P.underlying T=some .string) :
  Quiet P A σ ⟨dst,.call { callee:=.builtin .len,args:=#[x],argTypes:=#[T] },T',pos,af,g⟩ (.d (.i .i64 l.length)):=Quiet.pure fun S env a w hH ho=>by
 have h1:=ho x (by simp [Op.operands,Call.operands]);rw [hx,SVr.str] at h1;exact⟨.int .i64 l.length,by simp [execOp,resolve,invoke,builtin,Builtin.len_,h1.2,run_underlying hT,goInt];rfl,SVr.int.2 rfl⟩
theorem gUg{S:Nat→Prop}{L:List LO}{env:List Value}{w:World}{e z ver:Nat}{es:List U}{hv:Value}(h:gH2 S L env w (.arr e z ver es) hv) :
  (hv=.slice none 0 0∧es=[])∨∃b cap,hv=.slice (some ⟨b,0,none⟩) es.length cap:=by
 obtain⟨_,_,xs,⟨_,h | ⟨g,cap,cur,rfl,_⟩⟩,_⟩:=h
 ·exact .inl ⟨h.1,List.eq_nil_of_length_eq_zero h.2⟩
 ·exact .inr ⟨g,cap,rfl⟩
theorem hEp{T e:TypeId}{i ver e' z:Nat}{es:List U}{T':TypeId}(hx:σ.ev x=.sl i ver)(hL:σ.L[i]? =some (.arr e' z ver es))(hT:tyE P T=some e) :
  Quiet P A σ ⟨dst,.call { callee:=.builtin .len,args:=#[x],argTypes:=#[T] },T',pos,af,g⟩ (.d (.i .i64 es.length)):=Quiet.pure fun S env a w hH ho=>by
 have h1:=ho x (by simp [Op.operands,Call.operands]);rw [hx] at h1;simp only [SVr] at h1;obtain⟨hv,o,k1,k2,k3,k5,k4⟩:=h1;rw [hL] at k2;obtain rfl:=Option.some.inj k2;have k6:=k4 rfl;rcases gUg (hH.objs i _ hv hL k1)with ⟨r1,r2⟩ | ⟨b,cap,r1⟩
 ·subst r2;exact⟨.int .i64 0,by simp [execOp,resolve,invoke,builtin,Builtin.len_,k6,r1,run_underlying (zN hT),goInt],SVr.int.2 rfl⟩
 ·exact⟨.int .i64 es.length,by simp [execOp,resolve,invoke,builtin,Builtin.len_,k6,r1,run_underlying (zN hT),goInt],SVr.int.2 rfl⟩
theorem gRl {T e:TypeId}{i ver z:Nat}{es:List U}{k:IntKind}{n:Int}{gg:Bool}{bs:Nat}(hx:σ.ev x=.sl i ver)(hL:σ.L[i]? =some (.arr e z ver es))(hy:σ.ev y=.d (.i k n))(hT:tyE P T=some e)(he:tyI P e=some (gg,z,bs))
  (hn:0≤n) (hn2:n < es.length):Quiet P A σ ⟨dst,.indexAddr T x y,ty,pos,af,g⟩ (.ep i ver z n.toNat 0):=Quiet.pure fun S env a w hH ho=>by
 have h1:=ho x (by simp [Op.operands]);have h2:=ho y (by simp [Op.operands]);rw [hy,SVr.int] at h2;rw [hx] at h1;simp only [SVr] at h1;obtain⟨hv,o,k1,k2,k3,k5,k4⟩:=h1;rw [hL] at k2;obtain rfl:=Option.some.inj k2;have k6:=k4 rfl;rcases gUg (hH.objs i _ hv hL k1)with ⟨r1,r2⟩ | ⟨b,cap,r1⟩
 ·subst r2;simp at hn2;omega
 ·refine⟨.pointer (some ⟨b,n.toNat*z,none⟩),?_,?_⟩
  ·simp [execOp,Instr.indexAt,h2,k6,r1,asIntOf,run_underlying (zN hT),run_sizeOf he,hn,hn2,Addr.add_lit]
  ·simp only [SVr];exact⟨hv,_,k1,hL,Nat.le_refl _,rfl,fun _=>⟨b,by rw [r1];rfl,rfl⟩⟩
theorem hAu{T:TypeId}{i ver z k off f fo:Nat}{e' z':Nat}{es:List U}(hx:σ.ev x=.ep i ver z k off)(hL:σ.L[i]? =some (.arr e' z' ver es))(hF:tyF P T f=some fo) :
  Quiet P A σ ⟨dst,.fieldAddr T x f,ty,pos,af,g⟩ (.ep i ver z k (off+fo)):=Quiet.pure fun S env a w hH ho=>by
 have h1:=ho x (by simp [Op.operands]);rw [hx] at h1;simp only [SVr] at h1;obtain⟨hv,o,k1,k2,k3,k5,k4⟩:=h1;rw [hL] at k2;obtain rfl:=Option.some.inj k2;obtain⟨b,e1,e2⟩:=k4 rfl;refine⟨.pointer (some ⟨b,k*z+off+fo,none⟩),by simp only [execOp,e2,Sem.run_bind,gXj hF,Result.andThen_ok,Sem.run_pure],?_⟩;simp only [SVr];exact⟨hv,_,k1,hL,Nat.le_refl _,rfl,fun _=>⟨b,e1,by rw [Nat.add_assoc]⟩⟩
inductive AsO:LO→Nat→Nat→List U→Prop
 | own {e z v:Nat} {es:List U}:AsO (.own e z v es) z v es
 | ownp {h:Value} {e z:Nat} {es:List U}:AsO (.ownp h e z es) z 0 es
theorem AsO.own'{S:Nat→Prop}{L:List LO}{env:List Value}{w:World}{o:LO}{z ver:Nat}{es:List U}{hv:Value}(h:AsO o z ver es)(ho:gH2 S L env w o hv) :
  o.ver=ver∧o.live=true∧(∀b,o.ft w hv b↔b∈(U.sl z es).fp w [hv])∧∃e,gH2 S L env w (.own e z ver es) hv:=by
 cases h with
 | own=>exact⟨rfl,rfl,fun _=>Iff.rfl,_,ho⟩
 | ownp=>exact⟨rfl,rfl,fun _=>Iff.rfl,_,ho.2⟩
theorem gUh{S:Nat→Prop}{L:List LO}{env:List Value}{w:World}{o:LO}{z ver:Nat}{es:List U}{hv:Value}(ha:AsO o z ver es)(h:gH2 S L env w o hv) :
  o.ver=ver∧((hv=.slice none 0 0∧es=[])∨∃b cap,hv=.slice (some ⟨b,0,none⟩) es.length cap):=by
 obtain⟨hver,_,_,e,h⟩:=ha.own' h;refine⟨hver,?_⟩;obtain⟨_,_,⟨xs,⟨_,h | ⟨g,cap,cur,rfl,_⟩⟩,_⟩,_⟩:=h
 ·exact .inl ⟨h.1,List.eq_nil_of_length_eq_zero h.2⟩
 ·exact .inr ⟨g,cap,rfl⟩
theorem gVu{T e:TypeId}{i ver z:Nat}{o:LO}{es:List U}{T':TypeId}(hx:σ.ev x=.sl i ver)(hL:σ.L[i]? =some o)(ha:AsO o z ver es)(hT:tyE P T=some e) :
  Quiet P A σ ⟨dst,.call { callee:=.builtin .len,args:=#[x],argTypes:=#[T] },T',pos,af,g⟩ (.d (.i .i64 es.length)):=Quiet.pure fun S env a w hH ho=>by
 have h1:=ho x (by simp [Op.operands,Call.operands]);rw [hx] at h1;simp only [SVr] at h1;obtain⟨hv,o',k1,k2,k3,k5,k4⟩:=h1;rw [hL] at k2;obtain rfl:=Option.some.inj k2;obtain⟨hver,hform⟩:=gUh ha (hH.objs i _ hv hL k1);have k6:=k4 hver.symm;rcases hform with ⟨r1,r2⟩ | ⟨b,cap,r1⟩
 ·subst r2;exact⟨.int .i64 0,by simp [execOp,resolve,invoke,builtin,Builtin.len_,k6,r1,run_underlying (zN hT),goInt],SVr.int.2 rfl⟩
 ·exact⟨.int .i64 es.length,by simp [execOp,resolve,invoke,builtin,Builtin.len_,k6,r1,run_underlying (zN hT),goInt],SVr.int.2 rfl⟩
theorem gXl {T e:TypeId}{i ver z:Nat}{o:LO}{es:List U}{k:IntKind}{n:Int}{gg:Bool}{bs:Nat}(hx:σ.ev x=.sl i ver)(hL:σ.L[i]? =some o)(ha:AsO o z ver es)(hy:σ.ev y=.d (.i k n))(hT:tyE P T=some e)(he:tyI P e=some (gg,z,bs))
  (hn:0≤n) (hn2:n < es.length):Quiet P A σ ⟨dst,.indexAddr T x y,ty,pos,af,g⟩ (.ep i ver z n.toNat 0):=Quiet.pure fun S env a w hH ho=>by
 have h1:=ho x (by simp [Op.operands]);have h2:=ho y (by simp [Op.operands]);rw [hy,SVr.int] at h2;rw [hx] at h1;simp only [SVr] at h1;obtain⟨hv,o',k1,k2,k3,k5,k4⟩:=h1;rw [hL] at k2;obtain rfl:=Option.some.inj k2;obtain⟨hver,hform⟩:=gUh ha (hH.objs i _ hv hL k1);have k6:=k4 hver.symm;rcases hform with ⟨r1,r2⟩ | ⟨b,cap,r1⟩
 ·subst r2;simp at hn2;omega
 ·refine⟨.pointer (some ⟨b,n.toNat*z,none⟩),?_,?_⟩
  ·simp [execOp,Instr.indexAt,h2,k6,r1,asIntOf,run_underlying (zN hT),run_sizeOf he,hn,hn2,Addr.add_lit]
  ·simp only [SVr];exact⟨hv,_,k1,hL,by rw [hver];exact Nat.le_refl _,rfl,fun _=>⟨b,by rw [r1];rfl,rfl⟩⟩
theorem gXm{T:TypeId}{i ver z k off f fo:Nat}{z':Nat}{o:LO}{es:List U}(hx:σ.ev x=.ep i ver z k off)(hL:σ.L[i]? =some o)(ha:AsO o z' ver es)(hF:tyF P T f=some fo) :
  Quiet P A σ ⟨dst,.fieldAddr T x f,ty,pos,af,g⟩ (.ep i ver z k (off+fo)):=Quiet.pure fun S env a w hH ho=>by
 have h1:=ho x (by simp [Op.operands]);rw [hx] at h1;simp only [SVr] at h1;obtain⟨hv,o',k1,k2,k3,k5,k4⟩:=h1;rw [hL] at k2;obtain rfl:=Option.some.inj k2;have hver:=(gUh ha (hH.objs i _ hv hL k1)).1;obtain⟨b,e1,e2⟩:=k4 hver.symm;refine⟨.pointer (some ⟨b,k*z+off+fo,none⟩),by simp only [execOp,e2,Sem.run_bind,gXj hF,Result.andThen_ok,Sem.run_pure],?_⟩;simp only [SVr];exact⟨hv,_,k1,hL,by rw [hver];exact Nat.le_refl _,rfl,fun _=>⟨b,e1,by rw [Nat.add_assoc]⟩⟩
theorem gOt{w:World}{e z n:Nat}{hv:Value}{xs:List Value}{b:Nat}(h:w.ownsRow 0 e z hv n xs)(hb:blk hv=some b):At w b 0 xs:=by
 rcases h.2 with ⟨rfl,_⟩ | ⟨g,cap,cur,rfl,_,h1,_,_,_,h2⟩
 ·simp [blk] at hb
 ·simp [blk] at hb;subst hb;refine⟨cur,e,(0,0),h1,fun j hj=>?_⟩;rw [←h2] at hj ⊢;rw [List.getElem?_take];simp at hj;rw [if_pos (by omega)];simp
theorem hEs{T:TypeId}{i ver z k:Nat}{e':Nat}{es:List U}{u:U}{gg:Bool}{bs:Nat}(hx:σ.ev x=.ep i ver z k 0)(hL:σ.L[i]? =some (.arr e' z ver es))(hu:es[k]? =some u)(hT:tyI P T=some (gg,z,bs))(hg:u.isSt=gg) :
  Quiet P A σ ⟨dst,.load T x,ty,pos,af,g⟩ (.d u):=Quiet.pure fun S env a w hH ho=>by
 have h1:=ho x (by simp [Op.operands]);rw [hx] at h1;simp only [SVr] at h1;obtain⟨hv,o,k1,k2,k3,k5,k4⟩:=h1;rw [hL] at k2;obtain rfl:=Option.some.inj k2;obtain⟨b,e1,e2⟩:=k4 rfl;obtain⟨_,hz,xs,h3,h4⟩:=hH.objs i _ hv hL k1;have h5:=Rds.get es xs k u hz h4 hu;have hat:=gOt h3 e1;have huz:=hz u (List.mem_of_getElem? hu);subst hg;refine⟨val u ((xs.drop (k*z)).take z),?_,?_⟩
 ·obtain⟨row,e,fz,r1,r2⟩:=hat;have hl:=Rd.length _ _ h5;rw [huz] at hl
  have:=gFd hT w b (k*z) ((xs.drop (k*z)).take z) hl ⟨row,e,fz,r1,fun j hj=>?_⟩ (fun h=>by rw [←huz];exact gD7 h)
  ·simp [execOp,Instr.loadAt,e2,Instr.sureAddr,this,val]
  ·rw [hl] at hj;rw [List.getElem?_take,if_pos hj,List.getElem?_drop]
   have:=r2 (k*z+j) (by simp at hl;omega)
   simpa using this
 ·simp only [SVr];exact⟨_,rfl,h5⟩
end
mutual
def SV.one:SV→Bool
 | .junk=>false
 | .ag _=>false
 | .tup _=>false
 | .d u=> !u.isSt
 | _=>true
end
def SV.ones:List SV→Bool
 | []=>true
 | c::cs=>c.one && SV.ones cs
def SV.cells:SV→List SV
 | .ag cs=>cs
 | .d u=>u.flat.map .d
 | sv=>[sv]
section
variable {S S':Nat→Prop}{L L':List LO}{env env':List Value}{w w':World}
theorem SVr.oneCell{sv:SV}{v:Value}(h1:sv.one=true)(h:SVr S L env w sv v):v.oneCell'=true:=by
 cases sv with
 | junk=>simp [SV.one] at h1
 | ag cs=>simp [SV.one] at h1
 | tup cs=>simp [SV.one] at h1
 | d u=>
   simp only [SVr] at h;obtain⟨cs,rfl,h⟩:=h;have hl:=Rd.length _ _ h;have hst:u.isSt=false:=by simpa [SV.one] using h1
   rw [gD7 hst] at hl
   match cs,hl with
   | [c],_=>
     have:=Rd.oneCell _ _ h c (by simp)
     simp [val,hst,this]
 | ptr i off=>simp only [SVr] at h;obtain⟨b,_,rfl⟩:=h;rfl
 | sl i ver=>simp only [SVr] at h;obtain⟨_,_,_,_,_,h,_⟩:=h;exact h
 | dp u=>simp only [SVr] at h;obtain⟨_,_,_,rfl,_⟩:=h;rfl
 | ep i ver z k off=>simp only [SVr] at h;obtain⟨_,_,_,_,_,h,_⟩:=h;exact h
 | fn f caps=>simp only [SVr] at h;obtain⟨_,rfl,_⟩:=h;rfl
 | nilsl=>simp only [SVr] at h;subst h;rfl
theorem kP.oneCell:∀{svs:List SV}{vs:List Value},SV.ones svs=true→kP S L env w svs vs→∀v∈vs,v.oneCell'=true
 | [],[],_,_,v,hv=>by simp at hv
 | sv::svs,v0::vs,h1,h,v,hv=>by
   simp only [SV.ones,Bool.and_eq_true] at h1;simp only [kP] at h;rcases List.mem_cons.1 hv with rfl | hv
   ·exact SVr.oneCell h1.1 h.1
   ·exact kP.oneCell h1.2 h.2 v hv
 | [],_::_,_,h,_,_=>by simp [kP] at h
 | _::_,[],_,h,_,_=>by simp [kP] at h
theorem cells_one{v:Value}(h:v.oneCell'=true):v.cells=#[v]:=by
 cases v<;>simp_all [Value.oneCell',Value.cells]
theorem SVr.leaf{u:U}(h:u.isSt=false){v:Value}:SVr S L env w (.d u) v↔Rd S w u [v]:=by
 simp only [SVr,RdV];constructor
 ·rintro⟨cs,rfl,h2⟩;have hl:=Rd.length _ _ h2;rw [gD7 h] at hl
  match cs,hl with
  | [c],_=>simpa [val,h] using h2
 ·intro h2;exact⟨[v],by simp [val,h],h2⟩
mutual
theorem U.flat_leaf:∀(u:U),∀x∈u.flat,x.isSt=false
 | .i k n,x,h=>by simp only [U.flat,List.mem_singleton] at h;subst h;rfl
 | .b _,x,h=>by simp only [U.flat,List.mem_singleton] at h;subst h;rfl
 | .s _,x,h=>by simp only [U.flat,List.mem_singleton] at h;subst h;rfl
 | .sl _ _,x,h=>by simp only [U.flat,List.mem_singleton] at h;subst h;rfl
 | .st us,x,h=>by simp only [U.flat] at h;exact U.flats_leaf us x h
theorem U.flats_leaf:∀(us:List U),∀x∈U.flats us,x.isSt=false
 | [],x,h=>by simp [U.flats] at h
 | u::us,x,h=>by
   simp only [U.flats,List.mem_append] at h;rcases h with h | h
   ·exact U.flat_leaf u x h
   ·exact U.flats_leaf us x h
end
theorem SVr.cellsr{sv:SV}{v:Value}(h1:SV.ones sv.cells=true)(h:SVr S L env w sv v):kP S L env w sv.cells v.cells.toList∧∀c∈v.cells.toList,c.oneCell'=true:=by
 have main:kP S L env w sv.cells v.cells.toList:=by
  cases sv with
  | ag cs=>
    simp only [SVr] at h;obtain⟨vs,rfl,h⟩:=h;simpa [SV.cells,Value.cells] using h
  | d u=>
    simp only [SVr] at h;obtain⟨cs,rfl,h⟩:=h;have hl:=Rd.leafs u cs h;have hcs:(val u cs).cells.toList=cs:=by
     by_cases hst:u.isSt=true
     ·simp [val,hst,Value.cells]
     ·have hst:u.isSt=false:=by simpa using hst
      have hlen:=Rd.length _ _ h;rw [gD7 hst] at hlen
      match cs,hlen,h with
      | [c],_,h=>
        have:=Rd.oneCell _ _ h c (by simp)
        simp [val,hst,cells_one this]
    rw [hcs];simp only [SV.cells];rw [kP.iff,yZ.map_left];refine yZ.mono (fun a b ha hab=>?_) hl;exact(SVr.leaf (U.flat_leaf u a ha)).2 hab
  | junk=>simp [SV.cells,SV.ones,SV.one] at h1
  | tup cs=>simp [SV.cells,SV.ones,SV.one] at h1
  | ptr i off=>have:=SVr.oneCell rfl h;simp only [SV.cells,cells_one this,kP];exact⟨h,trivial⟩
  | sl i ver=>have:=SVr.oneCell rfl h;simp only [SV.cells,cells_one this,kP];exact⟨h,trivial⟩
  | dp u=>have:=SVr.oneCell rfl h;simp only [SV.cells,cells_one this,kP];exact⟨h,trivial⟩
  | ep i ver z k off=>have:=SVr.oneCell rfl h;simp only [SV.cells,cells_one this,kP];exact⟨h,trivial⟩
  | fn f caps=>have:=SVr.oneCell rfl h;simp only [SV.cells,cells_one this,kP];exact⟨h,trivial⟩
  | nilsl=>have:=SVr.oneCell rfl h;simp only [SV.cells,cells_one this,kP];exact⟨h,trivial⟩
 exact⟨main,kP.oneCell h1 main⟩
end
theorem pW.new {A:Amb}{S:Nat→Prop}{L:List LO}{env:List Value}{w w':World}(h:pW A S L env w)(o:LO)(hv:Value)
  (hsz:w.heap.size≤w'.heap.size) (hold:∀b,b < w.heap.size→w'.heap[b]? =w.heap[b]?) (hos:w'.os=w.os) (htape:w'.tape=w.tape) (hout:w'.output=w.output)
  (hb:∀b,o.ft w' hv b→w.heap.size≤b∧b < w'.heap.size)
  (ho:(C:Carry S L env w S (L++[o]) (env++[hv]) w')→gH2 S (L++[o]) (env++[hv]) w' o hv) :
  pW A S (L++[o]) (env++[hv]) w'∧Carry S L env w S (L++[o]) (env++[hv]) w':=by
 have hlen:=h.len;have hfe:∀(i:Nat)(o':LO)(hv':Value),L[i]? =some o'→o'.live=true→env[i]? =some hv'→∀b,o'.ft w' hv' b→o'.ft w hv' b:=fun i o' hv' h1 hl h2 b hb'=>
  (LO.ft_eq (h.objs i o' hv' h1 h2) (fun k hk=>hold k (h.excl i o' hv' k h1 hl h2 hk).2.2) b).1 hb'
 have C:Carry S L env w S (L++[o]) (env++[hv]) w':=by
  refine⟨fun _ h _=>h,fun b _ hb=>hold b hb,fun i b hi=>?_,fun i hv' o' h1 h2=>?_⟩
  ·rw [List.getElem?_append_left (List.getElem?_eq_some_iff.1 hi).1];exact hi
  ·refine⟨hv',o',?_,?_,Nat.le_refl _,fun _=>rfl⟩
   ·rw [List.getElem?_append_left (List.getElem?_eq_some_iff.1 h1).1];exact h1
   ·rw [List.getElem?_append_left (List.getElem?_eq_some_iff.1 h2).1];exact h2
 refine⟨⟨by simp [hlen],?_,?_,?_,fun b hb=>by have:=h.sS b hb;omega,h.sA,fun b h1 h2=>?_,by have:=h.size;omega,hos.trans h.os,htape.trans h.tape,hout.trans h.output,h.base.carry C h.len (by simp),h.glob⟩,C⟩
 ·intro i o' hv' h1 h2;by_cases hi:i < L.length
  ·rw [List.getElem?_append_left hi] at h1;rw [List.getElem?_append_left (by omega)] at h2;refine gH2.carry C (fun b hl hb'=>hold b ?_) (h.objs i o' hv' h1 h2);exact(h.excl i o' hv' b h1 hl h2 hb').2.2
  ·have hi':i=L.length:=by
    have:=(List.getElem?_eq_some_iff.1 h1).1
    simp at this;omega
   subst hi';rw [List.getElem?_append_right (Nat.le_refl _)] at h1;rw [List.getElem?_append_right (by omega)] at h2;simp [hlen] at h1 h2;subst h1;subst h2;exact ho C
 ·intro i o' hv' b h1 hl h2 hb';by_cases hi:i < L.length
  ·rw [List.getElem?_append_left hi] at h1;rw [List.getElem?_append_left (by omega)] at h2
   have:=h.excl i o' hv' b h1 hl h2 (hfe i o' hv' h1 hl h2 b hb')
   exact⟨this.1,this.2.1,by omega⟩
  ·have hi':i=L.length:=by
    have:=(List.getElem?_eq_some_iff.1 h1).1
    simp at this;omega
   subst hi';rw [List.getElem?_append_right (by omega)] at h1;rw [List.getElem?_append_right (by omega)] at h2;simp [hlen] at h1 h2;subst h1;subst h2
   have:=hb b hb'
   exact⟨fun hs=>by have:=h.sS _ hs;omega,.inr (Nat.le_trans h.size this.1),this.2⟩
 ·intro i j o1 o2 hv1 hv2 b h1 h2 hl1 hl2 e1 e2 b1 b2;have key:∀(i:Nat)(o':LO)(hv':Value),(L++[o])[i]? =some o'→(env++[hv])[i]? =some hv'→(L[i]? =some o'∧env[i]? =some hv'∧i < L.length)∨(i=L.length∧hv'=hv∧o'=o):=by
   intro i o' hv' h1 h2;by_cases hi:i < L.length
   ·rw [List.getElem?_append_left hi] at h1;rw [List.getElem?_append_left (by omega)] at h2;exact .inl ⟨h1,h2,hi⟩
   ·have hi':i=L.length:=by
     have:=(List.getElem?_eq_some_iff.1 h1).1
     simp at this;omega
    subst hi';rw [List.getElem?_append_right (by omega)] at h1;rw [List.getElem?_append_right (by omega)] at h2;simp [hlen] at h1 h2;exact .inr ⟨rfl,h2.symm,h1.symm⟩
  rcases key i o1 hv1 h1 e1 with ⟨k1,k2,k3⟩ | ⟨k1,k2,k4⟩<;>rcases key j o2 hv2 h2 e2 with ⟨m1,m2,m3⟩ | ⟨m1,m2,m4⟩
  ·exact h.dist i j o1 o2 hv1 hv2 b k1 m1 hl1 hl2 k2 m2 (hfe _ _ _ k1 hl1 k2 _ b1) (hfe _ _ _ m1 hl2 m2 _ b2)
  ·subst m2;subst m4
   have:=hb b b2
   have:=(h.excl i o1 hv1 b k1 hl1 k2 (hfe _ _ _ k1 hl1 k2 _ b1)).2.2
   omega
  ·subst k2;subst k4
   have:=hb b b1
   have:=(h.excl j o2 hv2 b m1 hl2 m2 (hfe _ _ _ m1 hl2 m2 _ b2)).2.2
   omega
  ·omega
 ·have:=h.size
  rw [hold b (by omega)];exact h.frame b h1 h2
theorem pW.turnF {A:Amb}{S:Nat→Prop}{L:List LO}{env:List Value}{w w':World}(h:pW A S L env w)(i:Nat)(o o2:LO)(hv:Value)
  (hL:L[i]? =some o) (hlive:o.live=true) (he:env[i]? =some hv) (hver:o2.ver=o.ver)
  (hsz:w'.heap.size=w.heap.size) (hold:∀k,¬o.ft w hv k→w'.heap[k]? =w.heap[k]?) (hos:w'.os=w.os) (htape:w'.tape=w.tape) (hout:w'.output=w.output)
  (hft:∀k,o2.ft w' hv k→o.ft w hv k)
  (ho:(C:Carry S L env w S (L.set i o2) env w')→gH2 S (L.set i o2) env w' o2 hv) :
  pW A S (L.set i o2) env w'∧Carry S L env w S (L.set i o2) env w':=by
 have hi:=(List.getElem?_eq_some_iff.1 hL).1;have hex:=fun k hk=>h.excl i o hv k hL hlive he hk;have hset:∀(j:Nat)(o':LO),(L.set i o2)[j]? =some o'→(j=i∧o'=o2)∨(j≠i∧L[j]? =some o'):=by
  intro j o' hj;rw [List.getElem?_set] at hj;split at hj
  ·rename_i hij;subst hij;simp at hj;exact .inl ⟨rfl,hj.symm⟩
  ·exact .inr ⟨fun e=>by subst e;simp_all,hj⟩
 have hkeep:∀(j:Nat)(o':LO)(hv':Value),j≠i→L[j]? =some o'→o'.live=true→env[j]? =some hv'→∀k,o'.ft w hv' k→w'.heap[k]? =w.heap[k]? :=fun j o' hv' hj h3 hl h2 k hk=>
  hold k (fun e=>hj (h.dist j i o' o hv' hv k h3 hL hl hlive h2 he hk e))
 have hfe:∀(j:Nat)(o':LO)(hv':Value),j≠i→L[j]? =some o'→o'.live=true→env[j]? =some hv'→∀k,o'.ft w' hv' k→o'.ft w hv' k:=fun j o' hv' hj h3 hl h2 k hk=>
  (LO.ft_eq (h.objs j o' hv' h3 h2) (hkeep j o' hv' hj h3 hl h2) k).1 hk
 have C:Carry S L env w S (L.set i o2) env w':=by
  refine⟨fun _ h _=>h,fun k hk _=>hold k (fun e=>(hex k e).1 hk),fun i b hi=>hi,fun j hv' o' h1 h2=>?_⟩;by_cases hij:i=j
  ·subst hij;rw [hL] at h2;obtain rfl:=Option.some.inj h2;exact⟨hv',o2,h1,by rw [List.getElem?_set_self hi],by omega,fun _=>rfl⟩
  ·exact⟨hv',o',h1,by rw [List.getElem?_set_ne hij];exact h2,Nat.le_refl _,fun _=>rfl⟩
 refine⟨⟨by simp [h.len],?_,?_,?_,fun b hb=>by rw [hsz];exact h.sS b hb,h.sA,fun k h1 h2=>?_,by rw [hsz];exact h.size,hos.trans h.os,htape.trans h.tape,hout.trans h.output,h.base.carry C h.len (by simp),h.glob⟩,C⟩
 ·intro j o' hv' h1 h2;rcases hset j o' h1 with ⟨rfl,rfl⟩ | ⟨hj,h3⟩
  ·rw [he] at h2;obtain rfl:=Option.some.inj h2;exact ho C
  ·exact gH2.carry C (fun k hl hk=>hkeep j o' hv' hj h3 hl h2 k hk) (h.objs j o' hv' h3 h2)
 ·intro j o' hv' k h1 hl h2 hk;rw [hsz];rcases hset j o' h1 with ⟨rfl,rfl⟩ | ⟨hj,h3⟩
  ·rw [he] at h2;obtain rfl:=Option.some.inj h2;exact hex k (hft k hk)
  ·exact h.excl j o' hv' k h3 hl h2 (hfe j o' hv' hj h3 hl h2 k hk)
 ·intro j j' o1 o1' hv1 hv1' k h1 h2 hl1 hl2 e1 e2 b1 b2;rcases hset j o1 h1 with ⟨rfl,rfl⟩ | ⟨hj,h3⟩<;>rcases hset j' o1' h2 with ⟨rfl,rfl⟩ | ⟨hj',h3'⟩
  ·rfl
  ·rw [he] at e1;obtain rfl:=Option.some.inj e1;exact h.dist j j' o o1' _ hv1' k hL h3' hlive hl2 he e2 (hft k b1) (hfe j' o1' hv1' hj' h3' hl2 e2 k b2)
  ·rw [he] at e2;obtain rfl:=Option.some.inj e2;exact h.dist j j' o1 o hv1 _ k h3 hL hl1 hlive e1 he (hfe j o1 hv1 hj h3 hl1 e1 k b1) (hft k b2)
  ·exact h.dist j j' o1 o1' hv1 hv1' k h3 h3' hl1 hl2 e1 e2 (hfe j o1 hv1 hj h3 hl1 e1 k b1) (hfe j' o1' hv1' hj' h3' hl2 e2 k b2)
 ·by_cases hk:o.ft w hv k
  ·rcases(hex k hk).2.1 with hE | hE
   ·exact absurd hE h2
   ·omega
  ·rw [hold k hk];exact h.frame k h1 h2
theorem pW.turn {A:Amb}{S:Nat→Prop}{L:List LO}{env:List Value}{w w':World}(h:pW A S L env w)(i:Nat)(o o2:LO)(hv:Value)(b:Nat)
  (hL:L[i]? =some o) (hlive:o.live=true) (he:env[i]? =some hv) (hb:blk hv=some b) (hver:o2.ver=o.ver) (_:o2.live=true)
  (hsz:w'.heap.size=w.heap.size) (hold:∀k,k≠b→w'.heap[k]? =w.heap[k]?) (hos:w'.os=w.os) (htape:w'.tape=w.tape) (hout:w'.output=w.output)
  (ho:(C:Carry S L env w S (L.set i o2) env w')→gH2 S (L.set i o2) env w' o2 hv)
  (hft1:∀k,blk hv=some k→o.ft w hv k:=by intro k hk;exact hk) (hft2:∀k,o2.ft w' hv k→blk hv=some k:=by intro k hk;exact hk) :
  pW A S (L.set i o2) env w'∧Carry S L env w S (L.set i o2) env w':=
 h.turnF i o o2 hv hL hlive he hver hsz (fun k hk=>hold k (fun e=>hk (hft1 k (e▸hb)))) hos htape hout (fun k hk=>hft1 k (hft2 k hk)) ho
section
variable {P:Program}{A:Amb}{σ:St}{K:St→Prop}
variable {ops:Array Oper}{rest:List Oper}{t:Nat}{ty:TypeId}{pos:String}{af:Array Edge}{x y:Operand}{sv:SV}
theorem gDd {o:Oper}{σ':St}(hg:o.guard=none)
  (hs:∀(S:Nat→Prop)(env:List Value)(a:Act)(w:World),pW A S σ.L env w→(∀t,SVr S σ.L env w (look σ.fr t) (a.tmps.getD t undef))→a.tmps.size=σ.N→a.defers=[]→
   ∃n w',(execOp a.eval o).run P w=.ok n w'∧((∃v,n=.value v∧mY A σ' (a.put o.dst v) w')∨(n=.skip∧mY A σ' (a.put o.dst undef) w')))
  (h:VO P A ops rest σ' K):VO P A ops (o::rest) σ K:=by
 intro R hR a w ⟨S,env,hH,hf,hN,hd⟩;refine wpList_plain hg fun K' hK'=>?_;obtain⟨n,w',h1,h2⟩:=hs S env a w hH hf hN hd;unfold Oper.wp;rw [h1];rcases h2 with ⟨v,rfl,h2⟩ | ⟨rfl,h2⟩
 ·exact hK' _ _ (h R hR _ _ h2)
 ·exact hK' _ _ (h R hR _ _ h2)
theorem hKu {T:TypeId}{fr:List (Nat × SV)}{L L':List LO}{N i:Nat}{cs:List SV}(hx:(St.mk fr L N).ev x=sv)(hcs:sv.cells=cs)(hs:SV.ones cs=true)(ht:Nat.blt t N=true)(hi:L.length=i)(hL':L++[.box cs]=L')
  (h:VO P A ops rest ⟨(t,.ptr i 0)::fr,L',N⟩ K) :
  VO P A ops (⟨some t,.box T x,ty,pos,af,none⟩::rest) ⟨fr,L,N⟩ K:=by
 subst hi;subst hL';subst hcs;refine gDd rfl (fun S env a w hH hf hN hd=>?_) h;have h1:=mY.ev hf hH x;rw [hx] at h1;obtain⟨h2,h3⟩:=SVr.cellsr hs h1
 obtain⟨hH',C⟩:=hH.new (w':=w.alloc (.cells (a.eval x).cells T)) (.box sv.cells) (.pointer (some ⟨w.heap.size,0,none⟩)) (by simp) (fun b hb=>heap_alloc_old w _ hb) rfl rfl rfl
  (fun b hb=>by simp [LO.ft,blk] at hb;subst hb;simp)
  (fun C=>⟨w.heap.size,_,T,rfl,heap_alloc_new w _,kP.carry C _ _ h2,h3⟩)
 refine⟨.value (.pointer (some ⟨w.heap.size,0,none⟩)),w.alloc (.cells (a.eval x).cells T),?_,.inl ⟨_,rfl,uU hf hN hd ht hH' C ?_⟩⟩
 ·simp [execOp,Instr.box,newVar,newRow]
 ·simp only [SVr];exact⟨w.heap.size,by rw [←hH.len];simp,rfl⟩
theorem gL9{S:Nat→Prop}{L:List LO}{env:List Value}{w:World}:∀(vs:List Value),kP S L env w (vs.map gHh) vs
 | []=>by simp [kP]
 | v::vs=>by simp only [List.map_cons,kP];exact⟨hDg v,gL9 vs⟩
theorem gNy{T:TypeId}{zs:List Value}(h:tyZ P T=some zs)(w:World):∃z,(zeroValue T).run P w=.ok z w∧z.cells.toList=zs:=by
 unfold tyZ at h;split at h
 ·rename_i i hi;cases hz:i.zero with
  | none=>rw [hz] at h;simp at h
  | some z=>
    rw [hz] at h;simp only [Option.map_some,Option.some.injEq] at h;exact⟨z,by simp [zeroValue,run_typeInfo hi,hz],h⟩
 ·cases h
theorem gZc {T:TypeId}{zs:List Value}{fr:List (Nat × SV)}{L L':List LO}{N i:Nat}{cs:List SV}(hz:tyZ P T=some zs)(hcs:zs.map gHh=cs)(hs:SV.ones cs=true)(ht:Nat.blt t N=true)(hi:L.length=i)(hL':L++[.box cs]=L')
  (h:VO P A ops rest ⟨(t,.ptr i 0)::fr,L',N⟩ K) :
  VO P A ops (⟨some t,.alloc T,ty,pos,af,none⟩::rest) ⟨fr,L,N⟩ K:=by
 subst hi;subst hL';subst hcs;refine gDd rfl (fun S env a w hH hf hN hd=>?_) h;obtain⟨z,hrun,hcells⟩:=gNy hz w
 obtain⟨hH',C⟩:=hH.new (w':=w.alloc (.cells z.cells T)) (.box (zs.map gHh)) (.pointer (some ⟨w.heap.size,0,none⟩)) (by simp) (fun b hb=>heap_alloc_old w _ hb) rfl rfl rfl
  (fun b hb=>by simp [LO.ft,blk] at hb;subst hb;simp)
  (fun C=>⟨w.heap.size,_,T,rfl,heap_alloc_new w _,by rw [hcells];exact gL9 zs,by rw [hcells];exact kP.oneCell hs (gL9 (S:=S) (L:=[]) (env:=[]) (w:=w) zs)⟩)
 refine⟨.value (.pointer (some ⟨w.heap.size,0,none⟩)),w.alloc (.cells z.cells T),?_,.inl ⟨_,rfl,uU hf hN hd ht hH' C ?_⟩⟩
 ·simp [execOp,Instr.alloc,newVar,newRow,hrun]
 ·simp only [SVr];exact⟨w.heap.size,by rw [←hH.len];simp,rfl⟩
theorem setRow_size(w:World)(g:Nat)(cur:Array Value):(w.setRow g cur).heap.size=w.heap.size:=by simp [World.setRow]
theorem gZd {T:TypeId}{gg:Bool}{i off n bs:Nat}{cs ds cs':List SV}{fr:List (Nat × SV)}{L L':List LO}{N:Nat}(hx:(St.mk fr L N).ev x=.ptr i off)(hL:L[i]? =some (.box cs))(hy:(St.mk fr L N).ev y=sv)(hds:sv.cells=ds)(hs:SV.ones ds=true)
  (hT:tyI P T=some (gg,n,bs)) (hn:ds.length=n) (hfit:Nat.ble (off+n) cs.length=true) (hcs':cs.take off++ds++cs.drop (off+n)=cs') (hL':L.set i (.box cs')=L')
  (h:VO P A ops rest ⟨fr,L',N⟩ K) :
  VO P A ops (⟨none,.store T x y,ty,pos,af,none⟩::rest) ⟨fr,L,N⟩ K:=by
 subst hL';subst hcs';subst hds;refine gDd rfl (fun S env a w hH hf hN hd=>?_) h;have h1:=mY.ev hf hH x;have h2:=mY.ev hf hH y;rw [hx] at h1;rw [hy] at h2;simp only [SVr] at h1;obtain⟨b,k1,k2⟩:=h1;obtain⟨h3,h4⟩:=SVr.cellsr hs h2;obtain⟨b',vals,e,m1,m2,m3,m4⟩:=hH.objs i _ _ hL k1;simp only [Value.pointer.injEq,Option.some.injEq,Addr.mk.injEq,and_true] at m1;subst m1;have hlen:=kP.length m3;have hlen2:=kP.length h3;have hfit':=Nat.le_of_ble_eq_true hfit;have hnl:(a.eval y).cells.toList.length=n:=by omega
 have hst:=run_storeCells_at P b off e (a.eval y).cells.toList 0 vals w m2 (by simp at hlen hnl ⊢;omega) h4;have hrow:=setRow_heap w b vals ((vals.toList.take off++(a.eval y).cells.toList++vals.toList.drop (off+n)).toArray) e (0,0) m2;rw [Nat.add_zero,hnl] at hst
 obtain⟨hH',C⟩:=hH.turn (w':=w.setRow b (vals.toList.take off++(a.eval y).cells.toList++vals.toList.drop (off+n)).toArray) i (.box cs) (.box (cs.take off++sv.cells++cs.drop (off+n))) _ b hL rfl k1 rfl rfl rfl
  (setRow_size _ _ _) (fun k hk=>setRow_other w b k _ hk) rfl rfl rfl
  (fun C=>⟨b,_,e,rfl,hrow,by
   rw [kP.iff];refine yZ.append (yZ.append (yZ.take off ((kP.iff _ _).1 (kP.carry C _ _ m3))) ((kP.iff _ _).1 (kP.carry C _ _ h3))) ?_;exact yZ.drop (off+n) ((kP.iff _ _).1 (kP.carry C _ _ m3)),by
   intro v hv;simp only [List.mem_append] at hv;rcases hv with (hv | hv) | hv
   ·exact m4 v (List.mem_of_mem_take hv)
   ·exact h4 v hv
   ·exact m4 v (List.mem_of_mem_drop hv)⟩)
 refine⟨.skip,_,?_,.inr ⟨rfl,gBw hf hN hd hH' C⟩⟩;have hsz:(a.eval y).cells.size=n:=by simpa using hnl
 simp [execOp,Instr.storeAt,k2,Instr.sureAddr,storeVar,run_sizeOf hT,hsz,hst]
section
variable {T:TypeId}{fr:List (Nat × SV)}{L L':List LO}{N i j ver off n bs:Nat}{cs ds cs':List SV}{us:List U}{u:U}{gg:Bool}
end
end
end Go.Eng
