/- Laws and walks on the road to SalvageNever and SalvageHeals (part M28). No conditions beyond each law's own. -/
import Derived.Test.YtcdaflcjhimimaaGreatDoorRows
import Derived.ProofKit
import Derived.Lib.LaidTab
import Derived.SizedLaws
import Derived.OpenShut
import Derived.DataElems
import Derived.Test.YtcdaflcjhimimaaGreatDoorM01
import Derived.Test.YtcdaflcjhimimaaGreatDoorM23
import Derived.Test.YtcdaflcjhimimaaGreatDoorM24
import Derived.Test.YtcdaflcjhimimaaGreatDoorM05
set_option linter.unusedVariables false
namespace Go.Proofs.YtcdaflcjhimimaaGreatDoor
open Go.ChangeShapes Go.WideShapes Go.ChangeAt Go.RowKit
variable {cs:List Value}
theorem M3{H:Type}(d:DataW H):1≤Rows.uptoBulk d:=by
 cases d with
 |lit l=>cases l<;>simp[Rows.uptoBulk]
 |nil=>simp[Rows.uptoBulk]
 |ptr d=>simp[Rows.uptoBulk]
 |slice elems spare=>simp[Rows.uptoBulk]
 |agg parts=>simp[Rows.uptoBulk]
 |iface t d=>simp[Rows.uptoBulk]
 |map entries=>simp[Rows.uptoBulk]
 |held h=>simp[Rows.uptoBulk]
theorem Sc{H Ck:Type}(f:Ck→Nat):∀(L:List Ck) (es:List (DataW H)),L.length≤es.length→(∀(i:Nat) (y:Ck),L[i]? =some y→∃d,es[i]? =some d∧f y≤Rows.uptoBulk d)→(L.map f).sum≤Rows.uptoBulkAll es:=by
 intro L
 induction L with
 |nil=>intro es _ _;exact Nat.zero_le _
 |cons x L c=>
  intro es a h
  cases es with
  |nil=>simp at a
  |cons d es=>
   have e:=h 0 x D
   obtain⟨j,b,k⟩:=e
   simp only[List.getElem?_cons_zero,Option.some.injEq]at b
   subst b
   have:=c es (by simpa using a) (fun i y g=>h (i+1) y g)
   simp only[List.map_cons,List.sum_cons,Rows.uptoBulkAll]
   omega
theorem Ob{H:Type}:∀(es:List (DataW H)),es.length≤Rows.uptoBulkAll es:=by
 intro es
 induction es with
 |nil=>exact Nat.zero_le _
 |cons d es a=>have:=M3 d;simp only[List.length_cons,Rows.uptoBulkAll];omega
section
variable {H:Type} {enc:TypeId×Value→H} {P:Program} {W:World} {held:Bool}
theorem X5{b off:Nat}(j:Nat):(⟨b,off,none⟩:Addr).add j=⟨b,off+j,none⟩:=by unfold Addr.add;split<;>simp_all
theorem Md{Ck:Type}{g:Ck→List Value}{R:Ck→DataW H→Prop}{t e:TypeId}{size fuel:Nat}{x:DataW H×List MemPlace}(O:P.underlying t=some (.slice e))(Q:P.cellsOf e=size)(C:0<size)(hlen:∀y,(g y).length=size)
 (S:∀(m:Nat) (cs:List Value) (x:DataW H×List MemPlace),cs.length=size→DataW.trod enc P W 0 (fun _=>true) held m e cs=some x→∃y,g y=cs∧R y x.1)
 (h:DataW.trod enc P W 0 (fun _=>true) held fuel t cs=some x):
 ∃q n c,∃L:List Ck,cs=[.slice q n c]∧L.length=n∧(n≠0→View W (.slice q n c) n size (Al g L))∧((x.1=.nil∧n=0)∨∃es rs,x.1=.slice es rs∧es.length=n∧∀(i:Nat) (y:Ck),L[i]? =some y→∃d,es[i]? =some d∧R y d):=by
 rcases DataW.trod_slice O h with⟨rfl,rfl⟩|⟨a,len,cap,elems,rest,m,_,rfl,rfl,ae,E,hm,T,l,_,_⟩
 ·exact⟨none,0,0,[],D,D,fun h=>absurd D h,.inl ⟨D,D⟩⟩
 ·have each:∀i,i<len→∃y,(∀j,j<size→W.cell? (a.add (i*size+j))=(g y)[j]?)∧∃z,elems[i]? =some z∧R y z.1:=by
   intro i s
   have w:=l i s
   rw[Q]at w
   have o:elems[i]? =some (elems[i]'(by omega)):=List.getElem?_eq_getElem (by omega)
   rw[o]at w
   obtain⟨cs,U,V⟩:=Option.bind_eq_some_iff.1 w
   obtain⟨_,X,p⟩:=World.cells?_some U
   obtain⟨y,f,A⟩:=S m cs _ X V
   exact⟨y,fun j k=>by rw[f,←p j k,Addr.add_add],_,o,A⟩
  have Y:∃L:List Ck,L.length=len∧∀i y,L[i]? =some y→(∀j,j<size→W.cell? (a.add (i*size+j))=(g y)[j]?)∧∃z,elems[i]? =some z∧R y z.1:=by
   refine⟨List.ofFn (fun i:Fin len=>Classical.choose (each i i.2)),by simp,fun i y f=>?_⟩
   rw[List.getElem?_ofFn]at f
   split at f
   ·rename_i s
    cases f
    exact Classical.choose_spec (each i s)
   ·cases f
  obtain⟨L,B,F⟩:=Y
  refine⟨some a,len,cap,L,D,B,fun hn=>?_,.inr ⟨_,_,D,by simpa using T,fun i y f=>?_⟩⟩
  ·have G:∀(i j:Nat) (y:Ck),L[i]? =some y→j<size→∃v,(g y)[j]? =some v∧W.cell? (a.add (i*size+j))=some v:=by
    intro i j y f k
    have I:(g y)[j]? =some ((g y)[j]'(by rw[hlen];exact k)):=List.getElem?_eq_getElem _
    exact⟨_,I,by rw[(F i y f).1 j k,I]⟩
   have Z:L[0]? =some (L[0]'(by omega)):=List.getElem?_eq_getElem (by omega)
   obtain⟨v0,_,r⟩:=G 0 0 _ Z C
   rw[Nat.zero_mul,Nat.add_zero]at r
   have aa:a.add 0=a:=by simp[Addr.add]
   rw[aa]at r
   have J:=World.cell?_spot r
   obtain⟨b,off,spot⟩:=a
   simp only at J
   subst J
   have ab:b<W.heap.size:=by
    apply Classical.byContradiction
    intro af
    have:W.heap[b]? =none:=by simp;omega
    simp[World.cell?,this]at r
   have l:=QM hlen L
   refine⟨by rw[l,B];exact Be _,.inr ⟨b,off,cap,D,by rw[l,B];exact Nat.mul_le_mul_right _ E,E,hm,ab,?_⟩⟩
   intro j v k
   have ad:j<L.length*size:=by rw[←l];exact(List.getElem?_eq_some_iff.1 k).1
   have K:j/size<L.length:=Nat.div_lt_of_lt_mul (by rw[Nat.mul_comm];exact ad)
   have M:j % size<size:=Nat.mod_lt _ C
   have f:L[j/size]? =some (L[j/size]'K):=List.getElem?_eq_getElem K
   obtain⟨u,hu,p⟩:=G (j/size) (j % size) _ f M
   have N:j/size*size+j % size=j:=by rw[Nat.mul_comm];exact Nat.div_add_mod j size
   rw[X5,N]at p
   rw[←OW hlen f,List.getElem?_take,if_pos M,List.getElem?_drop,N,k]at hu
   cases hu
   exact p
  ·obtain⟨z,o,A⟩:=(F i y f).2
   exact⟨z.1,by rw[List.getElem?_map,o];rfl,A⟩
theorem No{e:TypeId}(he:P.underlying e=some (.int .u8)):∀(m:Nat) (cs:List Value) (x:DataW H×List MemPlace),cs.length=1→DataW.trod enc P W 0 (fun _=>true) held m e cs=some x→∃y:UInt8,[Value.int .u8 ((y.toNat:Nat):Int)]=cs∧True:=by
 intro m cs x _ h
 obtain⟨z,rfl,_,hw⟩:=DataW.trod_int he h
 have b:IntKind.u8.min=0:=D
 have c:IntKind.u8.max=255:=D
 simp only[Lit.wf,Bool.and_eq_true,decide_eq_true_eq]at hw
 have a:z.toNat % 256=z.toNat:=Nat.mod_eq_of_lt (by omega)
 refine⟨UInt8.ofNat z.toNat,?_,trivial⟩
 show [Value.int .u8 ((z.toNat % 256:Nat):Int)]=_
 rw[a,Int.toNat_of_nonneg (by omega)]
theorem UX(l:List UInt8):Al (fun y:UInt8=>[Value.int .u8 ((y.toNat:Nat):Int)]) l=bv l:=by
 induction l with
 |nil=>rfl
 |cons x l a=>
  show Value.int .u8 _::Al _ l=_
  rw[a];rfl
theorem VQ{e t:TypeId}{n m:Nat}(d:P.underlying t=some (.array n e))(he:P.underlying e=some (.int .u8))(f:P.cellsOf e=1)(g:P.cellsOf t=n){x:DataW H×List MemPlace}(h:DataW.trod enc P W 0 (fun _=>true) held m t cs=some x):
 ∃l:List UInt8,l.length=n∧cs=bv l∧n+1≤Rows.uptoBulk x.1:=by
 obtain⟨xs,Dp,rfl,rfl,j,r,b⟩:=DataW.trod_array d h
 rw[g]at j
 rw[f]at b
 have each:∀i,i<n→∃y:UInt8,cs[i]? =some (.int .u8 ((y.toNat:Nat):Int)):=by
  intro i a
  have c:=b i a
  have k:xs[i]? =some (xs[i]'(by omega)):=List.getElem?_eq_getElem (by omega)
  rw[k]at c
  obtain⟨y,o,_⟩:=No (W:=W) he Dp _ _ (by simp;omega) c
  refine⟨y,?_⟩
  have:=congrArg (·[0]?) o
  simp only[List.getElem?_take,List.getElem?_drop,Nat.mul_one,Nat.add_zero]at this
  simpa using this.symm
 have p:∃l:List UInt8,l.length=n∧∀i,i<n→cs[i]? =(bv l)[i]? :=by
  refine⟨List.ofFn (fun i:Fin n=>Classical.choose (each i i.2)),by simp,fun i a=>?_⟩
  have:=Classical.choose_spec (each i a)
  rw[this]
  simp[bv,a]
 obtain⟨l,q,hle⟩:=p
 refine⟨l,q,?_,?_⟩
 ·apply List.ext_getElem?
  intro i
  by_cases a:i<n
  ·exact hle i a
  ·rw[List.getElem?_eq_none (by omega),List.getElem?_eq_none (by rw[D_];omega)]
 ·have:=Ob (xs.map (·.1))
  simp only[List.length_map]at this
  simp only[Rows.uptoBulk]
  omega
end
theorem Iq{H:Type}{enc:TypeId×Value→H}{P:Program}{W:World}{held:Bool}{m:Nat}{a:Array Field}{xs:List (DataW H×List MemPlace)}(b:∀(i:Nat) (f:Field),a[i]? =some f→DataW.trod enc P W 0 (fun _=>true) held m f.type ((cs.drop f.offset).take (P.cellsOf f.type))=xs[i]?)
 {i:Nat}{t:TypeId}{off n:Nat}{x:DataW H×List MemPlace}(h:(a[i]?).map (fun f=>(f.type,f.offset))=some (t,off))(c:P.cellsOf t=n)(d:xs[i]? =some x):DataW.trod enc P W 0 (fun _=>true) held m t ((cs.drop off).take n)=some x:=by
 obtain⟨f,g,e⟩:=Option.map_eq_some_iff.1 h
 simp only[Prod.mk.injEq]at e
 have:=b i f g
 rw[e.1,e.2,c,d]at this
 exact this
theorem Nr:Tryz.prog.cellsOf 5=1:=by kernel_rfl
theorem OV:Tryz.prog.cellsOf 51=32:=by kernel_rfl
theorem Xf:Tryz.prog.cellsOf 96=34:=by kernel_rfl
theorem YP:Tryz.prog.cellsOf 45=1:=by kernel_rfl
theorem VN:Tryz.prog.cellsOf 90=2:=by kernel_rfl
theorem Wo:Tryz.prog.cellsOf 4=1:=by kernel_rfl
theorem KU:Tryz.prog.cellsOf 3=1:=by kernel_rfl
theorem TW:Tryz.prog.cellsOf 28=1:=by kernel_rfl
theorem Ue:Tryz.prog.cellsOf 22=1:=by kernel_rfl
theorem UG:Tryz.prog.cellsOf 24=5:=by kernel_rfl
section
variable {H:Type} {enc:TypeId×Value→H} {W:World} {held:Bool}
theorem L5{i:Nat}{v:Value}(h:(cs.drop i).take 1=[v]):cs.drop i=v::cs.drop (i+1):=by
 cases Ab:cs.drop i with
 |nil=>rw[Ab]at h;simp at h
 |cons x l=>
  rw[Ab]at h
  simp at h
  subst h
  rw[←List.drop_drop,Ab]
  rfl
theorem YA:∀(m:Nat) (cs:List Value) (x:DataW H×List MemPlace),cs.length=34→DataW.trod enc Tryz.prog W 0 (fun _=>true) held m 96 cs=some x→∃y:CV,FQ y=cs∧(B8.Hg W y.s∧36≤Rows.uptoBulk x.1):=by
 intro m cs x O h
 obtain⟨xs,Dp,rfl,rfl,_,j,d⟩:=DataW.trod_struct Dj h
 have get:∀i,i<3→∃x,xs[i]? =some x:=fun i w=>⟨xs[i]'(by rw[j];exact w),List.getElem?_eq_getElem _⟩
 obtain⟨Fp,k⟩:=get 0 (by decide)
 obtain⟨o,p⟩:=get 1 (by decide)
 obtain⟨r,u⟩:=get 2 (by decide)
 have e:=Iq d (i:=0) (t:=51) (off:=0) D OV k
 have f:=Iq d (i:=1) (t:=4) (off:=32) D Wo p
 have g:=Iq d (i:=2) (t:=28) (off:=33) D TW u
 obtain⟨l,z,A,P⟩:=VQ Ce BA Nr OV e
 obtain⟨b,B,_⟩:=DataW.trod_bool FP f
 obtain⟨q,n,c,L,C,E,v,_⟩:=Md (R:=fun(_:UInt8) (_:DataW H)=>True) Cr Nr (by decide) (fun _=>rfl) (No BA) g
 rw[UX]at v
 subst E
 have F:=L5 B
 have G:=L5 C
 refine⟨⟨⟨l,z⟩,b,⟨q,L,c⟩⟩,?_,fun I=>v I,?_⟩
 ·have J:cs.drop 34=[]:=List.drop_of_length_le (by omega)
  have K:cs=bv l++cs.drop 32:=by
   conv=>lhs;rw[←List.take_append_drop 32 cs]
   rw[show cs.take 32=bv l from by simpa using A]
  show List.flatten [bv l,[.bool b],[.slice q L.length c]]=cs
  rw[K,F,G,J]
  simp
 ·have M:xs.map (·.1)=[Fp.1,o.1,r.1]:=by
   have N:xs.length=3:=j
   match xs,N,k,p,u with
   |[a,b,c],_,e,f,g=>cases e;cases f;cases g;rfl
  have:=M3 o.1
  have:=M3 r.1
  simp only[M,Rows.uptoBulk,Rows.uptoBulkAll]
  omega
theorem Tq:∀(m:Nat) (cs:List Value) (x:DataW H×List MemPlace),cs.length=1→DataW.trod enc Tryz.prog W 0 (fun _=>true) held m 45 cs=some x→∃y:Fm,K3 y=cs∧(Fm.ok W y∧36*y.L.length≤Rows.uptoBulk x.1):=by
 intro m cs x _ h
 obtain⟨q,n,c,L,rfl,b,f,Ab⟩:=Md (R:=fun(y:CV) (d:DataW H)=>B8.Hg W y.s∧36≤Rows.uptoBulk d) F1 Xf (by decide) CI YA h
 subst b
 refine⟨⟨q,L,c⟩,D,⟨f,fun e he=>?_⟩,?_⟩
 ·rcases Ab with⟨_,hn⟩|⟨es,rs,_,_,a⟩
  ·rw[List.eq_nil_of_length_eq_zero hn]at he;cases he
  ·obtain⟨i,g⟩:=List.mem_iff_getElem?.1 he
   obtain⟨d,_,j⟩:=a i e g
   exact j.1
 ·rcases Ab with⟨_,hn⟩|⟨es,rs,k,r,a⟩
  ·show 36*L.length≤_
   omega
  ·have:=Sc (fun _=>36) L es (by omega) (fun i y l=>by obtain⟨d,o,p⟩:=a i y l;exact⟨d,o,p.2⟩)
   rw[List.map_const',List.sum_replicate_nat]at this
   rw[k]
   show 36*L.length≤_
   simp only[Rows.uptoBulk]
   omega
theorem Xu:∀(m:Nat) (cs:List Value) (x:DataW H×List MemPlace),cs.length=2→DataW.trod enc Tryz.prog W 0 (fun _=>true) held m 90 cs=some x→∃y:Kz,Mz y=cs∧True:=by
 intro m cs x r h
 obtain⟨xs,Dp,rfl,rfl,_,e,c⟩:=DataW.trod_struct NW h
 have get:∀i,i<2→∃x,xs[i]? =some x:=fun i f=>⟨xs[i]'(by rw[e];exact f),List.getElem?_eq_getElem _⟩
 obtain⟨Fp,g⟩:=get 0 (by decide)
 obtain⟨s,j⟩:=get 1 (by decide)
 have k:=Iq c (i:=0) (t:=3) (off:=0) D KU g
 have l:=Iq c (i:=1) (t:=3) (off:=1) D KU j
 obtain⟨a,n,_⟩:=DataW.trod_int AH k
 obtain⟨b,o,_⟩:=DataW.trod_int AH l
 have d:=L5 n
 have p:=L5 o
 rw[List.drop_zero]at d
 have q:cs.drop 2=[]:=List.drop_of_length_le (by omega)
 exact⟨⟨a,b⟩,by rw[d,p,q];rfl,trivial⟩
end
theorem Q7:Tryz.prog.globalNamed "ledger/ledgerref1.first" =some 0:=by kernel_rfl
theorem O1:Tryz.prog.globalNamed "ledger/ledgerref1.consts" =some 2:=by kernel_rfl
theorem PD:Tryz.prog.globalNamed "ledger/ledgerref2.divisor" =some 1:=by kernel_rfl
theorem XN:(Tryz.prog.globals[0]?).map (·.type)=some 181:=by kernel_rfl
theorem Vm:(Tryz.prog.globals[2]?).map (·.type)=some 196:=by kernel_rfl
theorem WL:(Tryz.prog.globals[1]?).map (·.type)=some 207:=by kernel_rfl
theorem M'{W:World}{name:String}{g:Nat}{cs:Array Value}{xs:List Value}(b:Tryz.prog.globalNamed name=some g)(c:W.var? Tryz.prog name=some cs)(d:cs.toList=xs)(e:xs≠[]:=by decide):Cells W g 0 xs∧g<W.heap.size:=by
 have a:Cells W g 0 xs:=by
  intro j v f
  rw[World.var?_cell b c,Nat.zero_add,←Array.getElem?_toList,d]
  exact f
 refine⟨a,?_⟩
 cases xs with
 |nil=>exact absurd D e
 |cons x xs=>
  have h:=a 0 x D
  apply Classical.byContradiction
  intro hn
  have:W.heap[g]? =none:=by simp;omega
  simp[World.cell?,this]at h
theorem U9{W:World}(h:laidMetH Tryz.prog [("ledger/ledgerref1.first",Rows.laid_ledger_ledgerref1_first),("ledger/ledgerref1.consts",Rows.laid_ledger_ledgerref1_consts),("ledger/ledgerref2.divisor",Rows.laid_ledger_ledgerref2_divisor)] W):CT W:=by
 have a:laidMet Tryz.prog [("ledger/ledgerref1.first",Rows.laid_ledger_ledgerref1_first),("ledger/ledgerref1.consts",Rows.laid_ledger_ledgerref1_consts),("ledger/ledgerref2.divisor",Rows.laid_ledger_ledgerref2_divisor)] W:=h
 obtain⟨t,⟨u,t1,v,f1,w,x,b,c,d,e,⟨y,t2,A,f2,B,C,f,g,i,j,⟨D,t3,E,f3,F,G,k,l,m,n,_,_⟩,_⟩,_⟩,_⟩:=a
 obtain rfl:=Option.some.inj (Q7.symm.trans b)
 obtain rfl:=Option.some.inj (O1.symm.trans f)
 obtain rfl:=Option.some.inj (PD.symm.trans k)
 obtain rfl:=Option.some.inj (XN.symm.trans c)
 obtain rfl:=Option.some.inj (Vm.symm.trans g)
 obtain rfl:=Option.some.inj (WL.symm.trans l)
 have o:=Lib.cells_of_tab (zs:=K4.map fun z=>((z:Nat):Int)) FF Ev (by kernel_rfl) (by kernel_rfl) e
 have p:=Lib.cells_of_tab (zs:=IB.map fun z=>((z:Nat):Int)) Hr Ev (by kernel_rfl) (by kernel_rfl) j
 have q:=Lib.cells_of_tab (zs:=Ref.Gu.map fun z=>((z.toNat:Nat):Int)) P5 BA (by kernel_rfl) (by kernel_rfl) n
 obtain⟨a1,b1⟩:=M' (xs:=(G5 K4).toList) Q7 d (by rw[o];rfl)
 obtain⟨a2,b2⟩:=M' (xs:=(G5 IB).toList) O1 i (by rw[p];rfl)
 obtain⟨r,s⟩:=M' (xs:=bv Ref.Gu) PD m (by rw[q];rfl)
 exact⟨a1,b1,a2,b2,r,s⟩
end Go.Proofs.YtcdaflcjhimimaaGreatDoor
