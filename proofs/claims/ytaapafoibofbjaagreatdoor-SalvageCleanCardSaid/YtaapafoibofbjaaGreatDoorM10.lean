/- Laws and walks on the road to SalvageClean (part M10). No conditions beyond each law's own. -/
import Derived.BigQuiet
import Derived.Deep.QuietTactic
import Derived.Test.YtaapafoibofbjaaGreatDoorM01
import Derived.Test.YtaapafoibofbjaaGreatDoorM09
import Derived.Test.YtaapafoibofbjaaGreatDoorM06
import Derived.Test.YtaapafoibofbjaaGreatDoorM08
set_option linter.unusedVariables false
namespace Go.Proofs.YtaapafoibofbjaaGreatDoor
open Go.RowKit
variable {Bo:Type} {size b j n o k:Nat}
def Aq{Bo:Type}(enc:Bo→List Value)(L:List Bo):List Value:=(L.map enc).flatten
theorem Py(enc:Bo→List Value)(L a:List Bo):Aq enc (L++a)=Aq enc L++Aq enc a:=by simp[Aq]
theorem bO(enc:Bo→List Value)(x:Bo):Aq enc [x]=enc x:=by simp[Aq]
theorem LK{enc:Bo→List Value}(h:∀x,(enc x).length=size)(L:List Bo):(Aq enc L).length=L.length*size:=by
 induction L with
 |nil=>simp[Aq]
 |cons x L a=>
  have:Aq enc (x::L)=enc x++Aq enc L:=D
  rw[this,List.length_append,h,a,List.length_cons,Nat.add_mul,Nat.one_mul,Nat.add_comm]
theorem g7{enc:Bo→List Value}(L:List Bo)(x:Bo){CP:List Value}(a:CP=enc x)(hl:(enc x).length=size):Aq enc L++CP.take (1*size)=Aq enc (L++[x]):=by
 rw[Py,bO,a,Nat.one_mul,List.take_of_length_le (Nat.le_of_eq hl)]
theorem da{enc:Bo→List Value}(h:∀x,(enc x).length=size):∀(L:List Bo) (k:Nat),(Aq enc L).drop (k*size)=Aq enc (L.drop k):=by
 intro L
 induction L with
 |nil=>intro k;simp[Aq]
 |cons x L a=>
  intro k
  cases k with
  |zero=>simp
  |succ k=>
   have:Aq enc (x::L)=enc x++Aq enc L:=D
   rw[this,Nat.succ_mul,Nat.add_comm,←List.drop_drop,List.drop_append_of_le_length (Nat.le_of_eq (h x).symm),List.drop_of_length_le (Nat.le_of_eq (h x)),List.nil_append,a]
   rfl
theorem bl{enc:Bo→List Value}(h:∀x,(enc x).length=size){L:List Bo}{x:Bo}(a:L[j]? =some x):((Aq enc L).drop (j*size)).take size=enc x:=by
 rw[da h]
 obtain⟨hj,rfl⟩:=List.getElem?_eq_some_iff.1 a
 rw[List.drop_eq_getElem_cons hj]
 have:Aq enc (L[j]::L.drop (j+1))=enc L[j]++Aq enc (L.drop (j+1)):=D
 rw[this,List.take_append_of_le_length (Nat.le_of_eq (h _).symm),List.take_of_length_le (Nat.le_of_eq (h _))]
theorem QC{enc:Bo→List Value}(h:∀x,(enc x).length=size){w:World}{off c:Nat}{L:List Bo}(V:View w (.slice (some ⟨b,off,none⟩) n c) n size (Aq enc L)){x:Bo}(d:L[j]? =some x)(ho:off+j*size=o):Cells w b o (enc x):=by
 subst ho
 rcases V.2 with⟨a,_⟩|⟨f,g,cap,a,_,_,_,_,e⟩
 ·cases a
 ·simp only[Value.slice.injEq,Option.some.injEq,Addr.mk.injEq]at a
  obtain⟨⟨rfl,rfl,_⟩,_,_⟩:=a
  intro r v hr
  rw[←bl h d]at hr
  rw[List.getElem?_take]at hr
  split at hr
  ·exact e.drop (j*size) r v hr
  ·cases hr
theorem getD_some{L:List Bo}(hl:L.length=n)(hj:j<n):∃x,L[j]? =some x:=⟨L[j]'(by omega),List.getElem?_eq_getElem (by omega)⟩
theorem I3{enc:Bo→List Value}(h:∀x,(enc x).length=size)(a:0<size){w:World}{base:Nat}{e:TypeId}{v:Value}{L:List Bo}(ho:w.ownsRow base e size v n (Aq enc L)):L.length=n:=by
 have:=ho.1
 rw[LK h]at this
 exact Nat.eq_of_mul_eq_mul_right a this
theorem Q0{w:World}(pre mid post:List (List Value))(h:Cells w b o (List.flatten (pre++mid++post))){o':Nat}(a:pre.flatten.length=k)(ho:o+k=o'):Cells w b o' mid.flatten:=by
 subst a
 subst ho
 intro j v hj
 have c:j<mid.flatten.length:=(List.getElem?_eq_some_iff.1 hj).1
 have:=h (pre.flatten.length+j) v (by
  simp only[List.flatten_append]
  rw[List.append_assoc,List.getElem?_append_right (by omega),Nat.add_sub_cancel_left,List.getElem?_append_left c]
  exact hj)
 rw[Nat.add_assoc]
 exact this
theorem ei{w:World}(pre:List (List Value))(v:Value)(post:List (List Value))(h:Cells w b o (List.flatten (pre++[[v]]++post))){o':Nat}(a:pre.flatten.length=k)(ho:o+k=o'):w.cell? ⟨b,o',none⟩=some v:=by
 have:=Q0 pre [[v]] post h a ho 0 v D
 simpa using this
theorem dS{w:World}(pre:List (List Value))(l:List UInt8)(post:List (List Value))(h:Cells w b o (List.flatten (pre++[bv l]++post))){o':Nat}(a:pre.flatten.length=k)(hl:l.length=n)(hj:j<n)(ho:o+k+j=o'):w.cell? ⟨b,o',none⟩=some (.int .u8 (((l.getD j 0).toNat:Nat):Int)):=by
 subst ho
 have h1:=Q0 pre [bv l] post h a D
 have:=h1 j (.int .u8 (((l.getD j 0).toNat:Nat):Int)) (by
  have c:j<l.length:=by rw[hl];exact hj
  simp[bv,c,List.getD_eq_getElem?_getD])
 exact this
section
variable {P:Program} {w w':World} {a:Act} {Aa:Exit→Act→World→Prop} {N:Nat} {f:BW} {d:Nat} {ty:TypeId} {pos:String} {An:Array Edge} {dst:Option Tmp} {g:Option (Nat×Bool)} {K:Act→World→Prop}
theorem Wg(c:AH N a f){T:TypeId}{x:Operand}{off:Nat}(d:Aj f x=some (.pointer (some ⟨b,off,none⟩))){BB:TypeDesc}(hu:P.underlying T=some BB)(Ad:BB.isRow=true){mid:List (List Value)}(e:Cells w b off mid.flatten)(h:(P.info? T).map (·.size)=some mid.flatten.length):CD P a w ⟨dst,.load T x,ty,pos,An,g⟩ (.agg (flat mid)) w:=
 RN c d hu Ad e h
theorem hR(e:AH N a f){T:TypeId}{x y:Operand}(i:Aj f x=some (.pointer (some ⟨b,o,none⟩)))(pre:List (List Value)){l:List UInt8}(post:List (List Value)){tb:TypeId}(J:w.heap[b]? =some (.cells (flat (pre++[bv l]++post)) tb (0,0)))(m:pre.flatten.length=k)(hl:l.length=n)(hj:j<n)(ho:k+j=o){u:UInt8}(p:Aj f y=some (.int .u8 ((u.toNat:Nat):Int)))(q:(P.info? T).map (·.size)=some 1)
 (h:∀c W,AH N c f→W.heap.size=w.heap.size→W.heap[b]? =some (.cells (flat (pre++[bv (l.set j u)]++post)) tb (0,0))→w.grownBy W (some b)→K c W):Dw P ⟨none,.store T x y,ty,pos,An,g⟩ a w K Aa:=by
 subst ho
 subst m
 have d:j<(bv l).length:=by rw[DG,hl];exact hj
 refine Me e i J p D q (by simp[flat];rw[DG]at d⊢;omega) ?_ h
 apply Array.toList_inj.1
 rw[Array.toList_setIfInBounds]
 simp only[flat,List.flatten_append,List.flatten_cons,List.flatten_nil,List.append_nil,List.append_assoc]
 rw[List.set_append_right _ _ (Nat.le_add_right _ _),Nat.add_sub_cancel_left,List.set_append_left _ _ d]
 congr 1
 congr 1
 simp[bv,List.map_set]
end
end Go.Proofs.YtaapafoibofbjaaGreatDoor
namespace Go.Proofs.YtaapafoibofbjaaGreatDoor
open Go.RowKit
set_option maxRecDepth 100000
set_option maxHeartbeats 2000000
section
variable {P:Program} {w:World} {ops:Array Oper} {rest:List Oper} {o:Oper} {a:Act} {Aa:Exit→Act→World→Prop}
theorem TF(q:Nat)(h:q≤9223372036854775807:=by omega):IntKind.i64.wrap (q:Int)=q:=IntWalk.i64_in _ (by omega)
theorem iz(a b:Nat)(e:a<9223372036854775808)(J:b<9223372036854775808):bits .or .i64 (a:Int) (b:Int)=((a|||b:Nat):Int):=by
 have f:a|||b<2^63:=Nat.or_lt_two_pow (by omega) (by omega)
 have c:(BitVec.ofInt 64 (a:Int)).toNat=a:=by rw[BitVec.ofInt_natCast,BitVec.toNat_ofNat];exact Nat.mod_eq_of_lt (by omega)
 have d:(BitVec.ofInt 64 (b:Int)).toNat=b:=by rw[BitVec.ofInt_natCast,BitVec.toNat_ofNat];exact Nat.mod_eq_of_lt (by omega)
 show IntKind.i64.wrap ((BitVec.ofInt 64 (a:Int)|||BitVec.ofInt 64 (b:Int)).toNat:Int)=_
 rw[BitVec.toNat_or,c,d]
 exact TF _
theorem dF(hw:Region.wanted o (yielded ops a.tmps)=true){t u:TypeId}{x y:Operand}(ho:o.op=.binOp .or t x y u){p q:Nat}(b:a.eval x=.int .i64 p)(c:a.eval y=.int .i64 q)(d:p<9223372036854775808)(f:q<9223372036854775808)
 (r:Nat)(hr:p|||q=r)(h:wpList P ops Aa rest (a.put o.dst (.int .i64 r)) w):wpList P ops Aa (o::rest) a w:=by
 subst hr
 refine bin hw .or t u x y ho b c (by simp[eqGuard]) ?_ h
 have:=iz p q d f
 unfold binOp
 simp only[ne_eq,not_true_eq_false,if_false]
 show(Op.intBits .or .i64 p q).run P w=_
 simp only[Op.intBits]
 have e:bits .or .i64 (p:Int) (q:Int)=_:=this
 unfold bits at e
 simp only at e
 rw[Sem.run_pure,e]
theorem hW(hw:Region.wanted o (yielded ops a.tmps)=true){t u:TypeId}{x y:Operand}(ho:o.op=.binOp .shl t x y u){p n:Nat}{k:IntKind}{i:Int}(b:a.eval x=.int .i64 p)(c:a.eval y=.int k i)(d:i=(n:Int))(e:n≤64)(f:p*2^n<9223372036854775808)
 (r:Nat)(hr:p*2^n=r)(h:wpList P ops Aa rest (a.put o.dst (.int .i64 r)) w):wpList P ops Aa (o::rest) a w:=by
 subst hr
 subst d
 refine bin hw .shl t u x y ho b c (by simp[eqGuard]) ?_ h
 unfold binOp
 simp only
 rw[shift_shl_any _ _ _ _ (by omega),Sem.run_pure]
 have:min (n:Int).toNat IntKind.i64.bits=n:=by simp[IntKind.bits];omega
 rw[this,show((p:Int)*2^n)=((p*2^n:Nat):Int)by simp,TF _]
end
theorem KA(q:Option Addr)(m c n:Nat)(l:List UInt8)(w:World)(V:View w (.slice q m c) m 1 (bv l))(hl:l.length=m:=by simp;omega)(K:n≤m:=by decide)(L:n≤7:=by decide):
 Calls Tryz.prog 73 #[.slice q m c,.int .i64 n] w fun e w'=>e=.returned (.int .i64 (Fr.le (l.take n):Nat))∧w=w':=by
 have M:m≤l.length:=by omega
 have N:=AX hl
 clear hl
 go_enter SU,Tryz.ntmps73
 go_wp2
 go_loop [5,6] (fun v i=>∃(k x:Nat) (j:Int),k≤n∧i=.int .i64 j∧Hid (j=(n:Int) - 1 - k)∧v=.int .i64 x∧Hid (x=Fr.le ((l.take n).drop (n - k)))) (fun _ i=>(intOf i+1).toNat)
 case atStart=>exact⟨0,0,_,by omega,D,AX (by simp),D,AX (by rw[List.drop_of_length_le (by rw[List.length_take];omega)];rfl)⟩
 case round=>
  obtain⟨k,x,j,O,rfl,hj,rfl,a⟩:=hrel
  by_cases u:k<n
  ·have f:0≤j:=by have:=hj.out;omega
   have P:j≤7:=by have:=hj.out;omega
   have A:x<256^k:=by
    rw[a.out]
    have:=Fr.Lt ((l.take n).drop (n - k))
    rw[List.length_drop,List.length_take,Nat.min_eq_left (by omega),show n - (n - k)=k by omega]at this
    exact this
   have B:256^k≤256^6:=Nat.pow_le_pow_right (by decide) (by omega)
   have Q:x<281474976710656:=by omega
   clear A B
   go_wp2_with (first|go_skip|(with_reducible refine Mt .shl ?_))
   obtain⟨y,h⟩:∃y,y=x*2^8:=⟨_,D⟩
   have R:y<72057594037927936:=by omega
   have o:=AX h
   clear h
   refine⟨hW D D (p:=x) (n:=8) (i:=8) D D D (by decide) (by omega) y o.out.symm ?_⟩
   go_wp2_with (first|go_skip|(with_reducible refine HD 22 ?_))
   obtain⟨i,r⟩:∃i:Nat,i=n - (k+1):=⟨_,D⟩
   have s:j=(i:Int):=by have:=hj.out;omega
   have i1:i<m:=by omega
   have C:=AX r
   have E:=AX s
   clear r s
   refine⟨idx A3 D (.tmp 15) (.tmp 16) D (y:=q) (n:=m) (c:=c) D V D i E.out i1 ?_⟩
   intro F G t _
   obtain⟨g,b⟩:∃g,g=(l.getD i 0).toNat:=⟨_,D⟩
   have S:g<256:=by rw[b];exact(l.getD i 0).toNat_lt
   have BO:=AX b
   clear b
   have T:w.cell? ⟨F,G,none⟩=some (.int .u8 g):=by rw[BO.out];exact Gw t
   clear t
   go_wp2_with (first|go_skip|(with_reducible refine Mt .or ?_))
   obtain⟨z,d⟩:∃z,z=y|||g:=⟨_,D⟩
   have H:Hid (z=Fr.le ((l.take n).drop (n - (k+1)))):=AX (by
    rw[d,Nat.or_comm,o.out,At.MX g x 8 (by omega),Fr.le_step l n k (by omega) u,←a.out,←C.out,←BO.out]
    omega)
   have I:=AX d
   clear d
   refine⟨dF D D (p:=y) (q:=g) D D (by omega) (by omega) z I.out.symm ?_⟩
   go_wp2
   go_round
   case rel=>exact⟨k+1,z,j - 1,by omega,D,AX (by have:=hj.out;omega),D,H⟩
   case measure=>simp[intOf];omega
  ·have J:k=n:=by omega
   have f:j<0:=by have:=hj.out;omega
   have U:decide (0≤j)=false:=by simpa using f
   have e:x=Fr.le (l.take n):=by rw[a.out,J,Nat.sub_self,List.drop_zero]
   clear a hj
   subst e
   go_wp2
   go_ret
   exact⟨D,D⟩
theorem g0(l:List UInt8)(k:Nat)(h:k<l.length):Fr.CN (l.drop k)=(decide ((l.getD k 0).toNat=0)&&Fr.CN (l.drop (k+1))):=by
 rw[List.drop_eq_getElem_cons h]
 have:l.getD k 0=l[k]:=by rw[List.getD_eq_getElem?_getD,List.getElem?_eq_getElem h];rfl
 rw[this]
 unfold Fr.CN
 rw[List.all_cons]
 congr 1
 rw[Bool.eq_iff_iff]
 simp[←UInt8.toNat_inj]
theorem LU(q:Option Addr)(m c:Nat)(l:List UInt8)(w:World)(V:View w (.slice q m c) m 1 (bv l))(hl:l.length=m):
 Calls Tryz.prog 72 #[.slice q m c] w fun e w'=>e=.returned (.bool (Fr.CN l))∧w=w':=by
 have x:=V.max
 have z:m≤l.length:=by omega
 have p:=AX hl
 clear hl
 go_enter Rl,Tryz.ntmps72
 go_wp2
 go_loop [4,7] (fun _ i=>∃k:Nat,k≤m∧i=.int .i64 k∧Hid (Fr.CN l=Fr.CN (l.drop k))) (fun _ i=>m - (intOf i).toNat)
 case atStart=>exact⟨0,by omega,D,AX D⟩
 case round=>
  obtain⟨k,A,rfl,a⟩:=hrel
  by_cases r:k<m
  ·go_wp2_with (first|go_skip|(with_reducible refine HD 22 ?_))
   refine⟨idx A3 D (.tmp 5) (.tmp 7) D (y:=q) (n:=m) (c:=c) D V D k D r ?_⟩
   intro s t o _
   have d:=g0 l k (by omega)
   obtain⟨g,f⟩:∃g,g=(l.getD k 0).toNat:=⟨_,D⟩
   rw[←f]at d
   have BO:=AX f
   clear f
   have B:w.cell? ⟨s,t,none⟩=some (.int .u8 g):=by rw[BO.out];exact Gw o
   clear o
   by_cases h:g=0
   ·have u:Hid (Fr.CN l=Fr.CN (l.drop (k+1))):=AX (by rw[a.out,d,h];simp)
    clear d a
    subst h
    go_wp2
    go_round
    case rel=>exact⟨k+1,by omega,by go_num,u⟩
    case measure=>simp[intOf];omega
   ·have e:Fr.CN l=false:=by rw[a.out,d];simp[h]
    have h1:((g:Int) !=0)=true:=by simp;omega
    have j:=AX e
    clear d a e
    go_wp2
    go_ret
    exact⟨congrArg (fun b=>Ending.returned (Value.bool b)) j.out.symm,D⟩
  ·have v:k=m:=by omega
   have e:Fr.CN l=true:=by rw[a.out,v,List.drop_of_length_le (by rw[p.out];exact Br _)];rfl
   have j:=AX e
   clear a e
   go_wp2
   go_ret
   exact⟨congrArg (fun b=>Ending.returned (Value.bool b)) j.out.symm,D⟩
theorem UO(s:Fr.Bu)(w:World)(h1:s.g≤72057594037927936)(a:s.p≤4294967296)(c:s.m≤4294967296)(d:s.h≤4294967296)(f:s.w≤256):
 Calls Tryz.prog 74 #[.agg #[.int .i64 s.w,.int .i64 s.g,.int .i64 s.m,.int .i64 s.h,.int .i64 s.p]] w fun e w'=>e=.returned (.bool (Fr.DE s))∧Below w.heap.size w w':=by
 obtain⟨i,j,k,l,sp⟩:=s
 simp only at h1 a c d f⊢
 go_enter X_,Tryz.ntmps74
 go_wp2
 all_goals
  go_ret
  refine⟨?_,(Cn _ _).alloc (Br _) _⟩
  refine congrArg (fun b=>Ending.returned (Value.bool b)) ?_
  rw[Bool.eq_iff_iff]
  simp[Fr.DE]
  try omega
end Go.Proofs.YtaapafoibofbjaaGreatDoor
namespace Go.Proofs.YtaapafoibofbjaaGreatDoor
open Go.RowKit
section
variable {P:Program} {w:World} {ops:Array Oper} {rest:List Oper} {o:Oper} {a:Act} {Aa:Exit→Act→World→Prop}
theorem Lf{t e:TypeId}{n:Nat}(g:P.underlying t=some (.array n e))(a:(P.info? e).map (·.size)=some 1)(b off l h:Nat)(d f:Option Value)(i:l<n)(w:World)
 (J:(Instr.sliceBounds false n n d f none).run P w=.ok (l,h,n) w):(Instr.sliceAt t (.pointer (some ⟨b,off,none⟩)) d f none).run P w=.ok (.slice (some ⟨b,off+l,none⟩) (h - l) (n - l)) w:=by
 cases c:P.info? e with
 |none=>simp[c]at a
 |some q=>
  simp[c]at a
  simp[Instr.sliceAt,Instr.sureAddr,run_underlying g,J,sizeOf,typeInfo,c,a,F6,show n≠l by omega]
theorem cU(k:IntKind)(n h:Nat)(a:h≤n):(Instr.sliceBounds false n n none (some (.int k h)) none).run P w=.ok (0,h,n) w:=by
 simp[Instr.sliceBounds,run_sliceBound,a]
theorem Te(k k':IntKind)(n l h:Nat)(hl:l≤h:=by decide)(a:h≤n:=by decide):(Instr.sliceBounds false n n (some (.int k l)) (some (.int k' h)) none).run P w=.ok (l,h,n) w:=by
 simp[Instr.sliceBounds,run_sliceBound,hl,a]
theorem PE(k:IntKind)(n l:Nat)(hl:l≤n:=by decide):(Instr.sliceBounds false n n (some (.int k l)) none none).run P w=.ok (l,n,n) w:=by
 simp[Instr.sliceBounds,run_sliceBound,hl]
end
theorem K_{w:World}{b:Nat}{l:List UInt8}{T:TypeId}(h:w.heap[b]? =some (.cells (bv l).toArray T (0,0)))(i n c:Nat)(h1:i+n≤l.length)(a:n≤c)(d:i+c≤l.length)(e:l.length≤maxLen):View w (.slice (some ⟨b,i,none⟩) n c) n 1 (bv ((l.drop i).take n)):=by
 refine⟨by simp[bv];omega,.inr ⟨b,i,c,D,by simp[bv];omega,a,by omega,(Array.getElem?_eq_some_iff.1 h).1,fun j u hj=>?_⟩⟩
 rw[cell_of_row _ _ _ _ _ _ h,List.getElem?_toArray]
 rw[←Ip,←Hk,List.getElem?_take]at hj
 split at hj
 ·rw[List.getElem?_drop]at hj;exact hj
 ·cases hj
def FV(s:Fr.Bu):Value:=.agg #[.int .i64 s.w,.int .i64 s.g,.int .i64 s.m,.int .i64 s.h,.int .i64 s.p]
theorem Yc(t u:TypeId)(l m:List UInt8)(w:World)(r:Bool)(hr:decide (l=m)=!r):(binOp .neq t (.string ⟨l.toArray⟩) (.string ⟨m.toArray⟩)).run Tryz.prog w=.ok (.bool r) w:=by
 by_cases e:l=m
 ·subst e
  simp only[decide_true]at hr
  have:r=false:=by cases r<;>simp_all
  subst this
  simp[binOp,Op.stringOp]
 ·simp only[e,decide_false]at hr
  have:r=true:=by cases r<;>simp_all
  subst this
  simp[binOp,Op.stringOp,e]
end Go.Proofs.YtaapafoibofbjaaGreatDoor
