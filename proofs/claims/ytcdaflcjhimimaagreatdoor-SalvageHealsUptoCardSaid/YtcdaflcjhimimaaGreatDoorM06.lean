/- Laws and walks on the road to SalvageNever and SalvageHeals (part M06). No conditions beyond each law's own. -/
import Derived.BigQuiet
import Derived.Deep.QuietTactic
import Derived.Deep.RegionHeld3
import Derived.DeepKeys
import Derived.Laws.StructEq
import Derived.Laws.Tables
import Derived.Test.YtcdaflcjhimimaaGreatDoorM01
import Derived.Test.YtcdaflcjhimimaaGreatDoorM04
import Derived.Test.YtcdaflcjhimimaaGreatDoorM05
import Derived.Test.YtcdaflcjhimimaaGreatDoorM02
set_option linter.unusedVariables false
namespace Go.Proofs.YtcdaflcjhimimaaGreatDoor
open Go.RowKit
variable {n b j size o k:Nat} {Ck:Type} {Az:TypeId} {l:List Nat} {x:Operand}
def CM(l:List Nat):List Value:=l.map fun v:Nat=>Value.int .u32 (v:Int)
structure Jf (n:Nat) (l:List Nat):Prop where
 len:l.length=n
 lt:∀x∈l,x<4294967296
theorem Jf.row(h:Jf n l):Row n (CM l):=⟨by simp[CM,h.len],fun u hu=>by
 simp only[CM,List.mem_map]at hu
 obtain⟨_,_,rfl⟩:=hu
 rfl⟩
theorem Jf.at(h:Jf n l)(j:Nat):l.getD j 0<4294967296:=by
 rw[List.getD_eq_getElem?_getD]
 rcases Nat.lt_or_ge j l.length with q|q
 ·rw[List.getElem?_eq_getElem q];exact h.lt _ (List.getElem_mem q)
 ·rw[List.getElem?_eq_none q];decide
theorem Jf.set(h:Jf n l)(j:Nat){g:Nat}(a:g<4294967296):Jf n (l.set j g):=
 ⟨by rw[List.length_set,h.len],fun x b=>by
   rcases List.mem_or_eq_of_mem_set b with q|q
   ·exact h.lt x q
   ·rw[q];exact a⟩
theorem Jf.zero(n:Nat):Jf n (List.replicate n 0):=⟨by simp,fun x a=>by rw[List.eq_of_mem_replicate a];decide⟩
theorem J2(n:Nat):Ir n=CM (List.replicate n 0):=by simp[Ir,CM]
theorem Du(n:Nat):Av n=bv (List.replicate n 0):=by simp[Av,bv]
theorem Uq(a b:Nat)(h:b≤a)(c:a<18446744073709551616):IntKind.u64.wrap ((a:Int) - b)=((a - b:Nat):Int):=by
 rw[IntKind.wrap_u64]
 omega
theorem wrap_u64(n:Nat):IntKind.u64.wrap (n:Int)=((n % 18446744073709551616:Nat):Int):=by
 rw[IntKind.wrap_u64]
 omega
theorem DN{w:World}{C6:Nat×Nat}(a:w.heap[b]? =some (.cells (flat [CM l]) Az C6))(c:Jf n l)(j:Nat)(d:j<n:=by omega):w.cell? ⟨b,j,none⟩=some (.int .u32 ((l.getD j 0:Nat):Int)):=by
 have:=HE a j (.int .u32 ((l.getD j 0:Nat):Int)) (by
  have e:j<l.length:=by rw[c.len];exact d
  simp[CM,e,List.getD_eq_getElem?_getD])
 simpa using this
theorem Ib{w:World}{l:List UInt8}{C6:Nat×Nat}(c:w.heap[b]? =some (.cells (flat [bv l]) Az C6))(a:l.length=n)(j:Nat)(d:j<n:=by omega):w.cell? ⟨b,j,none⟩=some (.int .u8 (((l.getD j 0).toNat:Nat):Int)):=by
 have:=HE c j (.int .u8 (((l.getD j 0).toNat:Nat):Int)) (by
  have a:j<l.length:=by rw[a];exact d
  simp[bv,a,List.getD_eq_getElem?_getD])
 simpa using this
theorem CT.Yg{w:World}(h:CT w):Cells w 0 0 (CM K4):=h.first
theorem Jj:Jf 8 K4:=⟨D,by decide⟩
theorem CT.SE{w:World}(h:CT w)(j:Nat)(a:j<64)(b:0+j*1=o):w.cell? ⟨2,o,none⟩=some (.int .u32 ((IB.getD j 0:Nat):Int)):=by
 subst b
 have:=h.consts j (.int .u32 ((IB.getD j 0:Nat):Int)) (by
  have c:j<IB.length:=a
  simp[G5,c,List.getD_eq_getElem?_getD])
 simpa using this
section
variable {P:Program} {w w':World} {a:Act} {Ac:Exit→Act→World→Prop} {U:Nat} {f:Db} {d:Nat} {ty:TypeId} {pos:String} {AF:Array Edge} {g:Option (Nat×Bool)} {Aa:Act→World→Prop}
theorem Nv(d:Ao U a f){y:Operand}(e:Au f x=some (.pointer (some ⟨b,j,none⟩))){AU:TypeId}(i:w.heap[b]? =some (.cells (flat [CM l]) AU (0,0)))(k:Jf n l)(m:j<n){u:Nat}(o:Au f y=some (.int .u32 ((u:Nat):Int)))(p:(P.info? Az).map (·.size)=some 1)
 (h:∀c W,Ao U c f→W.heap.size=w.heap.size→W.heap[b]? =some (.cells (flat [CM (l.set j u)]) AU (0,0))→w.grownBy W (some b)→Aa c W):DP P ⟨none,.store Az x y,ty,pos,AF,g⟩ a w Aa Ac:=by
 refine Kx d e i o D p (by simp[flat,CM,k.len];exact m) ?_ h
 apply Array.toList_inj.1
 simp[flat,CM,List.map_set]
theorem Ni(d:Ao U a f){y:Operand}(e:Au f x=some (.pointer (some ⟨b,j,none⟩))){l:List UInt8}{AU:TypeId}(i:w.heap[b]? =some (.cells (flat [bv l]) AU (0,0)))(k:l.length=n)(m:j<n){u:UInt8}(o:Au f y=some (.int .u8 ((u.toNat:Nat):Int)))(p:(P.info? Az).map (·.size)=some 1)
 (h:∀c W,Ao U c f→W.heap.size=w.heap.size→W.heap[b]? =some (.cells (flat [bv (l.set j u)]) AU (0,0))→w.grownBy W (some b)→Aa c W):DP P ⟨none,.store Az x y,ty,pos,AF,g⟩ a w Aa Ac:=by
 refine Kx d e i o D p (by simp[flat,bv,k];exact m) ?_ h
 apply Array.toList_inj.1
 simp[flat,bv,List.map_set]
end
def Al{Ck:Type}(enc:Ck→List Value)(L:List Ck):List Value:=(L.map enc).flatten
theorem T'(enc:Ck→List Value)(L a:List Ck):Al enc (L++a)=Al enc L++Al enc a:=by simp[Al]
theorem Tr(enc:Ck→List Value)(x:Ck):Al enc [x]=enc x:=by simp[Al]
theorem QM{enc:Ck→List Value}(h:∀x,(enc x).length=size)(L:List Ck):(Al enc L).length=L.length*size:=by
 induction L with
 |nil=>simp[Al]
 |cons x L a=>
  have:Al enc (x::L)=enc x++Al enc L:=D
  rw[this,List.length_append,h,a,List.length_cons,Nat.add_mul,Nat.one_mul,Nat.add_comm]
theorem CC{enc:Ck→List Value}(L:List Ck)(x:Ck){ys:List Value}(a:ys=enc x)(b:(enc x).length=size):Al enc L++ys.take (1*size)=Al enc (L++[x]):=by
 rw[T',Tr,a,Nat.one_mul,List.take_of_length_le (Nat.le_of_eq b)]
theorem Lj{enc:Ck→List Value}(h:∀x,(enc x).length=size):∀(L:List Ck) (k:Nat),(Al enc L).drop (k*size)=Al enc (L.drop k):=by
 intro L
 induction L with
 |nil=>intro k;simp[Al]
 |cons x L a=>
  intro k
  cases k with
  |zero=>simp
  |succ k=>
   have:Al enc (x::L)=enc x++Al enc L:=D
   rw[this,Nat.succ_mul,Nat.add_comm,←List.drop_drop,List.drop_append_of_le_length (Nat.le_of_eq (h x).symm),List.drop_of_length_le (Nat.le_of_eq (h x)),List.nil_append,a]
   rfl
theorem KQ{enc:Ck→List Value}(h:∀x,(enc x).length=size):∀(L:List Ck) (k:Nat),(Al enc L).take (k*size)=Al enc (L.take k):=by
 intro L
 induction L with
 |nil=>intro k;simp[Al]
 |cons x L a=>
  intro k
  cases k with
  |zero=>simp[Al]
  |succ k=>
   have:Al enc (x::L)=enc x++Al enc L:=D
   rw[this,Nat.succ_mul,Nat.add_comm,List.take_append,h,Nat.add_sub_cancel_left,a,List.take_of_length_le (by rw[h];omega)]
   rfl
theorem OW{enc:Ck→List Value}(h:∀x,(enc x).length=size){L:List Ck}{x:Ck}(a:L[j]? =some x):((Al enc L).drop (j*size)).take size=enc x:=by
 rw[Lj h]
 obtain⟨b,rfl⟩:=List.getElem?_eq_some_iff.1 a
 rw[List.drop_eq_getElem_cons b]
 have:Al enc (L[j]::L.drop (j+1))=enc L[j]++Al enc (L.drop (j+1)):=D
 rw[this,List.take_append_of_le_length (Nat.le_of_eq (h _).symm),List.take_of_length_le (Nat.le_of_eq (h _))]
theorem BJ{enc:Ck→List Value}(h:∀x,(enc x).length=size){w:World}{off c:Nat}{L:List Ck}(e:View w (.slice (some ⟨b,off,none⟩) n c) n size (Al enc L)){x:Ck}(f:L[j]? =some x)(g:off+j*size=o:=by first|rfl|omega):Cells w b o (enc x):=by
 subst g
 rcases e.2 with⟨d,_⟩|⟨k,l,cap,d,_,_,_,_,i⟩
 ·cases d
 ·simp only[Value.slice.injEq,Option.some.injEq,Addr.mk.injEq]at d
  obtain⟨⟨rfl,rfl,_⟩,_,_⟩:=d
  intro r v a
  rw[←OW h f]at a
  rw[List.getElem?_take]at a
  split at a
  ·exact i.drop (j*size) r v a
  ·cases a
theorem getD_some{L:List Ck}(a:L.length=n)(b:j<n):∃x,L[j]? =some x:=⟨L[j]'(by omega),List.getElem?_eq_getElem (by omega)⟩
theorem DF{enc:Ck→List Value}(h:∀x,(enc x).length=size)(a:0<size){w:World}{base:Nat}{e:TypeId}{v:Value}{L:List Ck}(b:w.ownsRow base e size v n (Al enc L)):L.length=n:=by
 have:=b.1
 rw[QM h]at this
 exact Nat.eq_of_mul_eq_mul_right a this
theorem HM{w:World}(pre mid post:List (List Value))(h:Cells w b o (List.flatten (pre++mid++post))){a:Nat}(d:pre.flatten.length=k)(e:o+k=a):Cells w b a mid.flatten:=by
 subst d
 subst e
 intro j v c
 have f:j<mid.flatten.length:=(List.getElem?_eq_some_iff.1 c).1
 have:=h (pre.flatten.length+j) v (by
  simp only[List.flatten_append]
  rw[List.append_assoc,List.getElem?_append_right (by omega),Nat.add_sub_cancel_left,List.getElem?_append_left f]
  exact c)
 rw[Nat.add_assoc]
 exact this
theorem Dh{w:World}(pre:List (List Value))(v:Value)(post:List (List Value))(h:Cells w b o (List.flatten (pre++[[v]]++post))){a:Nat}(c:pre.flatten.length=k)(d:o+k=a:=by first|rfl|omega):w.cell? ⟨b,a,none⟩=some v:=by
 have:=HM pre [[v]] post h c d 0 v D
 simpa using this
theorem LQ{w:World}(pre:List (List Value))(l:List UInt8)(post:List (List Value))(h:Cells w b o (List.flatten (pre++[bv l]++post))){a:Nat}(c:pre.flatten.length=k)(d:l.length=n)(e:j<n:=by omega)(f:o+k+j=a:=by first|rfl|omega):w.cell? ⟨b,a,none⟩=some (.int .u8 (((l.getD j 0).toNat:Nat):Int)):=by
 subst f
 have g:=HM pre [bv l] post h c D
 have:=g j (.int .u8 (((l.getD j 0).toNat:Nat):Int)) (by
  have i:j<l.length:=by rw[d];exact e
  simp[bv,i,List.getD_eq_getElem?_getD])
 exact this
section
variable {P:Program} {w w':World} {a:Act} {Ac:Exit→Act→World→Prop} {U:Nat} {f:Db} {d:Nat} {ty:TypeId} {pos:String} {AF:Array Edge} {dst:Option Tmp} {g:Option (Nat×Bool)} {Aa:Act→World→Prop}
theorem H9(c:Ao U a f){off:Nat}(d:Au f x=some (.pointer (some ⟨b,off,none⟩))){BU:TypeDesc}(hu:P.underlying Az=some BU)(Ab:BU.isRow=true){mid:List (List Value)}(e:Cells w b off mid.flatten)(h:(P.info? Az).map (·.size)=some mid.flatten.length):Cy P a w ⟨dst,.load Az x,ty,pos,AF,g⟩ (.agg (flat mid)) w:=
 On c d hu Ab e h
theorem LZ(e:Ao U a f){y:Operand}(i:Au f x=some (.pointer (some ⟨b,o,none⟩)))(pre:List (List Value)){l:List UInt8}(post:List (List Value)){AU:TypeId}(m:w.heap[b]? =some (.cells (flat (pre++[bv l]++post)) AU (0,0)))(p:pre.flatten.length=k)(q:l.length=n)(r:j<n)(s:k+j=o){u:UInt8}(t:Au f y=some (.int .u8 ((u.toNat:Nat):Int)))(v:(P.info? Az).map (·.size)=some 1)
 (h:∀c W,Ao U c f→W.heap.size=w.heap.size→W.heap[b]? =some (.cells (flat (pre++[bv (l.set j u)]++post)) AU (0,0))→w.grownBy W (some b)→Aa c W):DP P ⟨none,.store Az x y,ty,pos,AF,g⟩ a w Aa Ac:=by
 subst s
 subst p
 have d:j<(bv l).length:=by rw[D_,q];exact r
 refine Kx e i m t D v (by simp[flat];rw[D_]at d⊢;omega) ?_ h
 apply Array.toList_inj.1
 rw[Array.toList_setIfInBounds]
 simp only[flat,List.flatten_append,List.flatten_cons,List.flatten_nil,List.append_nil,List.append_assoc]
 rw[List.set_append_right _ _ (Nat.le_add_right _ _),Nat.add_sub_cancel_left,List.set_append_left _ _ d]
 congr 1
 congr 1
 simp[bv,List.map_set]
end
end Go.Proofs.YtcdaflcjhimimaaGreatDoor
namespace Go.Proofs.YtcdaflcjhimimaaGreatDoor
open Go.RowKit
set_option maxRecDepth 100000
set_option maxHeartbeats 2000000
section
variable {P:Program} {w:World} {ops:Array Oper} {rest:List Oper} {o:Oper} {a:Act} {Ac:Exit→Act→World→Prop}
theorem Ol(q:Nat)(h:q≤9223372036854775807:=by omega):IntKind.i64.wrap (q:Int)=q:=IntWalk.i64_in _ (by omega)
theorem Uh(a b:Nat)(e:a<9223372036854775808)(f:b<9223372036854775808):bits .or .i64 (a:Int) (b:Int)=((a|||b:Nat):Int):=by
 have g:a|||b<2^63:=Nat.or_lt_two_pow (by omega) (by omega)
 have c:(BitVec.ofInt 64 (a:Int)).toNat=a:=by rw[BitVec.ofInt_natCast,BitVec.toNat_ofNat];exact Nat.mod_eq_of_lt (by omega)
 have d:(BitVec.ofInt 64 (b:Int)).toNat=b:=by rw[BitVec.ofInt_natCast,BitVec.toNat_ofNat];exact Nat.mod_eq_of_lt (by omega)
 show IntKind.i64.wrap ((BitVec.ofInt 64 (a:Int)|||BitVec.ofInt 64 (b:Int)).toNat:Int)=_
 rw[BitVec.toNat_or,c,d]
 exact Ol _
theorem Vh(hw:Region.wanted o (yielded ops a.tmps)=true){t u:TypeId}{x y:Operand}(b:o.op=.binOp .or t x y u){p q:Nat}(c:a.eval x=.int .i64 p)(d:a.eval y=.int .i64 q)(f:p<9223372036854775808)(g:q<9223372036854775808)
 (r:Nat)(i:p|||q=r)(h:wpList P ops Ac rest (a.put o.dst (.int .i64 r)) w):wpList P ops Ac (o::rest) a w:=by
 subst i
 refine bin hw .or t u x y b c d (by simp[eqGuard]) ?_ h
 have:=Uh p q f g
 unfold binOp
 simp only[ne_eq,not_true_eq_false,if_false]
 show(Op.intBits .or .i64 p q).run P w=_
 simp only[Op.intBits]
 have e:bits .or .i64 (p:Int) (q:Int)=_:=this
 unfold bits at e
 simp only at e
 rw[Sem.run_pure,e]
theorem U6(hw:Region.wanted o (yielded ops a.tmps)=true){t u:TypeId}{x y:Operand}(b:o.op=.binOp .shl t x y u){p n:Nat}{k:IntKind}{i:Int}(c:a.eval x=.int .i64 p)(d:a.eval y=.int k i)(e:i=(n:Int))(hn:n≤64)(g:p*2^n<9223372036854775808)
 (r:Nat)(f:p*2^n=r)(h:wpList P ops Ac rest (a.put o.dst (.int .i64 r)) w):wpList P ops Ac (o::rest) a w:=by
 subst f
 subst e
 refine bin hw .shl t u x y b c d (by simp[eqGuard]) ?_ h
 unfold binOp
 simp only
 rw[shift_shl_any _ _ _ _ (by omega),Sem.run_pure]
 have:min (n:Int).toNat IntKind.i64.bits=n:=by simp[IntKind.bits];omega
 rw[this,show((p:Int)*2^n)=((p*2^n:Nat):Int)by simp,Ol _]
end
theorem JE(q:Option Addr)(m c n:Nat)(l:List UInt8)(w:World)(C:View w (.slice q m c) m 1 (bv l))(h:l.length=m:=by simp;omega)(hn:n≤m:=by decide)(O:n≤7:=by decide):
 Calls Tryz.prog 65 #[.slice q m c,.int .i64 n] w fun e w'=>e=.returned (.int .i64 (Fr.le (l.take n):Nat))∧w=w':=by
 have P:m≤l.length:=by omega
 have Q:=Aw h
 clear h
 go_enter Zl,Tryz.ntmps65
 go_wp2
 go_loop [5,6] (fun v i=>∃(k x:Nat) (j:Int),k≤n∧i=.int .i64 j∧Hid (j=(n:Int) - 1 - k)∧v=.int .i64 x∧Hid (x=Fr.le ((l.take n).drop (n - k)))) (fun _ i=>(intOf i+1).toNat)
 case atStart=>exact⟨0,0,_,by omega,D,Aw (by simp),D,Aw (by rw[List.drop_of_length_le (by rw[List.length_take];omega)];rfl)⟩
 case round=>
  obtain⟨k,x,j,R,rfl,a,rfl,b⟩:=hrel
  by_cases E:k<n
  ·have o:0≤j:=by have:=a.out;omega
   have S:j≤7:=by have:=a.out;omega
   have F:x<256^k:=by
    rw[b.out]
    have:=Fr.Jv ((l.take n).drop (n - k))
    rw[List.length_drop,List.length_take,Nat.min_eq_left (by omega),show n - (n - k)=k by omega]at this
    exact this
   have G:256^k≤256^6:=Nat.pow_le_pow_right (by decide) (by omega)
   have T:x<281474976710656:=by omega
   clear F G
   go_wp2_with (first|go_skip|(with_reducible refine JQ .shl ?_))
   obtain⟨y,r⟩:∃y,y=x*2^8:=⟨_,D⟩
   have U:y<72057594037927936:=by omega
   have s:=Aw r
   clear r
   refine⟨U6 D D (p:=x) (n:=8) (i:=8) D D D (by decide) (by omega) y s.out.symm ?_⟩
   go_wp2_with (first|go_skip|(with_reducible refine GX 28 ?_))
   obtain⟨i,t⟩:∃i:Nat,i=n - (k+1):=⟨_,D⟩
   have u:j=(i:Int):=by have:=a.out;omega
   have i1:i<m:=by omega
   have H:=Aw t
   have I:=Aw u
   clear t u
   refine⟨idx A0 D (.tmp 15) (.tmp 16) D (y:=q) (n:=m) (c:=c) D C D i I.out i1 ?_⟩
   intro J K A _
   obtain⟨g,d⟩:∃g,g=(l.getD i 0).toNat:=⟨_,D⟩
   have V:g<256:=by rw[d];exact(l.getD i 0).toNat_lt
   have B:=Aw d
   clear d
   have W:w.cell? ⟨J,K,none⟩=some (.int .u8 g):=by rw[B.out];exact Ga A
   clear A
   go_wp2_with (first|go_skip|(with_reducible refine JQ .or ?_))
   obtain⟨z,f⟩:∃z,z=y|||g:=⟨_,D⟩
   have L:Hid (z=Fr.le ((l.take n).drop (n - (k+1)))):=Aw (by
    rw[f,Nat.or_comm,s.out,Af.IS g x 8 (by omega),Fr.le_step l n k (by omega) E,←b.out,←H.out,←B.out]
    omega)
   have M:=Aw f
   clear f
   refine⟨Vh D D (p:=y) (q:=g) D D (by omega) (by omega) z M.out.symm ?_⟩
   go_wp2
   go_round
   case rel=>exact⟨k+1,z,j - 1,by omega,D,Aw (by have:=a.out;omega),D,L⟩
   case measure=>simp[intOf];omega
  ·have N:k=n:=by omega
   have o:j<0:=by have:=a.out;omega
   have X:decide (0≤j)=false:=by simpa using o
   have e:x=Fr.le (l.take n):=by rw[b.out,N,Nat.sub_self,List.drop_zero]
   clear b a
   subst e
   go_wp2
   go_ret
   exact⟨D,D⟩
theorem Td(l:List UInt8)(k:Nat)(h:k<l.length):Fr.Dq (l.drop k)=(decide ((l.getD k 0).toNat=0)&&Fr.Dq (l.drop (k+1))):=by
 rw[List.drop_eq_getElem_cons h]
 have:l.getD k 0=l[k]:=by rw[List.getD_eq_getElem?_getD,List.getElem?_eq_getElem h];rfl
 rw[this]
 unfold Fr.Dq
 rw[List.all_cons]
 congr 1
 rw[Bool.eq_iff_iff]
 simp[←UInt8.toNat_inj]
theorem KJ(q:Option Addr)(m c:Nat)(l:List UInt8)(w:World)(o:View w (.slice q m c) m 1 (bv l))(p:l.length=m):
 Calls Tryz.prog 64 #[.slice q m c] w fun e w'=>e=.returned (.bool (Fr.Dq l))∧w=w':=by
 have B:=o.max
 have C:m≤l.length:=by omega
 have s:=Aw p
 clear p
 go_enter Zg,Tryz.ntmps64
 go_wp2
 go_loop [4,7] (fun _ i=>∃k:Nat,k≤m∧i=.int .i64 k∧Hid (Fr.Dq l=Fr.Dq (l.drop k))) (fun _ i=>m - (intOf i).toNat)
 case atStart=>exact⟨0,by omega,D,Aw D⟩
 case round=>
  obtain⟨k,E,rfl,a⟩:=hrel
  by_cases t:k<m
  ·go_wp2_with (first|go_skip|(with_reducible refine GX 28 ?_))
   refine⟨idx A0 D (.tmp 5) (.tmp 7) D (y:=q) (n:=m) (c:=c) D o D k D t ?_⟩
   intro u v r _
   have d:=Td l k (by omega)
   obtain⟨g,f⟩:∃g,g=(l.getD k 0).toNat:=⟨_,D⟩
   rw[←f]at d
   have x:=Aw f
   clear f
   have F:w.cell? ⟨u,v,none⟩=some (.int .u8 g):=by rw[x.out];exact Ga r
   clear r
   by_cases h:g=0
   ·have z:Hid (Fr.Dq l=Fr.Dq (l.drop (k+1))):=Aw (by rw[a.out,d,h];simp)
    clear d a
    subst h
    go_wp2
    go_round
    case rel=>exact⟨k+1,by omega,by go_num,z⟩
    case measure=>simp[intOf];omega
   ·have e:Fr.Dq l=false:=by rw[a.out,d];simp[h]
    have G:((g:Int) !=0)=true:=by simp;omega
    have j:=Aw e
    clear d a e
    go_wp2
    go_ret
    exact⟨congrArg (fun b=>Ending.returned (Value.bool b)) j.out.symm,D⟩
  ·have A:k=m:=by omega
   have e:Fr.Dq l=true:=by rw[a.out,A,List.drop_of_length_le (by rw[s.out];exact Be _)];rfl
   have j:=Aw e
   clear a e
   go_wp2
   go_ret
   exact⟨congrArg (fun b=>Ending.returned (Value.bool b)) j.out.symm,D⟩
theorem Vx(s:Fr.Ch)(w:World)(a:s.g≤72057594037927936)(c:s.p≤4294967296)(d:s.m≤4294967296)(f:s.h≤4294967296)(i:s.w≤256):
 Calls Tryz.prog 66 #[.agg #[.int .i64 s.w,.int .i64 s.g,.int .i64 s.m,.int .i64 s.h,.int .i64 s.p]] w fun e w'=>e=.returned (.bool (Fr.Ei s))∧Below w.heap.size w w':=by
 obtain⟨j,k,sm,l,sp⟩:=s
 simp only at a c d f i⊢
 go_enter VY,Tryz.ntmps66
 go_wp2
 all_goals
  go_ret
  refine⟨?_,(Bu _ _).alloc (Be _) _⟩
  refine congrArg (fun b=>Ending.returned (Value.bool b)) ?_
  rw[Bool.eq_iff_iff]
  simp[Fr.Ei]
  try omega
end Go.Proofs.YtcdaflcjhimimaaGreatDoor
namespace Go.Proofs.YtcdaflcjhimimaaGreatDoor
open Go.RowKit
section
variable {P:Program} {w:World} {ops:Array Oper} {rest:List Oper} {o:Oper} {a:Act} {Ac:Exit→Act→World→Prop}
theorem I1{t e:TypeId}{n:Nat}(g:P.underlying t=some (.array n e))(a:(P.info? e).map (·.size)=some 1)(b off l h:Nat)(d f:Option Value)(j:l<n)(w:World)
 (i:(Instr.sliceBounds false n n d f none).run P w=.ok (l,h,n) w):(Instr.sliceAt t (.pointer (some ⟨b,off,none⟩)) d f none).run P w=.ok (.slice (some ⟨b,off+l,none⟩) (h - l) (n - l)) w:=by
 cases c:P.info? e with
 |none=>simp[c]at a
 |some q=>
  simp[c]at a
  simp[Instr.sliceAt,Instr.sureAddr,run_underlying g,i,sizeOf,typeInfo,c,a,GO,show n≠l by omega]
theorem XG(k:IntKind)(n h:Nat)(a:h≤n):(Instr.sliceBounds false n n none (some (.int k h)) none).run P w=.ok (0,h,n) w:=by
 simp[Instr.sliceBounds,run_sliceBound,a]
theorem Ox(k k':IntKind)(n l h:Nat)(a:l≤h:=by decide)(b:h≤n:=by decide):(Instr.sliceBounds false n n (some (.int k l)) (some (.int k' h)) none).run P w=.ok (l,h,n) w:=by
 simp[Instr.sliceBounds,run_sliceBound,a,b]
theorem Mo(k:IntKind)(n l:Nat)(a:l≤n:=by decide):(Instr.sliceBounds false n n (some (.int k l)) none none).run P w=.ok (l,n,n) w:=by
 simp[Instr.sliceBounds,run_sliceBound,a]
end
theorem Js{w:World}{b:Nat}{l:List UInt8}{Az:TypeId}(h:w.heap[b]? =some (.cells (bv l).toArray Az (0,0)))(i n c:Nat)(e:i+n≤l.length)(d:n≤c)(f:i+c≤l.length)(g:l.length≤maxLen):View w (.slice (some ⟨b,i,none⟩) n c) n 1 (bv ((l.drop i).take n)):=by
 refine⟨by simp[bv];omega,.inr ⟨b,i,c,D,by simp[bv];omega,d,by omega,(Array.getElem?_eq_some_iff.1 h).1,fun j u a=>?_⟩⟩
 rw[cell_of_row _ _ _ _ _ _ h,List.getElem?_toArray]
 rw[←Hf,←Ge,List.getElem?_take]at a
 split at a
 ·rw[List.getElem?_drop]at a;exact a
 ·cases a
def FI(s:Fr.Ch):Value:=.agg #[.int .i64 s.w,.int .i64 s.g,.int .i64 s.m,.int .i64 s.h,.int .i64 s.p]
theorem Sh(t u:TypeId)(l m:List UInt8)(w:World)(r:Bool)(a:decide (l=m)=!r):(binOp .neq t (.string ⟨l.toArray⟩) (.string ⟨m.toArray⟩)).run Tryz.prog w=.ok (.bool r) w:=by
 by_cases e:l=m
 ·subst e
  simp only[decide_true]at a
  have:r=false:=by cases r<;>simp_all
  subst this
  simp[binOp,Op.stringOp]
 ·simp only[e,decide_false]at a
  have:r=true:=by cases r<;>simp_all
  subst this
  simp[binOp,Op.stringOp,e]
end Go.Proofs.YtcdaflcjhimimaaGreatDoor
namespace Go.Proofs.YtcdaflcjhimimaaGreatDoor
open Go.RowKit
set_option maxRecDepth 100000
set_option maxHeartbeats 2000000
def G7(sb:Nat)(Ak:List UInt8)(W:World):Prop:=W.heap[sb]? =some (.cells (bv Ak).toArray 152 (0,0))
theorem G7.s{sb:Nat}{Ak:List UInt8}{W:World}(h:G7 sb Ak W)(a:Ak.length=64):W.cell? ⟨sb,4,none⟩=some (.int .u8 (Ak.getD 4 0).toNat)∧G7 sb Ak W:=by
 refine⟨?_,h⟩
 rw[cell_of_row _ _ _ _ _ _ h]
 simp[bv,a,List.getD_eq_getElem?_getD]
theorem Vv{sb g:Nat}{Ak:List UInt8}{W:World}{o:Obj}(h:W.cell? ⟨sb,4,none⟩=some (.int .u8 g)∧G7 sb Ak W):(W.alloc o).cell? ⟨sb,4,none⟩=some (.int .u8 g)∧G7 sb Ak (W.alloc o):=by
 have b:=Below.heap_alloc W o sb (Array.getElem?_eq_some_iff.1 h.2).1
 exact⟨(World.cell?_of_block (a:=⟨sb,4,none⟩) b).trans h.1,b.trans h.2⟩
theorem Xq{sb g:Nat}{Ak:List UInt8}{W:World}(h:W.cell? ⟨sb,4,none⟩=some (.int .u8 g)∧G7 sb Ak W):W.drew.cell? ⟨sb,4,none⟩=some (.int .u8 g)∧G7 sb Ak W.drew:=h
theorem Tl(q:Option Addr)(c:Nat)(l Ak:List UInt8)(w:World)(af:View w (.slice q 256 c) 256 1 (bv l))(bD:l.length=256)(ag:Ak=l.take 64)(aQ:Af.Cj Ak 60=0){R:Ending→World→Prop}
 (aR:(Fr.GV Ak&&Fr.Ei ⟨(Ak.getD 4 0).toNat,Fr.le ((Ak.drop 8).take 7),Fr.le ((Ak.drop 16).take 4),Fr.le ((Ak.drop 20).take 4),Fr.le ((Ak.drop 24).take 4)⟩)=false→∀w',Below w.heap.size w w'→R (.returned (.tuple #[Fy,.int .i64 53])) w')
 (aS:(Fr.GV Ak&&Fr.Ei ⟨(Ak.getD 4 0).toNat,Fr.le ((Ak.drop 8).take 7),Fr.le ((Ak.drop 16).take 4),Fr.le ((Ak.drop 20).take 4),Fr.le ((Ak.drop 24).take 4)⟩)=true→∀w',Below w.heap.size w w'→R (.returned (.tuple #[FI ⟨(Ak.getD 4 0).toNat,Fr.le ((Ak.drop 8).take 7),Fr.le ((Ak.drop 16).take 4),Fr.le ((Ak.drop 20).take 4),Fr.le ((Ak.drop 24).take 4)⟩,.int .i64 0])) w'):
 Calls Tryz.prog 34 #[.slice q 256 c] w R:=by
 have hcap:=af.cap
 have h:Ak.length=64:=by rw[ag];simp;omega
 have aT:View w (.slice q 64 c) 64 1 (bv Ak):=by rw[ag];exact af.pre 64 (by omega) (by omega)
 have aU:=Jt q 60 c Ak
 have Ab:decide (Af.Cj Ak 60=0)=true:=by simpa using aQ
 rw[Ab]at aU
 have bE:∀(x:Bool) (w:World),(Op.unary .not (.bool x)).run Tryz.prog w=.ok (.bool (!x)) w:=fun _ _=>rfl
 obtain⟨AL,ah,rfl,ba,bb⟩:=aT.some (by decide)
 have bF:=fun w=>O0 (P:=Tryz.prog) HA (some ⟨AL,ah,none⟩) 64 c (Be _) w
 have bG:=Aw ag
 have ax:=Aw h
 have ay:(bv Ak).length=64:=by rw[D_];exact h
 have bc:=Aw ay
 have aV:(bv Ak).toArray.size=64:=by simpa using ay
 have bd:=Aw aV
 clear ag ay aV
 have W:=Aw aR
 have bf:=Aw aS
 clear aR aS
 clear aQ Ab h
 go_enter GB,Tryz.ntmps34
 have aW:Below w.heap.size w w:=Bu _ _
 go_wp2_with (first|go_skip|(with_reducible refine JK 59 ?_))
 refine⟨E9 D 59 D (z:=Fy) (by kernel_rfl) ?_⟩
 intro az bg aA b1
 have bH:w.heap.size+1≤az.heap.size:=by omega
 clear bg
 simp only[Value.cells,Fy]at aA
 have aX:=Aw aA
 clear aA
 have aB:Below w.heap.size w az:=aW.trans (b1.mono (by have:=aW.size;omega))
 have bI:=aB.size
 obtain⟨f,f1⟩:=live aX.out
 go_wp2_with (with_reducible refine Gr ?_)
 refine⟨HK A0 D (.tmp 10) (.const (.int .i64 64)) D (y:=some ⟨AL,ah,none⟩) (n:=256) (c:=c) D 64 D (by omega) ?_⟩
 go_wp2_with (first|go_skip|(go_at_call 63;with_reducible refine C5 ?_))
 refine⟨(aU az (aT.below aB) ax.out).mono ?_⟩
 rintro bJ a ⟨rfl,b2⟩
 clear f f1
 have bK:=b2.size
 have aY:=Aw ((b2.block w.heap.size (by omega)).trans aX.out)
 have ai:Below w.heap.size w a:=aB.trans (b2.mono (by omega))
 have bL:=ai.size
 obtain⟨f,f1⟩:=live aY.out
 go_wp2_with (with_reducible refine Gr ?_)
 refine⟨HK A0 D (.tmp 15) (.const (.int .i64 64)) D (y:=some ⟨AL,ah,none⟩) (n:=256) (c:=c) D 64 D (by omega) ?_⟩
 go_wp2_with (first|go_skip|(with_reducible refine Px 152 ?_))
 have aZ:Cells a AL ah (bv Ak):=bb.FR (ai.block AL ba)
 refine⟨Nm D 152 (.tmp 17) D D (bv Ak) aZ HA D (by rw[bc.out];kernel_rfl) ?_⟩
 clear aZ
 obtain⟨X,T⟩:∃X,X=(bv Ak).toArray:=⟨_,D⟩
 rw[←T]
 have a0:X.size=64:=by rw[T];exact bd.out
 have a1:X.all (·.oneCell')=true:=by rw[T];exact Array.all_eq_true_iff_forall_mem.2 (fun v af=>G4 Ak v (by simpa using af))
 have bh:=Aw T
 have a2:=Aw a0
 have bj:=Aw a1
 clear T a0 a1
 go_wp2_with (first|go_skip|(with_reducible refine JK 152 ?_))
 refine⟨E9 D 152 D (z:=.agg (Array.replicate 64 (.int .u8 0))) (by kernel_rfl) ?_⟩
 intro aC bk aD a3
 have bM:a.heap.size+1≤aC.heap.size:=by omega
 clear bk
 simp only[Value.cells]at aD
 clear f f1
 have a4:=Aw ((a3.block w.heap.size (by omega)).trans aY.out)
 have a5:=Aw aD
 clear aD
 have a6:Below w.heap.size w aC:=ai.trans (a3.mono (by have:=ai.size;omega))
 have bN:=a6.size
 obtain⟨f,f1⟩:=live a4.out
 obtain⟨K,f3⟩:=live a5.out
 go_wp2_with (first|go_skip|(with_reducible refine Hj 152 ?_))
 refine⟨IK D 152 (.tmp 4) (.tmp 18) D (b:=a.heap.size) (c':=X) D a5.out D (by rw[a2.out];kernel_rfl) (by rw[a2.out];simp) bj.out ?_⟩
 intro g bl a7 i
 have bO:aC.heap.size≤g.heap.size:=by omega
 clear bl
 clear f f1 K f3
 have u:=Aw (Ag i a4.out (by omega))
 have L:=Aw a7
 clear a7
 have U:Below w.heap.size w g:=a6.grown i (by omega) (fun k r=>by cases r;omega)
 have bP:=U.size
 obtain⟨f,f1⟩:=live u.out
 obtain⟨K,f3⟩:=live L.out
 clear f f1 K f3
 have Y:Hid (g.heap[a.heap.size]? =some (.cells (bv Ak).toArray 152 (0,0))):=Aw (by rw[←bh.out];exact L.out)
 have h:=ax.out
 have T:∀w,(Instr.sliceAt 152 (.pointer (some ⟨a.heap.size,0,none⟩)) none (some (.int .i64 4)) none).run Tryz.prog w=.ok (.slice (some ⟨a.heap.size,0,none⟩) 4 64) w:=fun w=>I1 HA (by kernel_rfl) a.heap.size 0 0 4 none _ (by decide) w (XG .i64 64 4 (by decide))
 have bQ:∀w,(Instr.sliceAt 152 (.pointer (some ⟨a.heap.size,0,none⟩)) (some (.int .i64 5)) (some (.int .i64 8)) none).run Tryz.prog w=.ok (.slice (some ⟨a.heap.size,5,none⟩) 3 59) w:=fun w=>I1 HA (by kernel_rfl) a.heap.size 0 5 8 (some (.int .i64 5)) _ (by decide) w (Ox .i64 .i64 64 5 8)
 have bR:∀w,(Instr.sliceAt 152 (.pointer (some ⟨a.heap.size,0,none⟩)) (some (.int .i64 28)) (some (.int .i64 60)) none).run Tryz.prog w=.ok (.slice (some ⟨a.heap.size,28,none⟩) 32 36) w:=fun w=>I1 HA (by kernel_rfl) a.heap.size 0 28 60 (some (.int .i64 28)) _ (by decide) w (Ox .i64 .i64 64 28 60)
 have bS:∀w,(Instr.sliceAt 152 (.pointer (some ⟨a.heap.size,0,none⟩)) (some (.int .i64 15)) (some (.int .i64 16)) none).run Tryz.prog w=.ok (.slice (some ⟨a.heap.size,15,none⟩) 1 49) w:=fun w=>I1 HA (by kernel_rfl) a.heap.size 0 15 16 (some (.int .i64 15)) _ (by decide) w (Ox .i64 .i64 64 15 16)
 have bm:View g (.slice (some ⟨a.heap.size,0,none⟩) 4 64) 4 1 (bv (Ak.take 4)):=by simpa using Js Y.out 0 4 64 (by omega) (by decide) (by omega) (by rw[h];decide)
 have bn:View g (.slice (some ⟨a.heap.size,5,none⟩) 3 59) 3 1 (bv ((Ak.drop 5).take 3)):=Js Y.out 5 3 59 (by omega) (by decide) (by omega) (by rw[h];decide)
 have a8:((Ak.drop 5).take 3).length=3:=by simp;omega
 have bo:=Aw a8
 clear a8
 have bp:View g (.slice (some ⟨a.heap.size,28,none⟩) 32 36) 32 1 (bv ((Ak.drop 28).take 32)):=Js Y.out 28 32 36 (by omega) (by decide) (by omega) (by rw[h];decide)
 have a9:((Ak.drop 28).take 32).length=32:=by simp;omega
 have bq:=Aw a9
 clear a9
 have br:View g (.slice (some ⟨a.heap.size,15,none⟩) 1 49) 1 1 (bv ((Ak.drop 15).take 1)):=Js Y.out 15 1 49 (by omega) (by decide) (by omega) (by rw[h];decide)
 have a_:((Ak.drop 15).take 1).length=1:=by simp;omega
 have bs:=Aw a_
 clear a_
 clear h
 go_wp2_with (first|go_skip|(with_reducible refine XM 28 ?_))
 refine⟨str A0 BA HG D (.tmp 19) D D bm ?_⟩
 rw[show(Ak.take 4).take 4=Ak.take 4 from List.take_take.trans D]
 go_wp2_with (first|go_skip|(with_reducible refine JQ .neq ?_))
 rcases Bool.eq_false_or_eq_true (decide (Ak.take 4=[76,68,71,49]))with d|d
 rotate_left
 ·have B:=Aw d
  clear d
  refine⟨bin rfl .neq _ _ _ _ D (p:=.string ⟨(Ak.take 4).toArray⟩) (q:=.string ⟨([76,68,71,49]:List UInt8).toArray⟩) (v:=.bool true) D D (by simp[eqGuard]) (Sh _ 0 _ _ _ _ B.out) ?_⟩
  obtain⟨M,N⟩:=live u.out
  clear M N
  go_wp2_with (first|go_skip|(with_reducible refine Hj 59 ?_))
  refine⟨IK D 59 (.tmp 2) (.tmp 37) D (b:=w.heap.size) (c':=#[.int .i64 0,.int .i64 0,.int .i64 0,.int .i64 0,.int .i64 0]) D u.out D (by kernel_rfl) D (by kernel_rfl) ?_⟩
  intro j H m t
  have aE:g.heap.size≤j.heap.size:=by omega
  clear H
  have I:=Aw (Ag t L.out (by omega))
  have A:=Aw m
  clear m
  have o:Below w.heap.size w j:=U.grown t (by omega) (fun k r=>by cases r;omega)
  have aj:=o.size
  obtain⟨f,f1⟩:=live A.out
  obtain⟨K,f3⟩:=live I.out
  go_wp2
  exact bodyPost_ret (v:=.tuple #[Fy,.int .i64 53]) (by simp[results,Tryz.results34,go_sem,f,Fy]) D (W.out (by unfold Fr.GV;rw[B.out];rfl) _ o)
 have B:=Aw d
 clear d
 refine⟨bin rfl .neq _ _ _ _ D (p:=.string ⟨(Ak.take 4).toArray⟩) (q:=.string ⟨([76,68,71,49]:List UInt8).toArray⟩) (v:=.bool false) D D (by simp[eqGuard]) (Sh _ 0 _ _ _ _ B.out) ?_⟩
 go_wp2_with (first|go_skip|(go_at_call 64;with_reducible refine C5 ?_))
 refine⟨(KJ (some ⟨a.heap.size,5,none⟩) 3 59 _ g bn bo.out).mono ?_⟩
 rintro e w' ⟨rfl,rfl⟩
 rcases Bool.eq_false_or_eq_true (Fr.Dq ((Ak.drop 5).take 3))with d|d
 rotate_left
 ·have J:=Aw d
  clear d
  rw[J.out]
  obtain⟨M,N⟩:=live u.out
  clear M N
  go_wp2_with (first|go_skip|(with_reducible refine Hj 59 ?_))
  refine⟨IK D 59 (.tmp 2) (.tmp 37) D (b:=w.heap.size) (c':=#[.int .i64 0,.int .i64 0,.int .i64 0,.int .i64 0,.int .i64 0]) D u.out D (by kernel_rfl) D (by kernel_rfl) ?_⟩
  intro j H m t
  have aE:g.heap.size≤j.heap.size:=by omega
  clear H
  have I:=Aw (Ag t L.out (by omega))
  have A:=Aw m
  clear m
  have o:Below w.heap.size w j:=U.grown t (by omega) (fun k r=>by cases r;omega)
  have aj:=o.size
  obtain⟨f,f1⟩:=live A.out
  obtain⟨K,f3⟩:=live I.out
  go_wp2
  exact bodyPost_ret (v:=.tuple #[Fy,.int .i64 53]) (by simp[results,Tryz.results34,go_sem,f,Fy]) D (W.out (by unfold Fr.GV;rw[B.out,J.out];rfl) _ o)
 have J:=Aw d
 clear d
 rw[J.out]
 go_wp2_with (first|go_skip|(go_at_call 64;with_reducible refine C5 ?_))
 refine⟨(KJ (some ⟨a.heap.size,28,none⟩) 32 36 _ g bp bq.out).mono ?_⟩
 rintro e w' ⟨rfl,rfl⟩
 rcases Bool.eq_false_or_eq_true (Fr.Dq ((Ak.drop 28).take 32))with d|d
 rotate_left
 ·have O:=Aw d
  clear d
  rw[O.out]
  obtain⟨M,N⟩:=live u.out
  clear M N
  go_wp2_with (first|go_skip|(with_reducible refine Hj 59 ?_))
  refine⟨IK D 59 (.tmp 2) (.tmp 37) D (b:=w.heap.size) (c':=#[.int .i64 0,.int .i64 0,.int .i64 0,.int .i64 0,.int .i64 0]) D u.out D (by kernel_rfl) D (by kernel_rfl) ?_⟩
  intro j H m t
  have aE:g.heap.size≤j.heap.size:=by omega
  clear H
  have I:=Aw (Ag t L.out (by omega))
  have A:=Aw m
  clear m
  have o:Below w.heap.size w j:=U.grown t (by omega) (fun k r=>by cases r;omega)
  have aj:=o.size
  obtain⟨f,f1⟩:=live A.out
  obtain⟨K,f3⟩:=live I.out
  go_wp2
  exact bodyPost_ret (v:=.tuple #[Fy,.int .i64 53]) (by simp[results,Tryz.results34,go_sem,f,Fy]) D (W.out (by unfold Fr.GV;rw[B.out,J.out,O.out];rfl) _ o)
 have O:=Aw d
 clear d
 rw[O.out]
 go_wp2_with (first|go_skip|(go_at_call 64;with_reducible refine C5 ?_))
 refine⟨(KJ (some ⟨a.heap.size,15,none⟩) 1 49 _ g br bs.out).mono ?_⟩
 rintro e w' ⟨rfl,rfl⟩
 rcases Bool.eq_false_or_eq_true (Fr.Dq ((Ak.drop 15).take 1))with d|d
 rotate_left
 ·have V:=Aw d
  clear d
  rw[V.out]
  obtain⟨M,N⟩:=live u.out
  clear M N
  go_wp2_with (first|go_skip|(with_reducible refine Hj 59 ?_))
  refine⟨IK D 59 (.tmp 2) (.tmp 37) D (b:=w.heap.size) (c':=#[.int .i64 0,.int .i64 0,.int .i64 0,.int .i64 0,.int .i64 0]) D u.out D (by kernel_rfl) D (by kernel_rfl) ?_⟩
  intro j H m t
  have aE:g.heap.size≤j.heap.size:=by omega
  clear H
  have I:=Aw (Ag t L.out (by omega))
  have A:=Aw m
  clear m
  have o:Below w.heap.size w j:=U.grown t (by omega) (fun k r=>by cases r;omega)
  have aj:=o.size
  obtain⟨f,f1⟩:=live A.out
  obtain⟨K,f3⟩:=live I.out
  go_wp2
  exact bodyPost_ret (v:=.tuple #[Fy,.int .i64 53]) (by simp[results,Tryz.results34,go_sem,f,Fy]) D (W.out (by unfold Fr.GV;rw[B.out,J.out,O.out,V.out];rfl) _ o)
 have V:=Aw d
 clear d
 rw[V.out]
 have h:=ax.out
 have bt:=G7.s (show G7 a.heap.size Ak g from Y.out) h
 obtain⟨i,ak⟩:∃i,i=(Ak.getD 4 0).toNat:=⟨_,D⟩
 rw[←ak]at bt
 have bT:i<256:=by rw[ak];exact(Ak.getD 4 0).toNat_lt
 have aF:=Aw ak
 clear ak
 have bU:∀w,(Instr.sliceAt 152 (.pointer (some ⟨a.heap.size,0,none⟩)) (some (.int .i64 8)) none none).run Tryz.prog w=.ok (.slice (some ⟨a.heap.size,8,none⟩) 56 56) w:=fun w=>I1 HA (by kernel_rfl) a.heap.size 0 8 64 (some (.int .i64 8)) none (by decide) w (Mo .i64 64 8)
 obtain⟨C,aG⟩:∃x,x=Fr.le ((Ak.drop 8).take 7):=⟨_,D⟩
 have bV:C<256^7:=by
  have:=Fr.Jv ((Ak.drop 8).take 7)
  rw[←aG,List.length_take,List.length_drop,h]at this
  exact this
 have al:=Aw aG
 clear aG
 have bu:∀BT:World,(BT.cell? ⟨a.heap.size,4,none⟩=some (.int .u8 i)∧G7 a.heap.size Ak BT)→Calls Tryz.prog 65 #[.slice (some ⟨a.heap.size,8,none⟩) 56 56,.int .i64 7] BT fun e w'=>e=.returned (.int .i64 (C:Nat))∧BT=w':=fun BT Q=>by
  have:=JE (some ⟨a.heap.size,8,none⟩) 56 56 7 ((Ak.drop 8).take 56) BT (Js Q.2 8 56 56 (by omega) (by decide) (by omega) (by rw[h];decide))
  rw[List.take_take,show min 7 56=7 from D,←al.out]at this
  exact this
 have bW:∀w,(Instr.sliceAt 152 (.pointer (some ⟨a.heap.size,0,none⟩)) (some (.int .i64 16)) none none).run Tryz.prog w=.ok (.slice (some ⟨a.heap.size,16,none⟩) 48 48) w:=fun w=>I1 HA (by kernel_rfl) a.heap.size 0 16 64 (some (.int .i64 16)) none (by decide) w (Mo .i64 64 16)
 obtain⟨E,aH⟩:∃x,x=Fr.le ((Ak.drop 16).take 4):=⟨_,D⟩
 have bX:E<256^4:=by
  have:=Fr.Jv ((Ak.drop 16).take 4)
  rw[←aH,List.length_take,List.length_drop,h]at this
  exact this
 have an:=Aw aH
 clear aH
 have bw:∀BT:World,(BT.cell? ⟨a.heap.size,4,none⟩=some (.int .u8 i)∧G7 a.heap.size Ak BT)→Calls Tryz.prog 65 #[.slice (some ⟨a.heap.size,16,none⟩) 48 48,.int .i64 4] BT fun e w'=>e=.returned (.int .i64 (E:Nat))∧BT=w':=fun BT Q=>by
  have:=JE (some ⟨a.heap.size,16,none⟩) 48 48 4 ((Ak.drop 16).take 48) BT (Js Q.2 16 48 48 (by omega) (by decide) (by omega) (by rw[h];decide))
  rw[List.take_take,show min 4 48=4 from D,←an.out]at this
  exact this
 have bY:∀w,(Instr.sliceAt 152 (.pointer (some ⟨a.heap.size,0,none⟩)) (some (.int .i64 20)) none none).run Tryz.prog w=.ok (.slice (some ⟨a.heap.size,20,none⟩) 44 44) w:=fun w=>I1 HA (by kernel_rfl) a.heap.size 0 20 64 (some (.int .i64 20)) none (by decide) w (Mo .i64 64 20)
 obtain⟨F,aI⟩:∃x,x=Fr.le ((Ak.drop 20).take 4):=⟨_,D⟩
 have bZ:F<256^4:=by
  have:=Fr.Jv ((Ak.drop 20).take 4)
  rw[←aI,List.length_take,List.length_drop,h]at this
  exact this
 have ao:=Aw aI
 clear aI
 have bx:∀BT:World,(BT.cell? ⟨a.heap.size,4,none⟩=some (.int .u8 i)∧G7 a.heap.size Ak BT)→Calls Tryz.prog 65 #[.slice (some ⟨a.heap.size,20,none⟩) 44 44,.int .i64 4] BT fun e w'=>e=.returned (.int .i64 (F:Nat))∧BT=w':=fun BT Q=>by
  have:=JE (some ⟨a.heap.size,20,none⟩) 44 44 4 ((Ak.drop 20).take 44) BT (Js Q.2 20 44 44 (by omega) (by decide) (by omega) (by rw[h];decide))
  rw[List.take_take,show min 4 44=4 from D,←ao.out]at this
  exact this
 have b0:∀w,(Instr.sliceAt 152 (.pointer (some ⟨a.heap.size,0,none⟩)) (some (.int .i64 24)) none none).run Tryz.prog w=.ok (.slice (some ⟨a.heap.size,24,none⟩) 40 40) w:=fun w=>I1 HA (by kernel_rfl) a.heap.size 0 24 64 (some (.int .i64 24)) none (by decide) w (Mo .i64 64 24)
 obtain⟨G,aJ⟩:∃x,x=Fr.le ((Ak.drop 24).take 4):=⟨_,D⟩
 have b3:G<256^4:=by
  have:=Fr.Jv ((Ak.drop 24).take 4)
  rw[←aJ,List.length_take,List.length_drop,h]at this
  exact this
 have aq:=Aw aJ
 clear aJ
 have bz:∀BT:World,(BT.cell? ⟨a.heap.size,4,none⟩=some (.int .u8 i)∧G7 a.heap.size Ak BT)→Calls Tryz.prog 65 #[.slice (some ⟨a.heap.size,24,none⟩) 40 40,.int .i64 4] BT fun e w'=>e=.returned (.int .i64 (G:Nat))∧BT=w':=fun BT Q=>by
  have:=JE (some ⟨a.heap.size,24,none⟩) 40 40 4 ((Ak.drop 24).take 40) BT (Js Q.2 24 40 40 (by omega) (by decide) (by omega) (by rw[h];decide))
  rw[List.take_take,show min 4 40=4 from D,←aq.out]at this
  exact this
 clear h
 go_wp2
 go_region_held3 (fun w'=>w'.cell? ⟨a.heap.size,4,none⟩=some (.int .u8 i)∧G7 a.heap.size Ak w') (first|assumption|exact Xq (by assumption)|exact Vv (by assumption))
  (first|(go_at_call 65;with_reducible refine(bu _ (by assumption)).mono ?_;rintro e w' ⟨rfl,rfl⟩)|(go_at_call 65;with_reducible refine(bw _ (by assumption)).mono ?_;rintro e w' ⟨rfl,rfl⟩)|(go_at_call 65;with_reducible refine(bx _ (by assumption)).mono ?_;rintro e w' ⟨rfl,rfl⟩)|(go_at_call 65;with_reducible refine(bz _ (by assumption)).mono ?_;rintro e w' ⟨rfl,rfl⟩))
 all_goals
  rw[Ol i]
  obtain⟨j,ar⟩:∃j,j=(g.alloc (.cells #[.int .i64 (i:Int),.int .i64 (C:Int),.int .i64 (E:Int),.int .i64 (F:Int),.int .i64 (G:Int)] 59)).drew:=⟨_,D⟩
  rw[←ar]
  have aK:Below g.heap.size g j:=by rw[ar];exact((Bu _ _).alloc (Be _) _).drew
  have m:j.heap[g.heap.size]? =some (.cells #[.int .i64 (i:Int),.int .i64 (C:Int),.int .i64 (E:Int),.int .i64 (F:Int),.int .i64 (G:Int)] 59 (0,0)):=by rw[ar];exact heap_alloc_new g _
  have H:g.heap.size<j.heap.size:=(Array.getElem?_eq_some_iff.1 m).1
  clear ar
  have A:=Aw ((aK.block w.heap.size (by omega)).trans u.out)
  have I:=Aw ((aK.block a.heap.size (by omega)).trans L.out)
  have a':=Aw m
  clear m
  have o:Below w.heap.size w j:=U.trans (aK.mono (by omega))
  have aj:=o.size
  obtain⟨f,f1⟩:=live A.out
  obtain⟨S,f5⟩:=live a'.out
  go_wp2_with (first|go_skip|(go_at_call 66;with_reducible refine C5 ?_))
  refine⟨(Vx ⟨i,C,E,F,G⟩ j (by simp only;omega) (by simp only;omega) (by simp only;omega) (by simp only;omega) (by simp only;omega)).mono ?_⟩
  rintro b4 aL ⟨rfl,au⟩
  clear f f1 S f5
  have b5:=au.size
  have av:=Aw ((au.block w.heap.size (by omega)).trans A.out)
  have aw:=Aw ((au.block g.heap.size (by omega)).trans a'.out)
  have aM:Below w.heap.size w aL:=o.trans (au.mono (by omega))
  have b6:=aM.size
  rcases Bool.eq_false_or_eq_true (Fr.Ei ⟨i,C,E,F,G⟩)with d|d
  ·have Z:=Aw d
   clear d
   rw[Z.out]
   obtain⟨f,f1⟩:=live av.out
   obtain⟨S,f5⟩:=live aw.out
   go_wp2_with (first|go_skip|(with_reducible refine Hj 59 ?_))
   refine⟨IK D 59 (.tmp 2) (.tmp 54) D (b:=w.heap.size) (c':=#[.int .i64 (i:Int),.int .i64 (C:Int),.int .i64 (E:Int),.int .i64 (F:Int),.int .i64 (G:Int)]) D av.out D (by kernel_rfl) D (by kernel_rfl) ?_⟩
   intro aa aN ab ad
   have bA:aL.heap.size≤aa.heap.size:=by omega
   clear aN
   clear f f1 S f5
   have aO:=Aw (Ag ad aw.out (by omega))
   have aP:=Aw ab
   clear ab
   have ae:Below w.heap.size w aa:=aM.grown ad (by omega) (fun k r=>by cases r;omega)
   have bB:=ae.size
   obtain⟨f,f1⟩:=live aP.out
   obtain⟨S,f5⟩:=live aO.out
   go_wp2
   have bC:=Aw (bf.out (by rw[show Fr.GV Ak=true from by unfold Fr.GV;rw[B.out,J.out,O.out,V.out];rfl,←aF.out,←al.out,←an.out,←ao.out,←aq.out,Z.out];rfl) _ ae)
   exact bodyPost_ret (v:=.tuple #[.agg #[.int .i64 (i:Int),.int .i64 (C:Int),.int .i64 (E:Int),.int .i64 (F:Int),.int .i64 (G:Int)],.int .i64 0]) (by simp[results,Tryz.results34,go_sem,f]) D (by have q:=bC.out;rw[show FI _=.agg #[.int .i64 (i:Int),.int .i64 (C:Int),.int .i64 (E:Int),.int .i64 (F:Int),.int .i64 (G:Int)]by unfold FI;simp only;rw[←aF.out,←al.out,←an.out,←ao.out,←aq.out]]at q;exact q)
  ·have Z:=Aw d
   clear d
   rw[Z.out]
   obtain⟨f,f1⟩:=live av.out
   obtain⟨S,f5⟩:=live aw.out
   go_wp2_with (first|go_skip|(with_reducible refine Hj 59 ?_))
   refine⟨IK D 59 (.tmp 2) (.tmp 53) D (b:=w.heap.size) (c':=#[.int .i64 0,.int .i64 0,.int .i64 0,.int .i64 0,.int .i64 0]) D av.out D (by kernel_rfl) D (by kernel_rfl) ?_⟩
   intro aa aN ab ad
   have bA:aL.heap.size≤aa.heap.size:=by omega
   clear aN
   clear f f1 S f5
   have aO:=Aw (Ag ad aw.out (by omega))
   have aP:=Aw ab
   clear ab
   have ae:Below w.heap.size w aa:=aM.grown ad (by omega) (fun k r=>by cases r;omega)
   have bB:=ae.size
   obtain⟨f,f1⟩:=live aP.out
   obtain⟨S,f5⟩:=live aO.out
   go_wp2
   exact bodyPost_ret (v:=.tuple #[Fy,.int .i64 53]) (by simp[results,Tryz.results34,go_sem,f,Fy]) D (W.out (by rw[show Fr.GV Ak=true from by unfold Fr.GV;rw[B.out,J.out,O.out,V.out];rfl,←aF.out,←al.out,←an.out,←ao.out,←aq.out,Z.out];rfl) _ ae)
end Go.Proofs.YtcdaflcjhimimaaGreatDoor
namespace Go.Proofs.YtcdaflcjhimimaaGreatDoor
open Go.RowKit
def UM(o:Option Fr.Ch)(v:Value):Prop:=match o with
 |some s=>v=.tuple #[FI s,.int .i64 0]
 |none=>∃x:Int,x≠0∧v=.tuple #[Fy,.int .i64 x]
theorem Qn(q:Option Addr)(c:Nat)(l:List UInt8)(w:World)(f:View w (.slice q 256 c) 256 1 (bv l))(g:l.length=256):
 Calls Tryz.prog 34 #[.slice q 256 c] w fun e w'=>∃v,e=.returned v∧UM (Fr.DX l) v∧Below w.heap.size w w':=by
 by_cases a:Af.Cj (l.take 64) 60=0
 ·refine Tl q c l (l.take 64) w f g D a (fun h w' b=>⟨_,D,?_,b⟩) (fun h w' b=>⟨_,D,?_,b⟩)
  ·unfold Fr.DX
   rw[if_pos a]
   by_cases d:Fr.GV (l.take 64)=true
   ·rw[d,Bool.true_and]at h
    rw[if_pos d,if_neg (fun q=>by rw[show Fr.Ei (Fr.fields (l.take 64))=false from h]at q;cases q)]
    exact⟨53,by decide,D⟩
   ·rw[if_neg d]
    exact⟨53,by decide,D⟩
  ·have h:=Bool.and_eq_true_iff.1 h
   unfold Fr.DX
   rw[if_pos a,if_pos h.1,if_pos (show Fr.Ei (Fr.fields (l.take 64))=true from h.2)]
   rfl
 ·refine(U2 q c l w f g a).mono ?_
  rintro e w' ⟨rfl,b⟩
  refine⟨_,D,?_,b⟩
  unfold Fr.DX
  rw[if_neg a]
  exact⟨52,by decide,D⟩
theorem JB(n:Nat)(w:World):Calls Tryz.prog 72 #[.int .i64 n] w fun e w'=>e=.returned (.bool (decide (2≤n)&&decide (n<4096)))∧w=w':=by
 go_enter Xo,Tryz.ntmps72
 go_wp2
 all_goals
  go_ret
  refine⟨?_,D⟩
  refine congrArg (fun b=>Ending.returned (Value.bool b)) ?_
  rw[Bool.eq_iff_iff]
  simp
  try omega
theorem K2(n:Nat)(w:World):Calls Tryz.prog 73 #[.int .i64 n] w fun e w'=>e=.returned (.bool (decide (1≤n)&&decide (n≤3)))∧w=w':=by
 go_enter Xj,Tryz.ntmps73
 by_cases a:n=1
 ·subst a
  go_wp2
  go_ret
  exact⟨D,D⟩
 by_cases b:n=2
 ·subst b
  go_wp2
  go_ret
  exact⟨D,D⟩
 by_cases c:n=3
 ·subst c
  go_wp2
  go_ret
  exact⟨D,D⟩
 have f:((n:Int)=1)=False:=by simp;omega
 have g:((n:Int)=2)=False:=by simp;omega
 have h:((n:Int)=3)=False:=by simp;omega
 have d:(decide (1≤n)&&decide (n≤3))=false:=by simp;omega
 rw[d]
 go_wp2
 go_ret
 exact⟨D,D⟩
theorem mapM_some{Ck b:Type}{f:Ck→Option b}{g:Ck→b}:∀ {l:List Ck},(∀a∈l,f a=some (g a))→l.mapM f=some (l.map g)
 |[],_=>rfl
 |a::l,h=>by
  have c:=h a (by simp)
  have d:=mapM_some (f:=f) (g:=g) (l:=l) (fun x e=>h x (by simp[e]))
  simp[List.mapM_cons,c,d]
theorem QR:Tryz.prog.cellsOf 152=64:=by kernel_rfl
theorem Nd:Tryz.prog.cellsOf 5=1:=by kernel_rfl
theorem QB{a:List UInt8}(h:a.length=64):Tryz.prog.keyLits 3 152 (bv a)=some ((List.range 64).map (fun i=>[Lit.int .u8 ((a.getD i 0).toNat:Nat)])).flatten:=by
 have c:=mapM_some (f:=fun i=>Tryz.prog.keyLits 2 5 (((bv a).drop (i*Tryz.prog.cellsOf 5)).take (Tryz.prog.cellsOf 5))) (g:=fun i=>[Lit.int .u8 ((a.getD i 0).toNat:Nat)]) (l:=List.range 64) (fun i d=>by
  have b:i<a.length:=by rw[h];exact List.mem_range.1 d
  have e:((bv a).drop (i*1)).take 1=[.int .u8 (a[i].toNat:Nat)]:=by
   rw[Nat.mul_one,Ge,Hf,List.take_one,List.head?_drop,List.getElem?_eq_getElem b]
   rfl
  have j:a.getD i 0=a[i]:=by rw[List.getD_eq_getElem?_getD,List.getElem?_eq_getElem b];rfl
  have hw:(Lit.int .u8 ((a[i].toNat:Nat):Int)).wf=true:=by
   have:=a[i].toNat_lt
   have m:IntKind.u8.min=0:=D
   have n:IntKind.u8.max=255:=D
   simp only[Lit.wf,Bool.and_eq_true,decide_eq_true_eq]
   omega
  rw[Nd,e,j]
  simp[Program.keyLits,Tryz.underlying5,hw])
 have k:(bv a).length=Tryz.prog.cellsOf 152:=by rw[D_,h,QR]
 unfold Program.keyLits
 simp only[Tryz.underlying152]
 rw[if_pos k,c]
 rfl
theorem L2{Ck b:Type}(f:Ck→b):∀l:List Ck,(l.map (fun i=>[f i])).flatten=l.map f
 |[]=>rfl
 |a::l=>by rw[List.map_cons,List.flatten_cons,L2 f l];rfl
theorem YS{l m:List UInt8}(f:l.length=64)(hm:m.length=64)(h:((List.range 64).map (fun i=>[Lit.int .u8 ((l.getD i 0).toNat:Nat)])).flatten=((List.range 64).map (fun i=>[Lit.int .u8 ((m.getD i 0).toNat:Nat)])).flatten):l=m:=by
 have e:∀a:List UInt8,((List.range 64).map (fun i=>[Lit.int .u8 ((a.getD i 0).toNat:Nat)])).flatten=(List.range 64).map (fun i=>Lit.int .u8 ((a.getD i 0).toNat:Nat)):=by
  intro a
  exact L2 _ _
 rw[e,e]at h
 have b:=List.map_inj_left.1 h
 refine List.ext_getElem (by omega) (fun i c d=>?_)
 have:=b i (by simp;omega)
 rw[List.getD_eq_getElem?_getD,List.getD_eq_getElem?_getD,List.getElem?_eq_getElem c,List.getElem?_eq_getElem d]at this
 simp only[Option.getD_some,Lit.int.injEq,true_and]at this
 exact UInt8.toNat_inj.1 (by omega)
theorem WO{l m:List UInt8}(a:l.length=64)(hm:m.length=64)(w:World):(binOp .eql 152 (.agg (bv l).toArray) (.agg (bv m).toArray)).run Tryz.prog w=.ok (.bool (decide (l=m))) w:=by
 have b:∀ {c:List UInt8},c.length=64→(Value.agg (bv c).toArray).formed Tryz.prog 152=true:=fun h=>by simp[Value.formed,Tryz.underlying152,D_,h,QR]
 have g:Tryz.prog.keyLits 3 152 (Value.agg (bv l).toArray).cells.toList=some _:=QB a
 have i:Tryz.prog.keyLits 3 152 (Value.agg (bv m).toArray).cells.toList=some _:=QB hm
 obtain⟨r,d,f⟩:=run_equalIn_deep (P:=Tryz.prog) 9997 3 152 (by kernel_rfl) w 3 3 (.agg (bv l).toArray) (.agg (bv m).toArray) _ _ (b a) (b hm) g i
 have e:r=decide (l=m):=by
  by_cases he:l=m
  ·subst he
   simpa using f.2 D
  ·cases r
   ·simp[he]
   ·exact absurd (YS a hm (f.1 D)) he
 subst e
 have e:binOp .eql 152 (.agg (bv l).toArray) (.agg (bv m).toArray)=(do pure (.bool (←Op.equal 152 (.agg (bv l).toArray) (.agg (bv m).toArray)))):=D
 have:(9997+3:Nat)=10000:=D
 rw[this]at d
 have j:(Op.equal 152 (.agg (bv l).toArray) (.agg (bv m).toArray)).run Tryz.prog w=_:=d
 rw[e,Sem.run_bind,j,Result.andThen_ok,Sem.run_pure]
theorem VW(a b:Fr.Ch)(w:World):(Op.equalIn 10000 59 (FI a) (FI b)).run Tryz.prog w=.ok (decide (a=b)) w:=by
 obtain⟨c,a1,a2,d,e⟩:=a
 obtain⟨f,b1,b2,g,h⟩:=b
 have p:=AH
 have i:Tryz.prog.underlying 59=some (.struct (Tryz.prog.fieldsOf 59)):=by kernel_rfl
 have j:Tryz.prog.stoodInHeld 59=false:=by kernel_rfl
 rw[show(10000:Nat)=9999+1 from D,FI,FI,run_equalIn_struct w 9999 59 _ _ i j]
 simp only[Program.fieldsOf,Tryz.underlying59]
 go_simp
 by_cases k:c=f<;>by_cases l:a1=b1<;>by_cases m:a2=b2<;>by_cases n:d=g<;>by_cases o:e=h<;>simp[k,l,m,n,o]<;>omega
theorem XZ(a b:Fr.Ch)(w:World):(binOp .neq 59 (FI a) (FI b)).run Tryz.prog w=.ok (.bool (!decide (a=b))) w:=by
 have e:binOp .neq 59 (FI a) (FI b)=(do pure (.bool (!(←Op.equal 59 (FI a) (FI b))))):=D
 have c:(Op.equal 59 (FI a) (FI b)).run Tryz.prog w=_:=VW a b w
 rw[e,Sem.run_bind,c,Result.andThen_ok,Sem.run_pure]
end Go.Proofs.YtcdaflcjhimimaaGreatDoor
namespace Go.Proofs.YtcdaflcjhimimaaGreatDoor
open Go.RowKit
set_option maxRecDepth 100000
variable {l m:List UInt8} {x y:Operand} {t:TypeId}
theorem Ly(l:List UInt8):flat [bv l]=(bv l).toArray:=by simp[flat]
theorem PU:Tryz.prog.cellsOf 51=32:=by kernel_rfl
theorem Sv{a:List UInt8}(h:a.length=32):Tryz.prog.keyLits 3 51 (bv a)=some ((List.range 32).map (fun i=>[Lit.int .u8 ((a.getD i 0).toNat:Nat)])).flatten:=by
 have c:=mapM_some (f:=fun i=>Tryz.prog.keyLits 2 5 (((bv a).drop (i*Tryz.prog.cellsOf 5)).take (Tryz.prog.cellsOf 5))) (g:=fun i=>[Lit.int .u8 ((a.getD i 0).toNat:Nat)]) (l:=List.range 32) (fun i d=>by
  have b:i<a.length:=by rw[h];exact List.mem_range.1 d
  have e:((bv a).drop (i*1)).take 1=[.int .u8 (a[i].toNat:Nat)]:=by
   rw[Nat.mul_one,Ge,Hf,List.take_one,List.head?_drop,List.getElem?_eq_getElem b]
   rfl
  have j:a.getD i 0=a[i]:=by rw[List.getD_eq_getElem?_getD,List.getElem?_eq_getElem b];rfl
  have hw:(Lit.int .u8 ((a[i].toNat:Nat):Int)).wf=true:=by
   have:=a[i].toNat_lt
   have m:IntKind.u8.min=0:=D
   have n:IntKind.u8.max=255:=D
   simp only[Lit.wf,Bool.and_eq_true,decide_eq_true_eq]
   omega
  rw[Nd,e,j]
  simp[Program.keyLits,Tryz.underlying5,hw])
 have k:(bv a).length=Tryz.prog.cellsOf 51:=by rw[D_,h,PU]
 unfold Program.keyLits
 simp only[Tryz.underlying51]
 rw[if_pos k,c]
 rfl
theorem TQ(f:l.length=32)(hm:m.length=32)(h:((List.range 32).map (fun i=>[Lit.int .u8 ((l.getD i 0).toNat:Nat)])).flatten=((List.range 32).map (fun i=>[Lit.int .u8 ((m.getD i 0).toNat:Nat)])).flatten):l=m:=by
 have e:∀a:List UInt8,((List.range 32).map (fun i=>[Lit.int .u8 ((a.getD i 0).toNat:Nat)])).flatten=(List.range 32).map (fun i=>Lit.int .u8 ((a.getD i 0).toNat:Nat)):=by
  intro a
  exact L2 _ _
 rw[e,e]at h
 have b:=List.map_inj_left.1 h
 refine List.ext_getElem (by omega) (fun i c d=>?_)
 have:=b i (by simp;omega)
 rw[List.getD_eq_getElem?_getD,List.getD_eq_getElem?_getD,List.getElem?_eq_getElem c,List.getElem?_eq_getElem d]at this
 simp only[Option.getD_some,Lit.int.injEq,true_and]at this
 exact UInt8.toNat_inj.1 (by omega)
theorem R6(a:l.length=32)(hm:m.length=32)(w:World):(binOp .eql 51 (.agg (bv l).toArray) (.agg (bv m).toArray)).run Tryz.prog w=.ok (.bool (decide (l=m))) w:=by
 have b:∀ {c:List UInt8},c.length=32→(Value.agg (bv c).toArray).formed Tryz.prog 51=true:=fun h=>by simp[Value.formed,Tryz.underlying51,D_,h,PU]
 have g:Tryz.prog.keyLits 3 51 (Value.agg (bv l).toArray).cells.toList=some _:=Sv a
 have i:Tryz.prog.keyLits 3 51 (Value.agg (bv m).toArray).cells.toList=some _:=Sv hm
 obtain⟨r,d,f⟩:=run_equalIn_deep (P:=Tryz.prog) 9997 3 51 (by kernel_rfl) w 3 3 (.agg (bv l).toArray) (.agg (bv m).toArray) _ _ (b a) (b hm) g i
 have e:r=decide (l=m):=by
  by_cases he:l=m
  ·subst he
   simpa using f.2 D
  ·cases r
   ·simp[he]
   ·exact absurd (TQ a hm (f.1 D)) he
 subst e
 have e:binOp .eql 51 (.agg (bv l).toArray) (.agg (bv m).toArray)=(do pure (.bool (←Op.equal 51 (.agg (bv l).toArray) (.agg (bv m).toArray)))):=D
 have:(9997+3:Nat)=10000:=D
 rw[this]at d
 have j:(Op.equal 51 (.agg (bv l).toArray) (.agg (bv m).toArray)).run Tryz.prog w=_:=d
 rw[e,Sem.run_bind,j,Result.andThen_ok,Sem.run_pure]
theorem Qq(op:BinOp)(x y:Operand)(p q:Array Value)(w:World)(h:op=.eql∨op=.neq):(eqGuard op 51 x y (.agg p) (.agg q)).run Tryz.prog w=.ok () w:=by
 rcases h with rfl|rfl<;>kernel_rfl
theorem Wf(c:l.length=32)(hm:m.length=32)(w:World):(binOp .neq 51 (.agg (bv l).toArray) (.agg (bv m).toArray)).run Tryz.prog w=.ok (.bool (!decide (l=m))) w:=by
 have h:=R6 c hm w
 have d:binOp .eql 51 (.agg (bv l).toArray) (.agg (bv m).toArray)=(do pure (.bool (←Op.equal 51 (.agg (bv l).toArray) (.agg (bv m).toArray)))):=D
 have e:binOp .neq 51 (.agg (bv l).toArray) (.agg (bv m).toArray)=(do pure (.bool (!(←Op.equal 51 (.agg (bv l).toArray) (.agg (bv m).toArray))))):=D
 rw[d,Sem.run_bind]at h
 rw[e,Sem.run_bind]
 cases a:(Op.equal 51 (.agg (bv l).toArray) (.agg (bv m).toArray)).run Tryz.prog w with
 |ok b w'=>
  rw[a]at h
  simp only[Result.andThen_ok,Sem.run_pure,Result.ok.injEq,Value.bool.injEq]at h⊢
  exact⟨by rw[h.1],h.2⟩
 |halt r w'=>rw[a]at h;simp at h
section
variable {w:World} {a:Act} {U:Nat} {f:Db} {ty:TypeId} {pos:String} {AF:Array Edge} {dst:Option Tmp} {g:Option (Nat×Bool)}
theorem KN(d:Ao U a f)(e:l.length=32)(hm:m.length=32)(b:Au f x=some (.agg (flat [bv l])))(c:Au f y=some (.agg (flat [bv m])))(r:Bool)(h:decide (l=m)=r):Cy Tryz.prog a w ⟨dst,.binOp .eql 51 x y t,ty,pos,AF,g⟩ (.bool r) w:=by
 subst h
 rw[Ly]at b c
 exact EH d b c (Qq _ _ _ _ _ _ (.inl D)) (R6 e hm w)
theorem LD(d:Ao U a f)(e:l.length=32)(hm:m.length=32)(b:Au f x=some (.agg (flat [bv l])))(c:Au f y=some (.agg (flat [bv m])))(r:Bool)(h:(!decide (l=m))=r):Cy Tryz.prog a w ⟨dst,.binOp .neq 51 x y t,ty,pos,AF,g⟩ (.bool r) w:=by
 subst h
 rw[Ly]at b c
 exact EH d b c (Qq _ _ _ _ _ _ (.inr D)) (Wf e hm w)
end
theorem Qh:Tryz.prog.cellsOf 125=32:=by kernel_rfl
theorem RS{a:List UInt8}(h:a.length=32):Tryz.prog.keyLits 3 125 (bv a)=some ((List.range 32).map (fun i=>[Lit.int .u8 ((a.getD i 0).toNat:Nat)])).flatten:=by
 have c:=mapM_some (f:=fun i=>Tryz.prog.keyLits 2 5 (((bv a).drop (i*Tryz.prog.cellsOf 5)).take (Tryz.prog.cellsOf 5))) (g:=fun i=>[Lit.int .u8 ((a.getD i 0).toNat:Nat)]) (l:=List.range 32) (fun i d=>by
  have b:i<a.length:=by rw[h];exact List.mem_range.1 d
  have e:((bv a).drop (i*1)).take 1=[.int .u8 (a[i].toNat:Nat)]:=by
   rw[Nat.mul_one,Ge,Hf,List.take_one,List.head?_drop,List.getElem?_eq_getElem b]
   rfl
  have j:a.getD i 0=a[i]:=by rw[List.getD_eq_getElem?_getD,List.getElem?_eq_getElem b];rfl
  have hw:(Lit.int .u8 ((a[i].toNat:Nat):Int)).wf=true:=by
   have:=a[i].toNat_lt
   have m:IntKind.u8.min=0:=D
   have n:IntKind.u8.max=255:=D
   simp only[Lit.wf,Bool.and_eq_true,decide_eq_true_eq]
   omega
  rw[Nd,e,j]
  simp[Program.keyLits,Tryz.underlying5,hw])
 have k:(bv a).length=Tryz.prog.cellsOf 125:=by rw[D_,h,Qh]
 unfold Program.keyLits
 simp only[Tryz.underlying125]
 rw[if_pos k,c]
 rfl
theorem XR(f:l.length=32)(hm:m.length=32)(h:((List.range 32).map (fun i=>[Lit.int .u8 ((l.getD i 0).toNat:Nat)])).flatten=((List.range 32).map (fun i=>[Lit.int .u8 ((m.getD i 0).toNat:Nat)])).flatten):l=m:=by
 have e:∀a:List UInt8,((List.range 32).map (fun i=>[Lit.int .u8 ((a.getD i 0).toNat:Nat)])).flatten=(List.range 32).map (fun i=>Lit.int .u8 ((a.getD i 0).toNat:Nat)):=by
  intro a
  exact L2 _ _
 rw[e,e]at h
 have b:=List.map_inj_left.1 h
 refine List.ext_getElem (by omega) (fun i c d=>?_)
 have:=b i (by simp;omega)
 rw[List.getD_eq_getElem?_getD,List.getD_eq_getElem?_getD,List.getElem?_eq_getElem c,List.getElem?_eq_getElem d]at this
 simp only[Option.getD_some,Lit.int.injEq,true_and]at this
 exact UInt8.toNat_inj.1 (by omega)
theorem QU(a:l.length=32)(hm:m.length=32)(w:World):(binOp .eql 125 (.agg (bv l).toArray) (.agg (bv m).toArray)).run Tryz.prog w=.ok (.bool (decide (l=m))) w:=by
 have b:∀ {c:List UInt8},c.length=32→(Value.agg (bv c).toArray).formed Tryz.prog 125=true:=fun h=>by simp[Value.formed,Tryz.underlying125,D_,h,Qh]
 have g:Tryz.prog.keyLits 3 125 (Value.agg (bv l).toArray).cells.toList=some _:=RS a
 have i:Tryz.prog.keyLits 3 125 (Value.agg (bv m).toArray).cells.toList=some _:=RS hm
 obtain⟨r,d,f⟩:=run_equalIn_deep (P:=Tryz.prog) 9997 3 125 (by kernel_rfl) w 3 3 (.agg (bv l).toArray) (.agg (bv m).toArray) _ _ (b a) (b hm) g i
 have e:r=decide (l=m):=by
  by_cases he:l=m
  ·subst he
   simpa using f.2 D
  ·cases r
   ·simp[he]
   ·exact absurd (XR a hm (f.1 D)) he
 subst e
 have e:binOp .eql 125 (.agg (bv l).toArray) (.agg (bv m).toArray)=(do pure (.bool (←Op.equal 125 (.agg (bv l).toArray) (.agg (bv m).toArray)))):=D
 have:(9997+3:Nat)=10000:=D
 rw[this]at d
 have j:(Op.equal 125 (.agg (bv l).toArray) (.agg (bv m).toArray)).run Tryz.prog w=_:=d
 rw[e,Sem.run_bind,j,Result.andThen_ok,Sem.run_pure]
theorem O3(op:BinOp)(x y:Operand)(p q:Array Value)(w:World)(h:op=.eql∨op=.neq):(eqGuard op 125 x y (.agg p) (.agg q)).run Tryz.prog w=.ok () w:=by
 rcases h with rfl|rfl<;>kernel_rfl
theorem SZ(c:l.length=32)(hm:m.length=32)(w:World):(binOp .neq 125 (.agg (bv l).toArray) (.agg (bv m).toArray)).run Tryz.prog w=.ok (.bool (!decide (l=m))) w:=by
 have h:=QU c hm w
 have d:binOp .eql 125 (.agg (bv l).toArray) (.agg (bv m).toArray)=(do pure (.bool (←Op.equal 125 (.agg (bv l).toArray) (.agg (bv m).toArray)))):=D
 have e:binOp .neq 125 (.agg (bv l).toArray) (.agg (bv m).toArray)=(do pure (.bool (!(←Op.equal 125 (.agg (bv l).toArray) (.agg (bv m).toArray))))):=D
 rw[d,Sem.run_bind]at h
 rw[e,Sem.run_bind]
 cases a:(Op.equal 125 (.agg (bv l).toArray) (.agg (bv m).toArray)).run Tryz.prog w with
 |ok b w'=>
  rw[a]at h
  simp only[Result.andThen_ok,Sem.run_pure,Result.ok.injEq,Value.bool.injEq]at h⊢
  exact⟨by rw[h.1],h.2⟩
 |halt r w'=>rw[a]at h;simp at h
section
variable {w:World} {a:Act} {U:Nat} {f:Db} {ty:TypeId} {pos:String} {AF:Array Edge} {dst:Option Tmp} {g:Option (Nat×Bool)}
theorem Fu(d:Ao U a f)(e:l.length=32)(hm:m.length=32)(b:Au f x=some (.agg (flat [bv l])))(c:Au f y=some (.agg (flat [bv m])))(r:Bool)(h:decide (l=m)=r):Cy Tryz.prog a w ⟨dst,.binOp .eql 125 x y t,ty,pos,AF,g⟩ (.bool r) w:=by
 subst h
 rw[Ly]at b c
 exact EH d b c (O3 _ _ _ _ _ _ (.inl D)) (QU e hm w)
theorem Mf(d:Ao U a f)(e:l.length=32)(hm:m.length=32)(b:Au f x=some (.agg (flat [bv l])))(c:Au f y=some (.agg (flat [bv m])))(r:Bool)(h:(!decide (l=m))=r):Cy Tryz.prog a w ⟨dst,.binOp .neq 125 x y t,ty,pos,AF,g⟩ (.bool r) w:=by
 subst h
 rw[Ly]at b c
 exact EH d b c (O3 _ _ _ _ _ _ (.inr D)) (SZ e hm w)
end
end Go.Proofs.YtcdaflcjhimimaaGreatDoor
namespace Go.Proofs.YtcdaflcjhimimaaGreatDoor
open Go.RowKit
theorem U4(B:List Value):∀(l A a:List Value) (off k:Nat),A.length=off+k→a.length=l.length→
 (l.zipIdx k).foldl (fun(cs:Array Value) (p:Value×Nat)=>cs.setIfInBounds (off+p.2) p.1) (A++a++B).toArray=(A++l++B).toArray:=by
 intro l
 induction l with
 |nil=>
  intro A a off k _ b
  have:a=[]:=List.length_eq_zero_iff.1 b
  subst this
  rfl
 |cons c l d=>
  intro A a off k e b
  cases a with
  |nil=>simp at b
  |cons m a=>
   rw[List.zipIdx_cons,List.foldl_cons]
   have f:(A++m::a++B).toArray.setIfInBounds (off+k) c=(A++[c]++a++B).toArray:=by
    apply Array.toList_inj.1
    rw[Array.toList_setIfInBounds]
    show(A++m::a++B).set (off+k) c=A++[c]++a++B
    rw[←e,List.append_assoc,List.set_append_right _ _ (Be _),Nat.sub_self]
    simp
   show(l.zipIdx (k+1)).foldl _ ((A++m::a++B).toArray.setIfInBounds (off+k) c)=_
   rw[f,d (A++[c]) a off (k+1) (by simp;omega) (by simpa using b)]
   simp
theorem C2{place:Nat→Option (Nat×Nat)}{i:Nat}{v:Value}{off size:Nat}{rest:List (Nat×Value)}(pre mid post a:List (List Value))(d:place i=some (off,size))(j:pre.flatten.length=off)(hm:mid.flatten.length=size)(f:a.flatten.length=size)(c:v.cells=flat a){r:Array Value}
 (h:Instr.fill place (flat (pre++a++post)) rest=some r):Instr.fill place (flat (pre++mid++post)) ((i,v)::rest)=some r:=by
 unfold Instr.fill
 rw[d]
 simp only
 have b:v.cells.size=size:=by rw[c,N1,f]
 have g:¬(off+v.cells.size>(flat (pre++mid++post)).size):=by
  rw[b,N1]
  simp only[List.flatten_append,List.length_append,gt_iff_lt,Nat.not_lt]
  omega
 rw[if_neg (by simp only[b,ne_eq,not_true_eq_false,decide_false,Bool.false_or,decide_eq_true_eq];rw[←b];exact g)]
 have e:v.cells.zipIdx.foldl (fun cs x=>cs.setIfInBounds (off+x.2) x.1) (flat (pre++mid++post))=flat (pre++a++post):=by
  rw[c,←Array.foldl_toList,Array.toList_zipIdx]
  have:=U4 post.flatten a.flatten pre.flatten mid.flatten off 0 (by omega) (by omega)
  simp only[flat,List.flatten_append]
  exact this
 exact e▸h
section
variable {P:Program} {w w':World} {a:Act} {Ac:Exit→Act→World→Prop} {U:Nat} {f:Db} {d:Nat} {ty:TypeId} {pos:String} {AF:Array Edge} {dst:Option Tmp} {g:Option (Nat×Bool)} {Aa:Act→World→Prop}
theorem GI{Az:TypeId}{b:Array Field}(hu:P.underlying Az=some (.struct b)){ss:List (List Value)}(a:(P.info? Az).map (·.zero)=some (some (.agg (flat ss)))){places:List (Nat×Nat)}(d:b.toList.mapM (fun f=>(P.info? f.type).map fun i=>(f.offset,i.size))=some places){parts:List (Nat×Value)}{r:Array Value}(h:Instr.fill (places.toArray[·]?) (flat ss) parts=some r):P.built Az parts=some r:=by
 unfold Program.built
 cases c:P.info? Az with
 |none=>rw[c]at a;cases a
 |some it=>
  rw[c]at a
  have e:it.zero=some (.agg (flat ss)):=by simpa using a
  rw[hu]
  simp only[e,d]
  exact h
theorem Fk{o:Oper}{v BL:Value}(h:Cy P a w o v w)(e:v=BL):Cy P a w o BL w:=by subst e;exact h
theorem GG(c:Ao U a f){Az:TypeId}{b:Array (Nat×Operand)}{Bf:List (Nat×Value)}(d:b.toList.map (fun p=>(p.1,Au f p.2))=Bf.map (fun p=>(p.1,some p.2))){r:Array Value}(e:P.built Az Bf=some r):Cy P a w ⟨dst,.build Az b,ty,pos,AF,g⟩ (.agg r) w:=
 CE c d (run_build _ _ _ _ (by simpa using e))
end
theorem R5{ss:List (List Value)}{n:Nat}(h:ss.flatten.length=n):(flat ss).size=n:=by rw[N1];exact h
theorem UN{ss:List (List Value)}(h:Jc ss):∀u∈(flat ss).toList,u.oneCell'=true:=by
 intro u hu
 have:u∈ss.flatten:=by simpa[flat]using hu
 obtain⟨s,a,hu⟩:=List.mem_flatten.1 this
 exact h s a u hu
end Go.Proofs.YtcdaflcjhimimaaGreatDoor
