/- Laws and walks on the road to SalvageClean (part M15). No conditions beyond each law's own. -/
import Derived.WideLaws
import Derived.Maps.Own
import Derived.DeepKeys4
import Derived.Maps.Range
import Derived.Test.YtaapafoibofbjaaGreatDoorM01
import Derived.Test.YtaapafoibofbjaaGreatDoorM14
import Derived.Test.YtaapafoibofbjaaGreatDoorM12
set_option linter.unusedVariables false
namespace Go.Proofs.YtaapafoibofbjaaGreatDoor
open Go.RowKit
variable {x y:Operand} {t u T:TypeId} {v:Value} {p n:Nat} {fn:Func}
theorem QF(a:Nat)(h:a<18446744073709551616:=by omega):(BitVec.ofInt 64 (a:Int)).toNat=a:=by
 rw[BitVec.toNat_ofInt]
 omega
theorem eU(a b:Nat)(c:a<9223372036854775808)(J:b<9223372036854775808):bits .and .i64 (a:Int) (b:Int)=((a&&&b:Nat):Int):=by
 have d:a&&&b≤a:=Nat.and_le_left
 show IntKind.i64.wrap ((BitVec.ofInt 64 (a:Int)&&&BitVec.ofInt 64 (b:Int)).toNat:Int)=_
 rw[BitVec.toNat_and,QF a,QF b]
 exact IntWalk.i64_in _ (by omega)
theorem eE(a b:Nat)(c:a<4611686018427387904)(J:b<4611686018427387904):bits .or .i64 (a:Int) (b:Int)=((a|||b:Nat):Int):=by
 have d:a|||b<2^62:=Nat.or_lt_two_pow (by omega) (by omega)
 show IntKind.i64.wrap ((BitVec.ofInt 64 (a:Int)|||BitVec.ofInt 64 (b:Int)).toNat:Int)=_
 rw[BitVec.toNat_or,QF a,QF b]
 exact IntWalk.i64_in _ (by omega)
section
variable {P:Program} {ops:Array Oper} {rest:List Oper} {Aa:Exit→Act→World→Prop} {N:Nat} {f:BW} {d:Nat} {ty:TypeId} {pos:String} {An:Array Edge} {dst:Option Tmp} {g:Option (Nat×Bool)} {F:Nat→Prop} {w0 w:World} {H:List Atom} {K:Act→World→Prop} {R:Act→Prop}
theorem Na{q:Nat}(b:Aj f x=some (.int .i64 p))(c:Aj f y=some (.int .i64 q))(r:Nat)(hr:p&&&q=r)(e:p<9223372036854775808:=by omega)(h:q<9223372036854775808:=by omega):BR P N f F w0 H ⟨some d,.binOp .and t x y u,ty,pos,An,g⟩ (.int .i64 ((r:Nat):Int)):=fun a w i j=>D6 i (.inl D) b c (by rw[←hr];exact eU _ _ e h)
theorem Ku{q:Nat}(b:Aj f x=some (.int .i64 p))(c:Aj f y=some (.int .i64 q))(r:Nat)(hr:p|||q=r)(e:p<4611686018427387904:=by omega)(h:q<4611686018427387904:=by omega):BR P N f F w0 H ⟨some d,.binOp .or t x y u,ty,pos,An,g⟩ (.int .i64 ((r:Nat):Int)):=fun a w i j=>D6 i (.inr (.inl D)) b c (by rw[←hr];exact eE _ _ e h)
theorem P8{k k':IntKind}(b:Aj f x=some (.int k p))(c:Aj f y=some (.int k' n))(r:Nat)(hr:p/2^n=r)(e:n≤k.bits:=by(first|decide|(simp only[IntKind.bits];omega))):BR P N f F w0 H ⟨some d,.binOp .shr t x y u,ty,pos,An,g⟩ (.int k ((r:Nat):Int)):=fun a w h i=>IG h b c e hr
theorem Ke{k':IntKind}(b:Aj f x=some (.int .i64 p))(c:Aj f y=some (.int k' n))(r:Nat)(hr:p*2^n=r)(J:r≤9223372036854775807:=by omega)(e:n≤64:=by omega):BR P N f F w0 H ⟨some d,.binOp .shl t x y u,ty,pos,An,g⟩ (.int .i64 ((r:Nat):Int)):=fun a w h i=>Kc h b c e (by rw[hr];exact IntWalk.i64_in _ (by omega))
theorem aK{p q:UInt8}(b:Aj f x=some (Be .u8 p.toNat))(c:Aj f y=some (Be .u8 q.toNat)):BR P N f F w0 H ⟨some d,.binOp .xor t x y u,ty,pos,An,g⟩ (Be .u8 (p^^^q).toNat):=fun a w e h=>D6 e (.inr (.inr D)) b c (by rw[UInt8.toNat_xor];exact u8_xor_nat _ _ p.toNat_lt q.toNat_lt)
theorem ah{p q:UInt8}(b:Aj f x=some (Be .u8 p.toNat))(c:Aj f y=some (Be .u8 q.toNat)):BR P N f F w0 H ⟨some d,.binOp .or t x y u,ty,pos,An,g⟩ (Be .u8 (p|||q).toNat):=fun a w e h=>D6 e (.inr (.inl D)) b c (by rw[UInt8.toNat_or];exact u8_or_nat _ _ p.toNat_lt q.toNat_lt)
theorem Qv(c:P.underlying t=some .string){BI:Operand}{s:ByteArray}{k:IntKind}{i:Int}(j:Nat){v:UInt8}(e:Aj f x=some (.string s))(h:Aj f BI=some (.int k i))(V:s[j]? =some v)(hj:i=j:=by omega):BR P N f F w0 H ⟨some d,.index t x BI,ty,pos,An,g⟩ (Be .u8 v.toNat):=fun a w b l=>by
 subst hj
 show(execOp a.eval _).run P w=_
 simp[execOp,b.A_ e,b.A_ h,Instr.index,asIntOf,run_underlying c,V]
end
section
variable {P:Program} {ops:Array Oper} {rest:List Oper} {Aa:Exit→Act→World→Prop} {N:Nat} {f:BW} {d:Nat} {ty:TypeId} {pos:String} {An:Array Edge} {dst:Option Tmp} {g:Option (Nat×Bool)} {F:Nat→Prop} {w0 w:World} {H:List Atom} {K:Act→World→Prop} {R:Act→Prop}
theorem Qx(b:Aj f x=some v)(c:P.concrete T=true:=by kernel_rfl):BR P N f F w0 H ⟨some d,.makeInterface T x,ty,pos,An,g⟩ (.iface T v):=fun a w e h=>by
 show(execOp a.eval _).run P w=_
 simp[execOp,e.A_ b,run_makeInterface w T v c]
theorem Rf(A5:P.underlying T=some (.interface (P.methodsAt T)))(b:Aj f x=some (.iface t v)):BR P N f F w0 H ⟨some d,.binOp .eql T x (.const .nilIface) u,ty,pos,An,g⟩ (.bool false):=fun a w c e=>ED c (q:=.nilIface) b D (by simp[eqGuard]) (run_eql_held_nil w T t v A5)
theorem WG(A5:P.underlying T=some (.interface (P.methodsAt T)))(b:Aj f x=some .nilIface):BR P N f F w0 H ⟨some d,.binOp .eql T x (.const .nilIface) u,ty,pos,An,g⟩ (.bool true):=fun a w c e=>ED c (q:=.nilIface) b D (by simp[eqGuard]) (run_eql_nil_nil w T A5)
theorem Vd{b:TypeId}{BB:TypeDesc}(c:P.underlying b=some BB)(e:Aj f x=some (.iface b v))(h:(match BB with|.interface _=>false|_=>true)=true:=by rfl):BR P N f F w0 H ⟨some d,.typeAssert x T b true,ty,pos,An,g⟩ (.tuple #[v,.bool true]):=fun a w i j=>by
 show(execOp a.eval _).run P w=_
 cases BB<;>first|(simp at h;done)|simp[execOp,i.A_ e,Instr.typeAssert,run_underlying c]
theorem bc{b:TypeId}{BB:TypeDesc}(h:P.underlying b=some BB){z:Value}(i:Aj f x=some (.iface t v))(j:∀w,(zeroValue b).run P w=.ok z w)(c:Nat.beq t b=false:=by rfl)(k:(match BB with|.interface _=>false|_=>true)=true:=by rfl):BR P N f F w0 H ⟨some d,.typeAssert x T b true,ty,pos,An,g⟩ (.tuple #[z,.bool false]):=fun a w l n=>by
 have m:¬t=b:=fun e=>by rw[e,Nat.beq_refl]at c;cases c
 show(execOp a.eval _).run P w=_
 cases BB<;>first|(simp at k;done)|simp[execOp,l.A_ i,Instr.typeAssert,run_underlying h,m,j]
theorem KZ{Cf:FuncId}(k:P.funcs[Cf]? =some fn){recv:Operand}{name:String}{xs:List Operand}{ts:Array TypeId}{l:List Value}{BA:Value}(hm:∀w,(method (P.types.size+Made.depth) t v name).run P w=.ok (Cf,BA) w)(hr:Aj f recv=some (.iface t v))(m:GX f xs=some l){T:World→Ending→World→Prop}(n:∀w,Sat F w0 H w→Calls P Cf (BA::l).toArray w (T w))(h:∀w e W,Sat F w0 H w→T w e W→∃u H',e=.returned u∧Sat F w0 H' W∧AT N (Jb f d u) F w0 H' K)
 (o:(fn.name== "runtime.NumGoroutine")=false:=by kernel_rfl)(J:fn.body.isNone=false:=by kernel_rfl)(Ad:Nat.blt d N=true:=by exact rfl):D3 P ⟨some d,.call {callee:=.invoke recv name,args:=xs.toArray,argTypes:=ts},ty,pos,An,g⟩ Aa N f F w0 H K:=fun a w c j=>by
 have p:xs.toArray.map a.eval=l.toArray:=by
  apply Array.toList_inj.1
  rw[Array.toList_map]
  apply List.ext_getElem?
  intro i
  have:=congrArg (fun q=>q[i]?) (Nf m)
  simp only[List.getElem?_map]at this⊢
  cases h1:xs[i]? with
  |none=>rw[h1]at this;cases b:l[i]? with
   |none=>simp
   |some v=>rw[b]at this;cases this
  |some x=>rw[h1]at this;cases b:l[i]? with
   |none=>rw[b]at this;cases this
   |some v=>
    rw[b]at this
    simp only[Option.map_some,Option.some.injEq]at this⊢
    exact c.A_ this
 have r:¬fn.name= "runtime.NumGoroutine" :=by simpa using o
 have s:¬fn.body=none:=by intro q;rw[q]at J;cases J
 have y:(execOp a.eval ⟨some d,.call {callee:=.invoke recv name,args:=xs.toArray,argTypes:=ts},ty,pos,An,g⟩).run P w=.ok (.enter Cf (BA::l).toArray) w:=by
  have z:(xs.map a.eval)=l:=by simpa using p
  simp[execOp,resolve,invoke,callMethod,z,c.A_ hr,hm,callFunc,k,r,s]
 refine⟨?_⟩
 unfold Oper.wp
 rw[y]
 refine(n w j).mono (fun e W Df=>?_)
 obtain⟨u,H',rfl,A,B⟩:=h w e W j Df
 exact B _ _ (c.put Ad u) A
end
theorem hE{P:Program}(w:World)(e h ty elem:TypeId)(g o a j:Nat)(s:ByteArray)(cur:Array Value)(t:TypeId)
 (hu:P.underlying e=some (.slice elem))(f:(P.info? elem).map (·.size)=some 1)
 (k:w.heap[g]? =some (.cells cur t (0,0)))(l:s.size≤a)(m:o+s.size≤cur.size):
 (Builtin.copy_ #[e,h] ty #[.slice (some ⟨g,o,none⟩) a j,.string s]).run P w=
   .ok (goInt s.size) (w.setRow g (cur.toList.take o++bv s.data.toList++cur.toList.drop (o+s.size)).toArray):=by
 have hlen:(bv s.data.toList).length=s.size:=by rw[DG];rfl
 have h1:∀v∈bv s.data.toList,v.oneCell'=true:=by
  intro v V
  obtain⟨u,_,rfl⟩:=List.mem_map.1 V
  rfl
 have c:=run_storeCells_at P g o t (bv s.data.toList) 0 cur w k (by rw[hlen];simpa using m) h1
 cases d:P.info? elem with
 |none=>simp[d]at f
 |some i=>
  have p:i.size=1:=by simpa[d]using f
  have hm:Nat.min s.size a=s.size:=Nat.min_eq_left l
  have n:List.take s.size (List.map (fun b=>Value.int IntKind.u8 ↑b.toNat) s.data.toList)=bv s.data.toList:=List.take_of_length_le (by rw[List.length_map];exact Br _)
  rw[List.append_assoc]at c
  simp only[Nat.add_zero,hlen]at c
  simp[Builtin.copy_,run_underlying hu,Builtin.lenOf,Builtin.firstCells,sizeOf,typeInfo,d,hm,n,c]
section
variable {P:Program} {ops:Array Oper} {rest:List Oper} {Aa:Exit→Act→World→Prop} {N:Nat} {f:BW} {d:Nat} {ty:TypeId} {pos:String} {An:Array Edge} {dst:Option Tmp} {g:Option (Nat×Bool)} {F:Nat→Prop} {w0 w:World} {H:List Atom} {K:Act→World→Prop} {R:Act→Prop}
theorem bE{a:Act}{T:Ending→World→Prop}(b:AH N a f){t u z:Nat}(hr:fn.results=#[.tmp t,.tmp u,.tmp z]){BA c:Value}(V:f t=some v)(hu:f u=some BA)(j:f z=some c)(h:T (.returned (.tuple #[v,BA,c])) w):bodyPost P fn T .ret a w:=
 ⟨b.d,.tuple #[v,BA,c],by
   have e:=b.h t v V
   have g:=b.h u BA hu
   have i:=b.h z c j
   rw[Array.getD_eq_getD_getElem?]at e g i
   simp[results,hr,e,g,i],h⟩
theorem Wf{f:BW}{a:Act}(c:AH N a f){xs:List Operand}{l:List Value}(d:GX f xs=some l):xs.map a.eval=l:=by
 apply List.ext_getElem?
 intro i
 have:=congrArg (fun q=>q[i]?) (Nf d)
 simp only[List.getElem?_map]at this⊢
 cases h1:xs[i]? with
 |none=>rw[h1]at this;cases b:l[i]? with
  |none=>simp
  |some v=>rw[b]at this;cases this
 |some x=>rw[h1]at this;cases b:l[i]? with
  |none=>rw[b]at this;cases this
  |some v=>
   rw[b]at this
   simp only[Option.map_some,Option.some.injEq]at this⊢
   exact c.A_ this
theorem WA{Cf:FuncId}(k:P.funcs[Cf]? =some fn){b:Operand}{fr i:Array Value}{xs:List Operand}{ts:Array TypeId}{l l':List Value}(V:Aj f b=some (.func (.func Cf) fr i))(m:GX f xs=some l)(hl:fr++l.toArray++i=l'.toArray){T:World→Ending→World→Prop}(n:∀w,Sat F w0 H w→Calls P Cf l'.toArray w (T w))(h:∀w e W,Sat F w0 H w→T w e W→∃u H',e=.returned u∧Sat F w0 H' W∧AT N (Jb f d u) F w0 H' K)
 (o:(fn.name== "runtime.NumGoroutine")=false)(J:fn.body.isNone=false)(Ad:Nat.blt d N=true:=by exact rfl)(y:∀q,b≠ .func q:=by intro q z;cases z):D3 P ⟨some d,.call {callee:=.value b,args:=xs.toArray,argTypes:=ts},ty,pos,An,g⟩ Aa N f F w0 H K:=fun a w c j=>by
 have p:(xs.map a.eval)=l:=Wf c m
 have r:¬fn.name= "runtime.NumGoroutine" :=by simpa using o
 have s:¬fn.body=none:=by intro q;rw[q]at J;cases J
 have t:(execOp a.eval ⟨some d,.call {callee:=.value b,args:=xs.toArray,argTypes:=ts},ty,pos,An,g⟩).run P w=.ok (.enter Cf l'.toArray) w:=by
  rw[←hl]
  simp[execOp,resolve,Deferred.ofValue,invoke,p,c.A_ V,callFunc,k,r,s]
 refine⟨?_⟩
 unfold Oper.wp
 rw[t]
 refine(n w j).mono (fun e W Df=>?_)
 obtain⟨u,H',rfl,v,x⟩:=h w e W j Df
 exact x _ _ (c.put Ad u) v
theorem b2(i q o:Nat){l:Ji n}{s:ByteArray}(m:List UInt8)(I:s.data.toList=m){c u e:TypeId}{b off dl z:Nat}{ss pre post:List (List Value)}{tb:TypeId}(hu:P.underlying c=some (.slice e))(A:H[i]? =some (O b ss tb))(L:Aj f x=some (.slice (some ⟨b,off,none⟩) dl z))(M:Aj f y=some (.string s))(Q:ss[q]? =some (bv l.l))
 (h:AT N (Jb f d (.int .i64 (m.length:Int))) F w0 (H.set i (O b (ss.set q (bv (l.lay o m).l)) tb)) K)(R:m.length≤dl:=by(first|decide|(simp only[List.length_cons,List.length_nil];omega)))(h1:ss.take q=pre:=by exact Jr)(B:ss.drop (q+1)=post:=by exact Jr)(s1:pre.flatten.length=p:=by exact Jp)(ho:p+o=off:=by first|rfl|omega)(S:o+m.length≤n:=by(first|decide|(simp only[List.length_cons,List.length_nil];omega)))(T:(P.info? e).map (·.size)=some 1:=by kernel_rfl)(Ad:Nat.blt d N=true:=by exact rfl):
 D3 P ⟨some d,.call {callee:=.builtin .copy,args:=#[x,y],argTypes:=#[c,u]},ty,pos,An,g⟩ Aa N f F w0 H K:=fun a w j C=>by
 have E:=Tw Q
 rw[Sb h1 E B]at h
 have U:ss=pre++([bv l.l]++post):=by rw[←h1,←E,←B,←List.drop_drop,List.take_append_drop,List.take_append_drop]
 have J:=C.Dq i A
 rw[U]at J
 subst s1
 subst ho
 subst I
 have V:s.data.toList.length=s.size:=D
 have r:(bv l.l).length=n:=by rw[DG,l.h]
 have G:(pre++([bv l.l]++post)).flatten=pre.flatten++(bv l.l++post.flatten):=by simp
 have W:(flat (pre++([bv l.l]++post))).toList.take (pre.flatten.length+o)++bv s.data.toList++(flat (pre++([bv l.l]++post))).toList.drop (pre.flatten.length+o+s.size)=(pre++([bv (l.lay o s.data.toList).l]++post)).flatten:=by
  rw[Ji.NC l S]
  simp only[flat,G,List.flatten_append,List.flatten_cons,List.flatten_nil,List.append_nil]
  rw[List.take_append,List.take_of_length_le (Nat.le_add_right _ _),Nat.add_sub_cancel_left,List.take_append_of_le_length (by rw[r];omega),Nat.add_assoc,List.drop_append,List.drop_of_length_le (Nat.le_add_right _ _),Nat.add_sub_cancel_left,List.drop_append_of_le_length (by rw[r];omega),List.nil_append]
  simp only[Mu,Ip,Hk,V,List.append_assoc]
 have t:=hE (P:=P) w c u ty e b (pre.flatten.length+o) dl z s (flat (pre++([bv l.l]++post))) tb hu T J R (by simp only[flat,List.size_toArray,G,List.length_append,r];omega)
 rw[W]at t
 have f1:(w.setRow b (pre++([bv (l.lay o s.data.toList).l]++post)).flatten.toArray).heap[b]? =some (.cells (flat (pre++[bv (l.lay o s.data.toList).l]++post)) tb (0,0)):=by
  rw[setRow_heap w b _ _ _ _ J,List.append_assoc]
  rfl
 refine F8 (v:=.int .i64 (s.size:Int)) j Ad ?_ (fun X Y=>h X _ Y (C.set i A (C7.grown (Wj w b _)) f1 (fun k e=>.inl e)))
 simp[goInt]at t
 simp[execOp,resolve,invoke,builtin,j.A_ L,j.A_ M,t]
theorem Yk{e:TypeId}{z:Value}(c:CO P t e 1 1 z)(n:Nat){k k':IntKind}(p:Aj f x=some (.int k ((n:Nat):Int)))(q:Aj f y=some (.int k' ((n:Nat):Int)))(r:(madeCells z.cells (n*1)).toList=bv (Ji.zero n).l)(h:∀b,AT N (Jb f d (.slice (some ⟨b,0,none⟩) n n)) F w0 (O b [bv (Ji.zero n).l] e::H) K)(J:n≤281474976710656:=by omega)(s:n≤maxLen:=by unfold maxLen;omega)(Ad:Nat.blt d N=true:=by exact rfl):D3 P ⟨some d,.makeSlice t x y,ty,pos,An,g⟩ Aa N f F w0 H K:=fun a w m u=>by
 obtain⟨i,o,B,C,D⟩:=c.ji
 obtain⟨W,hr,ho,E⟩:=run_make_full (P:=P) (w:=w) 0 t e i z 1 c.jq o B C k k' n (by rw[D];omega) s (Nat.zero_le _)
 rw[r]at ho
 have G:W.heap[w.heap.size]? =some (.cells (flat [bv (Ji.zero n).l]) e (0,0)):=by
  rcases ho.2 with⟨j,_⟩|⟨T,U,cur,j, -,I, -, -,L,M⟩
  ·simp at j
  ·simp only[Value.slice.injEq,Option.some.injEq,Addr.mk.injEq,and_true,true_and]at j
   obtain⟨rfl,rfl⟩:=j
   rw[I]
   have:cur.toList=bv (Ji.zero n).l:=by
    rw[←M,List.take_of_length_le (by simp[L])]
   congr 2
   apply Array.toList_inj.1
   rw[this]
   simp[flat]
 refine F8 (v:=.slice (some ⟨w.heap.size,0,none⟩) n n) (w':=W) m Ad ?_ (fun Q R=>h _ Q W R (u.new (A:=O w.heap.size [bv (Ji.zero n).l] e) ((Cn _ _).grown E (Br _) (fun k c=>by cases c)) G (fun k c=>Nat.le_of_eq c.symm)))
 simp[execOp,m.A_ p,m.A_ q,hr]
theorem Gz{T:Ending→World→Prop}{t u z:Nat}{BA b:Value}(V:f t=some v)(hu:f u=some BA)(c:f z=some b)(h:∀w,Sat F w0 H w→T (.returned (.tuple #[v,BA,b])) w)(hr:fn.results=#[.tmp t,.tmp u,.tmp z]:=by exact rfl):AT N f F w0 H (bodyPost P fn T .ret):=fun a w d e=>bE d hr V hu c (h w e)
theorem Sat.R5{b T:Nat}{l:Ji n}(h:Sat C1 w0 H w)(i:Nat)(hm:n≤maxLen)(a:H[i]? =some (O b [bv l.l] T):=by exact rfl):w.ownsRow w0.heap.size T 1 (.slice (some ⟨b,0,none⟩) n n) n (bv l.l):=
 ⟨by rw[DG,l.h,Nat.mul_one],.inr ⟨b,n,_,D,(h.jQ i _ a b D).resolve_left id,h.Dq i a,Br _,hm,by simp[flat,DG,l.h],by simp only[flat,List.flatten_cons,List.flatten_nil,List.append_nil];exact List.take_of_length_le (by rw[DG,l.h];omega)⟩⟩
end
end Go.Proofs.YtaapafoibofbjaaGreatDoor
namespace Go.Proofs.YtaapafoibofbjaaGreatDoor
open Go.RowKit
set_option maxRecDepth 100000
def GK(l:List UInt8):List Lit:=l.map fun b=>Lit.int .u8 ((b.toNat:Nat):Int)
theorem ht{l m:List UInt8}(h:GK l=GK m):l=m:=by
 have:∀(l m:List UInt8),GK l=GK m→l=m:=by
  intro l
  induction l with
  |nil=>intro m h;cases m with
   |nil=>rfl
   |cons y m=>cases h
  |cons x l a=>intro m h;cases m with
   |nil=>cases h
   |cons y m=>
    simp only[GK,List.map_cons,List.cons.injEq,Lit.int.injEq,true_and]at h
    rw[a m h.2,UInt8.toNat_inj.1 (by omega:x.toNat=y.toNat)]
 exact this l m h
theorem eV(Au:Nat)(b:UInt8):Tryz.prog.keyLits (Au+1) 5 [.int .u8 ((b.toNat:Nat):Int)]=some [.int .u8 ((b.toNat:Nat):Int)]:=by
 have hw:(Lit.int .u8 ((b.toNat:Nat):Int)).wf=true:=by
  have:=b.toNat_lt
  have h1:IntKind.u8.min=0:=D
  have a:IntKind.u8.max=255:=D
  simp only[Lit.wf,Bool.and_eq_true,decide_eq_true_eq]
  omega
 simp[Program.keyLits,Tryz.underlying5,hw]
theorem S3(Au:Nat)(n:Nat)(h:n≤4611686018427387904):Tryz.prog.keyLits (Au+1) 3 [.int .i64 ((n:Nat):Int)]=some [.int .i64 ((n:Nat):Int)]:=by
 have hw:(Lit.int .i64 ((n:Nat):Int)).wf=true:=by
  have h1:IntKind.i64.min= -9223372036854775808:=D
  have a:IntKind.i64.max=9223372036854775807:=D
  simp only[Lit.wf,Bool.and_eq_true,decide_eq_true_eq]
  omega
 simp[Program.keyLits,Tryz.underlying3,hw]
theorem SK(Au:Nat){T n:Nat}(A5:Tryz.prog.underlying T=some (.array n 5))(b:Tryz.prog.cellsOf T=n){l:List UInt8}(h:l.length=n):Tryz.prog.keyLits (Au+2) T (bv l)=some (GK l):=by
 have hr:=mapM_some (f:=fun i=>Tryz.prog.keyLits (Au+1) 5 (((bv l).drop (i*Tryz.prog.cellsOf 5)).take (Tryz.prog.cellsOf 5))) (g:=fun i=>[Lit.int .u8 ((l.getD i 0).toNat:Nat)]) (l:=List.range n) (fun i c=>by
  have a:i<l.length:=by rw[h];exact List.mem_range.1 c
  have e:((bv l).drop (i*1)).take 1=[.int .u8 (l[i].toNat:Nat)]:=by
   rw[Nat.mul_one,Hk,Ip,List.take_one,List.head?_drop,List.getElem?_eq_getElem a]
   rfl
  have d:l.getD i 0=l[i]:=by rw[List.getD_eq_getElem?_getD,List.getElem?_eq_getElem a];rfl
  rw[Qa,e,d]
  exact eV Au _)
 have hl:(bv l).length=Tryz.prog.cellsOf T:=by rw[DG,h,b]
 unfold Program.keyLits
 simp only[A5]
 rw[if_pos hl,hr]
 simp only[Option.map_some,Option.some.injEq]
 rw[NQ]
 unfold GK
 apply List.ext_getElem
 ·simp[h]
 ·intro i h1 j
  simp only[List.getElem_map,List.getElem_range]
  rw[List.getD_eq_getElem?_getD,List.getElem?_eq_getElem (by simpa using j)]
  rfl
theorem TZ:Tryz.prog.cellsOf 359=34:=by kernel_rfl
theorem VE:Tryz.prog.cellsOf 242=33:=by kernel_rfl
theorem Um:Tryz.prog.cellsOf 3=1:=by kernel_rfl
theorem VM(Au p c:Nat)(x:Jc)(a:p≤4611686018427387904)(b:c≤4611686018427387904):Tryz.prog.keyLits (Au+3) 359 ([Value.int .i64 (p:Int)]++([Value.int .i64 (c:Int)]++bv x.l))=some (Lit.int .i64 (p:Int)::Lit.int .i64 (c:Int)::GK x.l):=by
 have hl:([Value.int .i64 (p:Int)]++([Value.int .i64 (c:Int)]++bv x.l)).length=Tryz.prog.cellsOf 359:=by rw[TZ];simp[DG,x.h]
 unfold Program.keyLits
 simp only[Tryz.underlying359]
 rw[if_pos ⟨hl,by decide+kernel⟩]
 have h1:=S3 (Au+1) p a
 have d:=S3 (Au+1) c b
 have e:=SK Au (T:=51) B5 PX x.h
 have f:(bv x.l).take 32=bv x.l:=List.take_of_length_le (by rw[DG,x.h];exact Br _)
 simp[List.mapM_cons,Um,PX,h1,d,e,f]
theorem ha(Au b:Nat)(x:Jc)(J:b≤4611686018427387904):Tryz.prog.keyLits (Au+3) 242 ([Value.int .i64 (b:Int)]++bv x.l)=some (Lit.int .i64 (b:Int)::GK x.l):=by
 have hl:([Value.int .i64 (b:Int)]++bv x.l).length=Tryz.prog.cellsOf 242:=by rw[VE];simp[DG,x.h]
 unfold Program.keyLits
 simp only[Tryz.underlying242]
 rw[if_pos ⟨hl,by decide+kernel⟩]
 have h1:=S3 (Au+1) b J
 have a:=SK Au (T:=57) Em NL x.h
 have c:(bv x.l).take 32=bv x.l:=List.take_of_length_le (by rw[DG,x.h];exact Br _)
 simp[List.mapM_cons,Um,NL,h1,a,c]
theorem fj(x y:Operand)(p q:Array Value)(w:World):(eqGuard .eql 359 x y (.agg p) (.agg q)).run Tryz.prog w=.ok () w:=by kernel_rfl
theorem Z_(p c d c':Nat)(x f:Jc)(i:p≤4611686018427387904)(j:c≤4611686018427387904)(k:d≤4611686018427387904)(m:c'≤4611686018427387904)(w:World):(binOp .eql 359 (.agg (flat [[.int .i64 (p:Int)],[.int .i64 (c:Int)],bv x.l])) (.agg (flat [[.int .i64 (d:Int)],[.int .i64 (c':Int)],bv f.l]))).run Tryz.prog w=.ok (.bool (decide (p=d∧c=c'∧x.l=f.l))) w:=by
 have Ce:∀(p c:Nat) (x:Jc),(flat [[Value.int .i64 (p:Int)],[.int .i64 (c:Int)],bv x.l]).toList=[Value.int .i64 (p:Int)]++([Value.int .i64 (c:Int)]++bv x.l):=fun p c x=>by simp[flat]
 have Z:∀(p c:Nat) (x:Jc),(Value.agg (flat [[.int .i64 (p:Int)],[.int .i64 (c:Int)],bv x.l])).formed Tryz.prog 359=true:=fun p c x=>by
  simp[Value.formed,Tryz.underlying359,flat,DG,x.h,TZ]
 have n:Tryz.prog.keyLits 3 359 (Value.agg (flat [[.int .i64 (p:Int)],[.int .i64 (c:Int)],bv x.l])).cells.toList=some (Lit.int .i64 (p:Int)::Lit.int .i64 (c:Int)::GK x.l):=by
  show Tryz.prog.keyLits 3 _ (flat _).toList=_
  rw[Ce];exact VM 0 p c x i j
 have o:Tryz.prog.keyLits 3 359 (Value.agg (flat [[.int .i64 (d:Int)],[.int .i64 (c':Int)],bv f.l])).cells.toList=some (Lit.int .i64 (d:Int)::Lit.int .i64 (c':Int)::GK f.l):=by
  show Tryz.prog.keyLits 3 _ (flat _).toList=_
  rw[Ce];exact VM 0 d c' f k m
 obtain⟨r,hr,g⟩:=run_equalIn_deep (P:=Tryz.prog) 9997 3 359 (by kernel_rfl) w 3 3 _ _ _ _ (Z p c x) (Z d c' f) n o
 have e:r=decide (p=d∧c=c'∧x.l=f.l):=by
  have:(Lit.int .i64 (p:Int)::Lit.int .i64 (c:Int)::GK x.l)=(Lit.int .i64 (d:Int)::Lit.int .i64 (c':Int)::GK f.l)↔(p=d∧c=c'∧x.l=f.l):=by
   simp only[List.cons.injEq,Lit.int.injEq,true_and]
   exact⟨fun⟨a,b,c⟩=>⟨by omega,by omega,ht c⟩,fun⟨a,b,c⟩=>⟨by omega,by omega,by rw[c]⟩⟩
  rw[this]at g
  by_cases he:p=d∧c=c'∧x.l=f.l
  ·rw[decide_eq_true he];exact g.2 he
  ·rw[decide_eq_false he]
   cases r
   ·rfl
   ·exact absurd (g.1 D) he
 subst e
 have e:binOp .eql 359 (.agg (flat [[.int .i64 (p:Int)],[.int .i64 (c:Int)],bv x.l])) (.agg (flat [[.int .i64 (d:Int)],[.int .i64 (c':Int)],bv f.l]))=(do pure (.bool (←Op.equal 359 (.agg (flat [[.int .i64 (p:Int)],[.int .i64 (c:Int)],bv x.l])) (.agg (flat [[.int .i64 (d:Int)],[.int .i64 (c':Int)],bv f.l]))))):=D
 have:(9997+3:Nat)=10000:=D
 rw[this]at hr
 have q:(Op.equal 359 (.agg (flat [[.int .i64 (p:Int)],[.int .i64 (c:Int)],bv x.l])) (.agg (flat [[.int .i64 (d:Int)],[.int .i64 (c':Int)],bv f.l]))).run Tryz.prog w=_:=hr
 rw[e,Sem.run_bind,q,Result.andThen_ok,Sem.run_pure]
end Go.Proofs.YtaapafoibofbjaaGreatDoor
namespace Go.Proofs.YtaapafoibofbjaaGreatDoor
open Go.RowKit
open Go.WideElems (Fit rd rg pl rd_val rd_key rg_of rd_mk)
open Go.Maps (Keyed)
open Go.ChangeMaps (notKey putKey mem_insert_iff setBlock)
open Go.ChangeMaps Go.MapKept
open Go.WideShapes (sorted_perm)
variable {t e:TypeId} {GB:Lit}
def Df(v:Value):Option (DataW Value×List MemPlace):=some (.held v,[])
def E8(P:Program)(k:TypeId){Bo Dg:Type}(Ca:Bo→Value)(A_:Dg→Value)(b n:Nat)(f:Bo→Option Dg)(w:World):Prop:=
 ∃es clock,w.heap[b]? =some (.map es clock)∧Fit P k Df es clock∧es.size≤n∧(∀e∈es.toList,∃a x,e.key=Ca a∧e.val=A_ x∧f a=some x)∧(∀a x,f a=some x→∃e∈es.toList,e.key=Ca a)
def CF{Bo Dg:Type}[DecidableEq Bo](f:Bo→Option Dg)(a:Bo)(x:Dg):Bo→Option Dg:=fun b=>if b=a then some x else f b
section
variable {P:Program} {k:TypeId} {Bo Dg:Type} {Ca:Bo→Value} {A_:Dg→Value} {b n:Nat} {Z:Bo→Option Dg} {w:World}
theorem E8.lt(h:E8 P k Ca A_ b n Z w):b<w.heap.size:=by
 obtain⟨es,clock,J, -⟩:=h
 exact(Array.getElem?_eq_some_iff.1 J).1
theorem E8.loc{w':World}(h:E8 P k Ca A_ b n Z w)(e:w'.heap[b]? =w.heap[b]?):E8 P k Ca A_ b n Z w':=by
 obtain⟨es,clock,J,r⟩:=h
 exact⟨es,clock,e.trans J,r⟩
theorem E8.mono{a:Nat}(h:E8 P k Ca A_ b n Z w)(c:n≤a):E8 P k Ca A_ b a Z w:=by
 obtain⟨es,clock,J,F,d,r⟩:=h
 exact⟨es,clock,J,F,Eg d c,r⟩
theorem E8.look(c:Bool)(h:E8 P k Ca A_ b n Z w)(K:Keyed P k)(inj:∀a d,Ca a=Ca d→a=d)(i:P.underlying t=some (.map k e)){z:Value}(j:(zeroValue e).run P w=.ok z w){a:Bo}(l:keyOf P k (Ca a)=some GB):
 (Instr.lookup t (.map (some b)) (Ca a) c).run P w=.ok (match Z a with|some x=>if c then .tuple #[A_ x,.bool true]else A_ x|none=>if c then .tuple #[z,.bool false]else z) w:=by
 obtain⟨es,clock,J,F,B,h1,m⟩:=h
 rcases Maps.fit_look c K i j J F l with⟨f,o, -⟩|⟨p,y,hm,q,f, -, -⟩
 ·cases g:Z a with
  |none=>exact f
  |some x=>
   obtain⟨r,s,u⟩:=m a x g
   exact absurd u (o r s)
 ·obtain⟨d,x,v,V,g⟩:=h1 p hm
  have A:d=a:=inj _ _ (v.symm.trans q)
  subst A
  rw[V]at f
  rw[g]
  exact f
theorem E8.Jb[DecidableEq Bo](h:E8 P k Ca A_ b n Z w)(K:Keyed P k)(inj:∀a f,Ca a=Ca f→a=f)(I:P.underlying t=some (.map k e))(L:n<maxLen){a:Bo}(j:keyOf P k (Ca a)=some GB)(x:Dg):
 ∃w',(Instr.mapUpdate t (.map (some b)) (Ca a) (A_ x)).run P w=.ok () w'∧E8 P k Ca A_ b (n+1) (CF Z a x) w'∧w.grownBy w' (some b):=by
 obtain⟨es,clock,J,F,M,h1,N⟩:=h
 obtain⟨l,O,Q,v,z, -, -,S⟩:=Maps.fit_store (R:=Df) (R':=Df) K I J F (Nat.lt_of_le_of_lt M L) (fun _ _ _ _ T=>T) j (val:=A_ x) (yv:=(.held (A_ x),[])) D
 refine⟨_,Q,⟨l,O,heap_setBlock_same J _,v,?_,?_,?_⟩,⟨D,D,D,by simp[setBlock],fun i _ U=>heap_setBlock_other J _ (fun e=>U (by rw[e]))⟩⟩
 ·have W:l.size=((l.toList.map (rg P k Df)).foldr DataW.insert []).length:=by rw[length_sorted];simp
  rw[W,z]
  unfold putKey
  rw[length_insert]
  have A:=List.length_filter_le (notKey GB) ((es.toList.map (rg P k Df)).foldr DataW.insert [])
  rw[length_sorted]at A
  simp at A
  omega
 ·intro c d
  rcases S c d with⟨ho,m⟩|⟨X,V⟩
  ·obtain⟨f,o,B,Y,aa⟩:=h1 c ho
   refine⟨f,o,B,Y,?_⟩
   unfold CF
   rw[if_neg (fun q=>m (by rw[B,q]))]
   exact aa
  ·exact⟨a,x,X,V,by unfold CF;rw[if_pos D]⟩
 ·intro f o r
  have back:∀p:Lit×DataW Value,p∈putKey GB (.held (A_ x)) ((es.toList.map (rg P k Df)).foldr DataW.insert [])→∃c∈l.toList,keyOf P k c.key=some p.1:=by
   intro p C
   rw[←z]at C
   obtain⟨c,d,rfl⟩:=List.mem_map.1 ((sorted_perm _).mem_iff.1 C)
   obtain⟨y,g⟩:=v.reads c d
   rw[rg_of g]
   exact⟨c,d,rd_key g⟩
  unfold CF at r
  by_cases s:f=a
  ·subst s
   obtain⟨c,d,u⟩:=back (GB,.held (A_ x)) (mem_insert_iff.2 (.inl D))
   exact⟨c,d,K.inj u j⟩
  ·rw[if_neg s]at r
   obtain⟨E,G,H⟩:=N f o r
   obtain⟨y,g⟩:=F.reads E G
   have m:y.1≠GB:=fun q=>s (inj _ _ (by rw[←H];exact K.inj (rd_key g) (by rw[q];exact j)))
   obtain⟨c,d,u⟩:=back y (mem_insert_iff.2 (.inr (List.mem_filter.2 ⟨(sorted_perm _).mem_iff.2 (List.mem_map.2 ⟨E,G,rg_of g⟩),(Maps.notKey_iff (K.key j)).2 m⟩)))
   exact⟨c,d,(K.inj u (rd_key g)).trans H⟩
theorem E8.made(w:World)(P:Program)(k:TypeId)(Ca:Bo→Value)(A_:Dg→Value):E8 P k Ca A_ w.heap.size 0 (fun _=>none) (w.alloc (.map #[] 0)):=
 ⟨#[],0,(MapKept.heap_alloc w _).1,⟨by simp,MapKept.stamped_empty 0,by simp⟩,Br _,by simp,fun a x h=>by cases h⟩
end
def Ap(P:Program)(k:TypeId){Bo Dg:Type}(Ca:Bo→Value)(A_:Dg→Value)(b n:Nat)(f:Bo→Option Dg):Atom:=
 ⟨fun j=>j=b,fun w=>E8 P k Ca A_ b n f w,fun w h j e=>by subst e;exact h.lt,fun w w' h _ e=>h.loc (e b D)⟩
section
variable {P:Program} {ops:Array Oper} {rest:List Oper} {Aa:Exit→Act→World→Prop} {N:Nat} {f:BW} {d:Nat} {ty:TypeId} {pos:String} {An:Array Edge} {dst:Option Tmp} {g:Option (Nat×Bool)} {F:Nat→Prop} {w0 w:World} {H:List Atom} {K:Act→World→Prop} {R:Act→Prop}
 {k:TypeId} {Bo Dg:Type} {Ca:Bo→Value} {A_:Dg→Value} {b n:Nat} {Z:Bo→Option Dg}
theorem Sat.mp(h:Sat F w0 H w)(i:Nat)(a:H[i]? =some (Ap P k Ca A_ b n Z):=by exact rfl):E8 P k Ca A_ b n Z w:=h.at_ i _ a
theorem GN(i:P.underlying t=some (.map k e))(hm:∀w,Sat F w0 H w→E8 P k Ca A_ b n Z w)(FR:Keyed P k)(inj:∀a c,Ca a=Ca c→a=c){x BI:Operand}{a:Bo}(j:keyOf P k (Ca a)=some GB)(l:Aj f x=some (.map (some b)))(m:Aj f BI=some (Ca a)){z:Value}(o:∀w,(zeroValue e).run P w=.ok z w){v:Value}(V:(match Z a with|some x=>A_ x|none=>z)=v):BR P N f F w0 H ⟨some d,.lookup t x BI false,ty,pos,An,g⟩ v:=fun c w h p=>by
 have:=(hm w p).look false FR inj i (o w) j
 show(execOp c.eval _).run P w=_
 have e:(match Z a with|some x=>if false=true then Value.tuple #[A_ x,.bool true]else A_ x|none=>if false=true then Value.tuple #[z,.bool false]else z)=v:=by rw[←V];cases Z a<;>rfl
 rw[e]at this
 simp[execOp,h.A_ l,h.A_ m,this]
theorem NM(i:P.underlying t=some (.map k e))(hm:∀w,Sat F w0 H w→E8 P k Ca A_ b n Z w)(FR:Keyed P k)(inj:∀a c,Ca a=Ca c→a=c){x BI:Operand}{a:Bo}(j:keyOf P k (Ca a)=some GB)(l:Aj f x=some (.map (some b)))(m:Aj f BI=some (Ca a)){z:Value}(o:∀w,(zeroValue e).run P w=.ok z w){v:Value}(V:(match Z a with|some x=>Value.tuple #[A_ x,.bool true]|none=>Value.tuple #[z,.bool false])=v):BR P N f F w0 H ⟨some d,.lookup t x BI true,ty,pos,An,g⟩ v:=fun c w h p=>by
 have:=(hm w p).look true FR inj i (o w) j
 show(execOp c.eval _).run P w=_
 have e:(match Z a with|some x=>if true=true then Value.tuple #[A_ x,.bool true]else A_ x|none=>if true=true then Value.tuple #[z,.bool false]else z)=v:=by rw[←V];cases Z a<;>rfl
 rw[e]at this
 simp[execOp,h.A_ l,h.A_ m,this]
theorem KS[DecidableEq Bo](i:Nat)(l:P.underlying t=some (.map k e))(hm:H[i]? =some (Ap P k Ca A_ b n Z))(FR:Keyed P k)(inj:∀a c,Ca a=Ca c→a=c){m x y:Operand}{a:Bo}{u:Dg}(o:keyOf P k (Ca a)=some GB)(p:Aj f m=some (.map (some b)))(q:Aj f x=some (Ca a))(r:Aj f y=some (A_ u))(h:AT N f F w0 (H.set i (Ap P k Ca A_ b (n+1) (CF Z a u))) K)(s:n<maxLen:=by unfold maxLen;omega):D3 P ⟨none,.mapUpdate t m x y,ty,pos,An,g⟩ Aa N f F w0 H K:=fun c w d j=>by
 obtain⟨W,hr,v,z⟩:=(j.mp i hm).Jb FR inj l s o u
 refine Pg (w':=W) d ?_ (fun c A=>h c W A (j.set i hm (C7.grown z) v (fun k e=>.inl e)))
 simp[execOp,d.A_ p,d.A_ q,d.A_ r,hr]
theorem K5(k:TypeId)(Ca:Bo→Value)(A_:Dg→Value)(h:∀b,AT N (Jb f d (.map (some b))) F w0 (Ap P k Ca A_ b 0 (fun _=>none)::H) K)(Ad:Nat.blt d N=true:=by exact rfl):D3 P ⟨some d,.makeMap t none,ty,pos,An,g⟩ Aa N f F w0 H K:=fun a w e i=>by
 refine F8 (v:=.map (some w.heap.size)) (w':=w.alloc (.map #[] 0)) e Ad ?_ (fun j l=>h _ j _ l (i.new (A:=Ap P k Ca A_ w.heap.size 0 (fun _=>none)) ((Cn _ _).grown (World.grownBy_alloc w _ none) (Br _) (fun k c=>by cases c)) (E8.made w P k Ca A_) (fun k c=>Nat.le_of_eq c.symm)))
 simp[execOp,run_makeMap]
end
end Go.Proofs.YtaapafoibofbjaaGreatDoor
namespace Go.Proofs.YtaapafoibofbjaaGreatDoor
open Go.RowKit
section
variable {P:Program} {ops:Array Oper} {rest:List Oper} {Aa:Exit→Act→World→Prop} {N:Nat} {f:BW} {d:Nat} {ty:TypeId} {pos:String} {An:Array Edge} {g:Option (Nat×Bool)} {F:Nat→Prop} {w0:World} {H:List Atom}
theorem Gg{s t:TypeId}{x:Operand}{k k':IntKind}(b:P.underlying s=some (.int k))(c:P.underlying t=some (.int k')){n:Nat}(e:Aj f x=some (.int k (n:Int)))(hw:k'.wrap (n:Int)=(n:Int):=by first|exact JG _ (Nat.lt_trans (UInt8.toNat_lt _) (by decide))|exact JC _ (Nat.lt_trans (UInt8.toNat_lt _) (by decide))|exact JB _ (Nat.lt_trans (UInt8.toNat_lt _) (by decide))|exact JG _ (by omega)|exact JC _ (by omega)|exact JB _):BR P N f F w0 H ⟨some d,.convert s t x,ty,pos,An,g⟩ (.int k' (n:Int)):=fun a w h i=>Ex h e b c hw
theorem Iv{s t:TypeId}{x:Operand}{k:IntKind}(b:P.underlying s=some (.int k))(c:P.underlying t=some (.int .u8)){n:Nat}(e:Aj f x=some (.int k (n:Int))):BR P N f F w0 H ⟨some d,.convert s t x,ty,pos,An,g⟩ (.int .u8 ((UInt8.ofNat n).toNat:Nat)):=fun a w h i=>Ex h e b c (H5 n)
end
end Go.Proofs.YtaapafoibofbjaaGreatDoor
