/- Laws and walks on the road to SalvageClean (part M14). No conditions beyond each law's own. -/
import Derived.Laws.CopyRow
import Derived.Laws.OwnMore
import Derived.Test.YtaapafoibofbjaaGreatDoorM01
import Derived.Test.YtaapafoibofbjaaGreatDoorM13
set_option linter.unusedVariables false
namespace Go.Proofs.YtaapafoibofbjaaGreatDoor
open Go.RowKit
variable {x y:Operand} {t u T e tb s:TypeId} {n b off j c size:Nat} {ss pre:List (List Value)} {v:Value} {p q:UInt32} {xs l:List Value} {k:IntKind} {op:Op} {Cf:FuncId} {fn:Func} {ts:Array TypeId} {BB:TypeDesc}
theorem M{p q:Prop}(a:q)(h:q→p:=by intro h;(repeat(first|((with_reducible apply Jd);exact rfl;rotate_left;exact rfl)|((with_reducible apply JP);exact rfl;exact rfl;exact rfl;exact rfl;rotate_left;exact rfl)|((with_reducible apply Jj);exact rfl;exact rfl;exact rfl)|((with_reducible apply Js);exact rfl;rotate_left;exact rfl)|(with_reducible refine Jf ?_)|(with_reducible refine Jg ?_)|(with_reducible refine Je ?_)|(with_reducible refine Jh ?_)|((with_reducible apply JM);exact rfl;exact rfl;rotate_left;exact rfl)|((with_reducible apply JK);exact rfl;exact rfl;rotate_left;exact rfl)|((with_reducible apply JQ);exact rfl;exact rfl;exact rfl;rotate_left;exact rfl)|((with_reducible apply JL);exact rfl)|((with_reducible apply JH);exact rfl)|(with_reducible refine Jq ?_)|(with_reducible refine JI ?_)|(with_reducible refine JD ?_)|(with_reducible refine JA ?_)|(with_reducible refine JO ?_)|(with_reducible refine Jz ?_)|(with_reducible refine JE ?_)|((with_reducible refine JS ?_ ?_);rotate_left;exact rfl)|(with_reducible refine JR ?_)|(with_reducible refine Jy ?_)));exact h):p:=h a
theorem A7{p q:Prop}(a:q)(h:q→p:=by intro h;(repeat(first|((with_reducible apply Jd);exact rfl;rotate_left;exact rfl)|((with_reducible apply JP);exact rfl;exact rfl;exact rfl;exact rfl;rotate_left;exact rfl)|((with_reducible apply Jj);exact rfl;exact rfl;exact rfl)|((with_reducible apply Js);exact rfl;rotate_left;exact rfl)|(with_reducible refine Jf ?_)|(with_reducible refine Jg ?_)|(with_reducible refine Je ?_)|(with_reducible refine Jh ?_)|((with_reducible apply JM);exact rfl;exact rfl;rotate_left;exact rfl)|((with_reducible apply JK);exact rfl;exact rfl;rotate_left;exact rfl)|((with_reducible apply JQ);exact rfl;exact rfl;exact rfl;rotate_left;exact rfl)|((with_reducible apply JL);exact rfl)|((with_reducible apply JH);exact rfl)|(with_reducible refine Jq ?_)|(with_reducible refine JI ?_)|(with_reducible refine JD ?_)|(with_reducible refine JA ?_)|(with_reducible refine JO ?_)|(with_reducible refine Jz ?_)|(with_reducible refine JE ?_)|((with_reducible refine JS ?_ ?_);rotate_left;exact rfl)|(with_reducible refine JR ?_)|(with_reducible refine Jy ?_)));(first|exact JJ rfl h|exact JN rfl rfl h|exact Jt (JJ rfl h)|exact Jt (JN rfl rfl h))):p:=h a
section
variable {P:Program} {ops:Array Oper} {rest:List Oper} {Aa:Exit→Act→World→Prop} {N:Nat} {f:BW} {d:Nat} {ty:TypeId} {pos:String} {An:Array Edge} {dst:Option Tmp} {g:Option (Nat×Bool)} {F:Nat→Prop} {w0:World} {H:List Atom} {K:Act→World→Prop} {R:Act→Prop}
abbrev GP(P:Program)(ops:Array Oper)(R:Act→Prop)(N:Nat)(f:BW)(F:Nat→Prop)(w0:World)(H:List Atom)(l:List Oper):Prop:=∀a,AH N a f→wpQuiet P ops (Sat F w0 H) R l a
theorem G9{id:Nat}{l:List Oper}(h:GP P l.toArray (fun a=>∀w,Sat F w0 H w→Aa .normal a w) N f F w0 H l)(hm:P.follows .mixedOrders=true:=by kernel_rfl)(b:Region.lexB .any l.toArray=true:=by kernel_rfl):AT N f F w0 H ((Code.region id l.toArray true).wp P Aa):=fun a w c d=>wp_region_quiet hm b (d.below (Cn _ _).drew) (h a c)
theorem Er(h:AT N f F w0 H K):GP P ops (fun a=>∀w,Sat F w0 H w→K a w) N f F w0 H []:=fun a b=>wpQuiet_nil (fun w c=>h a w b c)
theorem AR(hr:BR P N f F w0 H ⟨some d,op,ty,pos,An,none⟩ v)(h:GP P ops R N (Jb f d v) F w0 H rest)(Ad:Nat.blt d N=true:=by exact rfl):GP P ops R N f F w0 H (⟨some d,op,ty,pos,An,none⟩::rest):=fun a b=>by
 unfold wpQuiet
 rw[if_pos (show Region.wanted _ _=true from D)]
 exact⟨v,fun w c=>by unfold Oper.quietAt;rw[hr a w b c];exact⟨D,D⟩,h _ (b.put Ad v)⟩
theorem eS{w:World}{a:Act}(c:AH N a f)(e:P.funcs[Cf]? =some fn)(h:(fn.name== "runtime.NumGoroutine")=false)(J:fn.body.isNone=false){xs:List Operand}(j:GX f xs=some l):
 (execOp a.eval ⟨some d,.call {callee:=.value (.func Cf),args:=xs.toArray,argTypes:=ts},ty,pos,An,g⟩).run P w=.ok (.enter Cf l.toArray) w:=by
 have k:xs.toArray.map a.eval=l.toArray:=by
  apply Array.toList_inj.1
  rw[Array.toList_map]
  apply List.ext_getElem?
  intro i
  have:=congrArg (fun q=>q[i]?) (Nf j)
  simp only[List.getElem?_map]at this⊢
  cases h1:xs[i]? with
  |none=>rw[h1]at this;cases b:l[i]? with
   |none=>simp
   |some v=>rw[b]at this;cases this
  |some x=>rw[h1]at this;cases b:l[i]? with
   |none=>rw[b]at this;cases this
   |some v=>
    rw[b]at this
    simp only[Option.map_some,Option.some.injEq]at this⊢
    exact c.A_ this
 rw[execOp_call_go]
 have m:¬fn.name= "runtime.NumGoroutine" :=by simpa using h
 have n:¬fn.body=none:=by intro q;rw[q]at J;cases J
 simp only[Array.empty_append,Array.append_empty,k]
 simp[callFunc,e,m,n]
theorem Ve(c:P.funcs[Cf]? =some fn){xs:List Operand}(g:GX f xs=some l)(i:∀w,Sat F w0 H w→Calls P Cf l.toArray w fun e W=>e=.returned v∧Sat F w0 H W)(h:GP P ops R N (Jb f d v) F w0 H rest)
 (j:(fn.name== "runtime.NumGoroutine")=false:=by kernel_rfl)(J:fn.body.isNone=false:=by kernel_rfl)(Ad:Nat.blt d N=true:=by exact rfl):GP P ops R N f F w0 H (⟨some d,.call {callee:=.value (.func Cf),args:=xs.toArray,argTypes:=ts},ty,pos,An,none⟩::rest):=fun a b=>by
 unfold wpQuiet
 rw[if_pos (show Region.wanted _ _=true from D)]
 exact⟨v,fun w k=>by unfold Oper.quietAt;rw[eS b c j J g];exact⟨D,i w k⟩,h _ (b.put Ad v)⟩
theorem B2{t:Bool}{Dk:Oper}(hj:ops[j]? =some Dk){k:Nat}(c:Dk.dst=some k)(V:f k=some (.bool t))(h:GP P ops R N f F w0 H (⟨dst,op,ty,pos,An,none⟩::rest)):GP P ops R N f F w0 H (⟨dst,op,ty,pos,An,some (j,t)⟩::rest):=fun a b=>by
 have hw:Region.wanted ⟨dst,op,ty,pos,An,some (j,t)⟩ (yielded ops a.tmps)=true:=by
  have:=L2 (b.h k _ V)
  simp[Region.wanted,yielded,hj,c,this]
 have:=h a b
 unfold wpQuiet at this⊢
 rw[if_pos (show Region.wanted _ _=true from D)]at this
 rw[if_pos hw]
 exact this
theorem Bq{t u:Bool}{Dk:Oper}(hj:ops[j]? =some Dk){k:Nat}(c:Dk.dst=some k)(V:f k=some (.bool u))(e:t=!u)(h:GP P ops R N (Jb f d undef) F w0 H rest)(Ad:Nat.blt d N=true:=by exact rfl):GP P ops R N f F w0 H (⟨some d,op,ty,pos,An,some (j,t)⟩::rest):=fun a b=>by
 subst e
 have hw:Region.wanted ⟨some d,op,ty,pos,An,some (j,!u)⟩ (yielded ops a.tmps)=false:=by
  have:=L2 (b.h k _ V)
  cases u<;>simp[Region.wanted,yielded,hj,c,this]
 unfold wpQuiet
 rw[if_neg (by rw[hw];decide)]
 exact h _ (b.put Ad undef)
theorem GU{t:Bool}{Dk:Oper}(hj:ops[j]? =some Dk){k:Nat}(e:Dk.dst=some k)(V:f k=some undef)(h:GP P ops R N (Jb f d undef) F w0 H rest)(Ad:Nat.blt d N=true:=by exact rfl):GP P ops R N f F w0 H (⟨some d,op,ty,pos,An,some (j,t)⟩::rest):=fun a c=>by
 have hw:Region.wanted ⟨some d,op,ty,pos,An,some (j,t)⟩ (yielded ops a.tmps)=false:=by
  have:=XL (c.h k _ V)
  simp only[Region.wanted,yielded,hj,e,Option.bind_some]
  cases g:a.tmps[k]? with
  |none=>rfl
  |some u=>cases u<;>first|rfl|(rename_i b;exact absurd g (this b))
 unfold wpQuiet
 rw[if_neg (by rw[hw];decide)]
 exact h _ (c.put Ad undef)
theorem AT.sub{b:BW}(h:AT N f F w0 H K)(c:Sub b f):AT N b F w0 H K:=fun a w d e=>h a w (d.sub c) e
theorem J0(b:Aj f x=some (Be .u32 p.toNat))(c:Aj f y=some (Be .u32 q.toNat)):BR P N f F w0 H ⟨some d,.binOp .xor t x y u,ty,pos,An,g⟩ (Be .u32 (p^^^q).toNat):=fun a w e h=>D6 e (.inr (.inr D)) b c (by rw[UInt32.toNat_xor];exact u32_xor_nat _ _ p.toNat_lt q.toNat_lt)
theorem MJ(b:Aj f x=some (Be .u32 p.toNat))(c:Aj f y=some (Be .u32 q.toNat)):BR P N f F w0 H ⟨some d,.binOp .or t x y u,ty,pos,An,g⟩ (Be .u32 (p|||q).toNat):=fun a w e h=>D6 e (.inr (.inl D)) b c (by rw[UInt32.toNat_or];exact u32_or_nat _ _ p.toNat_lt q.toNat_lt)
theorem RW(b:Aj f x=some (Be .u32 p.toNat))(c:Aj f y=some (Be .u32 q.toNat)):BR P N f F w0 H ⟨some d,.binOp .and t x y u,ty,pos,An,g⟩ (Be .u32 (p&&&q).toNat):=fun a w e h=>D6 e (.inl D) b c (by rw[UInt32.toNat_and];exact u32_and_nat _ _ p.toNat_lt q.toNat_lt)
theorem II(b:Aj f x=some (Be .u32 p.toNat))(c:Aj f y=some (Be .u32 q.toNat)):BR P N f F w0 H ⟨some d,.binOp .add t x y u,ty,pos,An,g⟩ (Be .u32 (p+q).toNat):=fun a w e h=>HY e b c (by rw[UInt32.toNat_add,←Int.natCast_add];exact wrap_u32 _)
theorem PJ(q:UInt32)(b:Aj f x=some (Be .u32 p.toNat))(c:Aj f y=some (.int k n))(e:q.toNat=n:=by rfl)(h:n<32:=by decide):BR P N f F w0 H ⟨some d,.binOp .shl t x y u,ty,pos,An,g⟩ (Be .u32 (p<<<q).toNat):=fun a w i j=>Kc i b c (by simp only[IntKind.bits];omega) (by rw[UInt32.toNat_shiftLeft,e,Nat.mod_eq_of_lt h,Nat.shiftLeft_eq];exact wrap_u32 _)
theorem KO(q:UInt32)(b:Aj f x=some (Be .u32 p.toNat))(c:Aj f y=some (.int k n))(e:q.toNat=n:=by rfl)(h:n<32:=by decide):BR P N f F w0 H ⟨some d,.binOp .shr t x y u,ty,pos,An,g⟩ (Be .u32 (p>>>q).toNat):=fun a w i j=>IG i b c (by simp only[IntKind.bits];omega) (by rw[UInt32.toNat_shiftRight,e,Nat.mod_eq_of_lt h,Nat.shiftRight_eq_div_pow])
theorem Pq{p:UInt8}(b:P.underlying s=some (.int .u8))(c:P.underlying t=some (.int .u32))(e:Aj f x=some (Be .u8 p.toNat)):BR P N f F w0 H ⟨some d,.convert s t x,ty,pos,An,g⟩ (Be .u32 p.toUInt32.toNat):=fun a w h i=>Ex h e b c (by rw[UInt8.toNat_toUInt32,wrap_u32,Nat.mod_eq_of_lt (Nat.lt_trans p.toNat_lt (by decide))])
theorem Lj(b:P.underlying s=some (.int .u32))(c:P.underlying t=some (.int .u8))(e:Aj f x=some (Be .u32 p.toNat)):BR P N f F w0 H ⟨some d,.convert s t x,ty,pos,An,g⟩ (Be .u8 p.toUInt8.toNat):=fun a w h i=>Ex h e b c (by rw[UInt32.toNat_toUInt8,H5];simp)
theorem fM{p q:UInt64}(b:Aj f x=some (Be .u64 p.toNat))(c:Aj f y=some (Be .u64 q.toNat)):BR P N f F w0 H ⟨some d,.binOp .add t x y u,ty,pos,An,g⟩ (Be .u64 (p+q).toNat):=fun a w e h=>HY e b c (by rw[UInt64.toNat_add,←Int.natCast_add];exact wrap_u64 _)
theorem iG{p q:UInt64}(b:Aj f x=some (Be .u64 p.toNat))(c:Aj f y=some (Be .u64 q.toNat)):BR P N f F w0 H ⟨some d,.binOp .mul t x y u,ty,pos,An,g⟩ (Be .u64 (p*q).toNat):=fun a w e h=>YM e b c (by rw[UInt64.toNat_mul,←Int.natCast_mul];exact wrap_u64 _)
theorem av{p:UInt64}(c:Aj f x=some (Be .u64 p.toNat))(h:Aj f y=some (.int k n))(b:n<64:=by omega):BR P N f F w0 H ⟨some d,.binOp .shr t x y u,ty,pos,An,g⟩ (Be .u64 (p>>>n.toUInt64).toNat):=fun a w i j=>IG i c h (by simp only[IntKind.bits];omega) (by
 have e:n.toUInt64.toNat=n:=Nat.mod_eq_of_lt (Nat.lt_trans b (by decide))
 rw[UInt64.toNat_shiftRight,e,Nat.mod_eq_of_lt b,Nat.shiftRight_eq_div_pow])
theorem aB(b:P.underlying s=some (.int .i64))(c:P.underlying t=some (.int .u64))(e:Aj f x=some (.int .i64 ((n:Nat):Int))):BR P N f F w0 H ⟨some d,.convert s t x,ty,pos,An,g⟩ (Be .u64 n.toUInt64.toNat):=fun a w h i=>Ex h e b c (by rw[wrap_u64];rfl)
theorem eD{p:UInt64}(b:P.underlying s=some (.int .u64))(c:P.underlying t=some (.int .u8))(e:Aj f x=some (Be .u64 p.toNat)):BR P N f F w0 H ⟨some d,.convert s t x,ty,pos,An,g⟩ (Be .u8 p.toUInt8.toNat):=fun a w h i=>Ex h e b c (by rw[UInt64.toNat_toUInt8,H5];simp)
end
theorem SM{q p:Nat}(a:ss[q]? =some xs)(s1:(ss.take q).flatten.length=p)(V:xs[j]? =some v):ss.flatten[p+j]? =some v:=by
 obtain⟨z,e⟩:=List.getElem?_eq_some_iff.1 a
 have b:ss=ss.take q++([xs]++ss.drop (q+1)):=by rw[←e,List.singleton_append,←List.drop_eq_getElem_cons,List.take_append_drop]
 rw[b,List.flatten_append,List.flatten_append,List.flatten_singleton,←s1,List.getElem?_append_right (Nat.le_add_right _ _),Nat.add_sub_cancel_left,List.getElem?_append_left (List.getElem?_eq_some_iff.1 V).1]
 exact V
theorem Tw{q:Nat}(h:ss[q]? =some xs):(ss.drop q).take 1=[xs]:=by
 obtain⟨z,e⟩:=List.getElem?_eq_some_iff.1 h
 rw[List.drop_eq_getElem_cons z,e]
 rfl
theorem Sb{post:List (List Value)}{q:Nat}{CP:List Value}(h1:ss.take q=pre)(a:(ss.drop q).take 1=[xs])(b:ss.drop (q+1)=post):ss.set q CP=pre++[CP]++post:=by
 have c:q<ss.length:=by
  rcases Nat.lt_or_ge q ss.length with h|h
  ·exact h
  ·rw[List.drop_of_length_le h]at a;cases a
 rw[List.set_eq_take_append_cons_drop,if_pos c,h1,b,List.append_assoc]
 rfl
def sp(y:Option Addr)(l c size:Nat):Option Addr:=if c=l then y else y.map (·.add (l*size))
theorem hY(y:Option Addr)(l h c size:Nat):sliced y l h c size=.slice (sp y l c size) (h - l) (c - l):=rfl
theorem Wj(w:World)(b:Nat)(cs:Array Value):w.grownBy (w.setRow b cs) (some b):=by
 refine⟨D,D,D,by simp[World.setRow],fun k c a=>?_⟩
 unfold World.setRow
 simp only[Array.getElem?_modify]
 rw[if_neg (fun e=>a (by rw[e]))]
theorem UF{l:Jn n}(hj:j<n):([Dx l.l]:List (List Value)).flatten[j]? =some (Be .u32 (l.l.getD j 0).toNat):=by
 rw[List.flatten_singleton]
 exact SD (by rw[l.h];exact hj)
section
variable {P:Program} {ops:Array Oper} {rest:List Oper} {Aa:Exit→Act→World→Prop} {N:Nat} {f:BW} {d:Nat} {ty:TypeId} {pos:String} {An:Array Edge} {dst:Option Tmp} {g:Option (Nat×Bool)} {F:Nat→Prop} {w0 w:World} {H:List Atom} {K:Act→World→Prop} {R:Act→Prop}
theorem HA(hu:P.underlying T=some BB)(i q j:Nat){l:Jn n}(c:H[i]? =some (O b ss tb))(e:ss[q]? =some (Dx l.l))(k:Aj f x=some (.pointer (some ⟨b,off,none⟩)))(h1:ss.take q=pre:=by exact Jr){p:Nat}(s1:pre.flatten.length=p:=by exact Jp)(hj:j<n:=by omega)(ho:p+j=off:=by first|rfl|omega)(hr:BB.isRow=false:=by exact rfl):BR P N f F w0 H ⟨some d,.load T x,ty,pos,An,g⟩ (Be .u32 (l.l.getD j 0).toNat):=fun a w m o=>by
 subst h1
 refine Ei m k hu hr ?_
 have:=H4 (o.Dq i c) _ _ (SM e s1 (SD (l:=l.l) (j:=j) (by rw[l.h];exact hj)))
 rw[←ho]
 simpa using this
theorem a'(hu:P.underlying T=some BB)(j:Nat){BO:Nat}{l:Jn n}(b:∀w,Sat F w0 H w→∃tb fr,w.heap[BO]? =some (.cells (flat [Dx l.l]) tb fr))(c:Aj f x=some (.pointer (some ⟨BO,off,none⟩)))(hj:j<n:=by omega)(ho:j=off:=by first|rfl|omega)(hr:BB.isRow=false:=by exact rfl):BR P N f F w0 H ⟨some d,.load T x,ty,pos,An,g⟩ (Be .u32 (l.l.getD j 0).toNat):=fun a w e i=>by
 subst ho
 refine Ei e c hu hr ?_
 obtain⟨tb,fr,k⟩:=b w i
 have:=H4 k _ _ (SM (ss:=[Dx l.l]) (q:=0) D D (SD (l:=l.l) (j:=j) (by rw[l.h];exact hj)))
 simpa using this
theorem H6(i q j:Nat){post:List (List Value)}{CP:List Value}(c:H[i]? =some (O b ss tb))(o:Aj f x=some (.pointer (some ⟨b,off,none⟩)))(r:Aj f y=some v)(s:ss[q]? =some xs)(e:xs.set j v=CP)(h:AT N f F w0 (H.set i (O b (ss.set q CP) tb)) K)
 (V:v.oneCell'=true:=by exact rfl)(h1:ss.take q=pre:=by exact Jr)(d:ss.drop (q+1)=post:=by exact Jr){p:Nat}(s1:pre.flatten.length=p:=by exact Jp)(hl:Row n xs:=by first|(with_reducible exact Jn.row _)|(with_reducible exact Ji.row _)|(with_reducible exact Jc.row _))(hj:j<n:=by omega)(ho:p+j=off:=by first|rfl|omega)(t:(P.info? T).map (·.size)=some 1:=by kernel_rfl):D3 P ⟨none,.store T x y,ty,pos,An,g⟩ Aa N f F w0 H K:=fun a w u l=>by
 have m:=Tw s
 rw[Sb h1 m d]at h
 have z:ss=pre++([xs]++post):=by rw[←h1,←m,←d,←List.drop_drop,List.take_append_drop,List.take_append_drop]
 have J:=l.Dq i c
 rw[z]at J
 subst s1
 subst ho
 subst e
 have A:j<xs.length:=by rw[hl.len];exact hj
 refine Me u o J r V t (by simp only[flat,List.size_toArray,List.flatten_append,List.flatten_cons,List.flatten_nil,List.append_nil,List.length_append];omega) (c2:=flat (pre++[xs.set j v]++post)) ?_ (fun B W C _ D E=>h B W C (l.set i c (C7.grown E) D (fun k e=>.inl e)))
 apply Array.toList_inj.1
 rw[Array.toList_setIfInBounds]
 simp only[flat,List.flatten_append,List.flatten_cons,List.flatten_nil,List.append_nil,List.append_assoc]
 rw[List.set_append_right _ _ (Nat.le_add_right _ _),Nat.add_sub_cancel_left,List.set_append_left _ _ A]
theorem MS(i q a m c:Nat){l:Ji n}{l':List UInt8}(hl:(l.l.drop a).take m=l')(d:H[i]? =some (O b ss tb):=by exact rfl)(f:ss[q]? =some (bv l.l):=by exact rfl)(h1:ss.take q=pre:=by exact Jr){p:Nat}(s1:pre.flatten.length=p:=by exact Jp)(hm:a+m≤n:=by omega)(g:m≤c:=by omega)(k:c≤4096:=by omega)(ho:p+a=off:=by first|rfl|omega):∀w,Sat F w0 H w→View w (.slice (some ⟨b,off,none⟩) m c) m 1 (bv l'):=fun w e=>by
 subst h1
 subst hl
 have hlen:(bv ((l.l.drop a).take m)).length=m:=by rw[DG,List.length_take,List.length_drop,l.h];omega
 refine⟨by rw[hlen];omega,.inr ⟨b,off,c,D,by rw[hlen];omega,g,by unfold maxLen;omega,DC (e.Dq i d),fun j v hj=>?_⟩⟩
 rw[←Ip,←Hk,List.getElem?_take]at hj
 split at hj
 ·rw[List.getElem?_drop]at hj
  have:=H4 (e.Dq i d) _ _ (SM f s1 hj)
  rw[←ho,Nat.add_assoc]
  simpa using this
 ·cases hj
inductive Nq (f:BW):Option Operand→Nat→Prop
 |none:Nq f none 0
 |some {y:Operand} {k:IntKind} {l:Nat} (h:Aj f y=.some (.int k (l:Int))):Nq f (.some y) l
inductive MI (f:BW) (n:Nat):Option Operand→Nat→Prop
 |none:MI f n none n
 |some {y:Operand} {k:IntKind} {l:Nat} (h:Aj f y=.some (.int k (l:Int))):MI f n (.some y) l
theorem QP(i q a m c:Nat){l:Jc}{l':List UInt8}(hl:(l.l.drop a).take m=l')(d:H[i]? =some (O b ss tb):=by exact rfl)(e:ss[q]? =some (bv l.l):=by exact rfl)(h1:ss.take q=pre:=by exact Jr){p:Nat}(s1:pre.flatten.length=p:=by exact Jp)(hm:a+m≤32:=by omega)(f:m≤c:=by omega)(g:c≤4096:=by omega)(ho:p+a=off:=by first|rfl|omega):∀w,Sat F w0 H w→View w (.slice (some ⟨b,off,none⟩) m c) m 1 (bv l'):=
 MS i q a m c (l:=⟨l.l,l.h⟩) hl d e h1 s1 hm f g ho
theorem Fp(A5:P.underlying T=some (.array n e)){p q:Option Operand}(l h:Nat)(j:Aj f x=some (.pointer (some ⟨b,off,none⟩)))(hl:Nq f p l)(r:MI f n q h)(o:Nat)(s:(P.info? e).map (·.size)=some 1:=by kernel_rfl)(h1:l≤h:=by omega)(t:h≤n:=by omega)(B:l<n:=by omega)(ho:off+l=o:=by first|rfl|omega):BR P N f F w0 H ⟨some d,.slice T x p q none,ty,pos,An,g⟩ (.slice (some ⟨b,o,none⟩) (h - l) (n - l)):=fun a w c C=>by
 subst ho
 show(execOp a.eval _).run P w=_
 have A:∃i,P.info? e=some i∧i.size=1:=by
  cases u:P.info? e with
  |none=>simp[u]at s
  |some i=>exact⟨i,D,by simpa[u]using s⟩
 obtain⟨i,k,v⟩:=A
 have y:¬n=l:=by omega
 cases hl with
 |none=>
  cases r with
  |none=>simp[execOp,c.A_ j,Instr.sliceAt,run_underlying A5,Instr.sureAddr,Instr.sliceBounds,sizeOf,typeInfo,k,F6]
  |some m=>simp[execOp,c.A_ j,c.A_ m,Instr.sliceAt,run_underlying A5,Instr.sureAddr,Instr.sliceBounds,run_sliceBound,t,sizeOf,typeInfo,k,F6]
 |some z=>
  cases r with
  |none=>simp[execOp,c.A_ j,c.A_ z,Instr.sliceAt,run_underlying A5,Instr.sureAddr,Instr.sliceBounds,run_sliceBound,h1,sizeOf,typeInfo,k,v,y,F6]
  |some m=>simp[execOp,c.A_ j,c.A_ m,c.A_ z,Instr.sliceAt,run_underlying A5,Instr.sureAddr,Instr.sliceBounds,run_sliceBound,h1,t,sizeOf,typeInfo,k,v,y,F6]
theorem ae{y:Option Addr}(l h:Nat)(V:∀w,Sat F w0 H w→View w (.slice y n c) n size xs)(f:0<size:=by decide)(h1:l≤h:=by omega)(g:h≤n:=by omega):∀w,Sat F w0 H w→View w (.slice (sp y l c size) (h - l) (c - l)) (h - l) size ((xs.drop (l*size)).take ((h - l)*size)):=fun w i=>by
 have a:=V w i
 have j:n≤c∧xs.length≤c*size:=by
  rcases a.2 with⟨he,e,d⟩|⟨b,off,cap,he,e,d,_⟩
  ·simp only[Value.slice.injEq]at he
   obtain⟨rfl,rfl,rfl⟩:=he
   simp[d]
  ·simp only[Value.slice.injEq]at he
   obtain⟨rfl, -,rfl⟩:=he
   exact⟨d,e⟩
 have hl:h*size≤xs.length:=Eg (Nat.mul_le_mul_right _ g) a.1
 have q:=(XN a l h c h1 (by omega) (Br _) hl f).1
 rw[hY,List.take_of_length_le (by rw[List.length_drop,Nat.mul_sub_right_distrib];omega)]at q
 exact q.trim
theorem Db{y:Option Addr}{m EW:List UInt8}(l h:Nat)(V:∀w,Sat F w0 H w→View w (.slice y n c) n 1 (bv m))(e:(m.drop l).take (h - l)=EW)(h1:l≤h:=by omega)(a:h≤n:=by omega):∀w,Sat F w0 H w→View w (.slice (sp y l c 1) (h - l) (c - l)) (h - l) 1 (bv EW):=fun w b=>by
 have:=ae l h V (by decide) h1 a w b
 rw[Nat.mul_one,Nat.mul_one,Hk,Ip,e]at this
 exact this
theorem PI{bytes:Nat}{z:Value}(j:CO P t e size bytes z){r p:Option Operand}{y:Option Addr}(l h:Nat)(k:Aj f x=some (.slice y n c))(hl:Nq f r l)(s:MI f n p h)(h1:l≤h:=by omega)(u:h≤c:=by omega):BR P N f F w0 H ⟨some d,.slice t x r p none,ty,pos,An,g⟩ (.slice (sp y l c size) (h - l) (c - l)):=fun a w b B=>by
 show(execOp a.eval _).run P w=_
 obtain⟨i,m,_,v,_⟩:=j.ji
 cases hl with
 |none=>
  cases s with
  |none=>simp[execOp,b.A_ k,Instr.sliceAt,Instr.slice,run_underlying j.jq,Instr.sliceBounds,sizeOf,typeInfo,m,sp]
  |some o=>simp[execOp,b.A_ k,b.A_ o,Instr.sliceAt,Instr.slice,run_underlying j.jq,Instr.sliceBounds,run_sliceBound,u,sizeOf,typeInfo,m,sp]
 |some o=>
  cases s with
  |none=>simp[execOp,b.A_ k,b.A_ o,Instr.sliceAt,Instr.slice,run_underlying j.jq,Instr.sliceBounds,run_sliceBound,h1,sizeOf,typeInfo,m,v,sp]
  |some A=>simp[execOp,b.A_ k,b.A_ A,b.A_ o,Instr.sliceAt,Instr.slice,run_underlying j.jq,Instr.sliceBounds,run_sliceBound,h1,u,sizeOf,typeInfo,m,v,sp]
theorem Fi{bytes:Nat}{z:Value}(m:CO P t e size bytes z){i j:Option Operand}{y:Option Addr}(l h:Nat)(V:∀w,Sat F w0 H w→View w (.slice y n c) n size xs)(o:Aj f x=some (.slice y n c))(hl:Nq f i l)(p:MI f n j h)(h1:l≤h:=by omega)(q:h≤n:=by omega):BR P N f F w0 H ⟨some d,.slice t x i j none,ty,pos,An,g⟩ (.slice (sp y l c size) (h - l) (c - l)):=fun a w r k=>by
 have s:n≤c:=by
  rcases(V w k).2 with⟨he,_,_⟩|⟨b,off,cap,he,_,u,_⟩
  ·simp only[Value.slice.injEq]at he
   omega
  ·simp only[Value.slice.injEq]at he
   omega
 exact PI m l h o hl p h1 (Eg q s) a w r k
theorem FO(i:Nat)(a:List (List Value))(c:H[i]? =some (O b ss T))(e:ss=a)(h:AT N f F w0 (H.set i (O b a T)) K):AT N f F w0 H K:=by
 subst e
 have:H.set i (O b ss T)=H:=by
  obtain⟨l,q⟩:=List.getElem?_eq_some_iff.1 c
  rw[←q,List.set_getElem_self]
 rw[this]at h
 exact h
theorem HC(i q o k:Nat){l:Ji n}{m EW:List UInt8}{r A:Nat}{R:Option Addr}(V:∀w,Sat F w0 H w→View w (.slice R r A) r 1 (bv m)){t B:TypeId}{dl C:Nat}{post:List (List Value)}(hu:P.underlying t=some (.slice e))(E:H[i]? =some (O b ss tb))(S:Aj f x=some (.slice (some ⟨b,off,none⟩) dl C))(T:Aj f y=some (.slice R r A))(ab:ss[q]? =some (bv l.l))(hm:m.take k=EW)(hl:EW.length=k)
 (h:AT N (Jb f d (.int .i64 (k:Int))) F w0 (H.set i (O b (ss.set q (bv (l.lay o EW).l)) tb)) K)(ad:min r dl=k:=by omega)(h1:ss.take q=pre:=by exact Jr)(U:ss.drop (q+1)=post:=by exact Jr){p:Nat}(s1:pre.flatten.length=p:=by exact Jp)(ho:p+o=off:=by first|rfl|omega)(X:o+k≤n:=by omega)(Y:(P.info? e).map (·.size)=some 1:=by kernel_rfl)(Ad:Nat.blt d N=true:=by exact rfl):
 D3 P ⟨some d,.call {callee:=.builtin .copy,args:=#[x,y],argTypes:=#[t,B]},ty,pos,An,g⟩ Aa N f F w0 H K:=fun a w c z=>by
 have Z:=Tw ab
 rw[Sb h1 Z U]at h
 have ae:ss=pre++([bv l.l]++post):=by rw[←h1,←Z,←U,←List.drop_drop,List.take_append_drop,List.take_append_drop]
 have J:=z.Dq i E
 rw[ae]at J
 subst s1
 subst ho
 subst hm
 have af:=V w z
 have ag:∀v∈bv (m.take k),v.oneCell'=true:=by
  intro v V
  obtain⟨u,_,rfl⟩:=List.mem_map.1 V
  rfl
 have hlen:(bv (m.take k)).length=k:=by rw[DG,hl]
 have G:(bv l.l).length=n:=by rw[DG,l.h]
 have aa:(pre++([bv l.l]++post)).flatten=pre.flatten++(bv l.l++post.flatten):=by simp
 have ah:(flat (pre++([bv l.l]++post))).toList.take (pre.flatten.length+o)++bv (m.take k)++(flat (pre++([bv l.l]++post))).toList.drop (pre.flatten.length+o+(bv (m.take k)).length)=(pre++([bv (l.lay o (m.take k)).l]++post)).flatten:=by
  rw[Ji.NC l (by rw[hl];exact X),hlen]
  simp only[flat,aa,List.flatten_append,List.flatten_cons,List.flatten_nil,List.append_nil]
  rw[List.take_append,List.take_of_length_le (Nat.le_add_right _ _),Nat.add_sub_cancel_left,List.take_append_of_le_length (by rw[G];omega),Nat.add_assoc,List.drop_append,List.drop_of_length_le (Nat.le_add_right _ _),Nat.add_sub_cancel_left,List.drop_append_of_le_length (by rw[G];omega),List.nil_append]
  simp only[Mu,Ip,Hk,hl,List.append_assoc]
 have fin:∀W,W=w.setRow b (pre++([bv (l.lay o (m.take k)).l]++post)).flatten.toArray→W.heap[b]? =some (.cells (flat (pre++[bv (l.lay o (m.take k)).l]++post)) tb (0,0))∧w.grownBy W (some b):=by
  rintro W rfl
  refine⟨?_,Wj w b _⟩
  rw[setRow_heap w b _ _ _ _ J,List.append_assoc]
  rfl
 rcases af.2 with⟨s,an,ao⟩|⟨Q,ai,cap,s,aq,ar,au,av,aj⟩
 ·simp only[Value.slice.injEq]at s
  obtain⟨rfl,rfl,rfl⟩:=s
  have ak:k=0:=by omega
  subst ak
  have al:(l.lay o (m.take 0)).l=l.l:=by rw[Ji.NC l (by rw[hl];exact X)];simp
  refine F8 (v:=.int .i64 ((0:Nat):Int)) (w':=w) c Ad ?_ (fun I L=>h I w L (z.set i E (C7.refl _ _) ?_ (fun k e=>.inl e)))
  ·have:=run_copy_nil (P:=P) w t B ty e ⟨b,pre.flatten.length+o,none⟩ dl C hu (by rw[Y];rfl)
   simp[goInt]at this
   simp[execOp,resolve,invoke,builtin,c.A_ S,c.A_ T,this]
  ·show w.heap[b]? =_
   rw[al,J,List.append_assoc]
 ·simp only[Value.slice.injEq]at s
  obtain⟨rfl, -,rfl⟩:=s
  have M:=run_copy_row (P:=P) w t B ty e b (pre.flatten.length+o) dl C ⟨Q,ai,none⟩ r A (flat (pre++([bv l.l]++post))) tb (bv (m.take k)) hu Y J (by rw[hlen];exact ad.symm) (fun j v hj=>by
   rw[←Ip,List.getElem?_take]at hj
   split at hj
   ·have:=aj j v hj
    simpa[F6]using this
   ·cases hj) (by simp only[flat,List.size_toArray,aa,List.length_append,G,hlen];omega) ag
  rw[ah,hlen]at M
  obtain⟨f1,f2⟩:=fin _ D
  refine F8 (v:=.int .i64 (k:Int)) c Ad ?_ (fun I L=>h I _ L (z.set i E (C7.grown f2) f1 (fun k e=>.inl e)))
  simp[goInt]at M
  simp[execOp,resolve,invoke,builtin,c.A_ S,c.A_ T,M]
theorem X4(n:Nat):(madeCells (Value.int .u8 0).cells (n*1)).toList=bv (List.replicate n 0):=by
 rw[Nat.mul_one,show(Value.int .u8 0).cells=#[.int .u8 0]from D,toList_madeCells_one]
 unfold bv
 rw[List.map_replicate]
 rfl
theorem Tr{bytes:Nat}{z:Value}(b:CO P t e size bytes z)(c:Nat){k':IntKind}(m:Aj f x=some (.int k 0))(n:Aj f y=some (.int k' ((c:Nat):Int)))(o:[]=xs)(h:∀p,AT N (Jb f d (.slice p 0 c)) F w0 (Ae e size (.slice p 0 c) 0 xs::H) K)(J:bytes*c≤281474976710656:=by omega)(q:c≤maxLen:=by unfold maxLen;omega)(Ad:Nat.blt d N=true:=by exact rfl):D3 P ⟨some d,.makeSlice t x y,ty,pos,An,g⟩ Aa N f F w0 H K:=fun a w j r=>by
 subst o
 obtain⟨i,l,s,u,A⟩:=b.ji
 obtain⟨W,hr,ho,B⟩:=run_make_own (P:=P) (w:=w) 0 t e i z size b.jq l s u k k' c (by rw[A];exact J) q (Nat.zero_le _)
 refine F8 (v:=.slice (some ⟨w.heap.size,0,none⟩) 0 c) (w':=W) j Ad ?_ (fun C D=>h _ C W D (r.new ((Cn _ _).grown B (Br _) (fun k b=>by cases b)) ho (fun k b=>by have:some w.heap.size=some k:=b;cases this;exact Br _)))
 simp[execOp,j.A_ m,j.A_ n,hr]
theorem Mn{c:TypeId}{p q:Int}(h:Aj f x=some (.int .i64 p))(i:Aj f y=some (.int .i64 q))(r:Int)(hr:max p q=r:=by omega):BR P N f F w0 H ⟨some d,.call {callee:=.builtin .max,args:=#[x,y],argTypes:=#[t,c]},ty,pos,An,g⟩ (.int .i64 r):=fun a w b j=>by
 show(execOp a.eval _).run P w=_
 have e:(if q>p then q else p)=r:=by rw[←hr];split<;>omega
 simp[execOp,resolve,invoke,builtin,b.A_ h,b.A_ i,Builtin.max_,Builtin.max2,e]
theorem TP{c:TypeId}{p q:Int}(h:Aj f x=some (.int .i64 p))(i:Aj f y=some (.int .i64 q))(r:Int)(hr:min p q=r:=by omega):BR P N f F w0 H ⟨some d,.call {callee:=.builtin .min,args:=#[x,y],argTypes:=#[t,c]},ty,pos,An,g⟩ (.int .i64 r):=fun a w b j=>by
 show(execOp a.eval _).run P w=_
 have e:(if q<p then q else p)=r:=by rw[←hr];split<;>omega
 simp[execOp,resolve,invoke,builtin,b.A_ h,b.A_ i,Builtin.min_,Builtin.min2,e]
theorem KT(l:P.underlying t=some (.array n e)){BI:Operand}{i:Int}(j:Nat)(m:Aj f x=some (.agg (flat ss)))(o:Aj f BI=some (.int k i))(V:ss.flatten[j]? =some v)(he:P.underlying e=some BB)(hj:i=j:=by omega)(p:j<n:=by omega)(hr:BB.isRow=false:=by exact rfl)(b:(P.info? e).map (·.size)=some 1:=by kernel_rfl):BR P N f F w0 H ⟨some d,.index t x BI,ty,pos,An,g⟩ v:=fun a w c z=>by
 subst hj
 show(execOp a.eval _).run P w=_
 have q:∃i,P.info? e=some i∧i.size=1:=by
  cases h:P.info? e with
  |none=>simp[h]at b
  |some i=>exact⟨i,D,by simpa[h]using b⟩
 obtain⟨i,r,s⟩:=q
 have u:(isAgg e).run P w=.ok false w:=by
  cases BB<;>first|(simp[TypeDesc.isRow]at hr;done)|simp[isAgg,run_underlying he]
 have y:(flat ss)[j]? =some v:=by simpa[flat]using V
 simp[execOp,c.A_ m,c.A_ o,Instr.index,asIntOf,run_underlying l,p,sizeOf,typeInfo,r,s,part,u,y]
theorem iK(hu:P.underlying T=some BB){BO:Nat}{l:Jn n}(b:∀w,Sat F w0 H w→∃tb fr,w.heap[BO]? =some (.cells (flat [Dx l.l]) tb fr))(c:Aj f x=some (.pointer (some ⟨BO,0,none⟩)))(e:(P.info? T).map (·.size)=some n:=by kernel_rfl)(hr:BB.isRow=true:=by exact rfl):BR P N f F w0 H ⟨some d,.load T x,ty,pos,An,g⟩ (.agg (flat [Dx l.l])):=fun a w i j=>by
 obtain⟨tb,fr,k⟩:=b w j
 exact MY i c hu hr [] [Dx l.l] [] (tb:=tb) (fr:=fr) (by simpa using k) D (by rw[e];simp[Y',l.h])
theorem BP(a:P.funcs[Cf]? =some fn){xs:List Operand}(b:GX f xs=some l)(c:∀w,Sat F w0 H w→Calls P Cf l.toArray w fun e W=>e=.returned v∧Below w.heap.size w W)(h:AT N (Jb f d v) F w0 H K)
 (i:(fn.name== "runtime.NumGoroutine")=false:=by kernel_rfl)(J:fn.body.isNone=false:=by kernel_rfl)(Ad:Nat.blt d N=true:=by exact rfl):D3 P ⟨some d,.call {callee:=.value (.func Cf),args:=xs.toArray,argTypes:=ts},ty,pos,An,g⟩ Aa N f F w0 H K:=
 Ba a b c (fun w e W j ⟨he,q⟩=>⟨_,_,he,j.below q,h⟩) i J Ad
theorem MB(b:P.funcs[Cf]? =some fn){xs:List Operand}(c:GX f xs=some l)(g:∀w,Sat F w0 H w→Calls P Cf l.toArray w fun e W=>e=.returned v∧Below w.heap.size w W)(h:GP P ops R N (Jb f d v) F w0 H rest)
 (i:(fn.name== "runtime.NumGoroutine")=false:=by kernel_rfl)(J:fn.body.isNone=false:=by kernel_rfl)(Ad:Nat.blt d N=true:=by exact rfl):GP P ops R N f F w0 H (⟨some d,.call {callee:=.value (.func Cf),args:=xs.toArray,argTypes:=ts},ty,pos,An,none⟩::rest):=
 Ve b c (fun w a=>(g w a).mono fun _ _ ⟨he,q⟩=>⟨he,a.below q⟩) h i J Ad
end
theorem cR(l:List UInt8)(j:Nat)(x:UInt8):bv (l.set j x)=(bv l).set j (.int .u8 ((x.toNat:Nat):Int)):=List.map_set
theorem Ji.Ch(x:Ji n)(j:Nat)(u:UInt8):(bv x.l).set j (.int .u8 ((u.toNat:Nat):Int))=bv (x.set j u).l:=(cR _ _ _).symm
theorem Jn.Ch(x:Jn n)(j:Nat)(u:UInt32):(Dx x.l).set j (.int .u32 ((u.toNat:Nat):Int))=Dx (x.set j u).l:=(gK _ _ _).symm
end Go.Proofs.YtaapafoibofbjaaGreatDoor
