/- Laws and walks on the road to SalvagePlays (part M13). No conditions beyond each law's own. -/
import Derived.Laws.CopyRow
import Derived.Laws.OwnMore
import Derived.Test.YtjdboncaegphmaaGreatDoorM12
set_option linter.unusedVariables false
namespace Go.Proofs.YtjdboncaegphmaaGreatDoor
open Go.RowKit
set_option maxRecDepth 100000
set_option maxHeartbeats 2000000
variable {x y:Operand} {t u T e tb s:TypeId} {n p off b size j q c bytes:Nat} {ss pre post:List (List Value)} {v z:Value} {k k':IntKind} {xs l:List Value} {op:Op} {Cf:FuncId} {fn:Func} {sU:Array TypeId} {BB:TypeDesc}
theorem K{p q:Prop}(a:q)(h:q→p:=by intro h;(repeat(first|((with_reducible apply Jd);exact rfl;rotate_left;exact rfl)|((with_reducible apply JP);exact rfl;exact rfl;exact rfl;exact rfl;rotate_left;exact rfl)|((with_reducible apply Jj);exact rfl;exact rfl;exact rfl)|((with_reducible apply Js);exact rfl;rotate_left;exact rfl)|(with_reducible refine Jf ?_)|(with_reducible refine Jg ?_)|(with_reducible refine Je ?_)|(with_reducible refine Jh ?_)|((with_reducible apply JM);exact rfl;exact rfl;rotate_left;exact rfl)|((with_reducible apply JK);exact rfl;exact rfl;rotate_left;exact rfl)|((with_reducible apply JQ);exact rfl;exact rfl;exact rfl;rotate_left;exact rfl)|((with_reducible apply JL);exact rfl)|((with_reducible apply JH);exact rfl)|(with_reducible refine Jq ?_)|(with_reducible refine JI ?_)|(with_reducible refine JD ?_)|(with_reducible refine JA ?_)|(with_reducible refine JO ?_)|(with_reducible refine Jz ?_)|(with_reducible refine JE ?_)|((with_reducible refine JS ?_ ?_);rotate_left;exact rfl)|(with_reducible refine JR ?_)|(with_reducible refine Jy ?_)));exact h):p:=h a
theorem A7{p q:Prop}(a:q)(h:q→p:=by intro h;(repeat(first|((with_reducible apply Jd);exact rfl;rotate_left;exact rfl)|((with_reducible apply JP);exact rfl;exact rfl;exact rfl;exact rfl;rotate_left;exact rfl)|((with_reducible apply Jj);exact rfl;exact rfl;exact rfl)|((with_reducible apply Js);exact rfl;rotate_left;exact rfl)|(with_reducible refine Jf ?_)|(with_reducible refine Jg ?_)|(with_reducible refine Je ?_)|(with_reducible refine Jh ?_)|((with_reducible apply JM);exact rfl;exact rfl;rotate_left;exact rfl)|((with_reducible apply JK);exact rfl;exact rfl;rotate_left;exact rfl)|((with_reducible apply JQ);exact rfl;exact rfl;exact rfl;rotate_left;exact rfl)|((with_reducible apply JL);exact rfl)|((with_reducible apply JH);exact rfl)|(with_reducible refine Jq ?_)|(with_reducible refine JI ?_)|(with_reducible refine JD ?_)|(with_reducible refine JA ?_)|(with_reducible refine JO ?_)|(with_reducible refine Jz ?_)|(with_reducible refine JE ?_)|((with_reducible refine JS ?_ ?_);rotate_left;exact rfl)|(with_reducible refine JR ?_)|(with_reducible refine Jy ?_)));(first|exact JJ rfl h|exact JN rfl rfl h|exact Jt (JJ rfl h)|exact Jt (JN rfl rfl h))):p:=h a
section
variable {P:Program} {ops:Array Oper} {rest:List Oper} {Aa:Exit→Act→World→Prop} {N:Nat} {f:BW} {d:Nat} {ty:TypeId} {pos:String} {An:Array Edge} {dst:Option Tmp} {g:Option (Nat×Bool)} {F:Nat→Prop} {w0:World} {H:List Atom} {A5:Act→World→Prop} {R:Act→Prop}
abbrev GP(P:Program)(ops:Array Oper)(R:Act→Prop)(N:Nat)(f:BW)(F:Nat→Prop)(w0:World)(H:List Atom)(l:List Oper):Prop:=∀a,AH N a f→wpQuiet P ops (Sat F w0 H) R l a
theorem G9{id:Nat}{l:List Oper}(h:GP P l.toArray (fun a=>∀w,Sat F w0 H w→Aa .normal a w) N f F w0 H l)(hm:P.follows .mixedOrders=true:=by kernel_rfl)(b:Region.lexB .any l.toArray=true:=by kernel_rfl):AT N f F w0 H ((Code.region id l.toArray true).wp P Aa):=fun a w c d=>wp_region_quiet hm b (d.below (Cn _ _).drew) (h a c)
theorem Er(h:AT N f F w0 H A5):GP P ops (fun a=>∀w,Sat F w0 H w→A5 a w) N f F w0 H []:=fun a b=>wpQuiet_nil (fun w c=>h a w b c)
theorem AR(hr:BR P N f F w0 H ⟨some d,op,ty,pos,An,none⟩ v)(h:GP P ops R N (Jb f d v) F w0 H rest)(Ad:Nat.blt d N=true:=by exact rfl):GP P ops R N f F w0 H (⟨some d,op,ty,pos,An,none⟩::rest):=fun a b=>by
 unfold wpQuiet;rw[if_pos (show Region.wanted _ _=true from D)];exact⟨v,fun w c=>by unfold Oper.quietAt;rw[hr a w b c];exact⟨D,D⟩,h _ (b.put Ad v)⟩
theorem eS{w:World}{a:Act}(c:AH N a f)(e:P.funcs[Cf]? =some fn)(h:(fn.name== "runtime.NumGoroutine")=false)(J:fn.body.isNone=false){xs:List Operand}(j:GX f xs=some l):
 (execOp a.eval ⟨some d,.call {callee:=.value (.func Cf),args:=xs.toArray,argTypes:=sU},ty,pos,An,g⟩).run P w=.ok (.enter Cf l.toArray) w:=by
 have k:xs.toArray.map a.eval=l.toArray:=by
  apply bg.1;rw[PL];apply Q2;intro i;have:=congrArg (fun q=>q[i]?) (Nf j);simp only[ti]at this⊢;cases h1:xs[i]? with
  |none=>rw[h1]at this;cases b:l[i]? with
   |none=>simp
   |some v=>rw[b]at this;cases this
  |some x=>rw[h1]at this;cases b:l[i]? with
   |none=>rw[b]at this;cases this
   |some v=>
    rw[b]at this;simp only[Ph,Option.some.injEq]at this⊢;exact c.A_ this
 rw[execOp_call_go];have m:¬fn.name= "runtime.NumGoroutine" :=by simpa using h
 have n:¬fn.body=none:=by intro q;rw[q]at J;cases J
 simp only[Array.empty_append,Array.append_empty,k];simp[callFunc,e,m,n]
theorem Ve(c:P.funcs[Cf]? =some fn){xs:List Operand}(g:GX f xs=some l)(i:∀w,Sat F w0 H w→Calls P Cf l.toArray w fun e W=>e=.returned v∧Sat F w0 H W)(h:GP P ops R N (Jb f d v) F w0 H rest)
 (j:(fn.name== "runtime.NumGoroutine")=false:=by kernel_rfl)(J:fn.body.isNone=false:=by kernel_rfl)(Ad:Nat.blt d N=true:=by exact rfl):GP P ops R N f F w0 H (⟨some d,.call {callee:=.value (.func Cf),args:=xs.toArray,argTypes:=sU},ty,pos,An,none⟩::rest):=fun a b=>by
 unfold wpQuiet;rw[if_pos (show Region.wanted _ _=true from D)];exact⟨v,fun w k=>by unfold Oper.quietAt;rw[eS b c j J g];exact⟨D,i w k⟩,h _ (b.put Ad v)⟩
theorem B2{t:Bool}{Dk:Oper}(hj:ops[j]? =some Dk){k:Nat}(c:Dk.dst=some k)(d:f k=some (.bool t))(h:GP P ops R N f F w0 H (⟨dst,op,ty,pos,An,none⟩::rest)):GP P ops R N f F w0 H (⟨dst,op,ty,pos,An,some (j,t)⟩::rest):=fun a b=>by
 have hw:Region.wanted ⟨dst,op,ty,pos,An,some (j,t)⟩ (yielded ops a.tmps)=true:=by
  have:=L2 (b.h k _ d);simp[Region.wanted,yielded,hj,c,this]
 have:=h a b;unfold wpQuiet at this⊢;rw[if_pos (show Region.wanted _ _=true from D)]at this;rw[if_pos hw];exact this
theorem Bq{t u:Bool}{Dk:Oper}(hj:ops[j]? =some Dk){k:Nat}(c:Dk.dst=some k)(e:f k=some (.bool u))(g:t=!u)(h:GP P ops R N (Jb f d undef) F w0 H rest)(Ad:Nat.blt d N=true:=by exact rfl):GP P ops R N f F w0 H (⟨some d,op,ty,pos,An,some (j,t)⟩::rest):=fun a b=>by
 subst g;have hw:Region.wanted ⟨some d,op,ty,pos,An,some (j,!u)⟩ (yielded ops a.tmps)=false:=by
  have:=L2 (b.h k _ e);cases u<;>simp[Region.wanted,yielded,hj,c,this]
 unfold wpQuiet;rw[if_neg (by rw[hw];decide)];exact h _ (b.put Ad undef)
theorem GU{t:Bool}{Dk:Oper}(hj:ops[j]? =some Dk){k:Nat}(e:Dk.dst=some k)(g:f k=some undef)(h:GP P ops R N (Jb f d undef) F w0 H rest)(Ad:Nat.blt d N=true:=by exact rfl):GP P ops R N f F w0 H (⟨some d,op,ty,pos,An,some (j,t)⟩::rest):=fun a c=>by
 have hw:Region.wanted ⟨some d,op,ty,pos,An,some (j,t)⟩ (yielded ops a.tmps)=false:=by
  have:=XL (c.h k _ g);simp only[Region.wanted,yielded,hj,e,s3];cases i:a.tmps[k]? with
  |none=>rfl
  |some u=>cases u<;>first|rfl|(rename_i b;exact absurd i (this b))
 unfold wpQuiet;rw[if_neg (by rw[hw];decide)];exact h _ (c.put Ad undef)
theorem J0{p q:UInt32}(b:Aj f x=some (Be .u32 p.toNat))(c:Aj f y=some (Be .u32 q.toNat)):BR P N f F w0 H ⟨some d,.binOp .xor t x y u,ty,pos,An,g⟩ (Be .u32 (p^^^q).toNat):=fun a w e h=>D6 e (.inr (.inr D)) b c (by rw[j8];exact u32_xor_nat _ _ p.toNat_lt q.toNat_lt)
theorem MJ{p q:UInt32}(b:Aj f x=some (Be .u32 p.toNat))(c:Aj f y=some (Be .u32 q.toNat)):BR P N f F w0 H ⟨some d,.binOp .or t x y u,ty,pos,An,g⟩ (Be .u32 (p|||q).toNat):=fun a w e h=>D6 e (.inr (.inl D)) b c (by rw[UInt32.toNat_or];exact u32_or_nat _ _ p.toNat_lt q.toNat_lt)
theorem RW{p q:UInt32}(b:Aj f x=some (Be .u32 p.toNat))(c:Aj f y=some (Be .u32 q.toNat)):BR P N f F w0 H ⟨some d,.binOp .and t x y u,ty,pos,An,g⟩ (Be .u32 (p&&&q).toNat):=fun a w e h=>D6 e (.inl D) b c (by rw[UInt32.toNat_and];exact u32_and_nat _ _ p.toNat_lt q.toNat_lt)
theorem II{p q:UInt32}(b:Aj f x=some (Be .u32 p.toNat))(c:Aj f y=some (Be .u32 q.toNat)):BR P N f F w0 H ⟨some d,.binOp .add t x y u,ty,pos,An,g⟩ (Be .u32 (p+q).toNat):=fun a w e h=>HY e b c (by rw[UInt32.toNat_add,←Int.natCast_add];exact wrap_u32 _)
theorem PJ{p:UInt32}(q:UInt32)(b:Aj f x=some (Be .u32 p.toNat))(c:Aj f y=some (.int k n))(e:q.toNat=n:=by rfl)(h:n<32:=by decide):BR P N f F w0 H ⟨some d,.binOp .shl t x y u,ty,pos,An,g⟩ (Be .u32 (p<<<q).toNat):=fun a w i j=>Kc i b c (by simp only[IntKind.bits];omega) (by rw[UInt32.toNat_shiftLeft,e,s_ h,Nat.shiftLeft_eq];exact wrap_u32 _)
theorem KO{p:UInt32}(q:UInt32)(b:Aj f x=some (Be .u32 p.toNat))(c:Aj f y=some (.int k n))(e:q.toNat=n:=by rfl)(h:n<32:=by decide):BR P N f F w0 H ⟨some d,.binOp .shr t x y u,ty,pos,An,g⟩ (Be .u32 (p>>>q).toNat):=fun a w i j=>IG i b c (by simp only[IntKind.bits];omega) (by rw[Ss,e,s_ h,mM])
theorem Pq{p:UInt8}(b:P.underlying s=some (.int .u8))(c:P.underlying t=some (.int .u32))(e:Aj f x=some (Be .u8 p.toNat)):BR P N f F w0 H ⟨some d,.convert s t x,ty,pos,An,g⟩ (Be .u32 p.toUInt32.toNat):=fun a w h i=>Ex h e b c (by rw[nX,wrap_u32,s_ (RE p.toNat_lt JZ)])
theorem Lj{p:UInt32}(b:P.underlying s=some (.int .u32))(c:P.underlying t=some (.int .u8))(e:Aj f x=some (Be .u32 p.toNat)):BR P N f F w0 H ⟨some d,.convert s t x,ty,pos,An,g⟩ (Be .u8 p.toUInt8.toNat):=fun a w h i=>Ex h e b c (by rw[Hx,H5];simp)
theorem fM{p q:UInt64}(b:Aj f x=some (Be .u64 p.toNat))(c:Aj f y=some (Be .u64 q.toNat)):BR P N f F w0 H ⟨some d,.binOp .add t x y u,ty,pos,An,g⟩ (Be .u64 (p+q).toNat):=fun a w e h=>HY e b c (by rw[UInt64.toNat_add,←Int.natCast_add];exact wrap_u64 _)
theorem iG{p q:UInt64}(b:Aj f x=some (Be .u64 p.toNat))(c:Aj f y=some (Be .u64 q.toNat)):BR P N f F w0 H ⟨some d,.binOp .mul t x y u,ty,pos,An,g⟩ (Be .u64 (p*q).toNat):=fun a w e h=>YM e b c (by rw[UInt64.toNat_mul,←Int.natCast_mul];exact wrap_u64 _)
theorem av{p:UInt64}(c:Aj f x=some (Be .u64 p.toNat))(h:Aj f y=some (.int k n))(b:n<64:=by omega):BR P N f F w0 H ⟨some d,.binOp .shr t x y u,ty,pos,An,g⟩ (Be .u64 (p>>>n.toUInt64).toNat):=fun a w i j=>IG i c h (by simp only[IntKind.bits];omega) (by
 have e:n.toUInt64.toNat=n:=s_ (RE b JZ);rw[UInt64.toNat_shiftRight,e,s_ b,mM])
theorem aB(b:P.underlying s=some (.int .i64))(c:P.underlying t=some (.int .u64))(e:Aj f x=some (.int .i64 ((n:Nat):Int))):BR P N f F w0 H ⟨some d,.convert s t x,ty,pos,An,g⟩ (Be .u64 n.toUInt64.toNat):=fun a w h i=>Ex h e b c (by rw[wrap_u64];rfl)
theorem eD{p:UInt64}(b:P.underlying s=some (.int .u64))(c:P.underlying t=some (.int .u8))(e:Aj f x=some (Be .u64 p.toNat)):BR P N f F w0 H ⟨some d,.convert s t x,ty,pos,An,g⟩ (Be .u8 p.toUInt8.toNat):=fun a w h i=>Ex h e b c (by rw[UInt64.toNat_toUInt8,H5];simp)
end
section
variable {P:Program} {N:Nat} {f:BW} {d:Nat} {ty:TypeId} {pos:String} {An:Array Edge} {g:Option (Nat×Bool)} {F:Nat→Prop} {w0:World} {H:List Atom}
def cU(f:BW)(a:List (Nat×Operand)):List (Nat×Value):=a.map fun p=>(p.1,(Aj f p.2).getD undef)
theorem S8(ss:List (List Value)){b:Array (Nat×Operand)}(hr:P.built T (cU f b.toList)=some (flat ss):=by kernel_rfl)(c:b.toList.map (fun p=>(p.1,Aj f p.2))=(cU f b.toList).map (fun p=>(p.1,some p.2)):=by kernel_rfl):BR P N f F w0 H ⟨some d,.build T b,ty,pos,An,g⟩ (.agg (flat ss)):=fun a w e h=>E_ e c hr
theorem HH{pl:Nat→Option (Nat×Nat)}{zs:List (List Value)}{l:List (Nat×Value)}(h:l=[])(e:zs=ss):Instr.fill pl (flat zs) l=some (flat ss):=by subst h;subst e;rfl
theorem Jac{pl:Nat→Option (Nat×Nat)}{i a b:Nat}{rest:List (Nat×Value)}{zs mid:List (List Value)}{r:Array Value}(j:Nat)(c:pl i=some (off,1))(h1:zs.take j=pre)(ho:pre.flatten.length=a)(d:a=off)(e:(zs.drop j).take 1=mid)(f:zs.drop (j+1)=post)(hm:mid.flatten.length=b)(g:b=1)(k:v.cells=#[v])(h:Instr.fill pl (flat (pre++[[v]]++post)) rest=some r):Instr.fill pl (flat zs) ((i,v)::rest)=some r:=by
 rw[show zs=pre++mid++post from by rw[←h1,←e,←f,←tB,C9,td,td]];exact B3 pre mid post [[v]] c (ho.trans d) (hm.trans g) D k h
theorem Jab{pl:Nat→Option (Nat×Nat)}{i a b c:Nat}{rest:List (Nat×Value)}{zs mid sU:List (List Value)}{r:Array Value}(j m:Nat)(d:pl i=some (off,size))(h1:zs.take j=pre)(ho:pre.flatten.length=a)(e:a=off)(f:(zs.drop j).take m=mid)(g:zs.drop (j+m)=post)(hm:mid.flatten.length=b)(k:b=size)(l:sU.flatten.length=c)(n:c=size)(h:Instr.fill pl (flat (pre++sU++post)) rest=some r):Instr.fill pl (flat zs) ((i,.agg (flat sU))::rest)=some r:=by
 rw[show zs=pre++mid++post from by rw[←h1,←f,←g,←tB,C9,td,td]];exact B3 pre mid post sU d (ho.trans e) (hm.trans k) (l.trans n) D h
theorem Jad{p:Prop}(h:p:=by(repeat(first|(refine HH rfl ?_;exact rfl)|(refine Jac 0 rfl Jr Jp (by exact rfl) Jr Jr Jp (by exact rfl) rfl ?_)|(refine Jac 1 rfl Jr Jp (by exact rfl) Jr Jr Jp (by exact rfl) rfl ?_)|(refine Jac 2 rfl Jr Jp (by exact rfl) Jr Jr Jp (by exact rfl) rfl ?_)|(refine Jac 3 rfl Jr Jp (by exact rfl) Jr Jr Jp (by exact rfl) rfl ?_)|(refine Jac 4 rfl Jr Jp (by exact rfl) Jr Jr Jp (by exact rfl) rfl ?_)|(refine Jac 5 rfl Jr Jp (by exact rfl) Jr Jr Jp (by exact rfl) rfl ?_)|(refine Jac 6 rfl Jr Jp (by exact rfl) Jr Jr Jp (by exact rfl) rfl ?_)|(refine Jac 7 rfl Jr Jp (by exact rfl) Jr Jr Jp (by exact rfl) rfl ?_)|(refine Jac 8 rfl Jr Jp (by exact rfl) Jr Jr Jp (by exact rfl) rfl ?_)|(refine Jab 0 1 rfl Jr Jp (by exact rfl) Jr Jr Jp (by exact rfl) Jp (by exact rfl) ?_)|(refine Jab 1 1 rfl Jr Jp (by exact rfl) Jr Jr Jp (by exact rfl) Jp (by exact rfl) ?_)|(refine Jab 2 1 rfl Jr Jp (by exact rfl) Jr Jr Jp (by exact rfl) Jp (by exact rfl) ?_)|(refine Jab 3 1 rfl Jr Jp (by exact rfl) Jr Jr Jp (by exact rfl) Jp (by exact rfl) ?_)|(refine Jab 4 1 rfl Jr Jp (by exact rfl) Jr Jr Jp (by exact rfl) Jp (by exact rfl) ?_)|(refine Jab 5 1 rfl Jr Jp (by exact rfl) Jr Jr Jp (by exact rfl) Jp (by exact rfl) ?_)|(refine Jab 6 1 rfl Jr Jp (by exact rfl) Jr Jr Jp (by exact rfl) Jp (by exact rfl) ?_)|(refine Jab 7 1 rfl Jr Jp (by exact rfl) Jr Jr Jp (by exact rfl) Jp (by exact rfl) ?_)|(refine Jab 8 1 rfl Jr Jp (by exact rfl) Jr Jr Jp (by exact rfl) Jp (by exact rfl) ?_)|(refine Jab 0 3 rfl Jr Jp (by exact rfl) Jr Jr Jp (by exact rfl) Jp (by exact rfl) ?_)|(refine Jab 3 3 rfl Jr Jp (by exact rfl) Jr Jr Jp (by exact rfl) Jp (by exact rfl) ?_)))):p:=h
theorem ar{c:Array Field}{b:Array (Nat×Operand)}(hu:P.underlying T=some (.struct c))(places:List (Nat×Nat))(zs ss:List (List Value))(e:Instr.fill (places.toArray[·]?) (flat zs) (cU f b.toList)=some (flat ss):=by exact Jad)(h:(P.info? T).map (·.zero)=some (some (.agg (flat zs))):=by kernel_rfl)(j:c.toList.mapM (fun f=>(P.info? f.type).map fun i=>(f.offset,i.size))=some places:=by kernel_rfl)(k:b.toList.map (fun p=>(p.1,Aj f p.2))=(cU f b.toList).map (fun p=>(p.1,some p.2)):=by kernel_rfl):BR P N f F w0 H ⟨some d,.build T b,ty,pos,An,g⟩ (.agg (flat ss)):=fun a w l m=>E_ l k (E5 hu h j e)
theorem Te{b:Bool}(c:Aj f x=some (.bool b)):BR P N f F w0 H ⟨some d,.unOp .not t x,ty,pos,An,g⟩ (.bool (!b)):=fun a w e h=>CE e c
theorem bm{o:Oper}{b c:Bool}(h:BR P N f F w0 H o (.bool b))(e:b=c):BR P N f F w0 H o (.bool c):=e▸h
end
theorem SM(b:ss[q]? =some xs)(s1:(ss.take q).flatten.length=p)(a:xs[j]? =some v):ss.flatten[p+j]? =some v:=by
 obtain⟨z,e⟩:=EH.1 b;have c:ss=ss.take q++([xs]++ss.drop (q+1)):=by rw[←e,j3,←Xy,td]
 rw[c,YK,YK,lS,←s1,UP (kc _ _),Zm,V5 (EH.1 a).1];exact a
theorem Tw(h:ss[q]? =some xs):(ss.drop q).take 1=[xs]:=by
 obtain⟨z,e⟩:=EH.1 h;rw[Xy z,e];rfl
theorem Sb{CP:List Value}(h1:ss.take q=pre)(a:(ss.drop q).take 1=[xs])(b:ss.drop (q+1)=post):ss.set q CP=pre++[CP]++post:=by
 have c:q<ss.length:=by
  rcases s9 q ss.length with h|h
  ·exact h
  ·rw[tI h]at a;cases a
 rw[g9,if_pos c,h1,b,C9];rfl
def sp(y:Option Addr)(l c size:Nat):Option Addr:=if c=l then y else y.map (·.add (l*size))
theorem hY(y:Option Addr)(l h c size:Nat):sliced y l h c size=.slice (sp y l c size) (h - l) (c - l):=rfl
theorem Wj(w:World)(b:Nat)(cs:Array Value):w.grownBy (w.setRow b cs) (some b):=by
 refine⟨D,D,D,by simp[World.setRow],fun k c a=>?_⟩;unfold World.setRow;simp only[Array.getElem?_modify];rw[if_neg (fun e=>a (by rw[e]))]
theorem UF{l:Jn n}(hj:j<n):([Dx l.l]:List (List Value)).flatten[j]? =some (Be .u32 (l.l.getD j 0).toNat):=by
 rw[lS];exact SD (by rw[l.h];exact hj)
section
variable {P:Program} {ops:Array Oper} {rest:List Oper} {Aa:Exit→Act→World→Prop} {N:Nat} {f:BW} {d:Nat} {ty:TypeId} {pos:String} {An:Array Edge} {dst:Option Tmp} {g:Option (Nat×Bool)} {F:Nat→Prop} {w0 w:World} {H:List Atom} {A5:Act→World→Prop} {R:Act→Prop}
theorem HA(hu:P.underlying T=some BB)(i q j:Nat){l:Jn n}(V:H[i]? =some (O b ss tb))(c:ss[q]? =some (Dx l.l))(e:Aj f x=some (.pointer (some ⟨b,off,none⟩)))(h1:ss.take q=pre:=by exact Jr)(s1:pre.flatten.length=p:=by exact Jp)(hj:j<n:=by omega)(ho:p+j=off:=by first|rfl|omega)(hr:BB.isRow=false:=by exact rfl):BR P N f F w0 H ⟨some d,.load T x,ty,pos,An,g⟩ (Be .u32 (l.l.getD j 0).toNat):=fun a w k m=>by
 subst h1;refine Ei k e hu hr ?_;have:=H4 (m.Dq i V) _ _ (SM c s1 (SD (l:=l.l) (j:=j) (by rw[l.h];exact hj)));rw[←ho];simpa using this
theorem a'(hu:P.underlying T=some BB)(j:Nat){BO:Nat}{l:Jn n}(b:∀w,Sat F w0 H w→∃tb fr,w.heap[BO]? =some (.cells (flat [Dx l.l]) tb fr))(c:Aj f x=some (.pointer (some ⟨BO,off,none⟩)))(hj:j<n:=by omega)(ho:j=off:=by first|rfl|omega)(hr:BB.isRow=false:=by exact rfl):BR P N f F w0 H ⟨some d,.load T x,ty,pos,An,g⟩ (Be .u32 (l.l.getD j 0).toNat):=fun a w e i=>by
 subst ho;refine Ei e c hu hr ?_;obtain⟨tb,fr,k⟩:=b w i;have:=H4 k _ _ (SM (ss:=[Dx l.l]) (q:=0) D D (SD (l:=l.l) (j:=j) (by rw[l.h];exact hj)));simpa using this
theorem H6(i q j:Nat){CP:List Value}(V:H[i]? =some (O b ss tb))(m:Aj f x=some (.pointer (some ⟨b,off,none⟩)))(o:Aj f y=some v)(r:ss[q]? =some xs)(e:xs.set j v=CP)(h:AT N f F w0 (H.set i (O b (ss.set q CP) tb)) A5)
 (s:v.oneCell'=true:=by exact rfl)(h1:ss.take q=pre:=by exact Jr)(c:ss.drop (q+1)=post:=by exact Jr)(s1:pre.flatten.length=p:=by exact Jp)(hl:Row n xs:=by first|(with_reducible exact Jn.row _)|(with_reducible exact Ji.row _)|(with_reducible exact Jc.row _))(hj:j<n:=by omega)(ho:p+j=off:=by first|rfl|omega)(t:(P.info? T).map (·.size)=some 1:=by kernel_rfl):D3 P ⟨none,.store T x y,ty,pos,An,g⟩ Aa N f F w0 H A5:=fun a w u d=>by
 have l:=Tw r;rw[Sb h1 l c]at h;have z:ss=pre++([xs]++post):=by rw[←h1,←l,←c,←tB,td,td]
 have J:=d.Dq i V;rw[z]at J;subst s1;subst ho;subst e;have A:j<xs.length:=by rw[hl.len];exact hj
 refine Me u m J o s t (by simp only[flat,o_,YK,W1,fH,Ha,Gd];omega) (c2:=flat (pre++[xs.set j v]++post)) ?_ (fun B W C _ D E=>h B W C (d.set i V (C7.grown E) D (fun k e=>.inl e)));apply bg.1;rw[tX];simp only[flat,YK,W1,fH,Ha,C9];rw[jC _ _ (kc _ _),Zm,nz _ _ A]
theorem MS(i q BU m c:Nat){l:Ji n}{l':rG}(hl:(l.l.drop BU).take m=l')(V:H[i]? =some (O b ss tb):=by exact rfl)(d:ss[q]? =some (bv l.l):=by exact rfl)(h1:ss.take q=pre:=by exact Jr)(s1:pre.flatten.length=p:=by exact Jp)(hm:BU+m≤n:=by omega)(e:m≤c:=by omega)(f:c≤4096:=by omega)(ho:p+BU=off:=by first|rfl|omega):∀w,Sat F w0 H w→View w (.slice (some ⟨b,off,none⟩) m c) m 1 (bv l'):=fun w a=>by
 subst h1;subst hl;have hlen:(bv ((l.l.drop BU).take m)).length=m:=by rw[DG,FX,J3,l.h];omega
 refine⟨by rw[hlen];omega,.inr ⟨b,off,c,D,by rw[hlen];omega,e,by unfold maxLen;omega,DC (a.Dq i V),fun j v hj=>?_⟩⟩;rw[←Ip,←Hk,LQ]at hj;split at hj
 ·rw[Q1]at hj;have:=H4 (a.Dq i V) _ _ (SM d s1 hj);rw[←ho,e8];simpa using this
 ·cases hj
inductive Nq (f:BW):Option Operand→Nat→Prop
 |none:Nq f none 0
 |some {y:Operand} {k:IntKind} {l:Nat} (h:Aj f y=.some (.int k (l:Int))):Nq f (.some y) l
inductive MI (f:BW) (n:Nat):Option Operand→Nat→Prop
 |none:MI f n none n
 |some {y:Operand} {k:IntKind} {l:Nat} (h:Aj f y=.some (.int k (l:Int))):MI f n (.some y) l
theorem QP(i q BU m c:Nat){l:Jc}{l':rG}(hl:(l.l.drop BU).take m=l')(V:H[i]? =some (O b ss tb):=by exact rfl)(a:ss[q]? =some (bv l.l):=by exact rfl)(h1:ss.take q=pre:=by exact Jr)(s1:pre.flatten.length=p:=by exact Jp)(hm:BU+m≤32:=by omega)(d:m≤c:=by omega)(e:c≤4096:=by omega)(ho:p+BU=off:=by first|rfl|omega):∀w,Sat F w0 H w→View w (.slice (some ⟨b,off,none⟩) m c) m 1 (bv l'):=
 MS i q BU m c (l:=⟨l.l,l.h⟩) hl V a h1 s1 hm d e ho
theorem Fp(j:P.underlying T=some (.array n e)){BU V:Option Operand}(l h:Nat)(k:Aj f x=some (.pointer (some ⟨b,off,none⟩)))(hl:Nq f BU l)(q:MI f n V h)(o:Nat)(r:(P.info? e).map (·.size)=some 1:=by kernel_rfl)(h1:l≤h:=by omega)(s:h≤n:=by omega)(A:l<n:=by omega)(ho:off+l=o:=by first|rfl|omega):BR P N f F w0 H ⟨some d,.slice T x BU V none,ty,pos,An,g⟩ (.slice (some ⟨b,o,none⟩) (h - l) (n - l)):=fun a w c B=>by
 subst ho;show(execOp a.eval _).run P w=_;have z:∃i,P.info? e=some i∧i.size=1:=by
  cases t:P.info? e with
  |none=>simp[t]at r
  |some i=>exact⟨i,D,by simpa[t]using r⟩
 obtain⟨i,m,u⟩:=z;have v:¬n=l:=JY;cases hl with
 |none=>
  cases q with
  |none=>simp[execOp,c.A_ k,Instr.sliceAt,run_underlying j,Instr.sureAddr,Instr.sliceBounds,sizeOf,typeInfo,m,F6]
  |some p=>simp[execOp,c.A_ k,c.A_ p,Instr.sliceAt,run_underlying j,Instr.sureAddr,Instr.sliceBounds,run_sliceBound,s,sizeOf,typeInfo,m,F6]
 |some y=>
  cases q with
  |none=>simp[execOp,c.A_ k,c.A_ y,Instr.sliceAt,run_underlying j,Instr.sureAddr,Instr.sliceBounds,run_sliceBound,h1,sizeOf,typeInfo,m,u,v,F6]
  |some p=>simp[execOp,c.A_ k,c.A_ p,c.A_ y,Instr.sliceAt,run_underlying j,Instr.sureAddr,Instr.sliceBounds,run_sliceBound,h1,s,sizeOf,typeInfo,m,u,v,F6]
theorem ae{y:Option Addr}(l h:Nat)(f:∀w,Sat F w0 H w→View w (.slice y n c) n size xs)(g:0<size:=by decide)(h1:l≤h:=by omega)(i:h≤n:=by omega):∀w,Sat F w0 H w→View w (.slice (sp y l c size) (h - l) (c - l)) (h - l) size ((xs.drop (l*size)).take ((h - l)*size)):=fun w j=>by
 have a:=f w j;have k:n≤c∧xs.length≤c*size:=by
  rcases a.2 with⟨he,e,d⟩|⟨b,off,cap,he,e,d,_⟩
  ·simp only[Value.slice.injEq]at he;obtain⟨rfl,rfl,rfl⟩:=he;simp[d]
  ·simp only[Value.slice.injEq]at he;obtain⟨rfl, -,rfl⟩:=he;exact⟨d,e⟩
 have hl:h*size≤xs.length:=Eg (Xr _ i) a.1;have q:=(XN a l h c h1 JY (Br _) hl g).1;rw[hY,DV (by rw[J3,Sy];omega)]at q;exact q.trim
theorem Db{y:Option Addr}{m a:rG}(l h:Nat)(b:∀w,Sat F w0 H w→View w (.slice y n c) n 1 (bv m))(e:(m.drop l).take (h - l)=a)(h1:l≤h:=by omega)(d:h≤n:=by omega):∀w,Sat F w0 H w→View w (.slice (sp y l c 1) (h - l) (c - l)) (h - l) 1 (bv a):=fun w f=>by
 have:=ae l h b JZ h1 d w f;rw[Q6,Q6,Hk,Ip,e]at this;exact this
theorem PI(j:CO P t e size bytes z){BU V:Option Operand}{y:Option Addr}(l h:Nat)(k:Aj f x=some (.slice y n c))(hl:Nq f BU l)(q:MI f n V h)(h1:l≤h:=by omega)(r:h≤c:=by omega):BR P N f F w0 H ⟨some d,.slice t x BU V none,ty,pos,An,g⟩ (.slice (sp y l c size) (h - l) (c - l)):=fun a w b v=>by
 show(execOp a.eval _).run P w=_;obtain⟨i,m,_,s,_⟩:=j.V;cases hl with
 |none=>
  cases q with
  |none=>simp[execOp,b.A_ k,Instr.sliceAt,Instr.slice,run_underlying j.uG,Instr.sliceBounds,sizeOf,typeInfo,m,sp]
  |some o=>simp[execOp,b.A_ k,b.A_ o,Instr.sliceAt,Instr.slice,run_underlying j.uG,Instr.sliceBounds,run_sliceBound,r,sizeOf,typeInfo,m,sp]
 |some o=>
  cases q with
  |none=>simp[execOp,b.A_ k,b.A_ o,Instr.sliceAt,Instr.slice,run_underlying j.uG,Instr.sliceBounds,run_sliceBound,h1,sizeOf,typeInfo,m,s,sp]
  |some u=>simp[execOp,b.A_ k,b.A_ u,b.A_ o,Instr.sliceAt,Instr.slice,run_underlying j.uG,Instr.sliceBounds,run_sliceBound,h1,r,sizeOf,typeInfo,m,s,sp]
theorem Fi(j:CO P t e size bytes z){BU V:Option Operand}{y:Option Addr}(l h:Nat)(k:∀w,Sat F w0 H w→View w (.slice y n c) n size xs)(m:Aj f x=some (.slice y n c))(hl:Nq f BU l)(o:MI f n V h)(h1:l≤h:=by omega)(p:h≤n:=by omega):BR P N f F w0 H ⟨some d,.slice t x BU V none,ty,pos,An,g⟩ (.slice (sp y l c size) (h - l) (c - l)):=fun a w q i=>by
 have r:n≤c:=by
  rcases(k w i).2 with⟨he,_,_⟩|⟨b,off,cap,he,_,s,_⟩
  ·simp only[Value.slice.injEq]at he;omega
  ·simp only[Value.slice.injEq]at he;omega
 exact PI j l h m hl o h1 (Eg p r) a w q i
theorem FO(i:Nat)(a:List (List Value))(V:H[i]? =some (O b ss T))(e:ss=a)(h:AT N f F w0 (H.set i (O b a T)) A5):AT N f F w0 H A5:=by
 subst e;have:H.set i (O b ss T)=H:=by
  obtain⟨l,q⟩:=EH.1 V;rw[←q,nM]
 rw[this]at h;exact h
theorem HC(i q o k:Nat){l:Ji n}{m A:rG}{r B:Nat}{R:Option Addr}(C:∀w,Sat F w0 H w→View w (.slice R r B) r 1 (bv m)){t E:TypeId}{dl G:Nat}(hu:P.underlying t=some (.slice e))(V:H[i]? =some (O b ss tb))(S:Aj f x=some (.slice (some ⟨b,off,none⟩) dl G))(T:Aj f y=some (.slice R r B))(ab:ss[q]? =some (bv l.l))(hm:m.take k=A)(hl:A.length=k)
 (h:AT N (Jb f d (.int .i64 (k:Int))) F w0 (H.set i (O b (ss.set q (bv (l.lay o A).l)) tb)) A5)(ad:min r dl=k:=by omega)(h1:ss.take q=pre:=by exact Jr)(U:ss.drop (q+1)=post:=by exact Jr)(s1:pre.flatten.length=p:=by exact Jp)(ho:p+o=off:=by first|rfl|omega)(X:o+k≤n:=by omega)(Y:(P.info? e).map (·.size)=some 1:=by kernel_rfl)(Ad:Nat.blt d N=true:=by exact rfl):
 D3 P ⟨some d,.call {callee:=.builtin .copy,args:=#[x,y],argTypes:=#[t,E]},ty,pos,An,g⟩ Aa N f F w0 H A5:=fun a w c z=>by
 have Z:=Tw ab;rw[Sb h1 Z U]at h;have ae:ss=pre++([bv l.l]++post):=by rw[←h1,←Z,←U,←tB,td,td]
 have J:=z.Dq i V;rw[ae]at J;subst s1;subst ho;subst hm;have af:=C w z;have ag:∀v∈bv (m.take k),v.oneCell'=true:=by
  intro v C;obtain⟨u,_,rfl⟩:=bI.1 C;rfl
 have hlen:(bv (m.take k)).length=k:=by rw[DG,hl]
 have I:(bv l.l).length=n:=by rw[DG,l.h]
 have aa:(pre++([bv l.l]++post)).flatten=pre.flatten++(bv l.l++post.flatten):=by simp
 have ah:(flat (pre++([bv l.l]++post))).toList.take (pre.flatten.length+o)++bv (m.take k)++(flat (pre++([bv l.l]++post))).toList.drop (pre.flatten.length+o+(bv (m.take k)).length)=(pre++([bv (l.lay o (m.take k)).l]++post)).flatten:=by
  rw[Ji.NC l (by rw[hl];exact X),hlen];simp only[flat,aa,YK,W1,fH,Ha];rw[XM,DV (kc _ _),Zm,RJ (by rw[I];omega),e8,RZ,tI (kc _ _),Zm,t_ (by rw[I];omega),Hg];simp only[Mu,Ip,Hk,hl,C9]
 have fin:∀W,W=w.setRow b (pre++([bv (l.lay o (m.take k)).l]++post)).flatten.toArray→W.heap[b]? =some (.cells (flat (pre++[bv (l.lay o (m.take k)).l]++post)) tb (0,0))∧w.grownBy W (some b):=by
  rintro W rfl;refine⟨?_,Wj w b _⟩;rw[setRow_heap w b _ _ _ _ J,C9];rfl
 rcases af.2 with⟨s,an,ao⟩|⟨Q,ai,cap,s,aq,ar,au,av,aj⟩
 ·simp only[Value.slice.injEq]at s;obtain⟨rfl,rfl,rfl⟩:=s;have ak:k=0:=JY;subst ak;have al:(l.lay o (m.take 0)).l=l.l:=by rw[Ji.NC l (by rw[hl];exact X)];simp
  refine F8 (v:=.int .i64 ((0:Nat):Int)) (w':=w) c Ad ?_ (fun K L=>h K w L (z.set i V (C7.refl _ _) ?_ (fun k e=>.inl e)))
  ·have:=run_copy_nil (P:=P) w t E ty e ⟨b,pre.flatten.length+o,none⟩ dl G hu (by rw[Y];rfl);simp[goInt]at this;simp[execOp,resolve,invoke,builtin,c.A_ S,c.A_ T,this]
  ·show w.heap[b]? =_;rw[al,J,C9]
 ·simp only[Value.slice.injEq]at s;obtain⟨rfl, -,rfl⟩:=s;have M:=run_copy_row (P:=P) w t E ty e b (pre.flatten.length+o) dl G ⟨Q,ai,none⟩ r B (flat (pre++([bv l.l]++post))) tb (bv (m.take k)) hu Y J (by rw[hlen];exact ad.symm) (fun j v hj=>by
   rw[←Ip,LQ]at hj;split at hj
   ·have:=aj j v hj;simpa[F6]using this
   ·cases hj) (by simp only[flat,o_,aa,Gd,I,hlen];omega) ag
  rw[ah,hlen]at M;obtain⟨f1,f2⟩:=fin _ D;refine F8 (v:=.int .i64 (k:Int)) c Ad ?_ (fun K L=>h K _ L (z.set i V (C7.grown f2) f1 (fun k e=>.inl e)));simp[goInt]at M;simp[execOp,resolve,invoke,builtin,c.A_ S,c.A_ T,M]
theorem X4(n:Nat):(madeCells (Value.int .u8 0).cells (n*1)).toList=bv (List.replicate n 0):=by
 rw[Q6,show(Value.int .u8 0).cells=#[.int .u8 0]from D,toList_madeCells_one];unfold bv;rw[List.map_replicate];rfl
theorem nP(b:CO P t e size bytes z)(n:Nat)(j:Aj f x=some (.int k ((n:Nat):Int)))(l:Aj f y=some (.int k' ((n:Nat):Int)))(m:(madeCells z.cells (n*size)).toList=xs)(h:∀p,AT N (Jb f d (.slice p n n)) F w0 (Ae e size (.slice p n n) n xs::H) A5)(J:bytes*n≤281474976710656:=by omega)(o:n≤maxLen:=by unfold maxLen;omega)(Ad:Nat.blt d N=true:=by exact rfl):D3 P ⟨some d,.makeSlice t x y,ty,pos,An,g⟩ Aa N f F w0 H A5:=fun a w c q=>by
 subst m;obtain⟨i,V,r,s,u⟩:=b.V;obtain⟨W,hr,ho,A⟩:=run_make_full (P:=P) (w:=w) 0 t e i z size b.uG V r s k k' n (by rw[u];exact J) o (F2 _);refine F8 (v:=.slice (some ⟨w.heap.size,0,none⟩) n n) (w':=W) c Ad ?_ (fun B C=>h _ B W C (q.new ((Cn _ _).grown A (Br _) (fun k b=>by cases b)) ho (fun k b=>by have:some w.heap.size=some k:=b;cases this;exact Br _)));simp[execOp,c.A_ j,c.A_ l,hr]
theorem Tr(b:CO P t e size bytes z)(c:Nat)(l:Aj f x=some (.int k 0))(m:Aj f y=some (.int k' ((c:Nat):Int)))(n:[]=xs)(h:∀p,AT N (Jb f d (.slice p 0 c)) F w0 (Ae e size (.slice p 0 c) 0 xs::H) A5)(J:bytes*c≤281474976710656:=by omega)(o:c≤maxLen:=by unfold maxLen;omega)(Ad:Nat.blt d N=true:=by exact rfl):D3 P ⟨some d,.makeSlice t x y,ty,pos,An,g⟩ Aa N f F w0 H A5:=fun a w j q=>by
 subst n;obtain⟨i,V,r,s,u⟩:=b.V;obtain⟨W,hr,ho,A⟩:=run_make_own (P:=P) (w:=w) 0 t e i z size b.uG V r s k k' c (by rw[u];exact J) o (F2 _);refine F8 (v:=.slice (some ⟨w.heap.size,0,none⟩) 0 c) (w':=W) j Ad ?_ (fun B C=>h _ B W C (q.new ((Cn _ _).grown A (Br _) (fun k b=>by cases b)) ho (fun k b=>by have:some w.heap.size=some k:=b;cases this;exact Br _)));simp[execOp,j.A_ l,j.A_ m,hr]
theorem Mn{c:TypeId}{p q:Int}(h:Aj f x=some (.int .i64 p))(i:Aj f y=some (.int .i64 q))(r:Int)(hr:max p q=r:=by omega):BR P N f F w0 H ⟨some d,.call {callee:=.builtin .max,args:=#[x,y],argTypes:=#[t,c]},ty,pos,An,g⟩ (.int .i64 r):=fun a w b j=>by
 show(execOp a.eval _).run P w=_;have e:(if q>p then q else p)=r:=by rw[←hr];split<;>omega
 simp[execOp,resolve,invoke,builtin,b.A_ h,b.A_ i,Builtin.max_,Builtin.max2,e]
theorem TP{c:TypeId}{p q:Int}(h:Aj f x=some (.int .i64 p))(i:Aj f y=some (.int .i64 q))(r:Int)(hr:min p q=r:=by omega):BR P N f F w0 H ⟨some d,.call {callee:=.builtin .min,args:=#[x,y],argTypes:=#[t,c]},ty,pos,An,g⟩ (.int .i64 r):=fun a w b j=>by
 show(execOp a.eval _).run P w=_;have e:(if q<p then q else p)=r:=by rw[←hr];split<;>omega
 simp[execOp,resolve,invoke,builtin,b.A_ h,b.A_ i,Builtin.min_,Builtin.min2,e]
theorem KT(l:P.underlying t=some (.array n e)){BI:Operand}{i:Int}(j:Nat)(m:Aj f x=some (.agg (flat ss)))(V:Aj f BI=some (.int k i))(o:ss.flatten[j]? =some v)(he:P.underlying e=some BB)(hj:i=j:=by omega)(p:j<n:=by omega)(hr:BB.isRow=false:=by exact rfl)(b:(P.info? e).map (·.size)=some 1:=by kernel_rfl):BR P N f F w0 H ⟨some d,.index t x BI,ty,pos,An,g⟩ v:=fun a w c z=>by
 subst hj;show(execOp a.eval _).run P w=_;have q:∃i,P.info? e=some i∧i.size=1:=by
  cases h:P.info? e with
  |none=>simp[h]at b
  |some i=>exact⟨i,D,by simpa[h]using b⟩
 obtain⟨i,r,s⟩:=q;have u:(isAgg e).run P w=.ok false w:=by
  cases BB<;>first|(simp[TypeDesc.isRow]at hr;done)|simp[isAgg,run_underlying he]
 have y:(flat ss)[j]? =some v:=by simpa[flat]using o
 simp[execOp,c.A_ m,c.A_ V,Instr.index,asIntOf,run_underlying l,p,sizeOf,typeInfo,r,s,part,u,y]
theorem iK(hu:P.underlying T=some BB){BO:Nat}{l:Jn n}(b:∀w,Sat F w0 H w→∃tb fr,w.heap[BO]? =some (.cells (flat [Dx l.l]) tb fr))(c:Aj f x=some (.pointer (some ⟨BO,0,none⟩)))(e:(P.info? T).map (·.size)=some n:=by kernel_rfl)(hr:BB.isRow=true:=by exact rfl):BR P N f F w0 H ⟨some d,.load T x,ty,pos,An,g⟩ (.agg (flat [Dx l.l])):=fun a w i j=>by
 obtain⟨tb,fr,k⟩:=b w j;exact MY i c hu hr [] [Dx l.l] [] (tb:=tb) (fr:=fr) (by simpa using k) D (by rw[e];simp[Y',l.h])
theorem BP(a:P.funcs[Cf]? =some fn){xs:List Operand}(b:GX f xs=some l)(c:∀w,Sat F w0 H w→Calls P Cf l.toArray w fun e W=>e=.returned v∧Below w.heap.size w W)(h:AT N (Jb f d v) F w0 H A5)
 (i:(fn.name== "runtime.NumGoroutine")=false:=by kernel_rfl)(J:fn.body.isNone=false:=by kernel_rfl)(Ad:Nat.blt d N=true:=by exact rfl):D3 P ⟨some d,.call {callee:=.value (.func Cf),args:=xs.toArray,argTypes:=sU},ty,pos,An,g⟩ Aa N f F w0 H A5:=
 Ba a b c (fun w e W j ⟨he,q⟩=>⟨_,_,he,j.below q,h⟩) i J Ad
theorem MB(b:P.funcs[Cf]? =some fn){xs:List Operand}(c:GX f xs=some l)(g:∀w,Sat F w0 H w→Calls P Cf l.toArray w fun e W=>e=.returned v∧Below w.heap.size w W)(h:GP P ops R N (Jb f d v) F w0 H rest)
 (i:(fn.name== "runtime.NumGoroutine")=false:=by kernel_rfl)(J:fn.body.isNone=false:=by kernel_rfl)(Ad:Nat.blt d N=true:=by exact rfl):GP P ops R N f F w0 H (⟨some d,.call {callee:=.value (.func Cf),args:=xs.toArray,argTypes:=sU},ty,pos,An,none⟩::rest):=
 Ve b c (fun w a=>(g w a).mono fun _ _ ⟨he,q⟩=>⟨he,a.below q⟩) h i J Ad
end
theorem cR(l:rG)(j:Nat)(x:UInt8):bv (l.set j x)=(bv l).set j (.int .u8 ((x.toNat:Nat):Int)):=rp
theorem Ji.Ch(x:Ji n)(j:Nat)(u:UInt8):(bv x.l).set j (.int .u8 ((u.toNat:Nat):Int))=bv (x.set j u).l:=(cR _ _ _).symm
theorem Jn.Ch(x:Jn n)(j:Nat)(u:UInt32):(Dx x.l).set j (.int .u32 ((u.toNat:Nat):Int))=Dx (x.set j u).l:=(gK _ _ _).symm
theorem QF(a:Nat)(h:a<18446744073709551616:=by omega):(BitVec.ofInt 64 (a:Int)).toNat=a:=by
 rw[BitVec.toNat_ofInt];omega
theorem eU(a b:Nat)(c:a<9223372036854775808)(J:b<9223372036854775808):bits .and .i64 (a:Int) (b:Int)=((a&&&b:Nat):Int):=by
 have d:a&&&b≤a:=Nat.and_le_left;show IntKind.i64.wrap ((BitVec.ofInt 64 (a:Int)&&&BitVec.ofInt 64 (b:Int)).toNat:Int)=_;rw[BitVec.toNat_and,QF a,QF b];exact IntWalk.i64_in _ JY
theorem eE(a b:Nat)(c:a<4611686018427387904)(J:b<4611686018427387904):bits .or .i64 (a:Int) (b:Int)=((a|||b:Nat):Int):=by
 have d:a|||b<2^62:=om JY JY
 show IntKind.i64.wrap ((BitVec.ofInt 64 (a:Int)|||BitVec.ofInt 64 (b:Int)).toNat:Int)=_;rw[BitVec.toNat_or,QF a,QF b];exact IntWalk.i64_in _ JY
section
variable {P:Program} {ops:Array Oper} {rest:List Oper} {Aa:Exit→Act→World→Prop} {N:Nat} {f:BW} {d:Nat} {ty:TypeId} {pos:String} {An:Array Edge} {dst:Option Tmp} {g:Option (Nat×Bool)} {F:Nat→Prop} {w0 w:World} {H:List Atom} {A5:Act→World→Prop} {R:Act→Prop}
theorem Na(b:Aj f x=some (.int .i64 p))(c:Aj f y=some (.int .i64 q))(r:Nat)(hr:p&&&q=r)(e:p<9223372036854775808:=by omega)(h:q<9223372036854775808:=by omega):BR P N f F w0 H ⟨some d,.binOp .and t x y u,ty,pos,An,g⟩ (.int .i64 ((r:Nat):Int)):=fun a w i j=>D6 i (.inl D) b c (by rw[←hr];exact eU _ _ e h)
theorem Ku(b:Aj f x=some (.int .i64 p))(c:Aj f y=some (.int .i64 q))(r:Nat)(hr:p|||q=r)(e:p<4611686018427387904:=by omega)(h:q<4611686018427387904:=by omega):BR P N f F w0 H ⟨some d,.binOp .or t x y u,ty,pos,An,g⟩ (.int .i64 ((r:Nat):Int)):=fun a w i j=>D6 i (.inr (.inl D)) b c (by rw[←hr];exact eE _ _ e h)
theorem P8(b:Aj f x=some (.int k p))(c:Aj f y=some (.int k' n))(r:Nat)(hr:p/2^n=r)(e:n≤k.bits:=by(first|decide|(simp only[IntKind.bits];omega))):BR P N f F w0 H ⟨some d,.binOp .shr t x y u,ty,pos,An,g⟩ (.int k ((r:Nat):Int)):=fun a w h i=>IG h b c e hr
theorem Ke(b:Aj f x=some (.int .i64 p))(c:Aj f y=some (.int k' n))(r:Nat)(hr:p*2^n=r)(J:r≤9223372036854775807:=by omega)(e:n≤64:=by omega):BR P N f F w0 H ⟨some d,.binOp .shl t x y u,ty,pos,An,g⟩ (.int .i64 ((r:Nat):Int)):=fun a w h i=>Kc h b c e (by rw[hr];exact IntWalk.i64_in _ JY)
theorem aK{p q:UInt8}(b:Aj f x=some (Be .u8 p.toNat))(c:Aj f y=some (Be .u8 q.toNat)):BR P N f F w0 H ⟨some d,.binOp .xor t x y u,ty,pos,An,g⟩ (Be .u8 (p^^^q).toNat):=fun a w e h=>D6 e (.inr (.inr D)) b c (by rw[kA];exact u8_xor_nat _ _ p.toNat_lt q.toNat_lt)
theorem ah{p q:UInt8}(b:Aj f x=some (Be .u8 p.toNat))(c:Aj f y=some (Be .u8 q.toNat)):BR P N f F w0 H ⟨some d,.binOp .or t x y u,ty,pos,An,g⟩ (Be .u8 (p|||q).toNat):=fun a w e h=>D6 e (.inr (.inl D)) b c (by rw[UInt8.toNat_or];exact u8_or_nat _ _ p.toNat_lt q.toNat_lt)
theorem Qv(c:P.underlying t=some .string){BI:Operand}{s:ByteArray}{i:Int}(j:Nat){v:UInt8}(e:Aj f x=some (.string s))(V:Aj f BI=some (.int k i))(h:s[j]? =some v)(hj:i=j:=by omega):BR P N f F w0 H ⟨some d,.index t x BI,ty,pos,An,g⟩ (Be .u8 v.toNat):=fun a w b l=>by
 subst hj;show(execOp a.eval _).run P w=_;simp[execOp,b.A_ e,b.A_ V,Instr.index,asIntOf,run_underlying c,h]
end
