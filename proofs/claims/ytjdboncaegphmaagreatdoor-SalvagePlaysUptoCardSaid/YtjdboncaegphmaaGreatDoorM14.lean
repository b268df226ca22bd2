/- Laws and walks on the road to SalvagePlays (part M14). No conditions beyond each law's own. -/
import Derived.WideLaws
import Derived.Test.YtjdboncaegphmaaGreatDoorM13
set_option linter.unusedVariables false
namespace Go.Proofs.YtjdboncaegphmaaGreatDoor
open Go.RowKit
set_option maxRecDepth 100000
set_option maxHeartbeats 2000000
variable {x y:Operand} {t T:TypeId} {v:Value} {fn:Func} {n:Nat}
section
variable {P:Program} {ops:Array Oper} {rest:List Oper} {Aa:Exit→Act→World→Prop} {N:Nat} {f:BW} {d:Nat} {ty:TypeId} {pos:String} {An:Array Edge} {dst:Option Tmp} {g:Option (Nat×Bool)} {F:Nat→Prop} {w0 w:World} {H:List Atom} {A5:Act→World→Prop} {R:Act→Prop}
theorem Qx(b:Aj f x=some v)(c:P.concrete T=true:=by kernel_rfl):BR P N f F w0 H ⟨some d,.makeInterface T x,ty,pos,An,g⟩ (.iface T v):=fun a w e h=>by
 show(execOp a.eval _).run P w=_;simp[execOp,e.A_ b,run_makeInterface w T v c]
theorem Rf{u:TypeId}(b:P.underlying T=some (.interface (P.methodsAt T)))(c:Aj f x=some (.iface t v)):BR P N f F w0 H ⟨some d,.binOp .eql T x (.const .nilIface) u,ty,pos,An,g⟩ (.bool false):=fun a w e h=>ED e (q:=.nilIface) c D (by simp[eqGuard]) (run_eql_held_nil w T t v b)
theorem WG{u:TypeId}(b:P.underlying T=some (.interface (P.methodsAt T)))(c:Aj f x=some .nilIface):BR P N f F w0 H ⟨some d,.binOp .eql T x (.const .nilIface) u,ty,pos,An,g⟩ (.bool true):=fun a w e h=>ED e (q:=.nilIface) c D (by simp[eqGuard]) (run_eql_nil_nil w T b)
theorem Vd{b:TypeId}{BB:TypeDesc}(c:P.underlying b=some BB)(e:Aj f x=some (.iface b v))(V:(match BB with|.interface _=>false|_=>true)=true:=by rfl):BR P N f F w0 H ⟨some d,.typeAssert x T b true,ty,pos,An,g⟩ (.tuple #[v,.bool true]):=fun a w h i=>by
 show(execOp a.eval _).run P w=_;cases BB<;>first|(simp at V;done)|simp[execOp,h.A_ e,Instr.typeAssert,run_underlying c]
theorem bc{b:TypeId}{BB:TypeDesc}(h:P.underlying b=some BB){z:Value}(i:Aj f x=some (.iface t v))(j:∀w,(zeroValue b).run P w=.ok z w)(c:Nat.beq t b=false:=by rfl)(V:(match BB with|.interface _=>false|_=>true)=true:=by rfl):BR P N f F w0 H ⟨some d,.typeAssert x T b true,ty,pos,An,g⟩ (.tuple #[z,.bool false]):=fun a w k m=>by
 have l:¬t=b:=fun e=>by rw[e,Nat.beq_refl]at c;cases c
 show(execOp a.eval _).run P w=_;cases BB<;>first|(simp at V;done)|simp[execOp,k.A_ i,Instr.typeAssert,run_underlying h,l,j]
theorem KZ{Cf:FuncId}(k:P.funcs[Cf]? =some fn){recv:Operand}{name:String}{xs:List Operand}{sU:Array TypeId}{l:List Value}{BA:Value}(hm:∀w,(method (P.types.size+Made.depth) t v name).run P w=.ok (Cf,BA) w)(hr:Aj f recv=some (.iface t v))(m:GX f xs=some l){T:World→Ending→World→Prop}(n:∀w,Sat F w0 H w→Calls P Cf (BA::l).toArray w (T w))(h:∀w e W,Sat F w0 H w→T w e W→∃u H',e=.returned u∧Sat F w0 H' W∧AT N (Jb f d u) F w0 H' A5)
 (o:(fn.name== "runtime.NumGoroutine")=false:=by kernel_rfl)(J:fn.body.isNone=false:=by kernel_rfl)(Ad:Nat.blt d N=true:=by exact rfl):D3 P ⟨some d,.call {callee:=.invoke recv name,args:=xs.toArray,argTypes:=sU},ty,pos,An,g⟩ Aa N f F w0 H A5:=fun a w c j=>by
 have p:xs.toArray.map a.eval=l.toArray:=by
  apply bg.1;rw[PL];apply Q2;intro i;have:=congrArg (fun q=>q[i]?) (Nf m);simp only[ti]at this⊢;cases h1:xs[i]? with
  |none=>rw[h1]at this;cases b:l[i]? with
   |none=>simp
   |some v=>rw[b]at this;cases this
  |some x=>rw[h1]at this;cases b:l[i]? with
   |none=>rw[b]at this;cases this
   |some v=>
    rw[b]at this;simp only[Ph,Option.some.injEq]at this⊢;exact c.A_ this
 have r:¬fn.name= "runtime.NumGoroutine" :=by simpa using o
 have s:¬fn.body=none:=by intro q;rw[q]at J;cases J
 have y:(execOp a.eval ⟨some d,.call {callee:=.invoke recv name,args:=xs.toArray,argTypes:=sU},ty,pos,An,g⟩).run P w=.ok (.enter Cf (BA::l).toArray) w:=by
  have z:(xs.map a.eval)=l:=by simpa using p
  simp[execOp,resolve,invoke,callMethod,z,c.A_ hr,hm,callFunc,k,r,s]
 refine⟨?_⟩;unfold Oper.wp;rw[y];refine(n w j).mono (fun e W Df=>?_);obtain⟨u,H',rfl,A,B⟩:=h w e W j Df;exact B _ _ (c.put Ad u) A
end
theorem hE{P:Program}(w:World)(e h ty elem:TypeId)(g o a j:Nat)(s:ByteArray)(cur:Array Value)(t:TypeId)
 (hu:P.underlying e=some (.slice elem))(f:(P.info? elem).map (·.size)=some 1)
 (k:w.heap[g]? =some (.cells cur t (0,0)))(l:s.size≤a)(m:o+s.size≤cur.size):
 (Builtin.copy_ #[e,h] ty #[.slice (some ⟨g,o,none⟩) a j,.string s]).run P w=
   .ok (goInt s.size) (w.setRow g (cur.toList.take o++bv s.data.toList++cur.toList.drop (o+s.size)).toArray):=by
 have hlen:(bv s.data.toList).length=s.size:=by rw[DG];rfl
 have h1:∀v∈bv s.data.toList,v.oneCell'=true:=by
  intro v n;obtain⟨u,_,rfl⟩:=bI.1 n;rfl
 have c:=run_storeCells_at P g o t (bv s.data.toList) 0 cur w k (by rw[hlen];simpa using m) h1;cases d:P.info? elem with
 |none=>simp[d]at f
 |some i=>
  have V:i.size=1:=by simpa[d]using f
  have hm:Nat.min s.size a=s.size:=aQ l;have p:List.take s.size (List.map (fun b=>Value.int IntKind.u8 ↑b.toNat) s.data.toList)=bv s.data.toList:=DV (by rw[MU];exact Br _);rw[C9]at c;simp only[tA,hlen]at c;simp[Builtin.copy_,run_underlying hu,Builtin.lenOf,Builtin.firstCells,sizeOf,typeInfo,d,hm,p,c]
section
variable {P:Program} {ops:Array Oper} {rest:List Oper} {Aa:Exit→Act→World→Prop} {N:Nat} {f:BW} {d:Nat} {ty:TypeId} {pos:String} {An:Array Edge} {dst:Option Tmp} {g:Option (Nat×Bool)} {F:Nat→Prop} {w0 w:World} {H:List Atom} {A5:Act→World→Prop} {R:Act→Prop}
theorem bE{a:Act}{T:Ending→World→Prop}(b:AH N a f){t u z:Nat}(hr:fn.results=#[.tmp t,.tmp u,.tmp z]){BA c:Value}(j:f t=some v)(hu:f u=some BA)(k:f z=some c)(h:T (.returned (.tuple #[v,BA,c])) w):bodyPost P fn T .ret a w:=
 ⟨b.d,.tuple #[v,BA,c],by
   have e:=b.h t v j;have g:=b.h u BA hu;have i:=b.h z c k;rw[M_]at e g i;simp[results,hr,e,g,i],h⟩
theorem Wf{f:BW}{a:Act}(c:AH N a f){xs:List Operand}{l:List Value}(d:GX f xs=some l):xs.map a.eval=l:=by
 apply Q2;intro i;have:=congrArg (fun q=>q[i]?) (Nf d);simp only[ti]at this⊢;cases h1:xs[i]? with
 |none=>rw[h1]at this;cases b:l[i]? with
  |none=>simp
  |some v=>rw[b]at this;cases this
 |some x=>rw[h1]at this;cases b:l[i]? with
  |none=>rw[b]at this;cases this
  |some v=>
   rw[b]at this;simp only[Ph,Option.some.injEq]at this⊢;exact c.A_ this
theorem WA{Cf:FuncId}(k:P.funcs[Cf]? =some fn){b:Operand}{fr i:Array Value}{xs:List Operand}{sU:Array TypeId}{l l':List Value}(m:Aj f b=some (.func (.func Cf) fr i))(n:GX f xs=some l)(hl:fr++l.toArray++i=l'.toArray){T:World→Ending→World→Prop}(o:∀w,Sat F w0 H w→Calls P Cf l'.toArray w (T w))(h:∀w e W,Sat F w0 H w→T w e W→∃u H',e=.returned u∧Sat F w0 H' W∧AT N (Jb f d u) F w0 H' A5)
 (p:(fn.name== "runtime.NumGoroutine")=false)(J:fn.body.isNone=false)(Ad:Nat.blt d N=true:=by exact rfl)(A:∀q,b≠ .func q:=by intro q z;cases z):D3 P ⟨some d,.call {callee:=.value b,args:=xs.toArray,argTypes:=sU},ty,pos,An,g⟩ Aa N f F w0 H A5:=fun a w c j=>by
 have r:(xs.map a.eval)=l:=Wf c n;have s:¬fn.name= "runtime.NumGoroutine" :=by simpa using p
 have t:¬fn.body=none:=by intro q;rw[q]at J;cases J
 have v:(execOp a.eval ⟨some d,.call {callee:=.value b,args:=xs.toArray,argTypes:=sU},ty,pos,An,g⟩).run P w=.ok (.enter Cf l'.toArray) w:=by
  rw[←hl];simp[execOp,resolve,Deferred.ofValue,invoke,r,c.A_ m,callFunc,k,s,t]
 refine⟨?_⟩;unfold Oper.wp;rw[v];refine(o w j).mono (fun e W Df=>?_);obtain⟨u,H',rfl,x,y⟩:=h w e W j Df;exact y _ _ (c.put Ad u) x
theorem b2(i q o:Nat){l:Ji n}{s:ByteArray}(m:rG)(G:s.data.toList=m){c u e:TypeId}{b off dl z:Nat}{ss pre post:List (List Value)}{tb:TypeId}(hu:P.underlying c=some (.slice e))(V:H[i]? =some (O b ss tb))(I:Aj f x=some (.slice (some ⟨b,off,none⟩) dl z))(K:Aj f y=some (.string s))(L:ss[q]? =some (bv l.l))
 (h:AT N (Jb f d (.int .i64 (m.length:Int))) F w0 (H.set i (O b (ss.set q (bv (l.lay o m).l)) tb)) A5)(M:m.length≤dl:=by(first|decide|(simp only[Cw,RH];omega)))(h1:ss.take q=pre:=by exact Jr)(A:ss.drop (q+1)=post:=by exact Jr){p:Nat}(s1:pre.flatten.length=p:=by exact Jp)(ho:p+o=off:=by first|rfl|omega)(Q:o+m.length≤n:=by(first|decide|(simp only[Cw,RH];omega)))(R:(P.info? e).map (·.size)=some 1:=by kernel_rfl)(Ad:Nat.blt d N=true:=by exact rfl):
 D3 P ⟨some d,.call {callee:=.builtin .copy,args:=#[x,y],argTypes:=#[c,u]},ty,pos,An,g⟩ Aa N f F w0 H A5:=fun a w j B=>by
 have C:=Tw L;rw[Sb h1 C A]at h;have S:ss=pre++([bv l.l]++post):=by rw[←h1,←C,←A,←tB,td,td]
 have J:=B.Dq i V;rw[S]at J;subst s1;subst ho;subst G;have T:s.data.toList.length=s.size:=D;have r:(bv l.l).length=n:=by rw[DG,l.h]
 have E:(pre++([bv l.l]++post)).flatten=pre.flatten++(bv l.l++post.flatten):=by simp
 have U:(flat (pre++([bv l.l]++post))).toList.take (pre.flatten.length+o)++bv s.data.toList++(flat (pre++([bv l.l]++post))).toList.drop (pre.flatten.length+o+s.size)=(pre++([bv (l.lay o s.data.toList).l]++post)).flatten:=by
  rw[Ji.NC l Q];simp only[flat,E,YK,W1,fH,Ha];rw[XM,DV (kc _ _),Zm,RJ (by rw[r];omega),e8,RZ,tI (kc _ _),Zm,t_ (by rw[r];omega),Hg];simp only[Mu,Ip,Hk,T,C9]
 have t:=hE (P:=P) w c u ty e b (pre.flatten.length+o) dl z s (flat (pre++([bv l.l]++post))) tb hu R J M (by simp only[flat,o_,E,Gd,r];omega);rw[U]at t;have f1:(w.setRow b (pre++([bv (l.lay o s.data.toList).l]++post)).flatten.toArray).heap[b]? =some (.cells (flat (pre++[bv (l.lay o s.data.toList).l]++post)) tb (0,0)):=by
  rw[setRow_heap w b _ _ _ _ J,C9];rfl
 refine F8 (v:=.int .i64 (s.size:Int)) j Ad ?_ (fun W X=>h W _ X (B.set i V (C7.grown (Wj w b _)) f1 (fun k e=>.inl e)));simp[goInt]at t;simp[execOp,resolve,invoke,builtin,j.A_ I,j.A_ K,t]
theorem Yk{e:TypeId}{z:Value}(c:CO P t e 1 1 z)(n:Nat){k k':IntKind}(o:Aj f x=some (.int k ((n:Nat):Int)))(p:Aj f y=some (.int k' ((n:Nat):Int)))(q:(madeCells z.cells (n*1)).toList=bv (Ji.zero n).l)(h:∀b,AT N (Jb f d (.slice (some ⟨b,0,none⟩) n n)) F w0 (O b [bv (Ji.zero n).l] e::H) A5)(J:n≤281474976710656:=by omega)(r:n≤maxLen:=by unfold maxLen;omega)(Ad:Nat.blt d N=true:=by exact rfl):D3 P ⟨some d,.makeSlice t x y,ty,pos,An,g⟩ Aa N f F w0 H A5:=fun a w m s=>by
 obtain⟨i,V,u,B,C⟩:=c.V;obtain⟨W,hr,ho,D⟩:=run_make_full (P:=P) (w:=w) 0 t e i z 1 c.uG V u B k k' n (by rw[C];omega) r (F2 _);rw[q]at ho;have E:W.heap[w.heap.size]? =some (.cells (flat [bv (Ji.zero n).l]) e (0,0)):=by
  rcases ho.2 with⟨j,_⟩|⟨R,S,cur,j, -,G, -, -,I,K⟩
  ·simp at j
  ·simp only[Value.slice.injEq,Option.some.injEq,Addr.mk.injEq,and_true,true_and]at j;obtain⟨rfl,rfl⟩:=j;rw[G];have:cur.toList=bv (Ji.zero n).l:=by
    rw[←K,DV (by simp[I])]
   congr 2
   apply bg.1;rw[this];simp[flat]
 refine F8 (v:=.slice (some ⟨w.heap.size,0,none⟩) n n) (w':=W) m Ad ?_ (fun L M=>h _ L W M (s.new (A:=O w.heap.size [bv (Ji.zero n).l] e) ((Cn _ _).grown D (Br _) (fun k c=>by cases c)) E (fun k c=>Mk c.symm)));simp[execOp,m.A_ o,m.A_ p,hr]
theorem Gz{T:Ending→World→Prop}{t u z:Nat}{BA b:Value}(c:f t=some v)(hu:f u=some BA)(d:f z=some b)(h:∀w,Sat F w0 H w→T (.returned (.tuple #[v,BA,b])) w)(hr:fn.results=#[.tmp t,.tmp u,.tmp z]:=by exact rfl):AT N f F w0 H (bodyPost P fn T .ret):=fun a w e g=>bE e hr c hu d (h w g)
theorem Sat.R5{b T:Nat}{l:Ji n}(h:Sat C1 w0 H w)(i:Nat)(hm:n≤maxLen)(V:H[i]? =some (O b [bv l.l] T):=by exact rfl):w.ownsRow w0.heap.size T 1 (.slice (some ⟨b,0,none⟩) n n) n (bv l.l):=
 ⟨by rw[DG,l.h,Q6],.inr ⟨b,n,_,D,(h.u4 i _ V b D).resolve_left id,h.Dq i V,Br _,hm,by simp[flat,DG,l.h],by simp only[flat,W1,fH,Ha];exact DV (by rw[DG,l.h];omega)⟩⟩
end
section
variable {P:Program} {ops:Array Oper} {rest:List Oper} {Aa:Exit→Act→World→Prop} {N:Nat} {f:BW} {d:Nat} {ty:TypeId} {pos:String} {An:Array Edge} {g:Option (Nat×Bool)} {F:Nat→Prop} {w0:World} {H:List Atom}
theorem oV{l m:rG}(e:Aj f x=some (.agg (flat [bv l])))(g:Aj f y=some (.agg (flat [bv m])))(h1:l=m→AT N (Jb f d (.bool true)) F w0 H (wpList Tryz.prog ops Aa rest))(i:¬l=m→AT N (Jb f d (.bool false)) F w0 H (wpList Tryz.prog ops Aa rest))(hl:l.length=32:=by first|exact Jc.h _|assumption)(hm:m.length=32:=by first|exact Jc.h _|assumption)(Ad:Nat.blt d N=true:=by exact rfl):AT N f F w0 H (wpList Tryz.prog ops Aa (⟨some d,.binOp .eql 48 x y t,ty,pos,An,none⟩::rest)):=by
 by_cases b:l=m
 ·exact Af (fun a w c j=>dH c hl hm e g true (decide_eq_true b)) (h1 b) Ad
 ·exact Af (fun a w c j=>dH c hl hm e g false (decide_eq_false b)) (i b) Ad
theorem sd{l m:rG}(e:Aj f x=some (.agg (flat [bv l])))(g:Aj f y=some (.agg (flat [bv m])))(h1:l=m→AT N (Jb f d (.bool false)) F w0 H (wpList Tryz.prog ops Aa rest))(i:¬l=m→AT N (Jb f d (.bool true)) F w0 H (wpList Tryz.prog ops Aa rest))(hl:l.length=32:=by first|exact Jc.h _|assumption)(hm:m.length=32:=by first|exact Jc.h _|assumption)(Ad:Nat.blt d N=true:=by exact rfl):AT N f F w0 H (wpList Tryz.prog ops Aa (⟨some d,.binOp .neq 48 x y t,ty,pos,An,none⟩::rest)):=by
 by_cases b:l=m
 ·exact Af (fun a w c j=>qu c hl hm e g false (by rw[decide_eq_true b];rfl)) (h1 b) Ad
 ·exact Af (fun a w c j=>qu c hl hm e g true (by rw[decide_eq_false b];rfl)) (i b) Ad
theorem qw{l m:rG}(e:Aj f x=some (.agg (flat [bv l])))(g:Aj f y=some (.agg (flat [bv m])))(h1:l=m→AT N (Jb f d (.bool true)) F w0 H (wpList Tryz.prog ops Aa rest))(i:¬l=m→AT N (Jb f d (.bool false)) F w0 H (wpList Tryz.prog ops Aa rest))(hl:l.length=32:=by first|exact Jc.h _|assumption)(hm:m.length=32:=by first|exact Jc.h _|assumption)(Ad:Nat.blt d N=true:=by exact rfl):AT N f F w0 H (wpList Tryz.prog ops Aa (⟨some d,.binOp .eql 136 x y t,ty,pos,An,none⟩::rest)):=by
 by_cases b:l=m
 ·exact Af (fun a w c j=>bD c hl hm e g true (decide_eq_true b)) (h1 b) Ad
 ·exact Af (fun a w c j=>bD c hl hm e g false (decide_eq_false b)) (i b) Ad
theorem Gg{s:TypeId}{k k':IntKind}(b:P.underlying s=some (.int k))(c:P.underlying t=some (.int k'))(e:Aj f x=some (.int k (n:Int)))(hw:k'.wrap (n:Int)=(n:Int):=by first|exact JG _ (RE (Cj _) (by decide))|exact JC _ (RE (Cj _) (by decide))|exact JB _ (RE (Cj _) (by decide))|exact JG _ (by omega)|exact JC _ (by omega)|exact JB _):BR P N f F w0 H ⟨some d,.convert s t x,ty,pos,An,g⟩ (.int k' (n:Int)):=fun a w h i=>Ex h e b c hw
theorem Iv{s:TypeId}{k:IntKind}(b:P.underlying s=some (.int k))(c:P.underlying t=some (.int .u8))(e:Aj f x=some (.int k (n:Int))):BR P N f F w0 H ⟨some d,.convert s t x,ty,pos,An,g⟩ (.int .u8 ((UInt8.ofNat n).toNat:Nat)):=fun a w h i=>Ex h e b c (H5 n)
end
end Go.Proofs.YtjdboncaegphmaaGreatDoor
namespace Go.Proofs.YtjdboncaegphmaaGreatDoor.AL
open Go.Proofs.YtjdboncaegphmaaGreatDoor
set_option linter.unusedVariables false
def ID(x k:UInt32):UInt32:=x<<<k|||x>>>(32 - k)
def B1(p:rG)(t:Nat):UInt32:=(p.getD (4*t) 0).toUInt32<<<24|||(p.getD (4*t+1) 0).toUInt32<<<16|||(p.getD (4*t+2) 0).toUInt32<<<8|||(p.getD (4*t+3) 0).toUInt32
def R_(p:rG):Nat→Jn 64
 |0=>Jn.zero 64
 |t+1=>(R_ p t).set t (B1 p t)
def A4(W:List UInt32)(t:Nat):UInt32:=
 (ID (W.getD (t - 2) 0) 15^^^ID (W.getD (t - 2) 0) 13^^^W.getD (t - 2) 0>>>10)+W.getD (t - 7) 0+(ID (W.getD (t - 15) 0) 25^^^ID (W.getD (t - 15) 0) 14^^^W.getD (t - 15) 0>>>3)+W.getD (t - 16) 0
def DO(p:rG):Nat→Jn 64
 |0=>R_ p 16
 |t+1=>(DO p t).set (16+t) (A4 (DO p t).l (16+t))
structure Ij where
 a:UInt32
 b:UInt32
 c:UInt32
 d:UInt32
 e:UInt32
 f:UInt32
 g:UInt32
 z:UInt32
def Tj:Jn 64:=⟨[1116352408,1899447441,3049323471,3921009573,961987163,1508970993,2453635748,2870763221,3624381080,310598401,607225278,1426881987,1925078388,2162078206,2614888103,3248222580,3835390401,4022224774,264347078,604807628,770255983,1249150122,1555081692,1996064986,2554220882,2821834349,2952996808,3210313671,3336571891,3584528711,113926993,338241895,666307205,773529912,1294757372,1396182291,1695183700,1986661051,2177026350,2456956037,2730485921,2820302411,3259730800,3345764771,3516065817,3600352804,4094571909,275423344,430227734,506948616,659060556,883997877,958139571,1322822218,1537002063,1747873779,1955562222,2024104815,2227730452,2361852424,2428436474,2756734187,3204031479,3329325298],D⟩
def IP:Jn 8:=⟨[1779033703,3144134277,1013904242,2773480762,1359893119,2600822924,528734635,1541459225],D⟩
def one(W:List UInt32)(s:Ij)(t:Nat):UInt32:=s.z+(ID s.e 26^^^ID s.e 21^^^ID s.e 7)+(s.g^^^s.e&&&(s.f^^^s.g))+Tj.l.getD t 0+W.getD t 0
def two(s:Ij):UInt32:=(ID s.a 30^^^ID s.a 19^^^ID s.a 10)+(s.a&&&s.b|||s.c&&&(s.a|||s.b))
def eA(W:List UInt32)(s:Ij)(t:Nat):Ij:=⟨one W s t+two s,s.a,s.b,s.c,s.d+one W s t,s.e,s.f,s.g⟩
def Eu(W:List UInt32)(s:Ij):Nat→Ij
 |0=>s
 |t+1=>eA W (Eu W s t) t
def DR(l:List UInt32):Ij:=⟨l.getD 0 0,l.getD 1 0,l.getD 2 0,l.getD 3 0,l.getD 4 0,l.getD 5 0,l.getD 6 0,l.getD 7 0⟩
def Ij.l(s:Ij):Jn 8:=⟨[s.a,s.b,s.c,s.d,s.e,s.f,s.g,s.z],D⟩
def fin(L a:Jn 8):Nat→Jn 8
 |0=>L
 |i+1=>(fin L a i).set i ((fin L a i).l.getD i 0+a.l.getD i 0)
def step(L:Jn 8)(p:rG):Jn 8:=fin L (Eu (DO p 48).l (DR L.l) 64).l 8
def GO(L:Jn 8)(p:rG):Nat→Jn 8
 |0=>L
 |i+1=>step (GO L p i) ((p.drop (64*i)).take 64)
structure Ek where
 st:Jn 8
 rest:Ji 64
 uE:Nat
 uV:UInt64
def left(p:rG):List UInt8:=p.drop (64*(p.length/64))
theorem Ud(p:rG):(left p).length=p.length % 64:=by unfold left;rw[J3];omega
def w0(st:Jn 8)(rest:Ji 64)(a:UInt64)(p:rG):Ek:=⟨GO st p (p.length/64),rest.lay 0 (left p),(left p).length,a⟩
def wr(h:Ek)(p:rG):Ek:=
 if 0<h.uE then
  (if h.uE+p.length<64 then⟨h.st,h.rest.lay h.uE p,h.uE+p.length,h.uV+p.length.toUInt64⟩
   else w0 (step h.st (h.rest.lay h.uE (p.take (64 - h.uE))).l) (h.rest.lay h.uE (p.take (64 - h.uE))) (h.uV+p.length.toUInt64) (p.drop (64 - h.uE)))
 else w0 h.st h.rest (h.uV+p.length.toUInt64) p
def pad(a:Nat):Nat:=(119 - a % 64) % 64+1
def FY(a:Nat)(b:UInt64):Nat→Ji 128
 |0=>(Ji.zero 128).set 0 128
 |i+1=>(FY a b i).set (pad a+i) (b>>>(56 - 8*i).toUInt64).toUInt8
def out(L:Jn 8):Nat→Ji 32
 |0=>Ji.zero 32
 |i+1=>((((out L i).set (4*i) (L.l.getD i 0>>>24).toUInt8).set (4*i+1) (L.l.getD i 0>>>16).toUInt8).set (4*i+2) (L.l.getD i 0>>>8).toUInt8).set (4*i+3) (L.l.getD i 0).toUInt8
def total(h:Ek):Jc:=⟨(out (wr h ((FY h.uE (h.uV*8) 8).l.take (pad h.uE+8))).st 8).l,Ji.h _⟩
def Lz(m:rG):Jc:=total (wr ⟨IP,Ji.zero 64,0,0⟩ m)
def cut(d:rG)(w:Nat):Jc:=⟨d.take (min w 32)++List.replicate (32 - (d.take (min w 32)).length) 0,by simp only[Gd,FX,He];omega⟩
theorem UA{d:rG}{w:Nat}(Ad:w≤d.length)(hw:w≤32):(cut d w).l=((Ji.zero 32).lay 0 (d.take w)).l:=by
 have h1:(d.take w).length=w:=by rw[FX];omega
 rw[Ji.NC _ JY];simp only[cut,aQ hw,h1,Ji.zero,Jaa,Hg,IC,RQ]
def Pt(k:Jc)(v:rG):List UInt8:=0::(k.l++v)
def QL(w:Nat)(l r:Jc):List UInt8:=1::(l.l.take w++r.l.take w)
def leaf(w:Nat)(k:Jc)(v:rG):Jc:=cut (Lz (Pt k v)).l w
def ER(w:Nat)(l r:Jc):Jc:=cut (Lz (QL w l r)).l w
def bare(w:Nat):Nat→Jc
 |0=>cut (Lz [2]).l w
 |h+1=>ER w (bare w h) (bare w h)
def Gr(w:Nat)(k:Jc)(d:Jc):Nat→Jc
 |0=>d
 |h+1=>if Ea k.l (255 - h)=0 then ER w (Gr w k d h) (bare w h)else ER w (bare w h) (Gr w k d h)
def Iw:List UInt8:=[0,1,2,2,3,3,3,3,4,4,4,4,4,4,4,4,5,5,5,5,5,5,5,5,5,5,5,5,5,5,5,5,6,6,6,6,6,6,6,6,6,6,6,6,6,6,6,6,6,6,6,6,6,6,6,6,6,6,6,6,6,6,6,6,7,7,7,7,7,7,7,7,7,7,7,7,7,7,7,7,7,7,7,7,7,7,7,7,7,7,7,7,7,7,7,7,7,7,7,7,7,7,7,7,7,7,7,7,7,7,7,7,7,7,7,7,7,7,7,7,7,7,7,7,7,7,7,7,8,8,8,8,8,8,8,8,8,8,8,8,8,8,8,8,8,8,8,8,8,8,8,8,8,8,8,8,8,8,8,8,8,8,8,8,8,8,8,8,8,8,8,8,8,8,8,8,8,8,8,8,8,8,8,8,8,8,8,8,8,8,8,8,8,8,8,8,8,8,8,8,8,8,8,8,8,8,8,8,8,8,8,8,8,8,8,8,8,8,8,8,8,8,8,8,8,8,8,8,8,8,8,8,8,8,8,8,8,8,8,8,8,8,8,8,8,8,8,8,8,8,8,8,8,8,8,8]
theorem RL:Iw.length=256:=by decide+kernel
theorem c9(i:Nat):(Iw.getD i 0).toNat≤8:=by
 rcases s9 i 256 with h|h
 ·have:∀j:Fin 256,(Iw.getD j.val 0).toNat≤8:=by decide+kernel
  exact this ⟨i,h⟩
 ·rw[Dm,S6 (by rw[RL];exact h)];decide
def Ov(x:UInt8):Nat:=8 - (Iw.getD x.toNat 0).toNat
def J5(a b:rG):Nat:=match(List.range 32).find? (fun i=>decide (a.getD i 0^^^b.getD i 0≠0))with
 |some i=>8*i+Ov (a.getD i 0^^^b.getD i 0)
 |none=>256
theorem hO{a b:rG}{i:Nat}(V:i<32)(h:∀j,j<i→a.getD j 0^^^b.getD j 0=0)(c:¬a.getD i 0^^^b.getD i 0=0):J5 a b=8*i+Ov (a.getD i 0^^^b.getD i 0):=by
 unfold J5;have:(List.range 32).find? (fun i=>decide (a.getD i 0^^^b.getD i 0≠0))=some i:=by
  rw[mr];refine⟨by simpa using c,by simpa using V,fun j hj=>by simpa using h j hj⟩
 rw[this]
theorem Zh{a b:rG}(h:∀j,j<32→a.getD j 0^^^b.getD j 0=0):J5 a b=256:=by
 unfold J5;have:(List.range 32).find? (fun i=>decide (a.getD i 0^^^b.getD i 0≠0))=none:=by
  rw[lP];intro i V;simpa using h i (QZ.1 V)
 rw[this]
theorem gn(a:rG):J5 a a=256:=Zh (fun j _=>UInt8.xor_self)
end Go.Proofs.YtjdboncaegphmaaGreatDoor.AL
namespace Go.Proofs.YtjdboncaegphmaaGreatDoor.AL
open Go.Proofs.YtjdboncaegphmaaGreatDoor
set_option linter.unusedVariables false
theorem mR(e f g:UInt32):(e&&&f)^^^(~~~e&&&g)=g^^^e&&&(f^^^g):=by
 apply UInt32.toBitVec_inj.1;apply BitVec.eq_of_getLsbD_eq;intro i V;simp only[UInt32.toBitVec_xor,UInt32.toBitVec_and,UInt32.toBitVec_not,BitVec.getLsbD_xor,BitVec.getLsbD_and,BitVec.getLsbD_not,V,decide_true,Bool.true_and];cases e.toBitVec.getLsbD i<;>cases f.toBitVec.getLsbD i<;>cases g.toBitVec.getLsbD i<;>rfl
theorem ry(a b c:UInt32):(a&&&b)^^^(a&&&c)^^^(b&&&c)=a&&&b|||c&&&(a|||b):=by
 apply UInt32.toBitVec_inj.1;apply BitVec.eq_of_getLsbD_eq;intro i V;simp only[UInt32.toBitVec_xor,UInt32.toBitVec_and,UInt32.toBitVec_or,BitVec.getLsbD_xor,BitVec.getLsbD_and,BitVec.getLsbD_or];cases a.toBitVec.getLsbD i<;>cases b.toBitVec.getLsbD i<;>cases c.toBitVec.getLsbD i<;>rfl
theorem Jn.ext'{n:Nat}{x y:Jn n}(h:x.l=y.l):x=y:=by cases x;cases y;cases h;rfl
theorem pH(L a:Jn 8)(i:Nat)(V:i≤8):(fin L a i).l=(List.range 8).map fun j=>if j<i then L.l.getD j 0+a.l.getD j 0 else L.l.getD j 0:=by
 induction i with
 |zero=>
  apply cI
  ·rw[MU,Wv];exact L.h
  ·intro j h1 c;simp only[fin,Mw,cZ,n3,if_false];rw[Dm,F3 (show j<L.l.length from h1)];rfl
 |succ i d=>
  have e:=d JY;show((fin L a i).set i ((fin L a i).l.getD i 0+a.l.getD i 0)).l=_;show(fin L a i).l.set i ((fin L a i).l.getD i 0+a.l.getD i 0)=_;have f:(fin L a i).l.getD i 0=L.l.getD i 0:=by
   rw[e,Dm,F3 (by rw[MU,Wv];omega)];simp only[Mw,cZ,mS,if_false,QW]
  rw[f,e];apply cI
  ·simp only[Kh,MU,Wv]
  ·intro j h1 c;rw[kJ];simp only[Mw,cZ]
   by_cases h:i=j
   ·subst h;rw[if_pos D,if_pos JY]
   ·rw[if_neg h]
    by_cases b:j<i
    ·rw[if_pos b,if_pos JY]
    ·rw[if_neg b,if_neg JY]
theorem pW(L a:Jn 8):fin L a 8=fin a L 8:=by
 apply Jn.ext';rw[pH _ _ _ (Br _),pH _ _ _ (Br _)];apply nv;intro j hj;have:=QZ.1 hj;rw[if_pos this,if_pos this,UInt32.add_comm]
theorem mQ(p:rG)(t:Nat)(a:t<16):B1 (p.take 64) t=B1 p t:=by
 have e:∀j,j<64→(p.take 64).getD j 0=p.getD j 0:=fun j hj=>by rw[Dm,Dm,LQ,if_pos hj]
 unfold B1;rw[e _ JY,e _ JY,e _ JY,e _ JY]
theorem mb(p:rG):∀t,t≤16→R_ (p.take 64) t=R_ p t:=by
 intro t
 induction t with
 |zero=>intro _;rfl
 |succ t a=>intro h;show(R_ (p.take 64) t).set t (B1 (p.take 64) t)=(R_ p t).set t (B1 p t);rw[a JY,mQ p t JY]
theorem ot(p:rG):∀t,DO (p.take 64) t=DO p t:=by
 intro t
 induction t with
 |zero=>exact mb p 16 (Br _)
 |succ t a=>show(DO (p.take 64) t).set (16+t) (A4 (DO (p.take 64) t).l (16+t))=(DO p t).set (16+t) (A4 (DO p t).l (16+t));rw[a]
theorem step_take(L:Jn 8)(p:rG):step L (p.take 64)=step L p:=by unfold step;rw[ot]
theorem PB(L:Jn 8)(p:rG)(i:Nat):GO L p (i+1)=step (GO L p i) (p.drop (64*i)):=by
 show step (GO L p i) ((p.drop (64*i)).take 64)=_;exact step_take _ _
theorem r0(L:Jn 8)(p:rG):∀i,GO L p (1+i)=GO (step L p) (p.drop 64) i:=by
 intro i
 induction i with
 |zero=>rw[PB];rfl
 |succ i a=>rw[show 1+(i+1)=(1+i)+1 by omega,PB,a,PB,tB,show 64+64*i=64*(1+i)by omega]
theorem lJ(p:rG):∀(a b:Nat) (L:Jn 8),GO L p (a+b)=GO (GO L p a) (p.drop (64*a)) b:=by
 intro a b
 induction b with
 |zero=>intro L;rfl
 |succ b c=>intro L;rw[show a+(b+1)=(a+b)+1 by omega,PB,c,PB,tB,show 64*a+64*b=64*(a+b)by omega]
theorem pd(L:Jn 8)(p q:rG):∀a,64*a≤p.length→GO L (p++q) a=GO L p a:=by
 intro a
 induction a with
 |zero=>intro _;rfl
 |succ a b=>
  intro h;rw[PB,PB,b JY,←step_take (GO L p a) ((p++q).drop (64*a)),←step_take (GO L p a) (p.drop (64*a))]
  congr 1
  rw[t_ JY,RJ (by rw[J3];omega)]
def tw(g:UInt64):List UInt8:=(List.range 8).map fun i=>(g>>>(56 - 8*i).toUInt64).toUInt8
def tail(a:Nat)(g:UInt64):List UInt8:=128::(List.replicate (pad a - 1) 0++tw g)
theorem m9(a:Nat):1≤pad a∧pad a≤64:=by unfold pad;omega
theorem lM(g:UInt64):(tw g).length=8:=by unfold tw;rw[MU,Wv]
theorem km(a:Nat)(g:UInt64):(tail a g).length=pad a+8:=by
 have:=m9 a;unfold tail;rw[Cw,Gd,He,lM];omega
theorem ra(a:Nat)(g:UInt64):∀i,i≤8→(FY a g i).l=128::(List.replicate (pad a - 1) 0++((tw g).take i++List.replicate (128 - pad a - i) 0)):=by
 have c:=m9 a;intro i
 induction i with
 |zero=>
  intro _;show((Ji.zero 128).set 0 128).l=_;show(List.replicate 128 (0:UInt8)).set 0 128=_;rw[Jaa,Hg,List.replicate_append_replicate,show pad a - 1+(128 - pad a - 0)=127 by omega];rfl
 |succ i b=>
  intro h;show(FY a g i).l.set (pad a+i) (g>>>(56 - 8*i).toUInt64).toUInt8=_;rw[b JY];have J:(tw g).take (i+1)=(tw g).take i++[(g>>>(56 - 8*i).toUInt64).toUInt8]:=by
   rw[Ol]
   congr 1
   unfold tw;rw[ti,kL JY];rfl
  have hl:((tw g).take i).length=i:=by rw[FX,lM];omega
  rw[J,show pad a+i=(pad a - 1+i)+1 by omega,JX]
  congr 1
  rw[List.set_append,if_neg (by rw[He];omega),He]
  congr 1
  rw[List.set_append,if_neg JY,hl,show pad a - 1+i - (pad a - 1) - i=0 by omega,C9]
  congr 1
  rw[show 128 - pad a - i=(128 - pad a - (i+1))+1 by omega,nf];rfl
theorem jI(a:Nat)(g:UInt64):(FY a g 8).l.take (pad a+8)=tail a g:=by
 have b:=m9 a;rw[ra a g 8 (Br _)];unfold tail;rw[show pad a+8=(pad a+7)+1 by omega,Ra,←C9]
 congr 1
 have J:=lM g;rw[DV (l:=tw g) JY,RJ (by rw[Gd,He];omega),DV (by rw[Gd,He];omega)]
def Md(m:rG):List UInt8:=m++tail (m.length % 64) (m.length.toUInt64*8)
theorem Yi(m:rG):Md m=m++tail (m.length % 64) (m.length.toUInt64*8):=rfl
theorem mf(m:rG):(Md m).length % 64=0:=by
 unfold Md;rw[Gd,km];unfold pad;omega
theorem j9(st:Jn 8)(rest:Ji 64)(a:Nat)(d:UInt64)(b p:rG)(hl:b.length=a)(i:a<64)(hr:rest.l.take a=b)(Ad:(a+p.length) % 64=0)(j:64≤a+p.length):(wr ⟨st,rest,a,d⟩ p).st=GO st (b++p) ((a+p.length)/64):=by
 unfold wr;simp only
 by_cases c:0<a
 ·rw[if_pos c,if_neg JY];show GO (step st (rest.lay a (p.take (64 - a))).l) (p.drop (64 - a)) ((p.drop (64 - a)).length/64)=_;have e:(rest.lay a (p.take (64 - a))).l=(b++p).take 64:=by
   have f:(p.take (64 - a)).length=64 - a:=by rw[FX];omega
   rw[Ji.NC _ JY,hr,f,kX (by rw[rest.h];omega),Ha,XM,DV (l:=b) JY,hl]
  have g:p.drop (64 - a)=(b++p).drop 64:=by rw[RZ,kX («as»:=b) JY,Hg,hl]
  rw[e,step_take,g,←r0]
  congr 1
  rw[J3,Gd,hl];omega
 ·rw[if_neg c];obtain rfl:a=0:=JY;obtain rfl:b=[]:=ni hl;show GO st p (p.length/64)=_;rw[Hg,IC]
theorem sy(m:rG):wr ⟨IP,Ji.zero 64,0,0⟩ m=⟨GO IP m (m.length/64),(Ji.zero 64).lay 0 (left m),(left m).length,0+m.length.toUInt64⟩:=by
 unfold wr;rw[if_neg (mS _)];rfl
section
attribute [local irreducible] out wr FY GO Md step tail
theorem nI(m:rG):(Lz m).l=(out (GO IP (Md m) ((Md m).length/64)) 8).l:=by
 unfold Lz total;have a:=Ud m;rw[sy];have h1:=j9 (GO IP m (m.length/64)) ((Ji.zero 64).lay 0 (left m)) (left m).length (0+m.length.toUInt64) (left m) (tail (left m).length ((0+m.length.toUInt64)*8)) D JY (by rw[Ji.NC _ JY,Jaa,Hg,dZ]) (by rw[km,a];unfold pad;omega) (by rw[km,a];unfold pad;omega);dsimp only;rw[jI,h1]
 congr 2
 have hlen:(Md m).length=m.length+(pad (m.length % 64)+8):=by rw[Yi,Gd,km]
 rw[hlen,a,km,UInt64.zero_add];have b:m.length+(pad (m.length % 64)+8)=64*(m.length/64)+(m.length % 64+(pad (m.length % 64)+8)):=JY;rw[b,nx JZ,lJ,Yi,pd IP m _ _ JY,t_ JY];rfl
end
def QS(L:Jn 8):Nat→Jc
 |0=>CU
 |i+1=>⟨(QS L i).l.set i (L.l.getD (i/4) 0>>>(24 - 8*(i % 4)).toUInt32).toUInt8,by rw[Kh];exact(QS L i).h⟩
def ZB(L:Jn 8)(j:Nat):UInt8:=(L.l.getD (j/4) 0>>>(24 - 8*(j % 4)).toUInt32).toUInt8
theorem qG(L:Jn 8):∀i,i≤32→(QS L i).l=(List.range 32).map fun j=>if j<i then ZB L j else 0:=by
 intro i
 induction i with
 |zero=>intro _;rfl
 |succ i b=>
  intro h;show(QS L i).l.set i (ZB L i)=_;rw[b JY];apply cI
  ·simp only[Kh,MU,Wv]
  ·intro j h1 c;rw[kJ];simp only[Mw,cZ]
   by_cases h:i=j
   ·subst h;rw[if_pos D,if_pos JY]
   ·rw[if_neg h]
    by_cases a:j<i
    ·rw[if_pos a,if_pos JY]
    ·rw[if_neg a,if_neg JY]
theorem lh(L:Jn 8):∀i,i≤8→(out L i).l=(List.range 32).map fun j=>if j<4*i then ZB L j else 0:=by
 intro i
 induction i with
 |zero=>intro _;rfl
 |succ i f=>
  intro h;show((((out L i).l.set (4*i) (L.l.getD i 0>>>24).toUInt8).set (4*i+1) (L.l.getD i 0>>>16).toUInt8).set (4*i+2) (L.l.getD i 0>>>8).toUInt8).set (4*i+3) (L.l.getD i 0).toUInt8=_;have g:(L.l.getD i 0>>>24).toUInt8=ZB L (4*i):=by unfold ZB;rw[show 4*i/4=i by omega,show 4*i % 4=0 by omega];rfl
  have k:(L.l.getD i 0>>>16).toUInt8=ZB L (4*i+1):=by unfold ZB;rw[show(4*i+1)/4=i by omega,show(4*i+1) % 4=1 by omega];rfl
  have m:(L.l.getD i 0>>>8).toUInt8=ZB L (4*i+2):=by unfold ZB;rw[show(4*i+2)/4=i by omega,show(4*i+2) % 4=2 by omega];rfl
  have n:(L.l.getD i 0).toUInt8=ZB L (4*i+3):=by unfold ZB;rw[show(4*i+3)/4=i by omega,show(4*i+3) % 4=3 by omega];congr 1
  rw[f JY,g,k,m,n];apply cI
  ·simp only[Kh,MU,Wv]
  ·intro j h1 o;simp only[kJ,Mw,cZ]
   by_cases a:4*i+3=j
   ·subst a;rw[if_pos D,if_pos JY]
   ·rw[if_neg a]
    by_cases b:4*i+2=j
    ·subst b;rw[if_pos D,if_pos JY]
    ·rw[if_neg b]
     by_cases c:4*i+1=j
     ·subst c;rw[if_pos D,if_pos JY]
     ·rw[if_neg c]
      by_cases d:4*i=j
      ·subst d;rw[if_pos D,if_pos JY]
      ·rw[if_neg d]
       by_cases e:j<4*i
       ·rw[if_pos e,if_pos JY]
       ·rw[if_neg e,if_neg JY]
theorem oG(m:rG):Lz m=QS (GO IP (Md m) ((Md m).length/64)) 32:=by
 apply Jc.ext;rw[nI,lh _ 8 (Br _),qG _ 32 (Br _)]
end Go.Proofs.YtjdboncaegphmaaGreatDoor.AL
