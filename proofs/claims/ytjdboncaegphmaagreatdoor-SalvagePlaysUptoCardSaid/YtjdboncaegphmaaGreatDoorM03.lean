/- Laws and walks on the road to SalvagePlays (part M03). No conditions beyond each law's own. -/
import Derived.StillTail
import Derived.Deep.Quiet
import Derived.Test.YtjdboncaegphmaaGreatDoorM02
set_option linter.unusedVariables false
namespace Go.Proofs.YtjdboncaegphmaaGreatDoor
open Go.RowKit
set_option maxRecDepth 100000
set_option maxHeartbeats 2000000
variable {x:Operand} {v z:Value} {n b size off c k j bytes i fuel:Nat} {e T t:TypeId} {xs:List Value} {cs:Array Value} {R:Act→Prop} {BK:World→Prop} {listed:Array Bool}
def flat(ss:List (List Value)):Array Value:=ss.flatten.toArray
abbrev rS(l:List (List Value)):Value:=.agg (flat l)
abbrev sM(w:World)(v:Value)(e:Ending)(W:World):Prop:=e=.returned v∧Below w.heap.size w W
theorem Tk(ss:List (List Value)):(flat ss).size=ss.flatten.length:=by simp[flat]
theorem H5(n:Nat):IntKind.u8.wrap (n:Int)=(((UInt8.ofNat n).toNat:Nat):Int):=by
 rw[IntKind.wrap_u8'];simp
theorem wrap_u32(n:Nat):IntKind.u32.wrap (n:Int)=((n % 4294967296:Nat):Int):=by rw[IntKind.wrap_u32'];omega
theorem JC(n:Nat)(h:n<4294967296):IntKind.u32.wrap (n:Int)=(n:Int):=by rw[wrap_u32,s_ h]
theorem JB(n:Nat)(h:n<18446744073709551616:=by omega):IntKind.u64.wrap (n:Int)=(n:Int):=by
 rw[IntKind.wrap_u64];omega
theorem JG(n:Nat)(h:n<9223372036854775808):IntKind.i64.wrap (n:Int)=(n:Int):=IntWalk.i64_in _ JY
theorem Tg(x:Nat)(h:x<256):Value.int .u8 ((x:Nat):Int)=.int .u8 (((UInt8.ofNat x).toNat:Nat):Int):=by
 simp;omega
theorem Uc{p:Prop}[Decidable p](h:(!decide p)=true):¬p:=by simpa using h
theorem W3{p:Prop}[Decidable p](h:(!decide p)=false):p:=by simpa using h
theorem GH{w:World}{l:rG}(h:View w (.slice (some ⟨b,off,none⟩) n c) n 1 (bv l))(j:Nat)(hj:j<n:=by omega){o:Nat}(ho:off+j*1=o:=by first|rfl|omega):w.cell? ⟨b,o,none⟩=some (.int .u8 ((l.getD j 0).toNat:Nat)):=by
 subst ho
 rcases h.2 with⟨a,_⟩|⟨e,f,cap,a,_,_,_,_,d⟩
 ·cases a
 ·simp only[Value.slice.injEq,Option.some.injEq,Addr.mk.injEq]at a;obtain⟨⟨rfl,rfl,_⟩,_,_⟩:=a;have hl:=h.1;simp only[DG,Q6]at hl⊢;have:=d j (.int .u8 ((l.getD j 0).toNat:Nat)) (by
   simp[bv,show j<l.length by omega,List.getD_eq_getElem?_getD])
  exact this
theorem IW{w:World}{q:Option Addr}(h:View w (.slice q n c) n size xs)(a:0<n:=by omega):∃b off,q=some ⟨b,off,none⟩:=by
 obtain⟨b,off,d,_⟩:=h.some a;exact⟨b,off,d⟩
theorem PU{w w':World}{o:Obj}(h:w.heap[b]? =some o)(J:Below w.heap.size w w'):w'.heap[b]? =some o:=(J.block b (SR.1 h).1).trans h
theorem DC{w:World}{o:Obj}(h:w.heap[b]? =some o):b<w.heap.size:=(SR.1 h).1
theorem OA{w:World}{base:Nat}{p:Option Addr}(h:w.ownsRow base e size (.slice p k c) n xs)(b:0<n:=by omega):∃g,p=some ⟨g,0,none⟩:=by
 rcases h.2 with⟨h1,a⟩|⟨g,cap,cur,h1,_⟩
 ·exact absurd a JY
 ·simp only[Value.slice.injEq]at h1;exact⟨g,h1.1⟩
theorem b_{w:World}{base:Nat}{g:Nat}(h:w.ownsRow base e 1 (.slice (some ⟨g,0,none⟩) k c) n xs)(hj:j<n)(u:Value):
 (w.setCell ⟨g,j,none⟩ u).ownsRow base e 1 (.slice (some ⟨g,0,none⟩) k c) n (xs.set j u)∧D0 w (w.setCell ⟨g,j,none⟩ u) (.slice (some ⟨g,0,none⟩) k c) (.slice (some ⟨g,0,none⟩) k c)∧
 ∃cur,w.heap[g]? =some (.cells cur e (0,0))∧j<cur.size:=by
 rcases h.2 with⟨h1,_⟩|⟨p,cap,cur,h1,J,a,f,i,b,l⟩
 ·cases h1
 ·have d:=h1;simp only[Value.slice.injEq,Option.some.injEq,Addr.mk.injEq]at d;obtain⟨⟨rfl,_⟩,rfl,rfl⟩:=d;have m:j<cur.size:=by rw[b];omega
  refine⟨⟨by rw[Kh];exact h.1,.inr ⟨g,c,cur.setIfInBounds j u,D,J,K' a u,f,i,by simpa using b,?_⟩⟩,⟨Ka w g j u,fun k o=>.inl o⟩,cur,a,m⟩;rw[tX,List.take_set,l]
theorem ZZ{P:Program}{x y:Code}{Aa:Exit→Act→World→Prop}{a:Act}{w:World}(M:Act→World→Prop)(h:x.wp P (Exit.then M Aa) a w)(b:∀a w,M a w→y.wp P Aa a w):(Code.seq x y).wp P Aa a w:=
 wp_seq (wp_mono h (fun e a w q=>by
  cases e with
  |normal=>exact b a w q
  |_=>exact q))
section
variable {P:Program} {w w':World} {ops:Array Oper} {rest:List Oper} {a:Act} {Aa:Exit→Act→World→Prop} {N:Nat} {f:BW} {d:Nat} {ty:TypeId} {pos:String} {An:Array Edge} {dst:Option Tmp} {g:Option (Nat×Bool)} {A5:Act→World→Prop}
theorem Ei(c:AH N a f)(d:Aj f x=some (.pointer (some ⟨b,off,none⟩))){BB:TypeDesc}(hu:P.underlying T=some BB)(Ad:BB.isRow=false)(e:w.cell? ⟨b,off,none⟩=some v):CD P a w ⟨dst,.load T x,ty,pos,An,g⟩ v w:=by
 show(execOp a.eval _).run P w=_;have h:(isAgg T).run P w=.ok false w:=by
  simp only[isAgg,Sem.run_bind,run_underlying hu,Result.andThen_ok];cases BB<;>first|rfl|simp[TypeDesc.isRow]at Ad
 simp[execOp,c.A_ d,Instr.loadAt,Instr.sureAddr,loadVar,h,e]
theorem RN(c:AH N a f)(d:Aj f x=some (.pointer (some ⟨b,off,none⟩))){BB:TypeDesc}(hu:P.underlying T=some BB)(Ad:BB.isRow=true)(e:Cells w b off xs)(V:(P.info? T).map (·.size)=some xs.length):CD P a w ⟨dst,.load T x,ty,pos,An,g⟩ (.agg xs.toArray) w:=by
 show(execOp a.eval _).run P w=_;have:=run_loadAt_mid (P:=P) w b off T xs BB e hu Ad V;simp[execOp,c.A_ d,this]
theorem Gu(d:AH N a f)(h:CO P t e size bytes z){BI:Operand}(l:Aj f x=some (.slice (some ⟨b,off,none⟩) n c)){k:IntKind}{i:Int}(V:Aj f BI=some (.int k i))(j:Nat)(hj:i=j:=by omega)(m:j<n:=by omega){o:Nat}(ho:off+j*size=o:=by first|rfl|omega):
 CD P a w ⟨dst,.indexAddr t x BI,ty,pos,An,g⟩ (.pointer (some ⟨b,o,none⟩)) w:=by
 show(execOp a.eval _).run P w=_;obtain⟨q,p,s,r,u⟩:=h.V;subst hj;subst ho;simp[execOp,d.A_ l,d.A_ V,Instr.indexAt,run_underlying h.uG,asIntOf,sizeOf,typeInfo,p,r,m,F6]
theorem Hl(h:AH N a f)(l:P.underlying t=some (.array n e))(c:(P.info? e).map (·.size)=some size){BI:Operand}(m:Aj f x=some (.pointer (some ⟨b,off,none⟩))){k:IntKind}{i:Int}(V:Aj f BI=some (.int k i))(j:Nat)(hj:i=j)(p:j<n){o:Nat}(ho:off+j*size=o):
 CD P a w ⟨dst,.indexAddr t x BI,ty,pos,An,g⟩ (.pointer (some ⟨b,o,none⟩)) w:=by
 show(execOp a.eval _).run P w=_;subst hj;subst ho;cases d:P.info? e with
 |none=>simp[d]at c
 |some q=>
  simp[d]at c;simp[execOp,h.A_ m,h.A_ V,Instr.indexAt,Instr.sureAddr,run_underlying l,asIntOf,sizeOf,typeInfo,d,c,p,F6]
theorem bo(c:AH N a f){s:TypeId}{xs:Array Value}(d:Aj f x=some (.agg xs)){b:Array Field}(hu:P.underlying s=some (.struct b)){Ce:Field}(e:b[i]? =some Ce){BB:TypeDesc}(h:P.underlying Ce.type=some BB)(Ad:BB.isRow=false)(j:xs[Ce.offset]? =some v):
 CD P a w ⟨dst,.field s x i,ty,pos,An,g⟩ v w:=by
 show(execOp a.eval _).run P w=_;have k:(isAgg Ce.type).run P w=.ok false w:=by
  simp only[isAgg,Sem.run_bind,run_underlying h,Result.andThen_ok];cases BB<;>first|rfl|simp[TypeDesc.isRow]at Ad
 simp[execOp,c.A_ d,Instr.field,run_underlying hu,e,asAgg,part,k,j]
theorem ba(j:AH N a f)(Ad:Nat.blt d N=true)(c:(P.info? T).map (·.zero)=some (some z))(k:z.cells=cs)
 (h:∀b W,AH N b (Jb f d (.pointer (some ⟨w.heap.size,0,none⟩)))→W.heap.size=w.heap.size+1→W.heap[w.heap.size]? =some (.cells cs T (0,0))→Below w.heap.size w W→A5 b W):Dw P ⟨some d,.alloc T,ty,pos,An,g⟩ a w A5 Aa:=by
 subst k;refine F8 (v:=.pointer (some ⟨w.heap.size,0,none⟩)) (w':=w.alloc (.cells z.cells T)) j Ad ?_ (fun b l=>h b _ l (by simp) (heap_alloc_new w _) ((Cn _ _).alloc (Br _) _));cases e:P.info? T with
 |none=>simp[e]at c
 |some i=>
  simp[e]at c;simp[execOp,Instr.alloc,zeroValue,typeInfo,e,c,newVar,newRow,newObj];rfl
theorem dk(c:AH N a f)(Ad:Nat.blt d N=true)(e:Aj f x=some v)(i:v.cells=cs)
 (h:∀b W,AH N b (Jb f d (.pointer (some ⟨w.heap.size,0,none⟩)))→W.heap.size=w.heap.size+1→W.heap[w.heap.size]? =some (.cells cs T (0,0))→Below w.heap.size w W→A5 b W):Dw P ⟨some d,.box T x,ty,pos,An,g⟩ a w A5 Aa:=by
 subst i;refine F8 (v:=.pointer (some ⟨w.heap.size,0,none⟩)) (w':=w.alloc (.cells v.cells T)) c Ad ?_ (fun b j=>h b _ j (by simp) (heap_alloc_new w _) ((Cn _ _).alloc (Br _) _));simp[execOp,c.A_ e,Instr.box,newVar,newRow,newObj];rfl
theorem Me(e:AH N a f){y:Operand}(k:Aj f x=some (.pointer (some ⟨b,off,none⟩))){c:Array Value}{tb:TypeId}(J:w.heap[b]? =some (.cells c tb (0,0)))(l:Aj f y=some v)(m:v.oneCell'=true)(V:(P.info? T).map (·.size)=some 1)(n:off<c.size)
 {c2:Array Value}(o:c.setIfInBounds off v=c2)
 (h:∀d W,AH N d f→W.heap.size=w.heap.size→W.heap[b]? =some (.cells c2 tb (0,0))→w.grownBy W (some b)→A5 d W):Dw P ⟨none,.store T x y,ty,pos,An,g⟩ a w A5 Aa:=by
 subst o;refine Pg (w':=w.setCell ⟨b,off,none⟩ v) e ?_ (fun d p=>h d _ p (by simp) (K' J v) (Ka w b off v));have q:v.cells=#[v]:=by cases v<;>simp_all [Value.oneCell',Value.cells]
 have r:w.cell? ⟨b,off,none⟩=some c[off]:=by rw[cell_of_row w b off c tb _ J];simp[n]
 have s:w.frozen? ⟨b,off,none⟩=false:=frozen_of_row w b off c tb J;cases j:P.info? T with
 |none=>simp[j]at V
 |some i=>
  simp[j]at V;simp[execOp,e.A_ k,e.A_ l,Instr.storeAt,Instr.sureAddr,storeVar,q,sizeOf,typeInfo,j,V,storeCells,run_store _ _ _ _ _ m,r,s,F6]
theorem YI(d:AH N a f){y:Operand}{base:Nat}{HZ:Nat}(o:w.ownsRow base e 1 (.slice (some ⟨HZ,0,none⟩) k c) n xs)(p:Aj f x=some (.pointer (some ⟨HZ,j,none⟩)))(hj:j<n)(q:Aj f y=some v)(r:v.oneCell'=true)(V:(P.info? T).map (·.size)=some 1)
 {zs:List Value}(s:xs.set j v=zs)
 (h:∀b W,AH N b f→W.ownsRow base e 1 (.slice (some ⟨HZ,0,none⟩) k c) n zs→D0 w W (.slice (some ⟨HZ,0,none⟩) k c) (.slice (some ⟨HZ,0,none⟩) k c)→A5 b W):Dw P ⟨none,.store T x y,ty,pos,An,g⟩ a w A5 Aa:=by
 subst s;obtain⟨h1,t,cur,m,u⟩:=b_ o hj v;refine Pg (w':=w.setCell ⟨HZ,j,none⟩ v) d ?_ (fun b z=>h b _ z h1 t);have A:v.cells=#[v]:=by cases v<;>simp_all [Value.oneCell',Value.cells]
 have B:w.cell? ⟨HZ,j,none⟩=some cur[j]:=by rw[cell_of_row w HZ j cur e _ m];simp[u]
 have C:w.frozen? ⟨HZ,j,none⟩=false:=frozen_of_row w HZ j cur e m;cases l:P.info? T with
 |none=>simp[l]at V
 |some i=>
  simp[l]at V;simp[execOp,d.A_ p,d.A_ q,Instr.storeAt,Instr.sureAddr,storeVar,A,sizeOf,typeInfo,l,V,storeCells,run_store _ _ _ _ _ r,B,C,F6]
theorem Xx(l:AH N a f)(Ad:Nat.blt d N=true)(A:CO P t e size bytes z){s:Operand}
 (base:Nat){y:Value}{m:Nat}{CP:List Value}(C:Aj f s=some v)(E:Aj f x=some y)
 (r:w.ownsRow base e size v n xs)(F:View w y m size CP)(h1:∀u∈CP,u.oneCell'=true)
 (J:n+m≤maxLen)(K:(n+m)*bytes≤140737488355328)(L:base≤w.heap.size)(M:n+m=k){zs:List Value}(G:xs++CP.take (m*size)=zs)
 (h:∀o p c W,AH N o (Jb f d (.slice p k c))→W.ownsRow base e size (.slice p k c) k zs→D0 w W v (.slice p k c)→A5 o W):
 Dw P ⟨some d,.call {callee:=.builtin .append,args:=#[s,x],argTypes:=#[t,t]},ty,pos,An,g⟩ a w A5 Aa:=by
 subst M;subst G;obtain⟨i,V,G,R,S⟩:=A.V;have form:∀w' BA k H,World.ownsRow w' base e size BA k H→∃p c,BA=.slice p k c:=by
  intro w' BA k H q
  rcases q.2 with⟨rfl,rfl⟩|⟨g,cap,cur,rfl,_⟩<;>exact⟨_,_,D⟩
 rcases F.2 with⟨rfl,rfl,rfl⟩|⟨b,off,cap,rfl,T,U,X,Y,O⟩
 ·obtain⟨p,c,rfl⟩:=form w v n xs r;refine F8 (v:=.slice p n c) (w':=w) l Ad ?_ (fun o B=>h o p c w B (by simpa using r) (D0.refl _ _));have hr:=run_append_owned_none (P:=P) (w:=w) base t ty e i size A.uG V (.slice p n c) n xs r;simp only[execOp,resolve,invoke,builtin,Sem.run_bind,Sem.run_pure,Result.andThen_ok,kz,Zv,kV,l.A_ C,l.A_ E,hr]
 ·obtain⟨BA,W,hr,I,Q⟩:=VZ (P:=P) (ty:=ty) w A base v n xs r ⟨b,off,none⟩ m cap (CP.take (m*size)) F.take (fun j u hj=>by
   rw[LQ]at hj;split at hj
   ·rw[F6];exact O j u hj
   ·cases hj) (fun u hu=>h1 u (Xs hu)) J K L
  obtain⟨p,c,rfl⟩:=form W BA _ _ I;refine F8 (v:=.slice p (n+m) c) (w':=W) l Ad ?_ (fun o B=>h o p c W B I Q);simp only[execOp,resolve,invoke,builtin,Sem.run_bind,Sem.run_pure,Result.andThen_ok,kz,Zv,kV,l.A_ C,l.A_ E,hr]
theorem gD(CP:List Value):∀(k:Nat) (cs:Array Value),cs.size=k+CP.length→((CP.zipIdx k).foldl (fun cs (c,j)=>cs.setIfInBounds (0+j) c) cs).toList=cs.toList.take k++CP:=by
 induction CP with
 |nil=>intro k cs h;simp at h;simp[List.take_of_length_le (show cs.toList.length≤k by simp[h])]
 |cons y CP a=>
  intro k cs h;simp only[Cw]at h;simp only[List.zipIdx_cons,j_];rw[a (k+1) _ (by simp;omega)];have:(cs.setIfInBounds (0+k) y).toList.take (k+1)=cs.toList.take k++[y]:=by
   rw[tX,IC,kn (by simp;omega),List.take_set_of_le (Br _)];simp
  rw[this];simp
theorem RR(a:CO P t e size bytes z)(v:Value)(b:v.cells.size=size)(n:size≤16777216)(w:World):
 (Instr.buildSlice t 1 #[(0,v)]).run P w=.ok (.slice (some ⟨w.heap.size,0,none⟩) 1 1) (w.alloc (.cells v.cells e)):=by
 obtain⟨i,V,f,g,o⟩:=a.V;have p:=a.uO;have h:¬size=0:=JY;have k:¬size>2^24:=by simp;omega
 have l:∀cs:Array Value,cs.size=size→v.cells.zipIdx.foldl (fun cs (c,j)=>cs.setIfInBounds (0+j) c) cs=v.cells:=by
  intro cs m;apply bg.1;have:=gD v.cells.toList 0 cs (by simp[m,b]);rw[←Array.foldl_toList,Array.toList_zipIdx];simpa using this
 have d:=l ((Array.range size).map (z.cells[·% z.cells.size]!)) (by simp);simp[Instr.buildSlice,run_underlying a.uG,sizeOf,zeroValue,typeInfo,V,g,f,k,h,Instr.fill,b,newRow,newObj];simp only[IC,Array.size_zipIdx,b]at d;rw[d];rfl
theorem IJ(c:AH N a f)(Ad:Nat.blt d N=true)(j:CO P t e size bytes z)(k:Aj f x=some v)(l:v.cells=cs)(i:cs.size=size)(m:size≤16777216)
 (h:∀b W,AH N b (Jb f d (.slice (some ⟨w.heap.size,0,none⟩) 1 1))→W.heap.size=w.heap.size+1→View W (.slice (some ⟨w.heap.size,0,none⟩) 1 1) 1 size cs.toList→Below w.heap.size w W→A5 b W):Dw P ⟨some d,.buildSlice t 1 #[(0,x)],ty,pos,An,g⟩ a w A5 Aa:=by
 subst l;refine F8 (v:=.slice (some ⟨w.heap.size,0,none⟩) 1 1) (w':=w.alloc (.cells v.cells e)) c Ad ?_ (fun b n=>h b _ n (by simp) (View.lit (by simpa using i) JZ) ((Cn _ _).alloc (Br _) _));have:(#[(0,x)]:Array (Nat×Operand)).map (fun p=>(p.1,a.eval p.2))=#[(0,v)]:=by simp[c.A_ k]
 simp only[execOp,Sem.run_bind,Sem.run_pure,this,RR j v i m w,Result.andThen_ok]
theorem Wk(k:AH N a f)(Ad:Nat.blt d N=true){b:Array (Nat×Operand)}{BH:List (Nat×Value)}(l:b.toList.map (fun p=>(p.1,Aj f p.2))=BH.map (fun p=>(p.1,some p.2)))(m:cs.size=n)(hm:n≤maxLen)
 (hr:(Instr.buildSlice t n BH.toArray).run P w=.ok (.slice (some ⟨w.heap.size,0,none⟩) n n) (w.alloc (.cells cs e)))
 (h:∀c W,AH N c (Jb f d (.slice (some ⟨w.heap.size,0,none⟩) n n))→W.heap.size=w.heap.size+1→View W (.slice (some ⟨w.heap.size,0,none⟩) n n) n 1 cs.toList→Below w.heap.size w W→A5 c W):Dw P ⟨some d,.buildSlice t n b,ty,pos,An,g⟩ a w A5 Aa:=by
 refine F8 (v:=.slice (some ⟨w.heap.size,0,none⟩) n n) (w':=w.alloc (.cells cs e)) k Ad ?_ (fun c o=>h c _ o (by simp) (View.lit (by simpa using m) hm) ((Cn _ _).alloc (Br _) _));have:b.map (fun p=>(p.1,a.eval p.2))=BH.toArray:=by
  apply bg.1;rw[PL];apply Q2;intro i;have:=congrArg (fun q=>q[i]?) l;simp only[ti]at this⊢;cases h1:b.toList[i]? with
  |none=>rw[h1]at this;cases j:BH[i]? with
   |none=>simp
   |some v=>rw[j]at this;cases this
  |some x=>rw[h1]at this;cases j:BH[i]? with
   |none=>rw[j]at this;cases this
   |some v=>
    rw[j]at this;simp only[Ph,Option.some.injEq,Prod.mk.injEq]at this;simp[this.1,k.A_ this.2]
 simp only[execOp,this,Sem.run_bind,hr,Result.andThen_ok,Sem.run_pure]
theorem Rj(c:AH N a f)(Ad:Nat.blt d N=true){Cf:FuncId}{fn:Func}(k:P.funcs[Cf]? =some fn)(l:(fn.name== "runtime.NumGoroutine")=false)(J:fn.body.isNone=false){xs:Array Operand}{sU:Array TypeId}{args:Array Value}(m:xs.toList.map (Aj f)=args.toList.map some)
 {R:Ending→World→Prop}(n:Calls P Cf args w R)(h:∀e W,R e W→∃v,e=.returned v∧∀j,AH N j (Jb f d v)→A5 j W):
 Dw P ⟨some d,.call {callee:=.value (.func Cf),args:=xs,argTypes:=sU},ty,pos,An,g⟩ a w A5 Aa:=by
 have o:xs.map a.eval=args:=by
  apply bg.1;rw[PL];apply Q2;intro i;have:=congrArg (fun q=>q[i]?) m;simp only[ti]at this⊢;cases h1:xs.toList[i]? with
  |none=>rw[h1]at this;cases b:args.toList[i]? with
   |none=>rfl
   |some v=>rw[b]at this;cases this
  |some x=>rw[h1]at this;cases b:args.toList[i]? with
   |none=>rw[b]at this;cases this
   |some v=>
    rw[b]at this;simp only[Ph,Option.some.injEq]at this⊢;exact c.A_ this
 refine⟨?_⟩;unfold Oper.wp;rw[execOp_call_go];have p:(callFunc Cf (#[]++xs.map a.eval++#[])).run P w=.ok (.enter Cf args) w:=by
  have r:¬fn.name= "runtime.NumGoroutine" :=by simpa using l
  have s:¬fn.body=none:=by intro q;rw[q]at J;cases J
  simp[callFunc,k,r,s,o]
 rw[p];refine n.mono (fun e W Df=>?_);obtain⟨v,rfl,t⟩:=h e W Df;exact t _ (c.put Ad v)
end
section
variable {P:Program} {w w':World} {ops:Array Oper} {rest:List Oper} {a:Act} {Aa:Exit→Act→World→Prop} {N:Nat} {f:BW} {d:Nat} {ty:TypeId} {pos:String} {An:Array Edge} {dst:Option Tmp} {g:Option (Nat×Bool)}
theorem Zr{id:Nat}{l:List Oper}(hm:P.follows .mixedOrders=true)(b:Region.lexB .any l.toArray=true)
 (h:∀W:World,W.heap.size=w.heap.size→Below w.heap.size w W→wpStill P l.toArray W (fun c=>Aa .normal c W) l a):(Code.region id l.toArray true).wp P Aa a w:=by
 refine wp_region_still hm b ?_;have:=h w.drew D (Cn _ _).drew;exact this
theorem YL{id:Nat}{l:List Oper}(n:Nat)(hm:P.follows .mixedOrders=true)(b:Region.lexTailB .any l.toArray n=true)
 (h:∀W:World,W.heap.size=w.heap.size→Below w.heap.size w W→wpStill P l.toArray W (fun c=>wpList P l.toArray Aa (l.drop n) c W) (l.take n) a):(Code.region id l.toArray true).wp P Aa a w:=
 wp_region_still_tail n hm b (h w.drew D (Cn _ _).drew)
theorem Yg{op:Op}(c:AH N a f)(Ad:Nat.blt d N=true)(hr:CD P a w ⟨some d,op,ty,pos,An,none⟩ v w)(h:∀b,AH N b (Jb f d v)→wpStill P ops w R rest b):
 wpStill P ops w R (⟨some d,op,ty,pos,An,none⟩::rest) a:=by
 unfold wpStill;rw[if_pos (show Region.wanted _ _=true from D)];unfold Oper.still;rw[hr,Oper.stillUpon_value];exact h _ (c.put Ad v)
theorem Gs{op:Op}(Ad:Nat.blt d N=true)(hr:∀a,AH N a f→CD P a w ⟨some d,op,ty,pos,An,none⟩ v w)(h:∀b,AH N b (Jb f d v)→wpStill P ops w R rest b):
 ∀a,AH N a f→wpStill P ops w R (⟨some d,op,ty,pos,An,none⟩::rest) a:=fun a c=>Yg c Ad (hr a c) h
theorem LP(h:R a):wpStill P ops w R [] a:=h
theorem pT{o:Oper}{t:Bool}(e:o.guard=some (j,!t)){Dk:Oper}(hj:ops[j]? =some Dk)(g:Dk.dst=some k)(b:AH N a f)(i:f k=some (.bool t))(Ad:o.dst=some d)(l:Nat.blt d N=true)
 (h:∀c,AH N c (Jb f d undef)→wpStill P ops w R rest c):wpStill P ops w R (o::rest) a:=by
 have hw:Region.wanted o (yielded ops a.tmps)=false:=by
  have:=L2 (b.h k _ i);cases t<;>simp[Region.wanted,e,yielded,hj,g,this]
 unfold wpStill;rw[if_neg (by rw[hw];decide),Ad];exact h _ (b.put l undef)
theorem Qr{id:Nat}{l:List Oper}(BK:World→Prop)(hm:P.follows .mixedOrders=true)(h:∀W:World,W.heap.size=w.heap.size→Below w.heap.size w W→wpAnyH P .any l.toArray Aa BK l.toArray.size (Array.replicate l.toArray.size false) a W):(Code.region id l.toArray true).wp P Aa a w:=
 wp_region_held hm (h w.drew D (Cn _ _).drew)
theorem Zq{op:Op}{Cy:Nat}(e:AH N a f)(Ad:Nat.blt d N=true)(V:ops[i]? =some ⟨some d,op,ty,pos,An,none⟩)(g:Cy=fuel+1)(j:Region.noSelect ops=true)(k:Region.free .any ops listed i=true)(hr:(Region.ready .any ops listed).contains i=true)
 (hQ:∀c (a:Act) w,Aa (.panic c) (a.put (some d) v) w→Aa (.panic c) a w)(l:∀W,BK W→CD P a W ⟨some d,op,ty,pos,An,none⟩ v W)(m:BK w)
 (h:∀b,AH N b (Jb f d v)→wpAnyH P .any ops Aa BK fuel (listed.setIfInBounds i true) b w):wpAnyH P .any ops Aa BK Cy listed a w:=by
 subst g;exact wpAnyH_take V j k hr hQ (.inl ⟨D,l⟩) m (h _ (e.put Ad v))
theorem WT{Cy:Nat}{o:Oper}(V:ops[i]? =some o)(b:o.guard=none)(c:Cy=fuel+1)(hr:Region.ready .any ops listed=[i])
 (h:∀A5:Act→World→Prop,(∀a w,BK w→wpAnyH P .any ops Aa BK fuel (listed.setIfInBounds i true) a w→A5 a w)→Dw P o a w A5 Aa):wpAnyH P .any ops Aa BK Cy listed a w:=by
 subst c;refine wpAnyH_ready hr (by simp) (AllReadyH.cons V (fun A5 d=>?_) AllReadyH.nil);rw[if_pos (by simp[Region.wanted,b])];exact(h A5 (fun a w e hw=>d.out a w e (fun _=>hw))).out
theorem cD{Cy:Nat}{o o':Oper}(V:ops[i]? =some o)(d:o.guard=none)(hj:ops[j]? =some o')(e:o'.guard=none)(f:Cy=fuel+1)(hr:Region.ready .any ops listed=[i,j])
 (h:∀A5:Act→World→Prop,(∀a w,BK w→wpAnyH P .any ops Aa BK fuel (listed.setIfInBounds i true) a w→A5 a w)→Dw P o a w A5 Aa)
 (g:∀A5:Act→World→Prop,(∀a w,BK w→wpAnyH P .any ops Aa BK fuel (listed.setIfInBounds j true) a w→A5 a w)→Dw P o' a w A5 Aa):wpAnyH P .any ops Aa BK Cy listed a w:=by
 subst f;refine wpAnyH_ready hr (by simp) (AllReadyH.cons V (fun A5 b=>?_) (AllReadyH.cons hj (fun A5 b=>?_) AllReadyH.nil))
 ·rw[if_pos (by simp[Region.wanted,d])];exact(h A5 (fun a w c hw=>b.out a w c (fun _=>hw))).out
 ·rw[if_pos (by simp[Region.wanted,e])];exact(g A5 (fun a w c hw=>b.out a w c (fun _=>hw))).out
theorem XO(hr:Region.ready .any ops listed=[])(h:Aa .normal a w):wpAnyH P .any ops Aa BK fuel listed a w:=wpAnyH_done hr h fuel
end
