/- Laws and walks on the road to SalvagePlays (part M02). No conditions beyond each law's own. -/
import Derived.KernelRfl
import Derived.Laws.BitsAllLaws
import Derived.Deep.RegionHeld
import Derived.Test.YtjdboncaegphmaaGreatDoorM01
set_option linter.unusedVariables false
namespace Go.Proofs.YtjdboncaegphmaaGreatDoor.At
def L5:Nat:=3988292384
def step(r:Nat):Nat:=if r % 2=1 then(r/2)^^^L5 else r/2
def steps:Nat→Nat→Nat
 |0,r=>r
 |n+1,r=>steps n (step r)
theorem ZP(a b:Nat):(a^^^b) % 2=(a % 2+b % 2) % 2:=by
 have h:=la (a:=a) (b:=b) (n:=1);rw[lN]at h;rw[h]
 rcases jZ a with c|c<;>rcases jZ b with J|J<;>rw[c,J]<;>rfl
theorem Xu(a b:Nat):(a^^^b)/2=a/2^^^b/2:=by
 have h:=mL (a:=a) (b:=b) (n:=1)
 rwa[lN]at h
theorem Yl(a b:Nat):step (a^^^b)=step a^^^step b:=by
 unfold step;rw[ZP,Xu]
 rcases jZ a with c|c<;>rcases jZ b with J|J<;>simp only[c,J]<;>simp
 ·exact(au _ _ _)
 ·rw[au,au,cA (b/2) L5]
 ·rw[au,cA L5,au,j5,b']
theorem N1(n:Nat):∀a b,steps n (a^^^b)=steps n a^^^steps n b:=by
 induction n with
 |zero=>intro a b;rfl
 |succ n c=>intro a b;simp only[steps,Yl,c]
theorem T'(m n:Nat):∀r,steps (m+n) r=steps n (steps m r):=by
 induction m with
 |zero=>intro r;simp[steps]
 |succ m a=>intro r;rw[Nat.succ_add];simp only[steps,a]
theorem VP{r:Nat}(h:r<4294967296):step r<4294967296:=by
 unfold step;split
 ·exact Mx (n:=32) JY JZ
 ·omega
theorem Yz(n:Nat):∀ {r:Nat},r<4294967296→steps n r<4294967296:=by
 induction n with
 |zero=>intro r h;exact h
 |succ n a=>intro r h;exact a (VP h)
theorem ZI:step 0=0:=rfl
theorem aC(n:Nat):steps n 0=0:=by
 induction n with
 |zero=>rfl
 |succ n a=>simpa[steps,ZI]using a
def Ih:List Nat:=[0,498536548,997073096,651767980,1994146192,1802195444,1303535960,1342533948,3988292384,4027552580,3604390888,3412177804,2607071920,2262029012,2685067896,3183342108]
theorem hk(r:Nat):r=(16*(r/16))^^^(r % 16):=by
 have h1:((16*(r/16))^^^(r % 16))/16=r/16:=by
  have:=mL (a:=16*(r/16)) (b:=r % 16) (n:=4);rw[show(2:Nat)^4=16 from D]at this;rw[this,Nat.mul_div_cancel_left _ JZ,QA (hJ _ JZ),b']
 have c:((16*(r/16))^^^(r % 16)) % 16=r % 16:=by
  have:=la (a:=16*(r/16)) (b:=r % 16) (n:=4);rw[show(2:Nat)^4=16 from D]at this;rw[this,Nat.mul_mod_right,mx,Nat.mod_mod]
 omega
theorem aF(q:Nat):step (2*q)=q:=by unfold step;simp
theorem ZW(q:Nat):steps 4 (16*q)=q:=by
 rw[show 16*q=2*(2*(2*(2*q)))by omega];simp only[steps,aF]
theorem dg:∀k,k<16→steps 4 k=Ih.getD k 0:=JZ
theorem Wa(r:Nat):Ih.getD (r % 16) 0^^^r/16=steps 4 r:=by
 conv=>rhs;rw[hk r]
 rw[N1,ZW,dg _ (hJ _ JZ),cA]
theorem cj(r:Nat):Ih.getD ((Ih.getD (r % 16) 0^^^r/16) % 16) 0^^^(Ih.getD (r % 16) 0^^^r/16)/16=steps 8 r:=by
 rw[Wa r,Wa (steps 4 r),←T']
def feed(r:Nat)(l:rG):Nat:=l.foldl (fun r x=>steps 8 (r^^^x.toNat)) r
theorem PG(r:Nat):feed r []=r:=rfl
theorem MR(r:Nat)(x:UInt8)(l:rG):feed r (x::l)=feed (steps 8 (r^^^x.toNat)) l:=rfl
theorem c3(r:Nat)(l m:rG):feed r (l++m)=feed (feed r l) m:=by unfold feed;rw[Zz]
theorem Lq(x:UInt8):x.toNat<4294967296:=by have:=x.toNat_lt;omega
theorem OI(l:rG):∀ {r:Nat},r<4294967296→feed r l<4294967296:=by
 induction l with
 |nil=>intro r h;exact h
 |cons x l a=>intro r h;rw[MR];exact a (Yz 8 (Mx (n:=32) h (Lq x)))
theorem cH(r:Nat)(l:rG)(k:Nat)(h:k<l.length):feed r (l.take (k+1))=steps 8 (feed r (l.take k)^^^l[k].toNat):=by
 rw[kn h,c3];rfl
def inv(r:Nat):Nat:=4294967295 - r
theorem ON{r:Nat}(h:r<4294967296):inv r=r^^^4294967295:=by
 have h1:BitVec.toNat (~~~(BitVec.ofNat 32 r))=inv r:=by
  rw[BitVec.toNat_not,BitVec.toNat_ofNat,s_ JY];unfold inv;omega
 rw[←h1,←BitVec.xor_allOnes,BitVec.toNat_xor,BitVec.toNat_ofNat,s_ JY,BitVec.toNat_allOnes]
theorem O3(r:Nat):inv r<4294967296:=by unfold inv;omega
def update(c:Nat)(l:rG):Nat:=inv (feed (inv c) l)
def sum(l:rG):Nat:=update 0 l
theorem G7(l:rG):sum l<4294967296:=O3 _
end Go.Proofs.YtjdboncaegphmaaGreatDoor.At
namespace Go.Proofs.YtjdboncaegphmaaGreatDoor
open Go.RowKit
set_option maxRecDepth 100000
set_option maxHeartbeats 2000000
variable {x y:Operand} {t u e:TypeId} {k:IntKind} {v:Value} {p n b off size i:Nat} {q r:Int} {fn:Func} {R:Ending→World→Prop} {op:Op}
theorem View.max{w:World}{xs:List Value}(h:View w v n size xs):n≤9223372036854775807:=by
 rcases h.2 with⟨_,h1,_⟩|⟨b,off,cap,_,_,h1,a,_⟩
 ·omega
 ·unfold maxLen at a;omega
theorem View.cap{w:World}{q:Option Addr}{c m:Nat}{xs:List Value}(h:View w (.slice q n c) m size xs):n=m∧n≤c∧c≤9223372036854775807:=by
 rcases h.2 with⟨a,h1,_⟩|⟨b,off,cap,a,_,h1,d,_⟩
 ·simp only[Value.slice.injEq]at a;omega
 ·simp only[Value.slice.injEq]at a;unfold maxLen at d;omega
section
variable {P:Program} {w:World} {ops:Array Oper} {rest:List Oper} {o:Oper} {a:Act} {Aa:Exit→Act→World→Prop}
theorem bin(hw:Region.wanted o (yielded ops a.tmps)=true)(op:BinOp)(t u:TypeId)(x y:Operand)(ho:o.op=.binOp op t x y u){p q:Value}(b:a.eval x=p)(c:a.eval y=q)
 (d:(eqGuard op t x y p q).run P w=.ok () w)(hr:(binOp op t p q).run P w=.ok v w)(h:wpList P ops Aa rest (a.put o.dst v) w):wpList P ops Aa (o::rest) a w:=by
 refine val hw (v:=v) (w':=w) ?_ h;unfold execOp;simp only[ho,b,c];simp[d,hr]
theorem LW(hw:Region.wanted o (yielded ops a.tmps)=true)(ho:o.op=.binOp .xor t x y u){q:Nat}(b:a.eval x=.int .u32 p)(c:a.eval y=.int .u32 q)(d:p<4294967296)(f:q<4294967296)
 (r:Nat)(hr:p^^^q=r)(h:wpList P ops Aa rest (a.put o.dst (.int .u32 r)) w):wpList P ops Aa (o::rest) a w:=by
 subst hr;refine bin hw .xor t u x y ho b c (by simp[eqGuard]) ?_ h;have:=u32_xor_nat p q d f;unfold binOp;simp only[ne_eq,not_true_eq_false,if_false];show(Op.intBits .xor .u32 p q).run P w=_;simp only[Op.intBits];have e:bits .xor .u32 (p:Int) (q:Int)=_:=this;unfold bits at e;simp only at e;rw[Sem.run_pure,e]
theorem UL(hw:Region.wanted o (yielded ops a.tmps)=true)(ho:o.op=.binOp .and t x y u)(n:Nat)(b:a.eval x=.int .u32 p)(c:a.eval y=.int .u32 ((2^n - 1:Nat):Int))(d:p<4294967296)(f:n≤32)
 (r:Nat)(hr:p % 2^n=r)(h:wpList P ops Aa rest (a.put o.dst (.int .u32 r)) w):wpList P ops Aa (o::rest) a w:=by
 subst hr;refine bin hw .and t u x y ho b c (by simp[eqGuard]) ?_ h;have g:2^n - 1<4294967296:=by
  have:=aI (n:=2) JZ f;have:=jn n;omega
 have:=u32_and_nat p (2^n - 1) d g;rw[Vy]at this;unfold binOp;simp only[ne_eq,not_true_eq_false,if_false];show(Op.intBits .and .u32 p ((2^n - 1:Nat):Int)).run P w=_;simp only[Op.intBits];have e:bits .and .u32 (p:Int) ((2^n - 1:Nat):Int)=_:=this;unfold bits at e;simp only at e;rw[Sem.run_pure,e]
theorem Va(hw:Region.wanted o (yielded ops a.tmps)=true)(ho:o.op=.binOp .shr t x y u)(b:a.eval x=.int .u32 p)(c:a.eval y=.int k n)(d:n≤32)
 (r:Nat)(hr:p/2^n=r)(h:wpList P ops Aa rest (a.put o.dst (.int .u32 r)) w):wpList P ops Aa (o::rest) a w:=by
 subst hr;refine bin hw .shr t u x y ho b c (by simp[eqGuard]) ?_ h;unfold binOp;simp only;rw[shift_shr_any _ _ _ _ JY,Sem.run_pure];have:min (n:Int).toNat IntKind.u32.bits=n:=by simp[IntKind.bits];omega
 rw[this]
 congr 2
theorem V0(hw:Region.wanted o (yielded ops a.tmps)=true)(ho:o.op=.unOp .xor t x)(c:a.eval x=.int .u32 p)(b:p<4294967296)
 (r:Nat)(hr:At.inv p=r)(h:wpList P ops Aa rest (a.put o.dst (.int .u32 r)) w):wpList P ops Aa (o::rest) a w:=by
 subst hr;refine val hw (v:=.int .u32 ((At.inv p:Nat):Int)) (w':=w) ?_ h;unfold execOp;simp only[ho,c];have e:bits .xor .u32 ((4294967295:Nat):Int) (p:Int)=_:=u32_xor_nat 4294967295 p JZ b;rw[cA,←At.ON b]at e;have d:(Op.unary .xor (.int .u32 p)).run P w=.ok (.int .u32 ((At.inv p:Nat):Int)) w:=by
  show(Op.intBits .xor .u32 ((4294967295:Nat):Int) p).run P w=_;simp only[Op.intBits];unfold bits at e;simp only at e;rw[Sem.run_pure,e]
 simp only[Sem.run_bind,d,Result.andThen_ok,Sem.run_pure]
theorem T8(a:P.underlying t=some (.array n e))(q:Option Addr)(m c:Nat)(h:n≤m)(w:World):(Instr.arrayAt t (.slice q m c)).run P w=.ok (.pointer q) w:=by
 simp[Instr.arrayAt,run_underlying a,Nat.not_lt.2 h]
theorem View.some{w:World}{q:Option Addr}{c:Nat}{xs:List Value}(h:View w (.slice q n c) n size xs)(f:0<n):∃b off,q=Option.some ⟨b,off,none⟩∧b<w.heap.size∧Cells w b off xs:=by
 rcases h.2 with⟨a,h1,_⟩|⟨b,off,cap,a,_,_,_,d,e⟩
 ·omega
 ·simp only[Value.slice.injEq]at a;exact⟨b,off,a.1,d,e⟩
theorem WI(hw:Region.wanted o (yielded ops a.tmps)=true)(ho:o.op=.binOp .shl t x y u){i:Int}(c:a.eval x=.int .u32 p)(d:a.eval y=.int k i)(V:i=(n:Int))(f:n≤32)(e:p*2^n<4294967296)
 (r:Nat)(hr:p*2^n=r)(h:wpList P ops Aa rest (a.put o.dst (.int .u32 r)) w):wpList P ops Aa (o::rest) a w:=by
 subst hr;subst V;refine bin hw .shl t u x y ho c d (by simp[eqGuard]) ?_ h;unfold binOp;simp only;rw[shift_shl_any _ _ _ _ JY,Sem.run_pure];have:min (n:Int).toNat IntKind.u32.bits=n:=by simp[IntKind.bits];omega
 have b:∀q:Nat,q<4294967296→IntKind.u32.wrap (q:Int)=q:=fun q b=>by rw[IntKind.wrap_u32'];omega
 rw[this,show((p:Int)*2^n)=((p*2^n:Nat):Int)by simp,b _ e]
theorem W7(hw:Region.wanted o (yielded ops a.tmps)=true)(ho:o.op=.binOp .or t x y u){q:Nat}(b:a.eval x=.int .u32 p)(c:a.eval y=.int .u32 q)(d:p<4294967296)(f:q<4294967296)
 (r:Nat)(hr:p|||q=r)(h:wpList P ops Aa rest (a.put o.dst (.int .u32 r)) w):wpList P ops Aa (o::rest) a w:=by
 subst hr;refine bin hw .or t u x y ho b c (by simp[eqGuard]) ?_ h;have:=u32_or_nat p q d f;unfold binOp;simp only[ne_eq,not_true_eq_false,if_false];show(Op.intBits .or .u32 p q).run P w=_;simp only[Op.intBits];have e:bits .or .u32 (p:Int) (q:Int)=_:=this;unfold bits at e;simp only at e;rw[Sem.run_pure,e]
theorem ZN(hw:Region.wanted o (yielded ops a.tmps)=true)(ho:o.op=.binOp .shl t x y u){k:Nat}(b:a.eval x=.int .u8 1)(c:a.eval y=.int .i64 k)(d:k<8)
 (r:Nat)(hr:2^k=r)(h:wpList P ops Aa rest (a.put o.dst (.int .u8 r)) w):wpList P ops Aa (o::rest) a w:=by
 subst hr;refine bin hw .shl t u x y ho b c (by simp[eqGuard]) ?_ h
 match k,d with
 |0,_=>rfl
 |1,_=>rfl
 |2,_=>rfl
 |3,_=>rfl
 |4,_=>rfl
 |5,_=>rfl
 |6,_=>rfl
 |7,_=>rfl
theorem HK(hw:Region.wanted o (yielded ops a.tmps)=true)(ho:o.op=.buildSlice t 1 #[(0,x)])(b:a.eval x=v)
 (c:(Instr.buildSlice t 1 #[(0,v)]).run P w=.ok (.slice (some ⟨w.heap.size,0,none⟩) 1 1) (w.alloc (.cells #[v] e)))
 (h:∀W,W.heap.size=w.heap.size+1→W.heap[w.heap.size]? =some (.cells #[v] e (0,0))→Below w.heap.size w W→wpList P ops Aa rest (a.put o.dst (.slice (some ⟨w.heap.size,0,none⟩) 1 1)) W):wpList P ops Aa (o::rest) a w:=by
 refine val hw (v:=.slice (some ⟨w.heap.size,0,none⟩) 1 1) (w':=w.alloc (.cells #[v] e)) ?_ (h _ (by simp) (heap_alloc_new w _) ((Cn _ _).alloc (Br _) _));unfold execOp;simp only[ho];have:(#[(0,x)]:Array (Nat×Operand)).map (fun p=>(p.1,a.eval p.2))=#[(0,v)]:=by simp[b]
 simp only[Sem.run_bind,Sem.run_pure,this,c,Result.andThen_ok]
theorem f'(d:P.underlying t=some (.array n e))(b:(P.info? e).map (·.size)=some 1)(f:(isAgg e).run P w=.ok false w)(hw:Region.wanted o (yielded ops a.tmps)=true)(x BI:Operand)
 (ho:o.op=.index t x BI){xs:Array Value}(g:a.eval x=.agg xs){i:Int}(V:a.eval BI=.int k i)(j:Nat)(hj:i=j)(h:j<n)(v:Value)(l:xs[j]? =some v)
 (m:wpList P ops Aa rest (a.put o.dst v) w):wpList P ops Aa (o::rest) a w:=by
 subst hj;refine val hw (v:=v) (w':=w) ?_ m;unfold execOp;simp only[ho,g,V];cases c:P.info? e with
 |none=>simp[c]at b
 |some q=>
  simp[c]at b;simp[Instr.index,run_underlying d,asIntOf,sizeOf,typeInfo,c,b,h,part,f,l]
theorem Ri(f:P.underlying t=some (.array n e))(c:(P.info? e).map (·.size)=some size)(hw:Region.wanted o (yielded ops a.tmps)=true)(x BI:Operand)
 (ho:o.op=.indexAddr t x BI)(g:a.eval x=.pointer (some ⟨b,off,none⟩)){i:Int}(V:a.eval BI=.int k i)(j:Nat)(hj:i=j)(h:j<n)
 (l:wpList P ops Aa rest (a.put o.dst (.pointer (some ⟨b,off+j*size,none⟩))) w):wpList P ops Aa (o::rest) a w:=by
 subst hj;refine val hw (v:=.pointer (some ⟨b,off+j*size,none⟩)) (w':=w) ?_ l;unfold execOp;simp only[ho,g,V];cases d:P.info? e with
 |none=>simp[d]at c
 |some q=>
  simp[d]at c;simp[Instr.indexAt,Instr.sureAddr,run_underlying f,asIntOf,sizeOf,typeInfo,d,c,h,F6]
end
def BW:=Nat→Option Value
def Jk:BW:=fun _=>none
def Jb(f:BW)(d:Nat)(v:Value):BW:=fun k=>cond (Nat.beq d k) (some v) (f k)
def JW(l:List Value):BW:=fun k=>l[k]?
structure AH (N:Nat) (a:Act) (f:BW):Prop where
 d:a.defers=[]
 n:a.tmps.size=N
 h:∀k v,f k=some v→a.tmps.getD k undef=v
def Sub(f g:BW):Prop:=∀k v,g k=some v→f k=some v
theorem Sub.Jk(f:BW):Sub f Jk:=fun _ _ h=>by cases h
theorem RK(f:BW)(d:Nat)(v:Value):Jb f d v d=some v:=by simp[Jb]
theorem SG(f:BW){d k:Nat}(v:Value)(h:d≠k):Jb f d v k=f k:=by
 unfold Jb;cases J:Nat.beq d k with
 |false=>rfl
 |true=>exact absurd (Nat.eq_of_beq_eq_true J) h
theorem Sub.Jb{f g:BW}(b:Sub f g){d:Nat}(h:f d=some v):Sub f (Jb g d v):=by
 intro k u a
 by_cases e:d=k
 ·subst e;rw[RK]at a;rw[←a];exact h
 ·rw[SG _ _ e]at a;exact b k u a
theorem AH.sub{N:Nat}{a:Act}{f g:BW}(b:AH N a f)(h:Sub f g):AH N a g:=⟨b.d,b.n,fun k v c=>b.h k v (h k v c)⟩
theorem aS(t:Array Value)(d k:Nat)(v:Value)(Ad:d<t.size):(t.setIfInBounds d v).getD k undef=if k=d then v else t.getD k undef:=by
 simp only[M_,bj]
 by_cases h:k=d
 ·subst h;simp[Ad]
 ·rw[if_neg (Ne.symm h),if_neg h]
theorem AH.put{N:Nat}{a:Act}{f:BW}(b:AH N a f){d:Nat}(Ad:Nat.blt d N=true)(v:Value):AH N (a.put (some d) v) (Jb f d v):=by
 have g:d<a.tmps.size:=by
  rw[b.n];have:=ZG Ad;omega
 refine⟨b.d,by simp[Act.put,b.n],fun k u c=>?_⟩;show(a.tmps.setIfInBounds d v).getD k undef=u;rw[aS _ _ _ _ g]
 by_cases e:d=k
 ·subst e;rw[RK]at c;simpa using c
 ·rw[SG _ _ e]at c;rw[if_neg (Ne.symm e)];exact b.h k u c
theorem AH.VA{N:Nat}{a:Act}{f:BW}(b:AH N a f)(v:Value):AH N (a.put none v) f:=b
theorem AH.RF{N:Nat}{a:Act}{f:BW}(b:AH N a f)(d:Nat){u:Value}(h:f d=some v)(e:v=u):AH N a (Jb f d u):=by
 refine⟨b.d,b.n,fun k x c=>?_⟩
 by_cases q:d=k
 ·subst q;rw[RK]at c;subst e;cases c;exact b.h _ _ h
 ·rw[SG _ _ q]at c;exact b.h k x c
def Aj(f:BW):Operand→Option Value
 |.tmp t=>f t
 |.const v=>some v
 |.global g=>some (.pointer (some ⟨g,0,none⟩))
 |.func g=>some (.func (.func g) #[] #[])
theorem AH.A_{N:Nat}{a:Act}{f:BW}(b:AH N a f)(h:Aj f x=some v):a.eval x=v:=by
 cases x with
 |tmp t=>exact b.h t v h
 |const u=>cases h;rfl
 |global g=>cases h;rfl
 |func g=>cases h;rfl
section
variable {P:Program} {w w':World} {ops:Array Oper} {rest:List Oper} {a:Act} {Aa:Exit→Act→World→Prop} {N:Nat} {f:BW} {d:Nat} {ty:TypeId} {pos:String} {An:Array Edge} {dst:Option Tmp} {g:Option (Nat×Bool)}
theorem Ti{F:FuncId}{c:Code}{args:Array Value}(d:P.funcs[F]? =some fn)(J:fn.body=some c)(N:Nat)(e:args.size+(fn.ntmps - args.size)=N)
 (h:∀a,AH N a (JW args.toList)→c.wp P (bodyPost P fn R) a w):Calls P F args w R:=by
 refine calls_of_wp d J (h _ ⟨D,by simpa using e,fun k v b=>?_⟩);unfold JW at b;simp only[M_];rw[Array.getElem?_append];have f:k<args.size:=by
  rcases s9 k args.size with q|q
  ·exact q
  ·rw[S6 (by simpa using q)]at b;cases b
 rw[if_pos f];rw[lb]at b;rw[b];rfl
theorem T2(h:Aa .normal a w):Exit.inBlock i Aa (.exit i) a w:=by show(if i=i then _ else _);rw[if_pos D];exact h
theorem WJ{j:Nat}(b:Nat.beq j i=false)(h:Aa (.exit j) a w):Exit.inBlock i Aa (.exit j) a w:=by
 show(if j=i then _ else _);rw[if_neg (fun e=>by rw[e,Nat.beq_refl]at b;cases b)];exact h
theorem Xh(b:AH N a f){t:Nat}(hr:fn.results=#[.tmp t])(c:f t=some v)(h:R (.returned v) w):bodyPost P fn R .ret a w:=
 ⟨b.d,v,by rw[results_tmp hr,b.h t v c],h⟩
theorem a9(b:AH N a f){t u:Nat}(hr:fn.results=#[.tmp t,.tmp u]){BA:Value}(c:f t=some v)(hu:f u=some BA)(h:R (.returned (.tuple #[v,BA])) w):bodyPost P fn R .ret a w:=
 ⟨b.d,.tuple #[v,BA],by rw[results_tmp2 hr,b.h t v c,b.h u BA hu],h⟩
theorem Yt(b:AH N a f)(hr:fn.results=#[])(h:R (.returned (.tuple #[])) w):bodyPost P fn R .ret a w:=
 ⟨b.d,.tuple #[],by rw[results_none hr],h⟩
theorem bf(h:bodyPost P fn R .ret a w):bodyPost P fn R .normal a w:=h
theorem ZD(c:AH N a f){t:Nat}{T:TypeId}(hr:fn.results=#[.cell t T])(e:f t=some (.pointer (some ⟨b,off,none⟩)))(xs:List Value)(g:Cells w b off xs)
 {BB:TypeDesc}(hu:P.underlying T=some BB)(Ad:BB.isRow=true)(V:(P.info? T).map (·.size)=some xs.length)(h:R (.returned (.agg xs.toArray)) w):bodyPost P fn R .ret a w:=by
 refine⟨c.d,.agg xs.toArray,?_,h⟩;have hl:=run_loadAt_mid (P:=P) w b off T xs BB g hu Ad V;have he:=c.h t _ e;have i:(loadVar T ⟨b,off,none⟩).run P w=.ok (.agg xs.toArray) w:=by simpa[Instr.loadAt,Instr.sureAddr]using hl
 rw[M_]at he;simp[results,hr,he,asAddr,i]
theorem fc(c:AH N a f){t u:Nat}{T:TypeId}(hr:fn.results=#[.cell t T,.tmp u]){BA:Value}(g:f t=some (.pointer (some ⟨b,off,none⟩)))(i:f u=some BA)(xs:List Value)(j:Cells w b off xs)
 {BB:TypeDesc}(hu:P.underlying T=some BB)(Ad:BB.isRow=true)(V:(P.info? T).map (·.size)=some xs.length)(h:R (.returned (.tuple #[.agg xs.toArray,BA])) w):bodyPost P fn R .ret a w:=by
 refine⟨c.d,.tuple #[.agg xs.toArray,BA],?_,h⟩;have hl:=run_loadAt_mid (P:=P) w b off T xs BB j hu Ad V;have he:=c.h t _ g;have e:=c.h u _ i;have k:(loadVar T ⟨b,off,none⟩).run P w=.ok (.agg xs.toArray) w:=by simpa[Instr.loadAt,Instr.sureAddr]using hl
 rw[M_]at he e;simp[results,hr,he,e,asAddr,k]
theorem hG(c:AH N a f){t u:Nat}{T:TypeId}(hr:fn.results=#[.tmp u,.cell t T]){BA:Value}(g:f t=some (.pointer (some ⟨b,off,none⟩)))(i:f u=some BA)(xs:List Value)(j:Cells w b off xs)
 {BB:TypeDesc}(hu:P.underlying T=some BB)(Ad:BB.isRow=true)(V:(P.info? T).map (·.size)=some xs.length)(h:R (.returned (.tuple #[BA,.agg xs.toArray])) w):bodyPost P fn R .ret a w:=by
 refine⟨c.d,.tuple #[BA,.agg xs.toArray],?_,h⟩;have hl:=run_loadAt_mid (P:=P) w b off T xs BB j hu Ad V;have he:=c.h t _ g;have e:=c.h u _ i;have k:(loadVar T ⟨b,off,none⟩).run P w=.ok (.agg xs.toArray) w:=by simpa[Instr.loadAt,Instr.sureAddr]using hl
 rw[M_]at he e;simp[results,hr,he,e,asAddr,k]
theorem Ec{c:Code}(j:Nat→Act→World→Prop)(p:Nat)(s:j p a w)
 (round:∀n a w,j n a w→c.wp P (Exit.then (fun d w'=>∃m,m<n∧j m d w') Aa) a w):(Code.loop c).wp P Aa a w:=by
 intro b k cs;have key:∀n a w,j n a w→∃e d w',Aa e d w'∧Arrives P (lone (b.at a (.code c:: .inLoop c::k)) cs w) b k cs e d w':=by
  intro n
  induction n using Nat.strongRecOn with
  |_ n t=>
   intro a w u;obtain⟨e,f,g,h,i⟩:=round n a w u b (.inLoop c::k) cs;cases e with
   |normal=>
    obtain⟨m,v,x⟩:=h;obtain⟨y,z,A,B,C⟩:=t m v f g x;exact⟨y,z,A,B,.of_steps (Steps.trans i (.one step_inLoop)) C⟩
   |exit id=>exact⟨.exit id,f,g,h,fun k' o=>i k' (by simp[exitTo,o])⟩
   |goto l=>exact⟨.goto l,f,g,h,fun k' o=>i k' (by simp[gotoIn,o])⟩
   |ret=>exact⟨.ret,f,g,h,i⟩
   |panic ch=>exact⟨.panic ch,f,g,h,i⟩
   |outgrown=>exact⟨.outgrown,f,g,h,i⟩
 obtain⟨e,d,w',q,r⟩:=key p a w s;exact⟨e,d,w',q,.of_steps (.one step_loop) r⟩
end
section
variable {P:Program} {w w':World} {ops:Array Oper} {rest:List Oper} {a:Act} {Aa:Exit→Act→World→Prop} {N:Nat} {f:BW} {d:Nat} {ty:TypeId} {pos:String} {An:Array Edge} {dst:Option Tmp} {g:Option (Nat×Bool)}
structure Dw (P:Program) (o:Oper) (a:Act) (w:World) (A5:Act→World→Prop) (Aa:Exit→Act→World→Prop):Prop where
 out:o.wp P a w A5 Aa
theorem Zo(c:AH N a f)(Ad:Nat.blt d N=true)(hr:(execOp a.eval ⟨some d,op,ty,pos,An,none⟩).run P w=.ok (.value v) w')
 (h:∀b,AH N b (Jb f d v)→wpList P ops Aa rest b w'):wpList P ops Aa (⟨some d,op,ty,pos,An,none⟩::rest) a w:=
 val D hr (h _ (c.put Ad v))
theorem Ep(Ad:Nat.blt d N=true)(hr:∀a,AH N a f→(execOp a.eval ⟨some d,op,ty,pos,An,none⟩).run P w=.ok (.value v) w')
 (h:∀b,AH N b (Jb f d v)→wpList P ops Aa rest b w'):∀a,AH N a f→wpList P ops Aa (⟨some d,op,ty,pos,An,none⟩::rest) a w:=
 fun a c=>Zo c Ad (hr a c) h
theorem Cp{o:Oper}(b:o.guard=none)(h:∀A5:Act→World→Prop,(∀a w,wpList P ops Aa rest a w→A5 a w)→Dw P o a w A5 Aa):wpList P ops Aa (o::rest) a w:=wpList_plain b (fun A5 c=>(h A5 c).out)
theorem F8{A5:Act→World→Prop}(c:AH N a f)(Ad:Nat.blt d N=true)(hr:(execOp a.eval ⟨some d,op,ty,pos,An,g⟩).run P w=.ok (.value v) w')
 (h:∀b,AH N b (Jb f d v)→A5 b w'):Dw P ⟨some d,op,ty,pos,An,g⟩ a w A5 Aa:=by
 refine⟨?_⟩;unfold Oper.wp;rw[hr];exact h _ (c.put Ad v)
theorem Pg{A5:Act→World→Prop}(c:AH N a f)(hr:(execOp a.eval ⟨none,op,ty,pos,An,g⟩).run P w=.ok .skip w')
 (h:∀b,AH N b f→A5 b w'):Dw P ⟨none,op,ty,pos,An,g⟩ a w A5 Aa:=by
 refine⟨?_⟩;unfold Oper.wp;rw[hr];exact h _ (c.VA undef)
theorem L2{t:Array Value}{k:Nat}{b:Bool}(h:t.getD k undef=.bool b):t[k]? =some (.bool b):=by
 rw[M_]at h;cases a:t[k]? with
 |none=>rw[a]at h;simp[undef]at h
 |some u=>rw[a]at h;simp at h;rw[h]
theorem cB{o:Oper}{j:Nat}{t:Bool}(e:o.guard=some (j,!t)){Dk:Oper}(hj:ops[j]? =some Dk){k:Nat}(g:Dk.dst=some k)(b:AH N a f)(i:f k=some (.bool t))(Ad:o.dst=some d)(l:Nat.blt d N=true)
 (h:∀c,AH N c (Jb f d undef)→wpList P ops Aa rest c w):wpList P ops Aa (o::rest) a w:=by
 have hw:Region.wanted o (yielded ops a.tmps)=false:=by
  have:=L2 (b.h k _ i);cases t<;>simp[Region.wanted,e,yielded,hj,g,this]
 unfold wpList;rw[if_neg (by rw[hw];decide),Ad];exact h _ (b.put l undef)
theorem XL{t:Array Value}{k:Nat}(h:t.getD k undef=undef):∀b,t[k]? ≠some (.bool b):=by
 intro b J;rw[M_,J]at h;simp[undef]at h
theorem fE{o:Oper}{j:Nat}{t:Bool}(g:o.guard=some (j,t)){Dk:Oper}(hj:ops[j]? =some Dk){k:Nat}(i:Dk.dst=some k)(c:AH N a f)(l:f k=some undef)(Ad:o.dst=some d)(m:Nat.blt d N=true)
 (h:∀e,AH N e (Jb f d undef)→wpList P ops Aa rest e w):wpList P ops Aa (o::rest) a w:=by
 have hw:Region.wanted o (yielded ops a.tmps)=false:=by
  have:=XL (c.h k _ l);simp only[Region.wanted,g,yielded,hj,i,s3];cases n:a.tmps[k]? with
  |none=>rfl
  |some u=>cases u<;>first|rfl|(rename_i b;exact absurd n (this b))
 unfold wpList;rw[if_neg (by rw[hw];decide),Ad];exact h _ (c.put m undef)
abbrev CD(P:Program)(a:Act)(w:World)(o:Oper)(v:Value)(w':World):Prop:=(execOp a.eval o).run P w=.ok (.value v) w'
theorem Qz(b:AH N a f)(c:Aj f x=some v):CD P a w ⟨dst,.move x,ty,pos,An,g⟩ v w:=by
 show(execOp a.eval _).run P w=_;simp[execOp,b.A_ c]
theorem Pw(b:AH N a f)(c:Aj f x=some v):CD P a w ⟨dst,.assign x,ty,pos,An,g⟩ v w:=by
 show(execOp a.eval _).run P w=_;simp[execOp,b.A_ c]
theorem S4(b:AH N a f){p:Addr}(c:Aj f x=some (.pointer (some p))):CD P a w ⟨dst,.nilCheck x,ty,pos,An,g⟩ (.pointer (some p)) w:=by
 show(execOp a.eval _).run P w=_;simp[execOp,b.A_ c]
theorem Rz(b:AH N a f)(d:P.underlying t=some (.slice e)){p:Option Addr}{c:Nat}(h:Aj f x=some (.slice p n c)):CD P a w ⟨dst,.call {callee:=.builtin .len,args:=#[x],argTypes:=#[t]},ty,pos,An,g⟩ (.int .i64 n) w:=by
 show(execOp a.eval _).run P w=_;simp[execOp,resolve,invoke,builtin,Builtin.len_,run_underlying d,b.A_ h,goInt]
theorem TS(b:AH N a f){CV:Array Value}(c:Aj f x=some (.tuple CV))(d:CV[i]? =some v):CD P a w ⟨dst,.extract x i,ty,pos,An,g⟩ v w:=by
 show(execOp a.eval _).run P w=_;simp[execOp,b.A_ c,Instr.extract,d]
theorem UZ(b:AH N a f){c:Operand}(d:Aj f c=some (.bool true))(e:Aj f x=some v):CD P a w ⟨dst,.pick c x y,ty,pos,An,g⟩ v w:=by
 show(execOp a.eval _).run P w=_;simp[execOp,b.A_ d,b.A_ e,asBool]
theorem Y6(b:AH N a f){c:Operand}(d:Aj f c=some (.bool false))(e:Aj f y=some v):CD P a w ⟨dst,.pick c x y,ty,pos,An,g⟩ v w:=by
 show(execOp a.eval _).run P w=_;simp[execOp,b.A_ d,b.A_ e,asBool]
theorem CE(c:AH N a f){b:Bool}(d:Aj f x=some (.bool b)):CD P a w ⟨dst,.unOp .not t x,ty,pos,An,g⟩ (.bool (!b)) w:=by
 show(execOp a.eval _).run P w=_;simp[execOp,c.A_ d,Op.unary]
theorem bW(h:AH N a f){s:TypeId}(j:Aj f x=some (.pointer (some ⟨b,off,none⟩))){e:Array Field}(hu:P.underlying s=some (.struct e)){Ce:Field}(k:e[i]? =some Ce)
 {sz:Nat}(c:(P.info? Ce.type).map (·.size)=some (sz+1)){o:Nat}(ho:off+Ce.offset=o):CD P a w ⟨dst,.fieldAddr s x i,ty,pos,An,g⟩ (.pointer (some ⟨b,o,none⟩)) w:=by
 show(execOp a.eval _).run P w=_;subst ho;cases d:P.info? Ce.type with
 |none=>simp[d]at c
 |some l=>
  simp[d]at c;simp[execOp,h.A_ j,Instr.fieldAt,run_underlying hu,k,Instr.sureAddr,fieldPlace,sizeOf,typeInfo,d,c,F6]
theorem ED(b:AH N a f){op:BinOp}{p q:Value}(c:Aj f x=some p)(d:Aj f y=some q)(e:(eqGuard op t x y p q).run P w=.ok () w)(hr:(binOp op t p q).run P w=.ok v w):CD P a w ⟨dst,.binOp op t x y u,ty,pos,An,g⟩ v w:=by
 show(execOp a.eval _).run P w=_;simp[execOp,b.A_ c,b.A_ d,e,hr]
theorem Hb(b:AH N a f){q r:Nat}(c:Aj f x=some (.int .i64 p))(d:Aj f y=some (.int .i64 q))(hr:p+q=r)(J:r≤9223372036854775807:=by omega):CD P a w ⟨dst,.binOp .add t x y u,ty,pos,An,g⟩ (.int .i64 r) w:=by
 refine ED b c d (by simp[eqGuard]) ?_;have:IntKind.i64.wrap ((p:Int)+q)=(r:Int):=by rw[←hr];exact IntWalk.i64_in _ JY
 simp[binOp,Op.intArith,this]
theorem Km(b:AH N a f){q r:Nat}(c:Aj f x=some (.int .i64 p))(d:Aj f y=some (.int .i64 q))(hr:p=q+r:=by omega)(J:p≤9223372036854775807:=by omega):CD P a w ⟨dst,.binOp .sub t x y u,ty,pos,An,g⟩ (.int .i64 r) w:=by
 refine ED b c d (by simp[eqGuard]) ?_;have:IntKind.i64.wrap ((p:Int) - q)=(r:Int):=by rw[hr,show((q+r:Nat):Int) - q=r by omega];exact IntWalk.i64_in _ JY
 simp[binOp,Op.intArith,this]
theorem Sx(b:AH N a f){q r:Nat}(c:Aj f x=some (.int .i64 p))(d:Aj f y=some (.int .i64 q))(hr:p*q=r)(J:r≤9223372036854775807):CD P a w ⟨dst,.binOp .mul t x y u,ty,pos,An,g⟩ (.int .i64 r) w:=by
 refine ED b c d (by simp[eqGuard]) ?_;have:IntKind.i64.wrap ((p:Int)*q)=(r:Int):=by rw[←hr,show((p:Int)*q)=((p*q:Nat):Int)by simp];exact IntWalk.i64_in _ JY
 simp[binOp,Op.intArith,this]
theorem Sv(b:AH N a f){q r:Nat}(c:Aj f x=some (.int .i64 p))(d:Aj f y=some (.int .i64 q))(hr:p/q=r)(i:0<q)(J:p≤9223372036854775807):CD P a w ⟨dst,.binOp .quo t x y u,ty,pos,An,g⟩ (.int .i64 r) w:=by
 refine ED b c d (by simp[eqGuard]) ?_;have h1:Int.tdiv (p:Int) q=((p/q:Nat):Int):=by rw[Int.tdiv_eq_ediv_of_nonneg JY];rfl
 have j:p/q≤p:=gE _ _;have:IntKind.i64.wrap (Int.tdiv (p:Int) q)=(r:Int):=by rw[h1,hr];exact IntWalk.i64_in _ JY
 have e:¬q=0:=JY;have h:(p:Int)/q=((p/q:Nat):Int):=D;rw[h1,←h]at this;simp[binOp,Op.intDiv,this,e]
theorem PA(b:AH N a f){q r:Nat}(c:Aj f x=some (.int .i64 p))(d:Aj f y=some (.int .i64 q))(hr:p % q=r)(h:0<q):CD P a w ⟨dst,.binOp .rem t x y u,ty,pos,An,g⟩ (.int .i64 r) w:=by
 refine ED b c d (by simp[eqGuard]) ?_;have h1:Int.tmod (p:Int) q=((p % q:Nat):Int):=by rw[Int.tmod_eq_emod_of_nonneg JY];rfl
 have e:¬q=0:=JY;simp[binOp,Op.intDiv,h1,e,hr]
theorem HY(b:AH N a f){p:Int}(c:Aj f x=some (.int k p))(d:Aj f y=some (.int k q))(hr:k.wrap (p+q)=r):CD P a w ⟨dst,.binOp .add t x y u,ty,pos,An,g⟩ (.int k r) w:=by
 refine ED b c d (by simp[eqGuard]) ?_;simp[binOp,Op.intArith,hr]
theorem Yx(b:AH N a f){p:Int}(c:Aj f x=some (.int k p))(d:Aj f y=some (.int k q))(hr:k.wrap (p - q)=r):CD P a w ⟨dst,.binOp .sub t x y u,ty,pos,An,g⟩ (.int k r) w:=by
 refine ED b c d (by simp[eqGuard]) ?_;simp[binOp,Op.intArith,hr]
theorem YM(b:AH N a f){p:Int}(c:Aj f x=some (.int k p))(d:Aj f y=some (.int k q))(hr:k.wrap (p*q)=r):CD P a w ⟨dst,.binOp .mul t x y u,ty,pos,An,g⟩ (.int k r) w:=by
 refine ED b c d (by simp[eqGuard]) ?_;simp[binOp,Op.intArith,hr]
theorem qq(b:AH N a f){p:Int}(c:Aj f x=some (.int k p))(d:Aj f y=some (.int k q))(e:q≠0)(hr:p.tmod q=r):CD P a w ⟨dst,.binOp .rem t x y u,ty,pos,An,g⟩ (.int k r) w:=by
 refine ED b c d (by simp[eqGuard]) ?_;simp[binOp,Op.intDiv,hr,e]
theorem MG(b:AH N a f){p:Int}(c:Aj f x=some (.int k p))(d:Aj f y=some (.int k q))(r:Bool)(hr:decide (p<q)=r):CD P a w ⟨dst,.binOp .lss t x y u,ty,pos,An,g⟩ (.bool r) w:=by
 subst hr;refine ED b c d (by simp[eqGuard]) ?_;simp[binOp,Op.intCmp]
theorem PR(b:AH N a f){p:Int}(c:Aj f x=some (.int k p))(d:Aj f y=some (.int k q))(r:Bool)(hr:decide (p≤q)=r):CD P a w ⟨dst,.binOp .leq t x y u,ty,pos,An,g⟩ (.bool r) w:=by
 subst hr;refine ED b c d (by simp[eqGuard]) ?_;simp[binOp,Op.intCmp]
theorem PO(b:AH N a f){p:Int}(c:Aj f x=some (.int k p))(d:Aj f y=some (.int k q))(r:Bool)(hr:decide (q<p)=r):CD P a w ⟨dst,.binOp .gtr t x y u,ty,pos,An,g⟩ (.bool r) w:=by
 subst hr;refine ED b c d (by simp[eqGuard]) ?_;simp[binOp,Op.intCmp]
theorem Qk(b:AH N a f){p:Int}(c:Aj f x=some (.int k p))(d:Aj f y=some (.int k q))(r:Bool)(hr:decide (q≤p)=r):CD P a w ⟨dst,.binOp .geq t x y u,ty,pos,An,g⟩ (.bool r) w:=by
 subst hr;refine ED b c d (by simp[eqGuard]) ?_;simp[binOp,Op.intCmp]
theorem ND(b:AH N a f){p:Int}(c:Aj f x=some (.int k p))(d:Aj f y=some (.int k q))(r:Bool)(hr:decide (p=q)=r):CD P a w ⟨dst,.binOp .eql t x y u,ty,pos,An,g⟩ (.bool r) w:=by
 subst hr;refine ED b c d (by simp[eqGuard]) ?_;simp[binOp,Op.intCmp]
 try rfl
theorem Nr(b:AH N a f){p:Int}(c:Aj f x=some (.int k p))(d:Aj f y=some (.int k q))(r:Bool)(hr:(!decide (p=q))=r):CD P a w ⟨dst,.binOp .neq t x y u,ty,pos,An,g⟩ (.bool r) w:=by
 subst hr;refine ED b c d (by simp[eqGuard]) ?_;simp[binOp,Op.intCmp,bne]
 try rfl
theorem D6(c:AH N a f){op:BinOp}{p:Int}(b:op=.and∨op=.or∨op=.xor)(d:Aj f x=some (.int k p))(e:Aj f y=some (.int k q))(hr:bits op k p q=r):CD P a w ⟨dst,.binOp op t x y u,ty,pos,An,g⟩ (.int k r) w:=by
 subst hr;refine ED c d e (by rcases b with rfl|rfl|rfl<;>simp[eqGuard]) ?_
 rcases b with rfl|rfl|rfl<;>(unfold binOp;simp only[ne_eq,not_true_eq_false,if_false];rfl)
theorem IG(b:AH N a f){k':IntKind}{r:Nat}(c:Aj f x=some (.int k p))(d:Aj f y=some (.int k' n))(e:n≤k.bits)(hr:p/2^n=r):CD P a w ⟨dst,.binOp .shr t x y u,ty,pos,An,g⟩ (.int k r) w:=by
 subst hr;refine ED b c d (by simp[eqGuard]) ?_;unfold binOp;simp only;rw[shift_shr_any _ _ _ _ JY,Sem.run_pure];have:min (n:Int).toNat k.bits=n:=by simp;omega
 rw[this]
 congr 2
theorem Kc(b:AH N a f){k':IntKind}(c:Aj f x=some (.int k p))(d:Aj f y=some (.int k' n))(e:n≤k.bits)(hr:k.wrap ((p*2^n:Nat):Int)=r):CD P a w ⟨dst,.binOp .shl t x y u,ty,pos,An,g⟩ (.int k r) w:=by
 subst hr;refine ED b c d (by simp[eqGuard]) ?_;unfold binOp;simp only;rw[shift_shl_any _ _ _ _ JY,Sem.run_pure];have:min (n:Int).toNat k.bits=n:=by simp;omega
 rw[this,show((p:Int)*2^n)=((p*2^n:Nat):Int)by simp]
theorem Vi(c:AH N a f)(d:Aj f x=some (.int .u32 p))(b:p<4294967296):CD P a w ⟨dst,.unOp .xor t x,ty,pos,An,g⟩ (.int .u32 ((At.inv p:Nat):Int)) w:=by
 show(execOp a.eval _).run P w=_;simp only[execOp,c.A_ d];have e:bits .xor .u32 ((4294967295:Nat):Int) (p:Int)=_:=u32_xor_nat 4294967295 p JZ b;rw[cA,←At.ON b]at e;have h:(Op.unary .xor (.int .u32 p)).run P w=.ok (.int .u32 ((At.inv p:Nat):Int)) w:=by
  show(Op.intBits .xor .u32 ((4294967295:Nat):Int) p).run P w=_;simp only[Op.intBits];unfold bits at e;simp only at e;rw[Sem.run_pure,e]
 simp only[Sem.run_bind,h,Result.andThen_ok,Sem.run_pure]
theorem Ex(b:AH N a f){s:TypeId}{k':IntKind}{p:Int}(c:Aj f x=some (.int k p))(d:P.underlying s=some (.int k))(e:P.underlying t=some (.int k'))(hr:k'.wrap p=r):CD P a w ⟨dst,.convert s t x,ty,pos,An,g⟩ (.int k' r) w:=by
 show(execOp a.eval _).run P w=_;simp only[execOp,b.A_ c];simp[convert,run_underlying d,run_underlying e,Conv.intToInt,hr]
end
