/- Laws and walks on the road to SalvageClean (part M47). No conditions beyond each law's own. -/
import Derived.RangeFuncLeaves
import Derived.RangeFuncSeq
import Derived.OrdersIn
import Derived.TacticsIn
import Derived.Test.YtaapafoibofbjaaGreatDoorM01
import Derived.Test.YtaapafoibofbjaaGreatDoorM46
import Derived.Test.YtaapafoibofbjaaGreatDoorM07
import Derived.Test.YtaapafoibofbjaaGreatDoorM12
import Derived.Test.YtaapafoibofbjaaGreatDoorM32
import Derived.Test.YtaapafoibofbjaaGreatDoorM33
set_option linter.unusedVariables false
namespace Go.Proofs.YtaapafoibofbjaaGreatDoor
open Go.RowKit
variable {w:World} {id:Nat} {c:Code}
structure Lc (BO:Fence):Prop where
 fn:∀f,BO.fn f
 j_:BO.depth=none
 ci:∀ {n:Nat} {P:Program} {f:FuncId} {args:Array Value} {w:World} {R:Ending→World→Prop},Calls P f args w R→CallsIn BO n P f args w R
 jT:∀ {n:Nat} {P:Program} {r:String} {args:Array Value} {w:World} {R:Value→World→Prop},Rows P r args w R→RowsIn BO n P r args w R
theorem EH:Lc Fence.wide:=⟨fun _=>trivial,D,fun h=>callsIn_wide.2 h,fun h c cs _=>let⟨v,w',r,s⟩:=h c cs;⟨v,w',r,stepsIn_wide.2 s⟩⟩
theorem Ol(l:Nat):Lc (Fence.wide.inRound l):=⟨fun _=>trivial,D,fun h=>callsIn_wide.2 h,fun h c cs _=>let⟨v,w',r,s⟩:=h c cs;⟨v,w',r,stepsIn_wide.2 s⟩⟩
variable {BO:Fence} {n:Nat} {P:Program} {ops:Array Oper} {Aa:Exit→Act→World→Prop} {N:Nat} {f:BW} {F:Nat→Prop} {w0:World} {H:List Atom} {K:Act→World→Prop}
theorem fW(c:Lc BO){o:Oper}{a:Act}{Ft:Act→World→Prop}(b:∀a w,K a w→Ft a w){r:Result Next}(h:o.upon P a K Aa r):o.uponIn BO n P a Ft Aa r:=by
 have Ad:BO.depth.isSome=true→1≤n:=fun q=>by rw[c.j_]at q;cases q
 cases r with
 |ok x w'=>
  cases x with
  |value v=>exact b _ _ h
  |skip=>exact b _ _ h
  |defer d=>exact b _ _ h
  |enter g args=>exact⟨Ad,CallsIn.mono (c.ci h) (fun e w q=>by cases e<;>first|exact b _ _ q|exact q)⟩
  |row r args=>exact⟨Ad,RowsIn.mono (c.jT h) (fun v w q=>b _ _ q)⟩
  |_=>exact h.elim
 |halt x w'=>cases x<;>first|exact h|exact h.elim
def Ng(o:Oper):Bool:=match o.op with|.defer _=>false|_=>true
theorem To(b:Lc BO){o:Oper}(d:Ng o=true){a:Act}{Ft:Act→World→Prop}(g:∀a w,K a w→Ft a w)(h:o.wp P a w K Aa):o.wpIn BO n P a w Ft Aa:=
 ⟨fun f _=>b.fn f,by rw[Oper.semAt_eq _ _ _ (fun c e=>by rw[Ng,e]at d;cases d)];exact fW b g h⟩
theorem R1(b:Lc BO)(c:¬LetsOut Aa):∀(l:List Oper),l.all Ng=true→∀a w,wpList P ops Aa l a w→wpListIn BO n P ops Aa l a w
 |[],_,a,w,h=>h
 |o::l,hl,a,w,h=>by
  rw[List.all_cons,Bool.and_eq_true]at hl
  unfold wpList at h
  unfold wpListIn
  by_cases hw:Region.wanted o (yielded ops a.tmps)=true
  ·rw[if_pos hw]at h⊢
   rcases h with h|⟨_,h⟩
   ·exact To b hl.1 (fun a w q=>R1 b c l hl.2 a w q) h
   ·exact(c h).elim
  ·rw[if_neg hw]at h⊢
   exact⟨fun f _=>b.fn f,R1 b c l hl.2 _ _ h⟩
theorem Nu(b:Lc BO){l:List Oper}(h:AT N f F w0 H (wpList P l.toArray Aa l))(c:¬LetsOut Aa:=by rintro⟨_,_,h⟩;first|(obtain⟨⟨v,q⟩,_⟩:=h;cases q)|exact h|cases h.1)(hl:l.all Ng=true:=by kernel_rfl):AT N f F w0 H ((Code.region id l.toArray false).wpIn BO n P Aa):=fun a w d e=>wpIn_region_lit (R1 b c l hl a w (h a w d e))
theorem Mq{x y:Code}(h:AT N f F w0 H (x.wpIn BO n P (Exit.then (y.wpIn BO n P Aa) Aa))):AT N f F w0 H ((Code.seq x y).wpIn BO n P Aa):=fun a w b c=>wpIn_seq (h a w b c)
theorem g9(h:AT N f F w0 H (Aa .normal)):AT N f F w0 H (Code.skip.wpIn BO n P Aa):=fun a w b c=>wpIn_skip (h a w b c)
theorem PV(h:AT N f F w0 H (Aa (.exit id))):AT N f F w0 H ((Code.exit id).wpIn BO n P Aa):=fun a w b c=>wpIn_exit (h a w b c)
theorem W5(h:AT N f F w0 H (c.wpIn BO n P (Exit.inBlock id Aa))):AT N f F w0 H ((Code.block id c).wpIn BO n P Aa):=fun a w b d=>wpIn_block (h a w b d)
theorem Oz{c:Operand}{x y:Code}(V:Aj f c=some (.bool false))(h1:AT N f F w0 H (y.wpIn BO n P Aa)):AT N f F w0 H ((Code.cond c x y).wpIn BO n P Aa):=fun a w b d=>wpIn_cond_false (b.A_ V) (h1 a w b d)
theorem Zz(h:AT N f F w0 H (c.wpIn BO n P (Exit.then (fun _ _=>False) Aa))):AT N f F w0 H ((Code.loop c).wpIn BO n P Aa):=fun a w b d=>wpIn_loop_once (h a w b d)
theorem S2{fn:Func}{args:List Value}(b:args.toArray.size+(fn.ntmps - args.toArray.size)=N):AH N {tmps:=args.toArray++Array.replicate (fn.ntmps - args.toArray.size) undef,defers:=[]} (JW args):=⟨D,by simpa using b,fun k v a=>by
 unfold JW at a
 simp only[Array.getD_eq_getD_getElem?]
 rw[Array.getElem?_append]
 have c:k<args.length:=by
  rcases Nat.lt_or_ge k args.length with q|q
  ·exact q
  ·rw[List.getElem?_eq_none (by simpa using q)]at a;cases a
 rw[if_pos (by simpa using c),List.getElem?_toArray,a]
 rfl⟩
theorem ia{Cf:FuncId}{fn:Func}{args:List Value}{T:Ending→World→Prop}(a:BE H w)(b:P.funcs[Cf]? =some fn)(J:fn.body=some c)(N:Nat)(h:∀F,A6 H=F→AT N (JW args) F w H (c.wpIn Fence.wide n P (bodyPost P fn T)))(d:args.toArray.size+(fn.ntmps - args.toArray.size)=N:=by kernel_rfl):CallsIn Fence.wide n P Cf args.toArray w T:=
 callsIn_of_wp b J trivial (h _ D _ w (S2 d) (Sat.begin a))
def Za(P:Program)(fn:Func)(T:Ending→World→Prop):Exit→Act→World→Prop
 |.panic _,_,_=>False
 |.normal,a,w=>bodyPostM Fence.wide 9 P fn T .normal a w
 |.ret,a,w=>bodyPostM Fence.wide 9 P fn T .ret a w
 |.outgrown,_,_=>False
 |_,_,_=>False
theorem hB{Cf:FuncId}{fn:Func}{args:List Value}{T:Ending→World→Prop}(b:BE H w)(d:P.funcs[Cf]? =some fn)(J:fn.body=some c)(N:Nat)(h:∀F,A6 H=F→AT N (JW args) F w H (c.wp P (Za P fn T)))(f:args.toArray.size+(fn.ntmps - args.toArray.size)=N:=by kernel_rfl):Calls P Cf args.toArray w T:=
 callsIn_wide.1 (callsIn_of_wp_marks (n:=9) d J trivial (wpIn_mono (wpIn_wide.2 (h _ D _ w (S2 f) (Sat.begin b))) (fun e a w q=>by cases e<;>first|exact q|exact q.elim)))
theorem bn{l:List Oper}(h:AT N f F w0 H (wpAnyIn BO n P .any l.toArray Aa l.toArray.size (Array.replicate l.toArray.size false)))(hm:P.follows .mixedOrders=true:=by kernel_rfl):AT N f F w0 H ((Code.region id l.toArray true).wpIn BO n P Aa):=fun a w b c=>
 wpIn_region_any hm (h a w.drew b (c.below (Cn _ _).drew))
theorem F2(i:Nat){fuel Cy:Nat}{listed:Array Bool}(h:AT N f F w0 H (wpOpIn BO n P ops Aa i (wpAnyIn BO n P .any ops Aa fuel (listed.setIfInBounds i true))))(hu:Cy=fuel+1:=by apply Eq.refl)(hr:Region.ready .any ops listed=[i]:=by kernel_rfl):AT N f F w0 H (wpAnyIn BO n P .any ops Aa Cy listed):=fun a w c d=>by
 subst hu
 exact⟨fun q=>(by rw[hr]at q;cases q),fun k b=>by rw[hr]at b;cases b with|head=>exact h a w c d|tail _ z=>cases z⟩
theorem QZ(i j:Nat){fuel Cy:Nat}{listed:Array Bool}(h:AT N f F w0 H (wpOpIn BO n P ops Aa i (wpAnyIn BO n P .any ops Aa fuel (listed.setIfInBounds i true))))(e:AT N f F w0 H (wpOpIn BO n P ops Aa j (wpAnyIn BO n P .any ops Aa fuel (listed.setIfInBounds j true))))(hu:Cy=fuel+1:=by apply Eq.refl)(hr:Region.ready .any ops listed=[i,j]:=by kernel_rfl):AT N f F w0 H (wpAnyIn BO n P .any ops Aa Cy listed):=fun a w b c=>by
 subst hu
 exact⟨fun q=>(by rw[hr]at q;cases q),fun k d=>by
  rw[hr]at d
  cases d with
  |head=>exact h a w b c
  |tail _ z=>
   cases z with
   |head=>exact e a w b c
   |tail _ y=>cases y⟩
theorem Qt{Cy:Nat}{listed:Array Bool}(h:AT N f F w0 H (Aa .normal))(hr:Region.ready .any ops listed=[]:=by kernel_rfl):AT N f F w0 H (wpAnyIn BO n P .any ops Aa Cy listed):=fun a w b c=>by
 cases Cy with
 |zero=>exact⟨hr,h a w b c⟩
 |succ m=>exact⟨fun _=>h a w b c,fun k d=>by rw[hr]at d;cases d⟩
variable {i d:Nat} {op:Op} {ty:TypeId} {pos:String} {An:Array Edge} {g:Option (Nat×Bool)}
abbrev Q2(ops:Array Oper)(N:Nat)(f:BW)(g:Option (Nat×Bool)):Prop:=∀(o:Oper) (a:Act),o.guard=g→AH N a f→Region.wanted o (yielded ops a.tmps)=true
theorem Kq:Q2 ops N f none:=fun o a b _=>by simp[Region.wanted,b]
theorem GD{j:Nat}{t:Bool}{Dk:Oper}(hj:ops[j]? =some Dk){k:Nat}(b:Dk.dst=some k)(V:f k=some (.bool t)):Q2 ops N f (some (j,t)):=fun o a c d=>by
 have:=L2 (d.h k _ V)
 simp[Region.wanted,yielded,hj,b,this,c]
theorem Fz(e:Lc BO){v:Value}(j:ops[i]? =some ⟨some d,op,ty,pos,An,g⟩)(hw:Q2 ops N f g)(hr:BR P N f F w0 H ⟨some d,op,ty,pos,An,g⟩ v)(h:AT N (Jb f d v) F w0 H K)(k:Ng ⟨some d,op,ty,pos,An,g⟩=true:=by kernel_rfl)(Ad:Nat.blt d N=true:=by exact rfl):AT N f F w0 H (wpOpIn BO n P ops Aa i K):=fun a w b c=>by
 unfold wpOpIn
 rw[j]
 simp only[]
 rw[if_pos (hw _ a D b)]
 refine To e k (K:=K) (fun _ _ q=>q) ?_
 unfold Oper.wp
 rw[hr a w b c]
 exact h _ _ (b.put Ad v) c
theorem QW(c:Lc BO){o:Oper}(d:ops[i]? =some o)(hw:Q2 ops N f o.guard)(h:D3 P o Aa N f F w0 H K)(e:Ng o=true:=by kernel_rfl):AT N f F w0 H (wpOpIn BO n P ops Aa i K):=fun a w b g=>by
 unfold wpOpIn
 rw[d]
 simp only[]
 rw[if_pos (hw _ a D b)]
 exact To c e (K:=K) (fun _ _ q=>q) (h a w b g).out
theorem YK{l:Nat}{b:Operand}{xs:List Operand}{ts:Array TypeId}{CV:List Value}(p:ops[i]? =some ⟨some d,.call {callee:=.value b,args:=xs.toArray,argTypes:=ts},ty,pos,An,none⟩)(V:Aj f b=some (.func (.yield l) #[] #[]))(r:GX f xs=some CV){T:World→Ending→World→Prop}{m:Nat}(hm:n - 1=m)
 (s:∀w,Sat F w0 H w→YieldAt Fence.wide m P l CV.toArray w (T w))(h:∀w e W,Sat F w0 H w→T w e W→∃u,e=.returned u∧∃(g:Nat→Prop) (j:World) (H':List Atom),Sat g j H' W∧AT N (Jb f d u) g j H' K)(Ad:Nat.blt d N=true:=by exact rfl)(C:∀q,b≠ .func q:=by intro q z;cases z):AT N f F w0 H (wpOpIn Fence.wide n P ops Aa i K):=fun a w k o=>by
 unfold wpOpIn
 rw[p]
 simp only[]
 rw[if_pos (by simp[Region.wanted])]
 obtain⟨fn,tmps,assign,body,t,Df⟩:=s w o
 refine⟨fun _ _=>trivial,?_⟩
 rw[Oper.semAt_eq _ _ _ (fun c e=>by cases e)]
 have v:(xs.map a.eval)=CV:=Wf k r
 have x:(execOp a.eval ⟨some d,.call {callee:=.value b,args:=xs.toArray,argTypes:=ts},ty,pos,An,none⟩).run P w=.ok (.round l fn tmps assign body) w:=by
  have y:=k.A_ V
  rw[←t]
  simp[execOp,resolve,invoke,y,v,Sem.run_bind,Result.andThen]
  simp[Deferred.ofValue,go_sem]
 rw[x]
 refine⟨fun q=>(by cases q),?_⟩
 rw[hm]
 refine RoundIn.mono Df fun e W A5=>?_
 obtain⟨u,rfl,g,j,H',A,B⟩:=h w e W o A5
 exact B _ W (k.put Ad u) A
def DT(b:Nat)(o:Obj):Atom:=⟨fun k=>k=b,fun w=>w.heap[b]? =some o,fun w h k e=>by subst e;exact DC h,fun w w' h _ e=>(e b D).trans h⟩
theorem aI(W:World)(l:Nat)(o:Obj):W.grownBy (W.putObj l o) (some l):=
 ⟨D,D,D,by simp,fun k _ a=>World.putObj_heap_other (fun e=>a (by rw[e]))⟩
theorem QN{b:Nat}{o:Obj}(o':Obj)(h:Sat F w0 H w)(i:Nat)(a:H[i]? =some (DT b o):=by exact rfl):Sat F w0 (H.set i (DT b o')) (w.putObj b o'):=
 h.set i a (C7.grown (aI w b o')) (World.putObj_heap_same (DC (h.at_ i _ a))) (fun k e=>.inl e)
theorem Sat.AB{b:Nat}{o:Obj}(h:Sat F w0 H w)(i:Nat)(a:H[i]? =some (DT b o):=by exact rfl):w.heap[b]? =some o:=h.at_ i _ a
end Go.Proofs.YtaapafoibofbjaaGreatDoor
namespace Go.Proofs.YtaapafoibofbjaaGreatDoor
open Go.RowKit
set_option maxRecDepth 100000
set_option maxHeartbeats 4000000
theorem bk{P:Program}{N:Nat}{f:BW}{d:Nat}{ty:TypeId}{pos:String}{An:Array Edge}{g:Option (Nat×Bool)}{F:Nat→Prop}{w0:World}{H:List Atom}{fn:Fn}{x y z:Operand}{v BA v2:Value}(c:Aj f x=some v)(e:Aj f y=some BA)(h:Aj f z=some v2):BR P N f F w0 H ⟨some d,.makeFunc fn #[] #[x,y,z],ty,pos,An,g⟩ (.func fn #[] #[v,BA,v2]):=fun a w b i=>by
 show(execOp a.eval _).run P w=_
 simp[execOp,b.A_ c,b.A_ e,b.A_ h]
 rfl
theorem bD(Q p want:Nat)(Ah:B9)(w:World):Calls Tryz.prog 124 #[S Q,Value.agg (flat [[E p],[E Ah.v],[E Ah.f],[E Ah.ju],[E Ah.jt],[E Ah.r],[E Ah.c],bv Ah.s.l]),E want] w fun e W=>∃a b d,e=.returned (Value.func (.func 162) #[] #[S b,S d,S a])∧Sat C1 w [O b [[E p],[E Ah.v],[E Ah.f],[E Ah.ju],[E Ah.jt],[E Ah.r],[E Ah.c],bv Ah.s.l] 203,O d [[E want]] 3,O a [[S Q]] 115] W:=by
 refine Cg w Xy D 8<|Je<|Jh<|U<|SL [[S Q]] D D fun a=>U<|Cv D fun b=>U<|SL [[E want]] D D fun d=>M ?_
 refine U<|IK (bk D D D)<|A7 ?_
 exact fun W i=>⟨a,b,d,D,i.pick [1,0,2]⟩
theorem Zs(l B g h p want:Nat)(Ah:B9)(i j k u x y:Atom){n m:Nat}(hm:n - 1=m)(w:World)(C:BE [O g [[E p],[E Ah.v],[E Ah.f],[E Ah.ju],[E Ah.jt],[E Ah.r],[E Ah.c],bv Ah.s.l] 203,O h [[E want]] 3,i,j,k] w)(z:∀W,BE [i,j,k] W→YieldAt Fence.wide m Tryz.prog l #[Value.agg (flat [[E p],[E Ah.v],[E Ah.f],[E Ah.ju],[E Ah.jt],[E Ah.r],[E Ah.c],bv Ah.s.l]),E 0] W fun e B8=>e=.returned (.bool true)∧Sat (A6 [i,j,k]) W [u,x,y] B8)
 (h1:Ah.f≤Ah.v)(G:Ah.v≤1073741824)(o:(if Ah.f=0 then Ah.v else Ah.v - Ah.f+1)=want):CallsIn Fence.wide n Tryz.prog 162 #[Value.func (.yield l) #[] #[],S g,S h,S B] w fun e W=>(∃v,e=.returned v)∧Sat (A6 [O g [[E p],[E Ah.v],[E Ah.f],[E Ah.ju],[E Ah.jt],[E Ah.r],[E Ah.c],bv Ah.s.l] 203,O h [[E want]] 3,i,j,k]) w [O g [[E p],[E Ah.v],[E Ah.f],[E Ah.ju],[E Ah.jt],[E Ah.r],[E Ah.c],bv Ah.s.l] 203,O h [[E want]] 3,u,x,y] W:=by
 refine ia C Wc D 59 fun F t=>Mq<|Nu EH<|Af (BN G1 0 D D)<|U<|Bw [[E 0],[E 0],[E 0],[E 0],[E 0],[E 0],[E 0],Ak 32] fun A=>U<|Bk 0 0 8 D D D<|?_
 refine Jg<|Jf<|W5<|Zz<|Mq<|Mq<|?_
 refine bn<|QZ 0 1 (Fz EH D Kq (AA D)<|F2 1<|Fz EH D Kq (BN G1 0 D D)<|F2 2<|YK (l:=l) D D D hm (fun w a=>z w (a.Ad [3,4,5])) (fun _ e W a ⟨he,q⟩=>⟨_,he,_,_,_,Sat.call (H1:=[i,j,k]) (H2:=[O A [[E p],[E Ah.v],[E Ah.f],[E Ah.ju],[E Ah.jt],[E Ah.r],[E Ah.c],bv Ah.s.l] 203,O g [[E p],[E Ah.v],[E Ah.f],[E Ah.ju],[E Ah.jt],[E Ah.r],[E Ah.c],bv Ah.s.l] 203,O h [[E want]] 3]) (a.pick [3,4,5,0,1,2]) q,?_⟩)) (Fz EH D Kq (BN G1 0 D D)<|F2 0<|Fz EH D Kq (AA D)<|F2 2<|YK (l:=l) D D D hm (fun w a=>z w (a.Ad [3,4,5])) (fun _ e W a ⟨he,q⟩=>⟨_,he,_,_,_,Sat.call (H1:=[i,j,k]) (H2:=[O A [[E p],[E Ah.v],[E Ah.f],[E Ah.ju],[E Ah.jt],[E Ah.r],[E Ah.c],bv Ah.s.l] 203,O g [[E p],[E Ah.v],[E Ah.f],[E Ah.ju],[E Ah.jt],[E Ah.r],[E Ah.c],bv Ah.s.l] 203,O h [[E want]] 3]) (a.pick [3,4,5,0,1,2]) q,?_⟩))
 all_goals refine F2 3<|Fz EH D Kq (AA D)<|QZ 4 7 (Fz EH D (GD D D D) (AS G1 1 D)<|QZ 5 7 (Fz EH D (GD D D D) (DH Bv 3 1 7 [[E Ah.v],[E Ah.f],[E Ah.ju],[E Ah.jt],[E Ah.r],[E Ah.c],bv Ah.s.l] D D)<|QZ 6 7 (QW EH D (GD D D D)<|BP Lh D (fun w a=>LJ Ah.v Ah.f Ah.ju Ah.jt Ah.r Ah.c Ah.s w (by omega) (by omega) o)<|F2 7<|Fz EH D (GD D D D) (Bb AF 5 0 D D D)<|F2 8<|Fz EH D (GD D D D) (LG (by omega) D D)<|F2 9<|Fz EH D Kq (D' D D)<|Qt<|Jf<|Oz D<|PV<|Jz<|Jz<|JE<|Jt<|Ff fun W a=>⟨⟨_,D⟩,(by subst t;exact a.pick [4,5,0,1,2])⟩) (Fz EH D (GD D D D) (Bb AF 5 0 D D D)<|F2 6<|QW EH D (GD D D D)<|BP Lh D (fun w a=>LJ Ah.v Ah.f Ah.ju Ah.jt Ah.r Ah.c Ah.s w (by omega) (by omega) o)<|F2 8<|Fz EH D (GD D D D) (LG (by omega) D D)<|F2 9<|Fz EH D Kq (D' D D)<|Qt<|Jf<|Oz D<|PV<|Jz<|Jz<|JE<|Jt<|Ff fun W a=>⟨⟨_,D⟩,(by subst t;exact a.pick [4,5,0,1,2])⟩)) (Fz EH D (GD D D D) (Bb AF 5 0 D D D)<|F2 5<|Fz EH D (GD D D D) (DH Bv 3 1 7 [[E Ah.v],[E Ah.f],[E Ah.ju],[E Ah.jt],[E Ah.r],[E Ah.c],bv Ah.s.l] D D)<|F2 6<|QW EH D (GD D D D)<|BP Lh D (fun w a=>LJ Ah.v Ah.f Ah.ju Ah.jt Ah.r Ah.c Ah.s w (by omega) (by omega) o)<|F2 8<|Fz EH D (GD D D D) (LG (by omega) D D)<|F2 9<|Fz EH D Kq (D' D D)<|Qt<|Jf<|Oz D<|PV<|Jz<|Jz<|JE<|Jt<|Ff fun W a=>⟨⟨_,D⟩,(by subst t;exact a.pick [4,5,0,1,2])⟩)) (Fz EH D (GD D D D) (Bb AF 5 0 D D D)<|F2 4<|Fz EH D (GD D D D) (AS G1 1 D)<|F2 5<|Fz EH D (GD D D D) (DH Bv 3 1 7 [[E Ah.v],[E Ah.f],[E Ah.ju],[E Ah.jt],[E Ah.r],[E Ah.c],bv Ah.s.l] D D)<|F2 6<|QW EH D (GD D D D)<|BP Lh D (fun w a=>LJ Ah.v Ah.f Ah.ju Ah.jt Ah.r Ah.c Ah.s w (by omega) (by omega) o)<|F2 8<|Fz EH D (GD D D D) (LG (by omega) D D)<|F2 9<|Fz EH D Kq (D' D D)<|Qt<|Jf<|Oz D<|PV<|Jz<|Jz<|JE<|Jt<|Ff fun W a=>⟨⟨_,D⟩,(by subst t;exact a.pick [4,5,0,1,2])⟩)
end Go.Proofs.YtaapafoibofbjaaGreatDoor
namespace Go.Proofs.YtaapafoibofbjaaGreatDoor
open Go.RowKit
variable {w:World} {a:Act} {CX:List Deferred}
variable {P:Program} {ops:Array Oper} {Aa:Exit→Act→World→Prop} {N:Nat} {f:BW} {F:Nat→Prop} {w0:World} {H:List Atom} {K:Act→World→Prop}
abbrev Act.Dm(a:Act)(CX:List Deferred):Act:={a with defers:=CX}
theorem ZC(a:Act)(CX:List Deferred)(d:Option Tmp)(v:Value):Act.Dm (a.put d v) CX=(Act.Dm a CX).put d v:=by cases d<;>rfl
theorem IQ{C:Act→Prop}{d:Option Tmp}{v:Value}(h:C (Act.Dm (a.put d v) CX)):C ((Act.Dm a CX).put d v):=by rw[←ZC];exact h
def NY(o:Oper):Bool:=match o.op with|.load _ _=>true|.store _ _ _=>true|.assign _=>true|.move _=>true|_=>false
theorem hQ{o:Oper}(h:NY o=true){a:Operand→Value}{w':World}{d:Deferred}:(execOp a o).run P w≠ .ok (.defer d) w':=by
 intro q
 unfold NY at h
 split at h
 ·rename_i t x ho
  simp only[execOp,ho,Sem.run_bind]at q
  cases hr:(Instr.loadAt t (a x)).run P w<;>rw[hr]at q<;>simp[Result.andThen]at q
 ·rename_i t x y ho
  simp only[execOp,ho,Sem.run_bind]at q
  cases hr:(Instr.storeAt t (a x) (a y)).run P w<;>rw[hr]at q<;>simp[Result.andThen]at q
 ·rename_i x ho
  simp[execOp,ho]at q
 ·rename_i x ho
  simp[execOp,ho]at q
 ·cases h
theorem ft{o:Oper}(ho:NY o=true){K Ft:Act→World→Prop}(b:∀a w,K a w→Ft (Act.Dm a CX) w)(h:o.wp P a w K (fun e a w=>Aa e (Act.Dm a CX) w)):o.wp P (Act.Dm a CX) w Ft Aa:=by
 unfold Oper.wp at h⊢
 rw[show(Act.Dm a CX).eval=a.eval from D]
 generalize hr:(execOp a.eval o).run P w=r at h⊢
 cases r with
 |ok x w'=>
  cases x with
  |value v=>exact IQ (C:=fun a=>Ft a w') (b _ _ h)
  |skip=>exact IQ (C:=fun a=>Ft a w') (b _ _ h)
  |defer d=>exact(hQ ho hr).elim
  |enter g args=>exact Calls.mono h (fun e w q=>by
    cases e with
    |returned v=>exact IQ (C:=fun a=>Ft a w) (b _ _ q)
    |panicked c=>exact q
    |outgrown=>exact q.elim fun i f=>f.elim fun w' f=>⟨_,w',f⟩)
  |row r args=>exact Rows.mono h (fun v w q=>IQ (C:=fun a=>Ft a w) (b _ _ q))
  |_=>exact h.elim
 |halt x w'=>cases x<;>first|exact h|exact h.elim
theorem Qm{BK:World→Prop}(hl:∀(i:Nat) (o:Oper),ops[i]? =some o→NY o=true):∀(fuel:Nat) (listed:Array Bool) a w,wpAnyH P .any ops (fun e a w=>Aa e (Act.Dm a CX) w) BK fuel listed a w→wpAnyH P .any ops Aa BK fuel listed (Act.Dm a CX) w
 |0,_,_,_,h=>h
 |fuel+1,listed,a,w,h=>⟨h.1,fun i b=>by
  have h:=h.2 i b
  unfold wpOp at h⊢
  split
  ·rename_i q
   rw[q]at h
   exact⟨h.1,Qm hl fuel _ _ _ h.2⟩
  ·rename_i o q
   rw[q]at h
   simp only[]at h
   by_cases hw:Region.wanted o (yielded ops a.tmps)=true
   ·rw[if_pos hw]at h
    rw[if_pos (show Region.wanted o (yielded ops (Act.Dm a CX).tmps)=true from hw)]
    rcases h with h|⟨h,d,w',c⟩
    ·exact .inl (ft (hl i o q) (fun a w z=>⟨z.1,Qm hl fuel _ _ _ z.2⟩) h)
    ·exact .inr ⟨h,_,w',c⟩
   ·rw[if_neg hw]at h
    rw[if_neg (show¬Region.wanted o (yielded ops (Act.Dm a CX).tmps)=true from hw)]
    exact IQ (C:=fun a=>BK w∧wpAnyH P .any ops Aa BK fuel (listed.setIfInBounds i true) a w) ⟨h.1,Qm hl fuel _ _ _ h.2⟩⟩
theorem cS{id:Nat}{l:List Oper}(BI:List Nat)(h:Hu P l.toArray (fun e a w=>Aa e (Act.Dm a CX) w) N f F w0 (KF H BI) H l.toArray.size (Array.replicate l.toArray.size false))(hl:l.all NY=true:=by kernel_rfl)(e:BI.map (fun i=>H[i]?)=(KF H BI).map some:=by exact rfl)(c:BI.Nodup:=by decide)(hm:P.follows .mixedOrders=true:=by kernel_rfl):AT N f F w0 H (fun a w=>(Code.region id l.toArray true).wp P Aa (Act.Dm a CX) w):=fun a w d b=>
 Qr (Sat F w0 (KF H BI)) hm (fun W _ J=>Qm (fun i o q=>List.all_eq_true.1 hl o (by rw[List.getElem?_toArray]at q;exact List.mem_of_getElem? q)) _ _ a W (h a W d (b.below J) ((b.below J).pick BI e c)))
theorem Md{d:Option Tmp}{T:TypeId}{x:Operand}{ty:TypeId}{pos:String}{An:Array Edge}{g:Option (Nat×Bool)}{v:Value}{c:Addr}(h:CD P a w ⟨d,.load T x,ty,pos,An,g⟩ v w)(he:a.eval x=.pointer (some c)):(loadVar T c).run P w=.ok v w:=by
 have b:(execOp a.eval ⟨d,.load T x,ty,pos,An,g⟩).run P w=.ok (.value v) w:=h
 simp only[execOp,Sem.run_bind,he,Instr.loadAt,Instr.sureAddr,Sem.run_pure,Result.andThen_ok]at b
 cases e:(loadVar T c).run P w with
 |ok x w'=>
  rw[e]at b
  simp only[Result.andThen_ok,Result.ok.injEq,Next.value.injEq]at b
  rw[b.1,b.2]
 |halt x w'=>
  rw[e]at b
  cases b
theorem cA{fn:Func}{T:Ending→World→Prop}{Au:Nat}{t u x:Nat}{o s v:TypeId}{c e l:Nat}{ss:List (List Value)}{v2 y:Value}{tb E G:TypeId}{d1 d2 d3:TypeDesc}(I:P.underlying o=some d1)(J:P.underlying s=some d2)(K:P.underlying v=some d3)(i j k:Nat)
 (L:(DT Au (.deferred none)::H)[i]? =some (O c ss tb))(hj:(DT Au (.deferred none)::H)[j]? =some (O e [[v2]] E))(M:(DT Au (.deferred none)::H)[k]? =some (O l [[y]] G))
 (V:f t=some (.pointer (some ⟨c,0,none⟩)))(p:f u=some (.pointer (some ⟨e,0,none⟩)))(r:f x=some (.pointer (some ⟨l,0,none⟩)))(h:∀w,Sat F w0 (DT Au (.deferred none)::H) w→T (.returned (.tuple #[.agg (flat ss),v2,y])) w)
 {m:Nat}(s1:ss.flatten.length=m:=by exact Jp)(Q:(P.info? o).map (·.size)=some m:=by kernel_rfl)(hr:fn.results=#[.cell t o,.cell u s,.cell x v]:=by exact rfl)(h1:d1.isRow=true:=by exact rfl)(R:d2.isRow=false:=by exact rfl)(S:d3.isRow=false:=by exact rfl):
 AT N f F w0 (DT Au (.deferred (some []))::H) (fun a w=>Code.ret.wp P (Za P fn T) (Act.Dm a [⟨.collected Au,#[]⟩]) w):=fun a w b z=>by
 refine wp_ret ?_
 have n:=QN (.deferred none) z 0
 show LeavesInM Fence.wide 9 P fn a.tmps T [⟨.collected Au,#[]⟩] .returning w
 refine⟨(by intro q;cases q),.inl ⟨Au,_,rfl,run_takeDeferred (z.AB 0),?_⟩⟩
 have U:a.eval (.tmp t)=.pointer (some ⟨c,0,none⟩):=b.A_ (x:=.tmp t) V
 have W:a.eval (.tmp u)=.pointer (some ⟨e,0,none⟩):=b.A_ (x:=.tmp u) p
 have X:a.eval (.tmp x)=.pointer (some ⟨l,0,none⟩):=b.A_ (x:=.tmp x) r
 have Y:=Md (d:=some 0) (ty:=0) (pos:= "") (An:=#[]) (g:=none) (BN (x:=.tmp t) I i L V s1 Q h1 a _ b n) U
 have Z:=Md (d:=some 0) (ty:=0) (pos:= "") (An:=#[]) (g:=none) (Bb (x:=.tmp u) J j 0 hj D p D D D R a _ b n) W
 have aa:=Md (d:=some 0) (ty:=0) (pos:= "") (An:=#[]) (g:=none) (Bb (x:=.tmp x) K k 0 M D r D D D S a _ b n) X
 refine⟨_,?_,h _ n⟩
 have A:a.tmps.getD t undef=.pointer (some ⟨c,0,none⟩):=b.h t _ V
 have B:a.tmps.getD u undef=.pointer (some ⟨e,0,none⟩):=b.h u _ p
 have C:a.tmps.getD x undef=.pointer (some ⟨l,0,none⟩):=b.h x _ r
 rw[Array.getD_eq_getD_getElem?]at A B C
 simp[results,hr,A,B,C,asAddr,Y,Z,aa,Sem.run_bind,Result.andThen]
theorem Sat.FY{A:Atom}(h:Sat F w0 (A::H) w):Sat F w0 H w:=⟨h.jF,fun i X q=>h.at_ (i+1) X q,fun i X q=>h.jQ (i+1) X q,fun i j X Y ne p q=>h.jZ (i+1) (j+1) X Y (by omega) p q⟩
theorem fB{g:Operand}{j:Array Tmp}{assign body:Code}{b:Nat}{c:Array Value}(r:Aj f g=some (.func (.func b) #[] c))(s:∀args w,(callFunc b args).run P w=.ok (.enter b args) w)
 (h:∀(l Au fn:Nat) (a:Act),AH N a f→∀(rec:Loop),rec={state:=.ready,pending:=none,fn,tmps:=a.tmps,params:=j,assign,body,defers:=Au}→∀w,Sat F w0 (DT l (.loop rec)::DT Au (.deferred (some []))::H) w→
   CallsIn Fence.wide 8 P b (#[.func (.yield l) #[] #[]]++c) w fun e W=>(∃v,e=.returned v)∧∃H',Sat F w0 (DT l (.loop rec)::DT Au (.deferred (some []))::H') W∧∀B8,Sat F w0 (DT Au (.deferred (some []))::H') B8→Aa .normal (Act.Dm a [⟨.collected Au,#[]⟩]) B8):
 AT N f F w0 H ((Code.rangeFunc g j assign body).wp P Aa):=fun a w m t=>by
 refine(wpIn_wide (n:=9)).1 (wpIn_rangeFunc fun fn _=>?_)
 obtain⟨rec,i⟩:∃rec:Loop,rec={state:=.ready,pending:=none,fn,tmps:=a.tmps,params:=j,assign,body,defers:=w.heap.size}:=⟨_,D⟩
 have u:Below w.heap.size w (w.alloc (.deferred (some []))):=(Cn _ w).alloc (Br _) _
 have x:Sat F w0 (DT w.heap.size (.deferred (some []))::H) (w.alloc (.deferred (some []))):=t.new u (World.alloc_heap_new w _) (fun k e=>by cases e;exact Br _)
 have o:(w.alloc (.deferred (some []))).heap.size=w.heap.size+1:=by simp
 have y:Sat F w0 (DT (w.heap.size+1) (.loop rec)::DT w.heap.size (.deferred (some []))::H) ((w.alloc (.deferred (some []))).alloc (.loop rec)):=
  x.new ((Cn _ _).alloc (Br _) _) (by have:=World.alloc_heap_new (w.alloc (.deferred (some []))) (.loop rec);rwa[o]at this) (fun k e=>by cases e;rw[o];exact Br _)
 refine⟨w.heap.size+1,[⟨.collected w.heap.size,#[]⟩],(w.alloc (.deferred (some []))).alloc (.loop rec),⟨.fn (.func b) c,#[.func (.yield (w.heap.size+1)) #[] #[]]⟩,(w.alloc (.deferred (some []))).alloc (.loop rec),b,#[.func (.yield (w.heap.size+1)) #[] #[]]++c,(w.alloc (.deferred (some []))).alloc (.loop rec),?_,?_,fun _ _=>trivial,?_,fun q=>(by cases q),?_⟩
 ·rw[i];exact run_enterLoop_outer _ _ _ _ _
 ·have z:a.eval g=.func (.func b) #[] c:=m.A_ r
  simp only[resolve,z]
  simp[go_sem]
 ·simp[invoke,go_sem,s]
 ·refine CallsIn.mono (h _ _ fn a m rec i _ y) ?_
  rintro e W ⟨⟨v,rfl⟩,H',p,A⟩
  have hr:=run_endLoop (P:=P) (p.AB 0) (by rw[i];simp)
  have B:rec.pending=none:=by rw[i]
  rw[B]at hr
  refine⟨none,_,hr,?_⟩
  have:=A _ (QN (.loop {rec with state:=.exhausted,pending:=none}) p 0).FY
  show Aa .normal {a with defers:=[⟨.collected w.heap.size,#[]⟩]++a.defers} _
  rw[m.d]
  exact this
theorem bg{l m fn Au:Nat}(j:AH N a f){t u:Nat}{v BA:Value}{assign body:Code}{rec:Loop}(g:rec={state:=.ready,pending:=none,fn,tmps:=a.tmps,params:=#[t,u],assign,body,defers:=Au}){T:Ending→World→Prop}(z:BE (DT l (.loop rec)::H) w)
 (h:∀F,A6 (DT l (.loop rec)::H)=F→AT N (Jb (Jb f t v) u BA) F w (DT l (.loop rec)::H) (assign.wpIn (Fence.wide.inRound l) m P (Exit.then (fun k n=>∃b c H',Sat b c (DT l (.loop rec)::H') n∧∀i,Sat b c (DT l (.loop {rec with state:=.busy})::H') i→body.wpIn (Fence.wide.inRound l) m P (fun e a w=>e=.normal∧∃b c H',Sat b c (DT l (.loop {rec with state:=.busy})::H') w∧∀o,Sat b c (DT l (.loop rec)::H') o→T (.returned (.bool true)) o) k i) (fun _ _ _=>False))))
 (A:Nat.blt t N=true:=by exact rfl)(hu:Nat.blt u N=true:=by exact rfl):YieldAt Fence.wide m P l #[v,BA] w T:=by
 have J:=(Sat.begin z)
 have p:=run_yield (P:=P) (args:=#[v,BA]) (J.AB 0) (by rw[g];rfl)
 rw[g]at p
 refine⟨_,_,_,_,p,roundIn_of_wpIn trivial ?_⟩
 have B:=(j.put A v).put hu BA
 have q:=h _ D _ w B J
 have e:((a.put (some t) v).put (some u) BA)={tmps:=(#[t,u].zip #[v,BA]).foldl (fun tmps (t,a)=>tmps.setIfInBounds t a) a.tmps,defers:=[]}:=by
  show(⟨(a.tmps.setIfInBounds t v).setIfInBounds u BA,a.defers⟩:Act)=_
  rw[j.d]
  simp
 rw[e]at q
 refine wpIn_mono q fun C k n r=>?_
 cases C with
 |normal=>
  obtain⟨b,c,H',s,E⟩:=r
  have hr:=run_beginRound (P:=P) (s.AB 0) (by rw[g])
  refine⟨_,hr,?_⟩
  refine wpIn_mono (E _ (QN _ s 0)) fun K L i G=>?_
  obtain⟨rfl,M,O,H2,x,A5⟩:=G
  have y:=run_endRound (P:=P) none (x.AB 0)
  have I:∀Ev:Loop,Ev={rec with state:=.busy}→({Ev with state:=if(none:Option Code).isNone then .ready else .done,pending:=none}:Loop)=rec:=by
   rintro _ rfl
   rw[g]
   rfl
  rw[I _ D]at y
  exact⟨_,_,y,A5 _ (QN (.loop rec) x 0)⟩
 |_=>exact r.elim
theorem dQ{l m:Nat}{rec c:Loop}{body:Code}{BO:Fence}(BI:List Nat){H':List Atom}(h:AT N f F w0 (DT l (.loop c)::H') (body.wpIn BO m P Aa))(e:BI.map (fun i=>H[i]?)=(DT l (.loop rec)::H').map some:=by exact rfl)(j:BI.Nodup:=by decide):
 AT N f F w0 H (fun k n=>∃d g H',Sat d g (DT l (.loop rec)::H') n∧∀b,Sat d g (DT l (.loop c)::H') b→body.wpIn BO m P Aa k b):=fun a w o p=>⟨F,w0,H',p.pick BI e j,fun b q=>h a b o q⟩
theorem jc{l:Nat}{rec c:Loop}{T:World→Prop}(BI:List Nat){H':List Atom}(h:∀w,Sat F w0 (DT l (.loop rec)::H') w→T w)(e:BI.map (fun i=>H[i]?)=(DT l (.loop c)::H').map some:=by exact rfl)(j:BI.Nodup:=by decide):
 AT N f F w0 H (fun _ w=>Exit.normal=Exit.normal∧∃d g H',Sat d g (DT l (.loop c)::H') w∧∀b,Sat d g (DT l (.loop rec)::H') b→T b):=fun a w m k=>⟨D,F,w0,H',k.pick BI e j,fun b q=>h b q⟩
end Go.Proofs.YtaapafoibofbjaaGreatDoor
