/- Laws and walks on the road to SalvagePlays (part M24). No conditions beyond each law's own. -/
import Derived.Test.YtjdboncaegphmaaGreatDoorM23
set_option linter.unusedVariables false
namespace Go.Proofs.YtjdboncaegphmaaGreatDoor
open Go.RowKit
open Go.Maps (Keyed)
set_option maxRecDepth 100000
set_option maxHeartbeats 2000000
theorem T3:laidOutB Tryz.prog=true:=AB
abbrev Am(n:Nat):Value:=E n
abbrev AM(r:G.Ae):Value:=.agg (flat [[E r.b],bv r.k.l])
abbrev AP(x:Jc):Value:=.agg (flat [bv x.l])
abbrev I1:=fun b c (a:G.B4) d e=>([Ap Tryz.prog 273 AM Am b c (G.get a.rows),Ap Tryz.prog 48 AP Am d e (G.get a.Fz)]:List Atom)
abbrev BT(r:B9):Value:=.agg (flat (Ro r))
abbrev J6(x:Bf):Value:=.agg (flat (U' x))
theorem Fg:Keyed Tryz.prog 3:=Maps.int_keyed AF
theorem Lb:Keyed Tryz.prog 273:=Keyed.of_law (deep_law_laid T3 (m:=4) JY (ZG AB) AB AB)
theorem FR:Keyed Tryz.prog 48:=Keyed.of_law (deep_law_laid T3 (m:=4) JY (ZG AB) AB AB)
theorem Fe(a b:Nat)(h:Am a=Am b):a=b:=by
 simp only[Value.int.injEq,true_and]at h;omega
theorem T_{a b:List (List Value)}(h:Value.agg (flat a)=Value.agg (flat b)):a.flatten=b.flatten:=by
 simp only[Value.agg.injEq,flat]at h;simpa using h
theorem Ye{l m:rG}(h:bv l=bv m):l=m:=by
 induction l generalizing m with
 |nil=>cases m with
  |nil=>rfl
  |cons y m=>cases h
 |cons x l a=>cases m with
  |nil=>cases h
  |cons y m=>
   simp only[bv,Zv,List.cons.injEq,Value.int.injEq,true_and]at h;rw[a h.2,M'.1 (by omega:x.toNat=y.toNat)]
theorem O5(a b:Jc)(h:AP a=AP b):a=b:=by
 have:=T_ h;simp only[W1,fH,Ha]at this;exact Jc.ext (Ye this)
theorem Le(a b:G.Ae)(h:AM a=AM b):a=b:=by
 have:=T_ h;simp only[W1,fH,Ha,HR,Hg,List.cons.injEq,Value.int.injEq,true_and]at this;obtain⟨c,d⟩:=a;obtain⟨e,f⟩:=b;have g:c=e:=by have:=this.1;simp only at this;omega
 have i:d=f:=Jc.ext (Ye this.2);rw[g,i]
theorem Fb{n:Nat}(h:n≤4611686018427387904:=by omega):keyOf Tryz.prog 3 (Am n)=some (.int .i64 (n:Int)):=by
 have hw:(Lit.int .i64 ((n:Nat):Int)).wf=true:=by
  have h1:IntKind.i64.min= -9223372036854775808:=D;have a:IntKind.i64.max=9223372036854775807:=D;simp only[Lit.wf,Kq,decide_eq_true_eq];omega
 simp[keyOf,Tryz.underlying3,mapKey,hw]
theorem Zp:Tryz.prog.types.size+1=(Tryz.prog.types.size - 2)+3:=AB
theorem OB{x:Jc}:keyOf Tryz.prog 48 (AP x)=some (.string (keyBytes (GK x.l))):=by
 have a:(AP x).formed Tryz.prog 48=true:=by simp[Value.formed,Tryz.underlying48,flat,DG,x.h,NL]
 have b:Tryz.prog.keyType 48=true:=AB;have hl:Tryz.prog.keyLits (Tryz.prog.types.size+1) 48 (AP x).cells.toList=some (GK x.l):=by
  have e:(AP x).cells.toList=bv x.l:=by show(flat [bv x.l]).toList=_;simp[flat]
  rw[Zp,e];exact SK (Tryz.prog.types.size - 2+1) (T:=48) CI NL x.h
 simp only[keyOf,Tryz.underlying48,a,b,Bool.and_self,if_true,hl,Ph]
theorem Lg{r:G.Ae}(h:r.b≤4611686018427387904:=by omega):keyOf Tryz.prog 273 (AM r)=some (.string (keyBytes (Lit.int .i64 (r.b:Int)::GK r.k.l))):=by
 have a:(AM r).formed Tryz.prog 273=true:=by simp[Value.formed,Tryz.underlying273,flat,DG,r.k.h,VE]
 have c:Tryz.prog.keyType 273=true:=AB;have hl:Tryz.prog.keyLits (Tryz.prog.types.size+1) 273 (AM r).cells.toList=some (Lit.int .i64 (r.b:Int)::GK r.k.l):=by
  have e:(AM r).cells.toList=[Value.int .i64 (r.b:Int)]++bv r.k.l:=by show(flat _).toList=_;simp[flat]
  rw[Zp,e];exact ha (Tryz.prog.types.size - 2) r.b r.k h
 simp only[keyOf,Tryz.underlying273,a,c,Bool.and_self,if_true,hl,Ph]
theorem O4(w:World):(zeroValue 3).run Tryz.prog w=.ok (E 0) w:=AB
theorem KQ(w:World):(zeroValue 142).run Tryz.prog w=.ok (.agg (flat Qb)) w:=AB
theorem J_(w:World):(zeroValue 138).run Tryz.prog w=.ok (.agg (flat N3)) w:=AB
def AN(b n:Nat)(f:Nat→Option Bf):Atom:=
 ⟨fun j=>j=b∨∃a x,f a=some x∧x.s.val.ownBlock=some j,fun w=>E8 Tryz.prog 3 Am J6 b n f w∧∀a x,f a=some x→w.ownsRow 0 5 1 x.s.val x.s.v.length (bv x.s.v),
  fun w h j e=>by
   rcases e with e|⟨a,x,h1,d⟩
   ·subst e;exact h.1.lt
   ·exact((h.2 a x h1).lt j d).2,
  fun w w' h g e=>⟨h.1.loc (e b (.inl D)),fun a x c=>(Ae 5 1 x.s.val x.s.v.length (bv x.s.v)).loc w w' (h.2 a x c) g (fun k i=>e k (.inr ⟨a,x,c,i⟩))⟩⟩
def AQ(k:TypeId){Bo:Type}(Ca:Bo→Value)(v:Value)(f:Bo→Option Nat):Atom:=
 ⟨fun j=>v=.map (some j),fun w=>(v=.map none∧∀a,f a=none)∨∃b n,v=.map (some b)∧E8 Tryz.prog k Ca Am b n f w,
  fun w h j e=>by
   rcases h with⟨h, -⟩|⟨b,n,h,m⟩
   ·rw[h]at e;cases e
   ·rw[h]at e;cases e;exact m.lt,
  fun w w' h c e=>by
   rcases h with h|⟨b,n,h,m⟩
   ·exact .inl h
   ·exact .inr ⟨b,n,h,m.loc (e b h)⟩⟩
section
variable {ops:Array Oper} {rest:List Oper} {Aa:Exit→Act→World→Prop} {N:Nat} {f:BW} {d:Nat} {ty:TypeId} {pos:String} {An:Array Edge} {dst:Option Tmp} {g:Option (Nat×Bool)} {F:Nat→Prop} {w0 w:World} {H:List Atom} {A5:Act→World→Prop} {R:Act→Prop}
theorem Sat.KP{b n:Nat}{Z:Nat→Option Bf}(h:Sat F w0 H w)(i:Nat)(V:H[i]? =some (AN b n Z):=by exact rfl):E8 Tryz.prog 3 Am J6 b n Z w:=(h.at_ i _ V).1
theorem OC(i:Nat){b n:Nat}{Z:Nat→Option Bf}{a:Nat}{x:Bf}(c:Z a=some x)(V:H[i]? =some (AN b n Z):=by exact rfl):∀w,Sat F w0 H w→View w x.s.val x.s.v.length 1 (bv x.s.v):=fun w h=>View.own ((h.at_ i _ V).2 a x c)
theorem Zg{P:Program}{k e t:TypeId}(c:Bool)(FR:Keyed P k)(b:P.underlying t=some (.map k e)){z:Value}(d:(zeroValue e).run P w=.ok z w){key:Value}{GB:Lit}(a:keyOf P k key=some GB):
 (Instr.lookup t (.map none) key c).run P w=.ok (if c then .tuple #[z,.bool false]else z) w:=by
 rcases FR.find w a [] (by simp)with⟨h1, -⟩|⟨j,g, -,f, -⟩
 ·simp[Instr.lookup,run_underlying b,FR.check w _ a,h1,d,Result.andThen]
 ·simp at f
theorem O2{k t:TypeId}{Bo:Type}{Ca:Bo→Value}{l:Value}{Z:Bo→Option Nat}(o:Tryz.prog.underlying t=some (.map k 3))(i:Nat)(r:H[i]? =some (AQ k Ca l Z))(FR:Keyed Tryz.prog k)(inj:∀a j,Ca a=Ca j→a=j){x BI:Operand}{a:Bo}{GB:Lit}(p:keyOf Tryz.prog k (Ca a)=some GB)(e:Aj f x=some l)(V:Aj f BI=some (Ca a)):BR Tryz.prog N f F w0 H ⟨some d,.lookup t x BI false,ty,pos,An,g⟩ (E ((Z a).getD 0)):=fun j w c s=>by
 show(execOp j.eval _).run Tryz.prog w=_
 rcases s.at_ i _ r with⟨h,u⟩|⟨b,n,h,m⟩
 ·have:=Zg (w:=w) false FR o (O4 w) p;rw[h]at e;simp[execOp,c.A_ e,c.A_ V,this,u]
 ·have:=m.look false FR inj o (O4 w) p;rw[h]at e;cases q:Z a with
  |none=>rw[q]at this;simp[execOp,c.A_ e,c.A_ V,this]
  |some y=>rw[q]at this;simp[execOp,c.A_ e,c.A_ V,this]
theorem UK{k t:TypeId}{Bo:Type}{Ca:Bo→Value}{l:Value}{Z:Bo→Option Nat}(o:Tryz.prog.underlying t=some (.map k 3))(i:Nat)(r:H[i]? =some (AQ k Ca l Z))(FR:Keyed Tryz.prog k)(inj:∀a j,Ca a=Ca j→a=j){x BI:Operand}{a:Bo}{GB:Lit}(p:keyOf Tryz.prog k (Ca a)=some GB)(e:Aj f x=some l)(V:Aj f BI=some (Ca a)):BR Tryz.prog N f F w0 H ⟨some d,.lookup t x BI true,ty,pos,An,g⟩ (.tuple #[E ((Z a).getD 0),.bool (Z a).isSome]):=fun j w c s=>by
 show(execOp j.eval _).run Tryz.prog w=_
 rcases s.at_ i _ r with⟨h,u⟩|⟨b,n,h,m⟩
 ·have:=Zg (w:=w) true FR o (O4 w) p;rw[h]at e;simp[execOp,c.A_ e,c.A_ V,this,u]
 ·have:=m.look true FR inj o (O4 w) p;rw[h]at e;cases q:Z a with
  |none=>rw[q]at this;simp[execOp,c.A_ e,c.A_ V,this]
  |some y=>rw[q]at this;simp[execOp,c.A_ e,c.A_ V,this]
end
end Go.Proofs.YtjdboncaegphmaaGreatDoor
namespace Go.Proofs.YtjdboncaegphmaaGreatDoor
open Go.RowKit
set_option maxRecDepth 100000
set_option maxHeartbeats 2000000
variable {x:Operand}
theorem Sat.sub{F:Nat→Prop}{w0 w W:World}{H H1:List Atom}(h:Sat F w0 H w)(BI:List Nat)(q:Sat (A6 H1) w H1 W)(e:BI.map (fun i=>H[i]?)=H1.map some:=by exact rfl):Sat F w0 H W:=by
 have key:∀(p:Nat) (A:Atom),H1[p]? =some A→∃i,BI[p]? =some i∧H[i]? =some A:=by
  intro p A a;have:=congrArg (fun l=>l[p]?) e;simp only[ti,a,Ph]at this;cases V:BI[p]? with
  |none=>rw[V]at this;cases this
  |some i=>rw[V]at this;exact⟨i,D,by simpa using this⟩
 have back:∀(i:Nat) (A:Atom),H[i]? =some A→i∈BI→∃p:Nat,H1[p]? =some A:=by
  intro i A V hm;obtain⟨p,a⟩:=List.mem_iff_getElem?.1 hm;have:=congrArg (fun l=>l[p]?) e;simp only[ti,a,Ph,V]at this;exact⟨p,by cases c:H1[p]? with
   |none=>rw[c]at this;cases this
   |some B=>rw[c]at this;simpa using this.symm⟩
 refine⟨h.GA.trans q.GA (fun k ⟨p,A,a,b⟩ n=>?_),fun i A V=>?_,h.u4,h.u_⟩
 ·obtain⟨i, -,V⟩:=key p A a;exact(h.u4 i A V k b).resolve_right JY
 ·by_cases hm:i∈BI
  ·obtain⟨p,a⟩:=back i A V hm;exact q.at_ p A a
  ·refine A.loc w W (h.at_ i A V) q.GA.size (fun k b=>q.GA.block k (A.lt w (h.at_ i A V) k b) ?_);rintro⟨p,B,a,g⟩;obtain⟨j,hj,m⟩:=key p B a;exact h.u_ i j A B (fun z=>hm (z▸ta hj)) V m k b g
theorem Sat.Ad{F:Nat→Prop}{w0 w:World}{H H1:List Atom}(h:Sat F w0 H w)(BI:List Nat)(e:BI.map (fun i=>H[i]?)=H1.map some:=by exact rfl)(a:BI.Nodup:=by decide):BE H1 w:=(h.pick BI e a).hold
section
variable {P:Program} {ops:Array Oper} {rest:List Oper} {Aa:Exit→Act→World→Prop} {N:Nat} {f:BW} {d:Nat} {ty:TypeId} {pos:String} {An:Array Edge} {dst:Option Tmp} {g:Option (Nat×Bool)} {F:Nat→Prop} {w0 w:World} {H:List Atom} {A5:Act→World→Prop} {R:Act→Prop}
theorem Cx{Cf:FuncId}{fn:Func}(b:P.funcs[Cf]? =some fn){xs:List Operand}{sU:Array TypeId}{l:List Value}(c:GX f xs=some l){v:Value}(BI:List Nat){H1:List Atom}(j:∀w,BE H1 w→Calls P Cf l.toArray w fun e W=>e=.returned v∧Sat (A6 H1) w H1 W)(h:AT N (Jb f d v) F w0 H A5)
 (e:BI.map (fun i=>H[i]?)=H1.map some:=by exact rfl)(k:BI.Nodup:=by decide)(m:(fn.name== "runtime.NumGoroutine")=false:=by kernel_rfl)(J:fn.body.isNone=false:=by kernel_rfl)(Ad:Nat.blt d N=true:=by exact rfl):D3 P ⟨some d,.call {callee:=.value (.func Cf),args:=xs.toArray,argTypes:=sU},ty,pos,An,g⟩ Aa N f F w0 H A5:=
 Ba b c (fun w a=>j w (a.Ad BI e k)) (fun w n W a ⟨he,q⟩=>⟨_,_,he,a.sub BI q e,h⟩) m J Ad
theorem KK{Cf:FuncId}{fn:Func}(b:P.funcs[Cf]? =some fn){xs:List Operand}{sU:Array TypeId}{l:List Value}(c:GX f xs=some l){v:Value}(BI:List Nat){H1:List Atom}(g:∀w,BE H1 w→Calls P Cf l.toArray w fun e W=>e=.returned v∧Sat (A6 H1) w H1 W)(h:GP P ops R N (Jb f d v) F w0 H rest)
 (e:BI.map (fun i=>H[i]?)=H1.map some:=by exact rfl)(j:BI.Nodup:=by decide)(k:(fn.name== "runtime.NumGoroutine")=false:=by kernel_rfl)(J:fn.body.isNone=false:=by kernel_rfl)(Ad:Nat.blt d N=true:=by exact rfl):GP P ops R N f F w0 H (⟨some d,.call {callee:=.value (.func Cf),args:=xs.toArray,argTypes:=sU},ty,pos,An,none⟩::rest):=
 Ve b c (fun w a=>(g w (a.Ad BI e j)).mono fun _ _ ⟨he,q⟩=>⟨he,a.sub BI q e⟩) h k J Ad
end
structure Dl where
 ip:Option Addr
 uX:Nat
 uY:Nat
 w:Nat
 g:Nat
 m:Nat
 h:Nat
 p:Nat
 AU:Nat
 uL:Nat
structure BX where
 p:Option Addr
 n:Nat
 c:Nat
abbrev tL:=fun(a:Dl) d e f (b:BX) g=>([Ap Tryz.prog 3 Am BT a.uL d e,Ae 5 1 (I a.ip a.uX a.uY) a.uX (bv f),Ae 3 1 (I b.p b.n b.c) b.n (Aq Bm g)]:List Atom)
abbrev Zl:=fun(a:BX) (b:BX)=>([[I a.p a.n a.c],[I b.p b.n b.c]]:List (List Value))
abbrev AE:BX:=⟨none,0,0⟩
abbrev dw(z:Dl)(C a Au B:BX):List (List Value):=[[I z.ip z.uX z.uY],[E z.w],[E z.g],[E z.m],[E z.h],[E z.p],[Value.map (some z.AU)],[Value.map (some z.uL)],[I C.p C.n C.c],[I a.p a.n a.c],[I Au.p Au.n Au.c],[I B.p B.n B.c]]
abbrev Ay(Q:Nat)(z:Dl)(C a Au B:BX):Atom:=O Q (dw z C a Au B) 189
structure Kx where
 p:Nat
 w:Nat
def BQ(x:Kx):List Value:=List.flatten [[E x.p],[E x.w]]
theorem cP(x:Kx):(BQ x).length=2:=rfl
theorem aV(x:Kx):∀u∈BQ x,u.oneCell'=true:=OR (.one D (.one rfl .nil))
theorem XS:CO Tryz.prog 83 237 2 16 (.agg (flat [[.int .i64 0],[.int .i64 0]])):=CO.mk' Mi AB D JZ
def CC(x:Nat):List Value:=List.flatten [[S x]]
theorem O1(x:Nat):(CC x).length=1:=rfl
theorem Px(x:Nat):∀u∈CC x,u.oneCell'=true:=OR (.one rfl .nil)
theorem J8:CO Tryz.prog 187 261 1 8 (.pointer none):=CO.mk' kE AB D JZ
def FP(W i:Nat):List Jc:=(List.range 257).map fun j=>if j<i then AL.bare W j else CU
theorem H7(W i:Nat):(FP W i).length=257:=by unfold FP;rw[MU,Wv]
theorem bw(W:Nat):List.replicate 257 CU=FP W 0:=by
 apply cI
 ·rw[He,H7]
 ·intro j h1 a;simp only[FP,Mw,cZ,List.getElem_replicate];rw[if_neg (n3 _)]
theorem fK(W i:Nat)(h:i<257):(FP W i).set i (AL.bare W i)=FP W (i+1):=by
 apply cI
 ·rw[Kh,H7,H7]
 ·intro j h1 b;rw[kJ];simp only[FP,Mw,cZ]
  by_cases e:i=j
  ·subst e;rw[if_pos D,if_pos JY]
  ·rw[if_neg e]
   by_cases a:j<i
   ·rw[if_pos a,if_pos JY]
   ·rw[if_neg a,if_neg JY]
theorem WM{W j:Nat}{x:Jc}(h:(FP W 257)[j]? =some x):x=AL.bare W j:=by
 obtain⟨hl,e⟩:=EH.1 h;rw[H7]at hl;simp only[FP,Mw,cZ,if_pos hl]at e;exact e.symm
def A1(W:Nat)(B:BX):Atom:=
 ⟨fun j=>B.p=some ⟨j,0,none⟩,fun w=>B=AE∨∃b,B=⟨some ⟨b,0,none⟩,257,257⟩∧w.heap[b]? =some (.cells (flat [Aq EJ (FP W 257)]) 136 (0,0)),
  fun w h j e=>by
   rcases h with h|⟨b,h,m⟩
   ·rw[h]at e;cases e
   ·rw[h]at e;cases e;exact DC m,
  fun w w' h a e=>by
   rcases h with h|⟨b,h,m⟩
   ·exact .inl h
   ·exact .inr ⟨b,h,(e b (by rw[h])).trans m⟩⟩
abbrev NY:=fun f (d:Dl) (a:BX) (b:BX) e g h i j k l=>([Ay f d a b AE e,A1 d.w e,AN d.AU g h,Ap Tryz.prog 3 Am BT d.uL i j,Ae 3 1 (I a.p a.n a.c) a.n (Aq Bm k),Ae 261 1 (I b.p b.n b.c) b.n (Aq CC l)]:List Atom)
abbrev jM:=fun(b:Dl) d e f g h (a:BX) i=>([A1 b.w d,AN b.AU e f,Ap Tryz.prog 3 Am BT b.uL g h,Ae 3 1 (I a.p a.n a.c) a.n (Aq Bm i)]:List Atom)
theorem Z8:(madeCells (Value.agg (flat [Ak 32])).cells (257*32)).toList=Aq EJ (List.replicate 257 CU):=by
 have a:(Value.agg (flat [Ak 32])).cells=Array.replicate 32 (.int .u8 0):=D;have c:(madeCells (Value.agg (flat [Ak 32])).cells (257*32)).toList=List.replicate (257*32) (.int .u8 0):=by
  rw[a,n1];refine⟨by simp[madeCells],?_⟩;intro b J;simp only[madeCells,PL,bI]at J;obtain⟨i, -,rfl⟩:=J;have:i % 32<32:=hJ _ JZ;simp[this]
 have d:Aq EJ (List.replicate 257 CU)=List.replicate (257*32) (.int .u8 0):=by
  rw[n1];refine⟨by rw[LK Hh,He],?_⟩;intro b J;simp only[Aq,W8,bI]at J;obtain⟨l,⟨x,e,rfl⟩,J⟩:=J;rw[(List.mem_replicate.1 e).2]at J;have f:EJ CU=List.replicate 32 (.int .u8 0):=D;rw[f]at J;exact(List.mem_replicate.1 J).2
 rw[c,d]
section
variable {P:Program} {a:Act} {N:Nat} {f:BW} {ty:TypeId} {pos:String} {An:Array Edge} {dst:Option Tmp} {g:Option (Nat×Bool)}
theorem ZQ{t e:TypeId}{w:World}(a:P.underlying t=some (.slice e))(p:Option Addr)(n c:Nat):(binOp .eql t (.slice p n c) (.slice none 0 0)).run P w=.ok (.bool p.isNone) w:=by
 have h:(Op.equalIn (Op.maxDepth - 1+1) t (.slice p n c) (.slice none 0 0)).run P w=.ok p.isNone w:=by cases p<;>simp[Op.equalIn,run_underlying a]
 have e:(Op.equal t (.slice p n c) (.slice none 0 0)).run P w=.ok p.isNone w:=h;show(do pure (Value.bool (←Op.equal t (.slice p n c) (.slice none 0 0))):Sem Value).run P w=_;simp[e]
theorem UW{w:World}(b:AH N a f){t u e:TypeId}{y:Operand}(d:P.underlying t=some (.slice e)){p:Option Addr}{n c:Nat}(h:Aj f x=some (.slice p n c))(i:Aj f y=some (.slice none 0 0))(r:Bool)(hr:p.isNone=r):CD P a w ⟨dst,.binOp .eql t x y u,ty,pos,An,g⟩ (.bool r) w:=by
 subst hr;exact ED b h i (by simp[eqGuard]) (ZQ d _ _ _)
end
section
variable {P:Program} {ops:Array Oper} {rest:List Oper} {Aa:Exit→Act→World→Prop} {N:Nat} {f:BW} {d:Nat} {ty:TypeId} {pos:String} {An:Array Edge} {dst:Option Tmp} {g:Option (Nat×Bool)} {F:Nat→Prop} {w0 w:World} {H:List Atom} {A5:Act→World→Prop} {R:Act→Prop}
theorem Io{s:TypeId}{b:Array Field}(hu:P.underlying s=some (.struct b))(q:Nat){i:Nat}{ss:List (List Value)}{v:Value}(c:Aj f x=some (.agg (flat ss)))(j:ss[q]? =some [v]){BB:TypeDesc}{Ce:Field}(k:b[i]? =some Ce)(Ad:P.underlying Ce.type=some BB){pre:List (List Value)}(h1:ss.take q=pre:=by exact Jr){p:Nat}(s1:pre.flatten.length=p:=by exact Jp)(ho:p=Ce.offset:=by exact rfl)(hr:BB.isRow=false:=by exact rfl):BR P N f F w0 H ⟨some d,.field s x i,ty,pos,An,g⟩ v:=fun a w l n=>by
 subst h1;have m:ss.flatten[Ce.offset]? =some v:=by
  have e:ss=ss.take q++([v]::ss.drop (q+1)):=by
   obtain⟨h,e⟩:=EH.1 j;rw[←e,←Xy,td]
  rw[e,YK,←ho,←s1,UP (Br _),XT];rfl
 exact bo l c hu k Ad hr (by simpa[flat]using m)
theorem Uz{t e:TypeId}{size bytes:Nat}{z:Value}(c:CO P t e size bytes z)(n:Nat){y:Operand}{k k':IntKind}{xs:List Value}(m:Aj f x=some (.int k ((n:Nat):Int)))(o:Aj f y=some (.int k' ((n:Nat):Int)))(p:(madeCells z.cells (n*size)).toList=xs)(M:xs.length=n*size)(h:∀b,AT N (Jb f d (.slice (some ⟨b,0,none⟩) n n)) F w0 (O b [xs] e::H) A5)(J:bytes*n≤281474976710656:=by omega)(q:n≤maxLen:=by unfold maxLen;omega)(Ad:Nat.blt d N=true:=by exact rfl):D3 P ⟨some d,.makeSlice t x y,ty,pos,An,g⟩ Aa N f F w0 H A5:=fun a w l r=>by
 subst p;obtain⟨i,V,s,u,B⟩:=c.V;obtain⟨W,hr,ho,C⟩:=run_make_full (P:=P) (w:=w) 0 t e i z size c.uG V s u k k' n (by rw[B];exact J) q (F2 _);have D:W.heap[w.heap.size]? =some (.cells (flat [(madeCells z.cells (n*size)).toList]) e (0,0)):=by
  rcases ho.2 with⟨j,R⟩|⟨S,T,cur,j, -,E, -, -,G,I⟩
  ·simp at j
  ·simp only[Value.slice.injEq,Option.some.injEq,Addr.mk.injEq,and_true,true_and]at j;obtain⟨rfl,rfl⟩:=j;rw[E];have:cur.toList=(madeCells z.cells (n*size)).toList:=by
    rw[←I,DV (by simp[G])]
   congr 2
   apply bg.1;rw[this];simp[flat]
 refine F8 (v:=.slice (some ⟨w.heap.size,0,none⟩) n n) (w':=W) l Ad ?_ (fun K L=>h _ K W L (r.new (A:=O w.heap.size [(madeCells z.cells (n*size)).toList] e) ((Cn _ _).grown C (Br _) (fun k c=>by cases c)) D (fun k c=>Mk c.symm)));simp[execOp,l.A_ m,l.A_ o,hr]
theorem Pf(i:Nat){Bo:Type}{enc:Bo→List Value}{size:Nat}(he:∀x,(enc x).length=size){b n:Nat}{L:List Bo}{tb:TypeId}(a:L.length=n)(V:H[i]? =some (O b [Aq enc L] tb):=by exact rfl)(d:n≤maxLen:=by unfold maxLen;omega):∀w,Sat F w0 H w→View w (.slice (some ⟨b,0,none⟩) n n) n size (Aq enc L):=fun w c=>by
 refine⟨by rw[LK he,a];exact Br _,.inr ⟨b,0,n,D,by rw[LK he,a];exact Br _,Br _,d,DC (c.Dq i V),fun j v hj=>?_⟩⟩;have:=H4 (c.Dq i V) j v (by simpa using hj);simpa using this
theorem fo(i j:Nat){Bo:Type}{enc:Bo→List Value}{size:Nat}(he:∀x,(enc x).length=size){T:TypeId}{y:Operand}{b off:Nat}{L:List Bo}{u:Bo}{sU:List (List Value)}{tb:TypeId}(V:H[i]? =some (O b [Aq enc L] tb))(o:Aj f x=some (.pointer (some ⟨b,off,none⟩)))(p:Aj f y=some (.agg (flat sU)))(d:sU.flatten=enc u){m:List Bo}(q:L.set j u=m)(hj:j<L.length)(h:AT N f F w0 (H.set i (O b [Aq enc m] tb)) A5)(ho:j*size=off:=by first|rfl|omega){r:Nat}(s:Jo sU r:=by exact JF)(t:(P.info? T).map (·.size)=some size:=by kernel_rfl):D3 P ⟨none,.store T x y,ty,pos,An,g⟩ Aa N f F w0 H A5:=fun a w v n=>by
 subst q;have z:[Aq enc L].flatten=([Aq enc (L.take j)]++[enc L[j]]++[Aq enc (L.drop (j+1))]).flatten:=by
  have c:Aq enc (L.drop j)=enc L[j]++Aq enc (L.drop (j+1)):=by rw[Xy hj];rfl
  have l:Aq enc L=Aq enc (L.take j)++Aq enc (L.drop j):=by rw[←Py,td]
  simp only[W1,fH,Ha,HR,Hg];rw[l,c]
 have A:([Aq enc (L.take j)]++sU++[Aq enc (L.drop (j+1))]).flatten=[Aq enc (L.set j u)].flatten:=by
  rw[g9,if_pos hj];have c:Aq enc (u::L.drop (j+1))=enc u++Aq enc (L.drop (j+1)):=D;simp only[W1,fH,Ha,YK,d,Py,c,C9]
 have J:=n.Dq i V;unfold flat at J;rw[z]at J;refine Ru v o [Aq enc (L.take j)] [enc L[j]] [Aq enc (L.drop (j+1))] sU J p (by rw[lS,LK he,FX,aQ JY];exact ho) (by rw[d,he,lS,he]) (by rw[t,d,he]) s.one (fun B W C _ c l=>h B W C (n.set i V (C7.grown l) ?_ (fun k e=>.inl e)));unfold flat at c;rw[A]at c;exact c
end
theorem Sat.Eb{F:Nat→Prop}{w0 w:World}{H H1:List Atom}(h:Sat F w0 H w)(a:CG w0)(c:∀k,CB k→¬F k)(BI:List Nat)(e:BI.map (fun i=>H[i]?)=H1.map some:=by exact rfl)(d:BI.Nodup:=by decide):∀k,CB k→¬A6 H1 k:=by
 rintro k b ⟨p,A,f,g⟩
 rcases(h.pick BI e d).u4 p A f k g with q|q
 ·exact c k b q
 ·rcases b with rfl|rfl
  ·have:=a.WL;omega
  ·have:=a.blt;omega
theorem EZ(Q:Nat)(z:Dl)(C d Au B:BX)(p b:Nat)(Ce:List Kx)(w:World)(f:BE [Ay Q z C d Au B,Ae 237 2 (I Au.p Au.n Au.c) Au.n (Aq BQ Ce)] w)(k:Au.n≤1048576:=by first|omega|decide):Calls Tryz.prog 130 #[S Q,E p,E b] w fun e W=>∃(a:BX) (g:List Kx),e=.returned (.tuple #[])∧a.n=Au.n+1∧Sat (A6 [Ay Q z C d Au B,Ae 237 2 (I Au.p Au.n Au.c) Au.n (Aq BQ Ce)]) w [Ay Q z C d a B,Ae 237 2 (I a.p a.n a.c) a.n (Aq BQ g)] W:=by
 refine Cb f P1 D 18 fun F hF=>K ?_;refine By D<|AG Kp 10 D<|AZ Mi 0 10 D D D<|Jd D<|Jd D<|Af (S8 [[E p],[E b]])<|U<|Ey XS (Aq BQ [(⟨p,b⟩:Kx)]) D D D fun l=>U<|DI (m:=1) XS 2 (Aq BQ (Ce++([(⟨p,b⟩:Kx)]))) D D D (BZ 0) (HJ aV _) (H0 cP D) D fun h i=>By D<|AG Kp 10 D<|U<|Cq 1 10 D D D<|?_;refine Jg<|Jt<|Ff fun W j=>?_;subst hF;exact⟨⟨h,Au.n+1,i⟩,_,D,D,j.pick [1,2]⟩
theorem HX(Q:Nat)(z:Dl)(C b Au B:BX)(i:Nat)(As:List Nat)(w:World)(d:BE [Ay Q z C b Au B,Ae 3 1 (I C.p C.n C.c) C.n (Aq Bm As)] w)(j:C.n≤4096:=by omega):Calls Tryz.prog 159 #[S Q,E i] w fun e W=>e=.returned (E (G.at_ As i))∧Sat (A6 [Ay Q z C b Au B,Ae 3 1 (I C.p C.n C.c) C.n (Aq Bm As)]) w [Ay Q z C b Au B,Ae 3 1 (I C.p C.n C.c) C.n (Aq Bm As)] W:=by
 have k:As.length=C.n:=I3 Gj JZ (d.at_ 1 _ D);refine Cb d Qf D 24 fun F hF=>K ?_;refine GV D D (fun g=>?_) fun g=>?_
 ·
  refine A7 ?_;intro W a;subst hF;exact⟨by unfold G.at_;rw[if_neg JY];rfl,a.pick [0,1]⟩
 refine K ?_;refine By D<|Jj D D D<|AG Kp 8 D<|Jj D D D<|AZ Lc 0 8 D D D<|Jj D D D<|Cr Lc D<|Jj D D D<|Kl D D (fun h=>?_) fun h=>?_
 ·
  refine A7 ?_;intro W a;subst hF;exact⟨by unfold G.at_;rw[if_neg JY];rfl,a.pick [0,1]⟩
 refine K ?_;refine By D<|AG Kp 8 D<|AZ Lc 0 8 D D D<|Jd D<|Es (q:=1) D D<|Vh Gj 1 (i - 1) fun l f=>Af (Dj G0 (i - 1) (i - 1) (BZ 1) D D)<|Af (J1 AF Gj (i - 1) f (BZ 1) D D)<|A7 ?_;intro W a;subst hF;exact⟨by unfold G.at_;rw[if_pos JY,Dm,f];rfl,a.pick [0,1]⟩
theorem Ya(Q:Nat)(z:Dl)(C a Au B:BX)(p:Nat)(w:World)(d:BE [Ay Q z C a Au B] w)(b:(p+1)*256≤z.uY∧p≤4096):Calls Tryz.prog 128 #[S Q,E p] w fun e W=>e=.returned (I (sp z.ip (p*256) z.uY 1) ((p+1)*256 - p*256) (z.uY - p*256))∧Sat (A6 [Ay Q z C a Au B]) w [Ay Q z C a Au B] W:=by
 obtain⟨b,g⟩:=b;refine Cb d j4 D 15 fun F hF=>K ?_;refine By D<|AG Kp 0 D<|AZ B7 0 0 D D D<|Jd D<|Af (E3 (q:=256) D D)<|Jd D<|B6 (q:=1) D D<|Af (E3 (q:=256) D D)<|Af (PI A3 (p*256) ((p+1)*256) D (.some D) (.some D))<|A7 ?_;intro W f;subst hF;exact⟨D,f.pick [0]⟩
theorem hc(Q:Nat)(z:Dl)(C d Au:BX)(c:Nat)(w:World)(o:BE [Ay Q z C d Au AE] w)(g:CG w)(p:∀k,CB k→¬A6 [Ay Q z C d Au AE] k)(hw:z.w≤32)(v:c≤256):Calls Tryz.prog 171 #[S Q,E c] w fun e W=>e=.returned (.agg (flat [bv (AL.bare z.w c).l]))∧∃AK,Sat (A6 [Ay Q z C d Au AE]) w [Ay Q z C d Au ⟨some ⟨AK,0,none⟩,257,257⟩,O AK [Aq EJ (FP z.w 257)] 136] W:=by
 have h:∀F,A6 [Ay Q z C d Au AE]=F→∀k,CB k→¬F k:=fun F hF k r q=>p k r (hF▸q);refine Cb o kl D 53 fun F hF=>Je<|Jh<|U<|Bw [Ak 32] fun j=>K ?_;refine By D<|AG Kp 11 D<|AZ J' 1 11 D D D<|Af (fun _ _ f b=>UW f J' D D true D)<|K ?_;refine U<|Uz Kt 257 D D Z8 (by rw[LK Hh,He]) fun AK=>By D<|AG Tryz.underlying189 11 D<|U<|Cq 2 11 D D D<|?_;refine K ?_;refine By D<|AG Kp 1 D<|AG Bs 1 D<|AZ AF 2 1 D D D<|U<|BP QE D (fun w b=>VB z.w 0 w (g.sat b (h F hF)) JY JY)<|U<|Bw [Ak 32] fun m=>U<|Bk 0 0 1 D D D<|?_;refine K ?_;refine By D<|AG Kp 11 D<|AZ J' 3 11 D D D<|Cr J' D<|K ?_;refine FO 1 [Aq EJ (FP z.w 0)] D (by rw[bw z.w])<|FO 0 [bv (AL.bare z.w 0).l] D D<|DL (fun s a W=>∃(i:Nat),s=257 - i∧AH 53 a (Jb (Jb (Jb (Jb (Jb (Jb Jk 0 (S Q)) 1 (E c)) 4 (S j)) 5 (S m)) 26 (E 257)) 27 (E i))∧Sat F w [O m [bv (AL.bare z.w i).l] 136,O AK [Aq EJ (FP z.w i)] 136,O j [Ak 32] 136,Ay Q z C d Au ⟨some ⟨AK,0,none⟩,257,257⟩] W∧i≤257) (fun a W f b=>⟨0,D,AY f,b.pick [0,1,2,3],JY⟩) ?_;rintro _ a W ⟨i,rfl,f,b,V⟩;revert a W;refine Je<|Jh<|Ej D D<|Jg<|Jf<|Je<|Cz D (fun t=>?_) fun t=>?_
 ·
  refine K ?_;refine DD 7<|zs (AA D)<|zs (Bp D)<|zs (AS Kp 11 D)<|zs (Bb J' 3 11 D D D)<|zs (AA D)<|zs (BN Nl 0 D D)<|Kz (H7 z.w i) i fun x y=>zs (Dj Kt i (i*32) (Pf 1 Hh (H7 z.w i)) D D)<|CS<|U<|CR 36 D (show _=(A2 AK (0+i*32))from D)<|fo 1 i Hh D D D (by rw[lS];exact(Ha _).symm) (fK z.w i JY) (by rw[H7];omega)<|Jg<|Jf<|DD 7<|zs (AA D)<|zs (Bp D)<|zs (AS Tryz.underlying189 1 D)<|zs (AS Tryz.underlying70 1 D)<|zs (Bb Tryz.underlying3 3 1 D D D)<|zs (BN Tryz.underlying136 0 D D)<|zs (BN Tryz.underlying136 0 D D)<|CS<|U<|BP Tryz.func178 D (fun w b=>Oh z.w (AL.bare z.w i) (AL.bare z.w i) w (g.sat b (h F hF)))<|U<|Bk 0 0 1 D D D<|?_;refine K ?_;refine B6 (q:=1) D D<|K ?_;exact fun a W f b=>⟨_,JY,i+1,D,AY f,b.pick [0,1,2,3],JY⟩
 obtain rfl:i=257:=JY;refine K ?_;refine By D<|AG Kp 11 D<|AZ J' 3 11 D D D<|Jd D<|Kz (H7 z.w 257) c fun u n=>Af (Dj Kt c (c*32) (Pf 1 Hh (H7 z.w 257)) D D)<|Af (LH Nl Hh c 0 1 [bv u.l] n (Pf 1 Hh (H7 z.w 257)) D D)<|U<|Bk 2 0 1 D D D<|?_;refine Jg<|Jf<|Jq<|Fq Nl 2 D D fun W b=>?_;subst hF;exact⟨by rw[WM n];rfl,⟨AK,b.pick [3,1]⟩⟩
theorem dB(Q AK:Nat)(z:Dl)(C b Au:BX)(a:Nat)(w:World)(f:BE [Ay Q z C b Au ⟨some ⟨AK,0,none⟩,257,257⟩,O AK [Aq EJ (FP z.w 257)] 136] w)(m:CG w)(g:∀k,CB k→¬A6 [Ay Q z C b Au ⟨some ⟨AK,0,none⟩,257,257⟩,O AK [Aq EJ (FP z.w 257)] 136] k)(hw:z.w≤32)(n:a≤256):Calls Tryz.prog 171 #[S Q,E a] w fun e W=>e=.returned (.agg (flat [bv (AL.bare z.w a).l]))∧Sat (A6 [Ay Q z C b Au ⟨some ⟨AK,0,none⟩,257,257⟩,O AK [Aq EJ (FP z.w 257)] 136]) w [Ay Q z C b Au ⟨some ⟨AK,0,none⟩,257,257⟩,O AK [Aq EJ (FP z.w 257)] 136] W:=by
 have o:∀F,A6 [Ay Q z C b Au ⟨some ⟨AK,0,none⟩,257,257⟩,O AK [Aq EJ (FP z.w 257)] 136]=F→∀k,CB k→¬F k:=fun F hF k h q=>g k h (hF▸q);refine Cb f kl D 53 fun F hF=>Je<|Jh<|U<|Bw [Ak 32] fun p=>K ?_;refine By D<|AG Kp 11 D<|AZ J' 1 11 D D D<|Af (fun _ _ i c=>UW i J' D D false D)<|K ?_;refine By D<|AG Kp 11 D<|AZ J' 1 11 D D D<|Jd D<|Kz (H7 z.w 257) a fun j d=>Af (Dj Kt a (a*32) (Pf 2 Hh (H7 z.w 257)) D D)<|Af (LH Nl Hh a 0 1 [bv j.l] d (Pf 2 Hh (H7 z.w 257)) D D)<|U<|Bk 0 0 1 D D D<|?_;refine Jg<|Jf<|Jq<|Fq Nl 0 D D fun W c=>?_;subst hF;exact⟨by rw[WM d];rfl,c.pick [1,2]⟩
