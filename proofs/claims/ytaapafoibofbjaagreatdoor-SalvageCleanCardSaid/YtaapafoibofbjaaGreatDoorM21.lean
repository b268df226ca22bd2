/- Laws and walks on the road to SalvageClean (part M21). No conditions beyond each law's own. -/
import Derived.Test.YtaapafoibofbjaaGreatDoorM01
import Derived.Test.YtaapafoibofbjaaGreatDoorM15
import Derived.Test.YtaapafoibofbjaaGreatDoorM20
set_option linter.unusedVariables false
namespace Go.Proofs.YtaapafoibofbjaaGreatDoor
open Go.RowKit
open Go.Maps (Keyed)
set_option maxRecDepth 100000
theorem T3:laidOutB Tryz.prog=true:=by kernel_rfl
abbrev Am(n:Nat):Value:=E n
abbrev AM(r:G.Ae):Value:=.agg (flat [[E r.b],bv r.k.l])
abbrev AP(x:Jc):Value:=.agg (flat [bv x.l])
abbrev BT(r:B9):Value:=.agg (flat (Ro r))
abbrev J6(x:Bf):Value:=.agg (flat (U' x))
theorem Fg:Keyed Tryz.prog 3:=Maps.int_keyed AF
theorem Lb:Keyed Tryz.prog 242:=Keyed.of_law (deep_law_laid T3 (m:=4) (by omega) (Nat.le_of_ble_eq_true (by kernel_rfl)) (by kernel_rfl) (by kernel_rfl))
theorem FR:Keyed Tryz.prog 57:=Keyed.of_law (deep_law_laid T3 (m:=4) (by omega) (Nat.le_of_ble_eq_true (by kernel_rfl)) (by kernel_rfl) (by kernel_rfl))
theorem Fe(a b:Nat)(h:Am a=Am b):a=b:=by
 simp only[Value.int.injEq,true_and]at h
 omega
theorem T_{a b:List (List Value)}(h:Value.agg (flat a)=Value.agg (flat b)):a.flatten=b.flatten:=by
 simp only[Value.agg.injEq,flat]at h
 simpa using h
theorem Ye{l m:List UInt8}(h:bv l=bv m):l=m:=by
 induction l generalizing m with
 |nil=>cases m with
  |nil=>rfl
  |cons y m=>cases h
 |cons x l a=>cases m with
  |nil=>cases h
  |cons y m=>
   simp only[bv,List.map_cons,List.cons.injEq,Value.int.injEq,true_and]at h
   rw[a h.2,UInt8.toNat_inj.1 (by omega:x.toNat=y.toNat)]
theorem O5(a b:Jc)(h:AP a=AP b):a=b:=by
 have:=T_ h
 simp only[List.flatten_cons,List.flatten_nil,List.append_nil]at this
 exact Jc.ext (Ye this)
theorem Le(a b:G.Ae)(h:AM a=AM b):a=b:=by
 have:=T_ h
 simp only[List.flatten_cons,List.flatten_nil,List.append_nil,List.cons_append,List.nil_append,List.cons.injEq,Value.int.injEq,true_and]at this
 obtain⟨c,d⟩:=a
 obtain⟨e,f⟩:=b
 have g:c=e:=by have:=this.1;simp only at this;omega
 have i:d=f:=Jc.ext (Ye this.2)
 rw[g,i]
theorem Fb{n:Nat}(h:n≤4611686018427387904:=by omega):keyOf Tryz.prog 3 (Am n)=some (.int .i64 (n:Int)):=by
 have hw:(Lit.int .i64 ((n:Nat):Int)).wf=true:=by
  have h1:IntKind.i64.min= -9223372036854775808:=D
  have a:IntKind.i64.max=9223372036854775807:=D
  simp only[Lit.wf,Bool.and_eq_true,decide_eq_true_eq]
  omega
 simp[keyOf,Tryz.underlying3,mapKey,hw]
theorem Zp:Tryz.prog.types.size+1=(Tryz.prog.types.size - 2)+3:=by kernel_rfl
theorem OB{x:Jc}:keyOf Tryz.prog 57 (AP x)=some (.string (keyBytes (GK x.l))):=by
 have a:(AP x).formed Tryz.prog 57=true:=by simp[Value.formed,Tryz.underlying57,flat,DG,x.h,NL]
 have b:Tryz.prog.keyType 57=true:=by kernel_rfl
 have hl:Tryz.prog.keyLits (Tryz.prog.types.size+1) 57 (AP x).cells.toList=some (GK x.l):=by
  have e:(AP x).cells.toList=bv x.l:=by show(flat [bv x.l]).toList=_;simp[flat]
  rw[Zp,e]
  exact SK (Tryz.prog.types.size - 2+1) (T:=57) Em NL x.h
 simp only[keyOf,Tryz.underlying57,a,b,Bool.and_self,if_true,hl,Option.map_some]
theorem Lg{r:G.Ae}(h:r.b≤4611686018427387904:=by omega):keyOf Tryz.prog 242 (AM r)=some (.string (keyBytes (Lit.int .i64 (r.b:Int)::GK r.k.l))):=by
 have a:(AM r).formed Tryz.prog 242=true:=by simp[Value.formed,Tryz.underlying242,flat,DG,r.k.h,VE]
 have c:Tryz.prog.keyType 242=true:=by kernel_rfl
 have hl:Tryz.prog.keyLits (Tryz.prog.types.size+1) 242 (AM r).cells.toList=some (Lit.int .i64 (r.b:Int)::GK r.k.l):=by
  have e:(AM r).cells.toList=[Value.int .i64 (r.b:Int)]++bv r.k.l:=by show(flat _).toList=_;simp[flat]
  rw[Zp,e]
  exact ha (Tryz.prog.types.size - 2) r.b r.k h
 simp only[keyOf,Tryz.underlying242,a,c,Bool.and_self,if_true,hl,Option.map_some]
theorem O4(w:World):(zeroValue 3).run Tryz.prog w=.ok (E 0) w:=by kernel_rfl
theorem KQ(w:World):(zeroValue 101).run Tryz.prog w=.ok (.agg (flat Qb)) w:=by kernel_rfl
theorem J_(w:World):(zeroValue 99).run Tryz.prog w=.ok (.agg (flat N3)) w:=by kernel_rfl
def AN(b n:Nat)(f:Nat→Option Bf):Atom:=
 ⟨fun j=>j=b∨∃a x,f a=some x∧x.s.val.ownBlock=some j,fun w=>E8 Tryz.prog 3 Am J6 b n f w∧∀a x,f a=some x→w.ownsRow 0 5 1 x.s.val x.s.v.length (bv x.s.v),
  fun w h j e=>by
   rcases e with e|⟨a,x,h1,d⟩
   ·subst e;exact h.1.lt
   ·exact((h.2 a x h1).lt j d).2,
  fun w w' h g e=>⟨h.1.loc (e b (.inl D)),fun a x c=>(Ae 5 1 x.s.val x.s.v.length (bv x.s.v)).loc w w' (h.2 a x c) g (fun k i=>e k (.inr ⟨a,x,c,i⟩))⟩⟩
def AQ(k:TypeId){Bo:Type}(Ca:Bo→Value)(v:Value)(f:Bo→Option Nat):Atom:=
 ⟨fun j=>v=.map (some j),fun w=>(v=.map none∧∀a,f a=none)∨∃b n,v=.map (some b)∧E8 Tryz.prog k Ca Am b n f w,
  fun w h j e=>by
   rcases h with⟨h, -⟩|⟨b,n,h,m⟩
   ·rw[h]at e;cases e
   ·rw[h]at e;cases e;exact m.lt,
  fun w w' h c e=>by
   rcases h with h|⟨b,n,h,m⟩
   ·exact .inl h
   ·exact .inr ⟨b,n,h,m.loc (e b h)⟩⟩
section
variable {ops:Array Oper} {rest:List Oper} {Aa:Exit→Act→World→Prop} {N:Nat} {f:BW} {d:Nat} {ty:TypeId} {pos:String} {An:Array Edge} {dst:Option Tmp} {g:Option (Nat×Bool)} {F:Nat→Prop} {w0 w:World} {H:List Atom} {K:Act→World→Prop} {R:Act→Prop}
theorem Sat.KP{b n:Nat}{Z:Nat→Option Bf}(h:Sat F w0 H w)(i:Nat)(a:H[i]? =some (AN b n Z):=by exact rfl):E8 Tryz.prog 3 Am J6 b n Z w:=(h.at_ i _ a).1
theorem OC(i:Nat){b n:Nat}{Z:Nat→Option Bf}{a:Nat}{x:Bf}(c:Z a=some x)(d:H[i]? =some (AN b n Z):=by exact rfl):∀w,Sat F w0 H w→View w x.s.val x.s.v.length 1 (bv x.s.v):=fun w h=>View.own ((h.at_ i _ d).2 a x c)
theorem Zg{P:Program}{k e t:TypeId}(c:Bool)(FR:Keyed P k)(b:P.underlying t=some (.map k e)){z:Value}(d:(zeroValue e).run P w=.ok z w){key:Value}{GB:Lit}(a:keyOf P k key=some GB):
 (Instr.lookup t (.map none) key c).run P w=.ok (if c then .tuple #[z,.bool false]else z) w:=by
 rcases FR.find w a [] (by simp)with⟨h1, -⟩|⟨j,g, -,f, -⟩
 ·simp[Instr.lookup,run_underlying b,FR.check w _ a,h1,d,Result.andThen]
 ·simp at f
theorem O2{k t:TypeId}{Bo:Type}{Ca:Bo→Value}{o:Value}{Z:Bo→Option Nat}(p:Tryz.prog.underlying t=some (.map k 3))(i:Nat)(s:H[i]? =some (AQ k Ca o Z))(FR:Keyed Tryz.prog k)(inj:∀a j,Ca a=Ca j→a=j){x BI:Operand}{a:Bo}{GB:Lit}(q:keyOf Tryz.prog k (Ca a)=some GB)(e:Aj f x=some o)(l:Aj f BI=some (Ca a)):BR Tryz.prog N f F w0 H ⟨some d,.lookup t x BI false,ty,pos,An,g⟩ (E ((Z a).getD 0)):=fun j w c u=>by
 show(execOp j.eval _).run Tryz.prog w=_
 rcases u.at_ i _ s with⟨h,v⟩|⟨b,n,h,m⟩
 ·have:=Zg (w:=w) false FR p (O4 w) q
  rw[h]at e
  simp[execOp,c.A_ e,c.A_ l,this,v]
 ·have:=m.look false FR inj p (O4 w) q
  rw[h]at e
  cases r:Z a with
  |none=>rw[r]at this;simp[execOp,c.A_ e,c.A_ l,this]
  |some y=>rw[r]at this;simp[execOp,c.A_ e,c.A_ l,this]
theorem UK{k t:TypeId}{Bo:Type}{Ca:Bo→Value}{o:Value}{Z:Bo→Option Nat}(p:Tryz.prog.underlying t=some (.map k 3))(i:Nat)(s:H[i]? =some (AQ k Ca o Z))(FR:Keyed Tryz.prog k)(inj:∀a j,Ca a=Ca j→a=j){x BI:Operand}{a:Bo}{GB:Lit}(q:keyOf Tryz.prog k (Ca a)=some GB)(e:Aj f x=some o)(l:Aj f BI=some (Ca a)):BR Tryz.prog N f F w0 H ⟨some d,.lookup t x BI true,ty,pos,An,g⟩ (.tuple #[E ((Z a).getD 0),.bool (Z a).isSome]):=fun j w c u=>by
 show(execOp j.eval _).run Tryz.prog w=_
 rcases u.at_ i _ s with⟨h,v⟩|⟨b,n,h,m⟩
 ·have:=Zg (w:=w) true FR p (O4 w) q
  rw[h]at e
  simp[execOp,c.A_ e,c.A_ l,this,v]
 ·have:=m.look true FR inj p (O4 w) q
  rw[h]at e
  cases r:Z a with
  |none=>rw[r]at this;simp[execOp,c.A_ e,c.A_ l,this]
  |some y=>rw[r]at this;simp[execOp,c.A_ e,c.A_ l,this]
end
end Go.Proofs.YtaapafoibofbjaaGreatDoor
namespace Go.Proofs.YtaapafoibofbjaaGreatDoor
open Go.RowKit
variable {x:Operand}
theorem Sat.sub{F:Nat→Prop}{w0 w W:World}{H H1:List Atom}(h:Sat F w0 H w)(BI:List Nat)(q:Sat (A6 H1) w H1 W)(e:BI.map (fun i=>H[i]?)=H1.map some:=by exact rfl):Sat F w0 H W:=by
 have key:∀(p:Nat) (A:Atom),H1[p]? =some A→∃i,BI[p]? =some i∧H[i]? =some A:=by
  intro p A b
  have:=congrArg (fun l=>l[p]?) e
  simp only[List.getElem?_map,b,Option.map_some]at this
  cases a:BI[p]? with
  |none=>rw[a]at this;cases this
  |some i=>rw[a]at this;exact⟨i,D,by simpa using this⟩
 have back:∀(i:Nat) (A:Atom),H[i]? =some A→i∈BI→∃p:Nat,H1[p]? =some A:=by
  intro i A a hm
  obtain⟨p,b⟩:=List.mem_iff_getElem?.1 hm
  have:=congrArg (fun l=>l[p]?) e
  simp only[List.getElem?_map,b,Option.map_some,a]at this
  exact⟨p,by cases f:H1[p]? with
   |none=>rw[f]at this;cases this
   |some B=>rw[f]at this;simpa using this.symm⟩
 refine⟨h.jF.trans q.jF (fun k ⟨p,A,b,c⟩ r=>?_),fun i A a=>?_,h.jQ,h.jZ⟩
 ·obtain⟨i, -,a⟩:=key p A b
  exact(h.jQ i A a k c).resolve_right (by omega)
 ·by_cases hm:i∈BI
  ·obtain⟨p,b⟩:=back i A a hm
   exact q.at_ p A b
  ·refine A.loc w W (h.at_ i A a) q.jF.size (fun k c=>q.jF.block k (A.lt w (h.at_ i A a) k c) ?_)
   rintro⟨p,B,b,n⟩
   obtain⟨j,hj,o⟩:=key p B b
   exact h.jZ i j A B (fun z=>hm (z▸List.mem_of_getElem? hj)) a o k c n
theorem Sat.Ad{F:Nat→Prop}{w0 w:World}{H H1:List Atom}(h:Sat F w0 H w)(BI:List Nat)(e:BI.map (fun i=>H[i]?)=H1.map some:=by exact rfl)(a:BI.Nodup:=by decide):BE H1 w:=(h.pick BI e a).hold
section
variable {P:Program} {ops:Array Oper} {rest:List Oper} {Aa:Exit→Act→World→Prop} {N:Nat} {f:BW} {d:Nat} {ty:TypeId} {pos:String} {An:Array Edge} {dst:Option Tmp} {g:Option (Nat×Bool)} {F:Nat→Prop} {w0 w:World} {H:List Atom} {K:Act→World→Prop} {R:Act→Prop}
theorem Cx{Cf:FuncId}{fn:Func}(b:P.funcs[Cf]? =some fn){xs:List Operand}{ts:Array TypeId}{l:List Value}(c:GX f xs=some l){v:Value}(BI:List Nat){H1:List Atom}(j:∀w,BE H1 w→Calls P Cf l.toArray w fun e W=>e=.returned v∧Sat (A6 H1) w H1 W)(h:AT N (Jb f d v) F w0 H K)
 (e:BI.map (fun i=>H[i]?)=H1.map some:=by exact rfl)(k:BI.Nodup:=by decide)(m:(fn.name== "runtime.NumGoroutine")=false:=by kernel_rfl)(J:fn.body.isNone=false:=by kernel_rfl)(Ad:Nat.blt d N=true:=by exact rfl):D3 P ⟨some d,.call {callee:=.value (.func Cf),args:=xs.toArray,argTypes:=ts},ty,pos,An,g⟩ Aa N f F w0 H K:=
 Ba b c (fun w a=>j w (a.Ad BI e k)) (fun w n W a ⟨he,q⟩=>⟨_,_,he,a.sub BI q e,h⟩) m J Ad
theorem KK{Cf:FuncId}{fn:Func}(b:P.funcs[Cf]? =some fn){xs:List Operand}{ts:Array TypeId}{l:List Value}(c:GX f xs=some l){v:Value}(BI:List Nat){H1:List Atom}(g:∀w,BE H1 w→Calls P Cf l.toArray w fun e W=>e=.returned v∧Sat (A6 H1) w H1 W)(h:GP P ops R N (Jb f d v) F w0 H rest)
 (e:BI.map (fun i=>H[i]?)=H1.map some:=by exact rfl)(j:BI.Nodup:=by decide)(k:(fn.name== "runtime.NumGoroutine")=false:=by kernel_rfl)(J:fn.body.isNone=false:=by kernel_rfl)(Ad:Nat.blt d N=true:=by exact rfl):GP P ops R N f F w0 H (⟨some d,.call {callee:=.value (.func Cf),args:=xs.toArray,argTypes:=ts},ty,pos,An,none⟩::rest):=
 Ve b c (fun w a=>(g w (a.Ad BI e j)).mono fun _ _ ⟨he,q⟩=>⟨he,a.sub BI q e⟩) h k J Ad
end
structure Dl where
 ip:Option Addr
 jv:Nat
 jC:Nat
 w:Nat
 g:Nat
 m:Nat
 h:Nat
 p:Nat
 AU:Nat
 jk:Nat
structure BX where
 p:Option Addr
 n:Nat
 c:Nat
abbrev BX.v(s:BX):Value:=I s.p s.n s.c
abbrev AE:BX:=⟨none,0,0⟩
abbrev dw(z:Dl)(C a Au B:BX):List (List Value):=[[I z.ip z.jv z.jC],[E z.w],[E z.g],[E z.m],[E z.h],[E z.p],[Value.map (some z.AU)],[Value.map (some z.jk)],[I C.p C.n C.c],[I a.p a.n a.c],[I Au.p Au.n Au.c],[I B.p B.n B.c]]
abbrev Ay(Q:Nat)(z:Dl)(C a Au B:BX):Atom:=O Q (dw z C a Au B) 97
structure Kx where
 p:Nat
 w:Nat
def BQ(x:Kx):List Value:=List.flatten [[E x.p],[E x.w]]
theorem cP(x:Kx):(BQ x).length=2:=rfl
theorem aV(x:Kx):∀u∈BQ x,u.oneCell'=true:=OR (.one D (.one rfl .nil))
theorem XS:CO Tryz.prog 30 195 2 16 (.agg (flat [[.int .i64 0],[.int .i64 0]])):=CO.mk' KD (by kernel_rfl) D (by decide)
def CC(x:Nat):List Value:=List.flatten [[S x]]
theorem O1(x:Nat):(CC x).length=1:=rfl
theorem Px(x:Nat):∀u∈CC x,u.oneCell'=true:=OR (.one rfl .nil)
theorem J8:CO Tryz.prog 94 230 1 8 (.pointer none):=CO.mk' M' (by kernel_rfl) D (by decide)
def FP(W i:Nat):List Jc:=(List.range 257).map fun j=>if j<i then AL.bare W j else CU
theorem H7(W i:Nat):(FP W i).length=257:=by unfold FP;rw[List.length_map,List.length_range]
theorem bw(W:Nat):List.replicate 257 CU=FP W 0:=by
 apply List.ext_getElem
 ·rw[List.length_replicate,H7]
 ·intro j h1 a
  simp only[FP,List.getElem_map,List.getElem_range,List.getElem_replicate]
  rw[if_neg (Nat.not_lt_zero _)]
theorem fK(W i:Nat)(h:i<257):(FP W i).set i (AL.bare W i)=FP W (i+1):=by
 apply List.ext_getElem
 ·rw[List.length_set,H7,H7]
 ·intro j h1 b
  rw[List.getElem_set]
  simp only[FP,List.getElem_map,List.getElem_range]
  by_cases e:i=j
  ·subst e;rw[if_pos D,if_pos (by omega)]
  ·rw[if_neg e]
   by_cases a:j<i
   ·rw[if_pos a,if_pos (by omega)]
   ·rw[if_neg a,if_neg (by omega)]
theorem WM{W j:Nat}{x:Jc}(h:(FP W 257)[j]? =some x):x=AL.bare W j:=by
 obtain⟨hl,e⟩:=List.getElem?_eq_some_iff.1 h
 rw[H7]at hl
 simp only[FP,List.getElem_map,List.getElem_range,if_pos hl]at e
 exact e.symm
def A1(W:Nat)(B:BX):Atom:=
 ⟨fun j=>B.p=some ⟨j,0,none⟩,fun w=>B=AE∨∃b,B=⟨some ⟨b,0,none⟩,257,257⟩∧w.heap[b]? =some (.cells (flat [Aq EJ (FP W 257)]) 51 (0,0)),
  fun w h j e=>by
   rcases h with h|⟨b,h,m⟩
   ·rw[h]at e;cases e
   ·rw[h]at e;cases e;exact DC m,
  fun w w' h a e=>by
   rcases h with h|⟨b,h,m⟩
   ·exact .inl h
   ·exact .inr ⟨b,h,(e b (by rw[h])).trans m⟩⟩
theorem Z8:(madeCells (Value.agg (flat [Ak 32])).cells (257*32)).toList=Aq EJ (List.replicate 257 CU):=by
 have a:(Value.agg (flat [Ak 32])).cells=Array.replicate 32 (.int .u8 0):=D
 have c:(madeCells (Value.agg (flat [Ak 32])).cells (257*32)).toList=List.replicate (257*32) (.int .u8 0):=by
  rw[a,List.eq_replicate_iff]
  refine⟨by simp[madeCells],?_⟩
  intro b J
  simp only[madeCells,Array.toList_map,List.mem_map]at J
  obtain⟨i, -,rfl⟩:=J
  have:i % 32<32:=Nat.mod_lt _ (by decide)
  simp[this]
 have d:Aq EJ (List.replicate 257 CU)=List.replicate (257*32) (.int .u8 0):=by
  rw[List.eq_replicate_iff]
  refine⟨by rw[LK Hh,List.length_replicate],?_⟩
  intro b J
  simp only[Aq,List.mem_flatten,List.mem_map]at J
  obtain⟨l,⟨x,e,rfl⟩,J⟩:=J
  rw[(List.mem_replicate.1 e).2]at J
  have f:EJ CU=List.replicate 32 (.int .u8 0):=D
  rw[f]at J
  exact(List.mem_replicate.1 J).2
 rw[c,d]
section
variable {P:Program} {a:Act} {N:Nat} {f:BW} {ty:TypeId} {pos:String} {An:Array Edge} {dst:Option Tmp} {g:Option (Nat×Bool)}
theorem ZQ{t e:TypeId}{w:World}(a:P.underlying t=some (.slice e))(p:Option Addr)(n c:Nat):(binOp .eql t (.slice p n c) (.slice none 0 0)).run P w=.ok (.bool p.isNone) w:=by
 have h:(Op.equalIn (Op.maxDepth - 1+1) t (.slice p n c) (.slice none 0 0)).run P w=.ok p.isNone w:=by cases p<;>simp[Op.equalIn,run_underlying a]
 have e:(Op.equal t (.slice p n c) (.slice none 0 0)).run P w=.ok p.isNone w:=h
 show(do pure (Value.bool (←Op.equal t (.slice p n c) (.slice none 0 0))):Sem Value).run P w=_
 simp[e]
theorem UW{w:World}(b:AH N a f){t u e:TypeId}{y:Operand}(d:P.underlying t=some (.slice e)){p:Option Addr}{n c:Nat}(h:Aj f x=some (.slice p n c))(i:Aj f y=some (.slice none 0 0))(r:Bool)(hr:p.isNone=r):CD P a w ⟨dst,.binOp .eql t x y u,ty,pos,An,g⟩ (.bool r) w:=by
 subst hr
 exact ED b h i (by simp[eqGuard]) (ZQ d _ _ _)
end
section
variable {P:Program} {ops:Array Oper} {rest:List Oper} {Aa:Exit→Act→World→Prop} {N:Nat} {f:BW} {d:Nat} {ty:TypeId} {pos:String} {An:Array Edge} {dst:Option Tmp} {g:Option (Nat×Bool)} {F:Nat→Prop} {w0 w:World} {H:List Atom} {K:Act→World→Prop} {R:Act→Prop}
theorem Io{s:TypeId}{b:Array Field}(hu:P.underlying s=some (.struct b))(q:Nat){i:Nat}{ss:List (List Value)}{v:Value}(c:Aj f x=some (.agg (flat ss)))(j:ss[q]? =some [v]){BB:TypeDesc}{Ce:Field}(k:b[i]? =some Ce)(Ad:P.underlying Ce.type=some BB){pre:List (List Value)}(h1:ss.take q=pre:=by exact Jr){p:Nat}(s1:pre.flatten.length=p:=by exact Jp)(ho:p=Ce.offset:=by exact rfl)(hr:BB.isRow=false:=by exact rfl):BR P N f F w0 H ⟨some d,.field s x i,ty,pos,An,g⟩ v:=fun a w l n=>by
 subst h1
 have m:ss.flatten[Ce.offset]? =some v:=by
  have e:ss=ss.take q++([v]::ss.drop (q+1)):=by
   obtain⟨h,e⟩:=List.getElem?_eq_some_iff.1 j
   rw[←e,←List.drop_eq_getElem_cons,List.take_append_drop]
  rw[e,List.flatten_append,←ho,←s1,List.getElem?_append_right (Br _),Nat.sub_self]
  rfl
 exact bo l c hu k Ad hr (by simpa[flat]using m)
theorem Uz{t e:TypeId}{size bytes:Nat}{z:Value}(c:CO P t e size bytes z)(n:Nat){y:Operand}{k k':IntKind}{xs:List Value}(o:Aj f x=some (.int k ((n:Nat):Int)))(p:Aj f y=some (.int k' ((n:Nat):Int)))(q:(madeCells z.cells (n*size)).toList=xs)(R:xs.length=n*size)(h:∀b,AT N (Jb f d (.slice (some ⟨b,0,none⟩) n n)) F w0 (O b [xs] e::H) K)(J:bytes*n≤281474976710656:=by omega)(r:n≤maxLen:=by unfold maxLen;omega)(Ad:Nat.blt d N=true:=by exact rfl):D3 P ⟨some d,.makeSlice t x y,ty,pos,An,g⟩ Aa N f F w0 H K:=fun a w l s=>by
 subst q
 obtain⟨i,m,u,B,C⟩:=c.ji
 obtain⟨W,hr,ho,D⟩:=run_make_full (P:=P) (w:=w) 0 t e i z size c.jq m u B k k' n (by rw[C];exact J) r (Nat.zero_le _)
 have E:W.heap[w.heap.size]? =some (.cells (flat [(madeCells z.cells (n*size)).toList]) e (0,0)):=by
  rcases ho.2 with⟨j,T⟩|⟨U,V,cur,j, -,G, -, -,I,L⟩
  ·simp at j
  ·simp only[Value.slice.injEq,Option.some.injEq,Addr.mk.injEq,and_true,true_and]at j
   obtain⟨rfl,rfl⟩:=j
   rw[G]
   have:cur.toList=(madeCells z.cells (n*size)).toList:=by
    rw[←L,List.take_of_length_le (by simp[I])]
   congr 2
   apply Array.toList_inj.1
   rw[this]
   simp[flat]
 refine F8 (v:=.slice (some ⟨w.heap.size,0,none⟩) n n) (w':=W) l Ad ?_ (fun M Q=>h _ M W Q (s.new (A:=O w.heap.size [(madeCells z.cells (n*size)).toList] e) ((Cn _ _).grown D (Br _) (fun k c=>by cases c)) E (fun k c=>Nat.le_of_eq c.symm)))
 simp[execOp,l.A_ o,l.A_ p,hr]
theorem Pf(i:Nat){Bo:Type}{enc:Bo→List Value}{size:Nat}(he:∀x,(enc x).length=size){b n:Nat}{L:List Bo}{tb:TypeId}(a:L.length=n)(c:H[i]? =some (O b [Aq enc L] tb):=by exact rfl)(e:n≤maxLen:=by unfold maxLen;omega):∀w,Sat F w0 H w→View w (.slice (some ⟨b,0,none⟩) n n) n size (Aq enc L):=fun w d=>by
 refine⟨by rw[LK he,a];exact Br _,.inr ⟨b,0,n,D,by rw[LK he,a];exact Br _,Br _,e,DC (d.Dq i c),fun j v hj=>?_⟩⟩
 have:=H4 (d.Dq i c) j v (by simpa using hj)
 simpa using this
theorem fo(i j:Nat){Bo:Type}{enc:Bo→List Value}{size:Nat}(he:∀x,(enc x).length=size){T:TypeId}{y:Operand}{b off:Nat}{L:List Bo}{u:Bo}{ts:List (List Value)}{tb:TypeId}(m:H[i]? =some (O b [Aq enc L] tb))(p:Aj f x=some (.pointer (some ⟨b,off,none⟩)))(q:Aj f y=some (.agg (flat ts)))(d:ts.flatten=enc u){n:List Bo}(s:L.set j u=n)(hj:j<L.length)(h:AT N f F w0 (H.set i (O b [Aq enc n] tb)) K)(ho:j*size=off:=by first|rfl|omega){r:Nat}(t:Jo ts r:=by exact JF)(v:(P.info? T).map (·.size)=some size:=by kernel_rfl):D3 P ⟨none,.store T x y,ty,pos,An,g⟩ Aa N f F w0 H K:=fun a w z o=>by
 subst s
 have A:[Aq enc L].flatten=([Aq enc (L.take j)]++[enc L[j]]++[Aq enc (L.drop (j+1))]).flatten:=by
  have c:Aq enc (L.drop j)=enc L[j]++Aq enc (L.drop (j+1)):=by rw[List.drop_eq_getElem_cons hj];rfl
  have l:Aq enc L=Aq enc (L.take j)++Aq enc (L.drop j):=by rw[←Py,List.take_append_drop]
  simp only[List.flatten_cons,List.flatten_nil,List.append_nil,List.cons_append,List.nil_append]
  rw[l,c]
 have B:([Aq enc (L.take j)]++ts++[Aq enc (L.drop (j+1))]).flatten=[Aq enc (L.set j u)].flatten:=by
  rw[List.set_eq_take_append_cons_drop,if_pos hj]
  have c:Aq enc (u::L.drop (j+1))=enc u++Aq enc (L.drop (j+1)):=D
  simp only[List.flatten_cons,List.flatten_nil,List.append_nil,List.flatten_append,d,Py,c,List.append_assoc]
 have J:=o.Dq i m
 unfold flat at J
 rw[A]at J
 refine Ru z p [Aq enc (L.take j)] [enc L[j]] [Aq enc (L.drop (j+1))] ts J q (by rw[List.flatten_singleton,LK he,List.length_take,Nat.min_eq_left (by omega)];exact ho) (by rw[d,he,List.flatten_singleton,he]) (by rw[v,d,he]) t.one (fun C W E _ c l=>h C W E (o.set i m (C7.grown l) ?_ (fun k e=>.inl e)))
 unfold flat at c
 rw[B]at c
 exact c
end
end Go.Proofs.YtaapafoibofbjaaGreatDoor
namespace Go.Proofs.YtaapafoibofbjaaGreatDoor
open Go.RowKit
set_option maxRecDepth 100000
set_option maxHeartbeats 1000000
theorem Sat.Eb{F:Nat→Prop}{w0 w:World}{H H1:List Atom}(h:Sat F w0 H w)(A5:CG w0)(b:∀k,CB k→¬F k)(BI:List Nat)(e:BI.map (fun i=>H[i]?)=H1.map some:=by exact rfl)(c:BI.Nodup:=by decide):∀k,CB k→¬A6 H1 k:=by
 rintro k a ⟨p,A,d,f⟩
 rcases(h.pick BI e c).jQ p A d k f with q|q
 ·exact b k a q
 ·rcases a with rfl|rfl
  ·have:=A5.WL;omega
  ·have:=A5.blt;omega
theorem EZ(Q:Nat)(z:Dl)(C d Au B:BX)(p b:Nat)(Ce:List Kx)(w:World)(g:BE [Ay Q z C d Au B,Ae 195 2 (I Au.p Au.n Au.c) Au.n (Aq BQ Ce)] w)(o:Au.n≤1048576:=by first|omega|decide):Calls Tryz.prog 47 #[S Q,E p,E b] w fun e W=>∃(a:BX) (h:List Kx),e=.returned (.tuple #[])∧a.n=Au.n+1∧Sat (A6 [Ay Q z C d Au B,Ae 195 2 (I Au.p Au.n Au.c) Au.n (Aq BQ Ce)]) w [Ay Q z C d a B,Ae 195 2 (I a.p a.n a.c) a.n (Aq BQ h)] W:=by
 refine Cb g EV D 18 fun F i=>M ?_
 refine By D<|AG C2 10 D<|AZ KD 0 10 D D D<|Jd D<|Jd D<|Af (fun _ _ j f=>Cs j (BH:=[(0,(E p)),(1,(E b))]) D (v:=Value.agg (flat [[E p],[E b]])) (run_build _ _ _ _ (by kernel_rfl)))<|U<|Ey XS (Aq BQ [(⟨p,b⟩:Kx)]) D D D fun q=>U<|DI (m:=1) XS 2 (Aq BQ (Ce++([(⟨p,b⟩:Kx)]))) D D D (BZ 0) (HJ aV _) (H0 cP D) D fun k l=>By D<|AG C2 10 D<|U<|Cq 1 10 D D D<|?_
 refine Jg<|Jt<|Ff fun W f=>?_
 subst i
 exact⟨⟨k,Au.n+1,l⟩,_,D,D,f.pick [1,2]⟩
theorem HX(Q:Nat)(z:Dl)(C b Au B:BX)(i:Nat)(As:List Nat)(w:World)(f:BE [Ay Q z C b Au B,Ae 3 1 (I C.p C.n C.c) C.n (Aq Bm As)] w)(k:C.n≤4096:=by omega):Calls Tryz.prog 86 #[S Q,E i] w fun e W=>e=.returned (E (G.at_ As i))∧Sat (A6 [Ay Q z C b Au B,Ae 3 1 (I C.p C.n C.c) C.n (Aq Bm As)]) w [Ay Q z C b Au B,Ae 3 1 (I C.p C.n C.c) C.n (Aq Bm As)] W:=by
 have l:As.length=C.n:=I3 Gj (by decide) (f.at_ 1 _ D)
 refine Cb f J2 D 24 fun F d=>M ?_
 refine GV D D (fun h=>?_) fun h=>?_
 ·
  refine A7 ?_
  intro W a
  subst d
  exact⟨by unfold G.at_;rw[if_neg (by omega)];rfl,a.pick [0,1]⟩
 refine M ?_
 refine By D<|Jj D D D<|AG C2 8 D<|Jj D D D<|AZ Gd 0 8 D D D<|Jj D D D<|Cr Gd D<|Jj D D D<|Kl D D (fun j=>?_) fun j=>?_
 ·
  refine A7 ?_
  intro W a
  subst d
  exact⟨by unfold G.at_;rw[if_neg (by omega)];rfl,a.pick [0,1]⟩
 refine M ?_
 refine By D<|AG C2 8 D<|AZ Gd 0 8 D D D<|Jd D<|Es (q:=1) D D<|Vh Gj 1 (i - 1) fun m g=>Af (Dj G0 (i - 1) (i - 1) (BZ 1) D D)<|Af (J1 AF Gj (i - 1) g (BZ 1) D D)<|A7 ?_
 intro W a
 subst d
 exact⟨by unfold G.at_;rw[if_pos (by omega),List.getD_eq_getElem?_getD,g];rfl,a.pick [0,1]⟩
theorem Ya(Q:Nat)(z:Dl)(C a Au B:BX)(p:Nat)(w:World)(d:BE [Ay Q z C a Au B] w)(b:(p+1)*256≤z.jC∧p≤4096):Calls Tryz.prog 45 #[S Q,E p] w fun e W=>e=.returned (I (sp z.ip (p*256) z.jC 1) ((p+1)*256 - p*256) (z.jC - p*256))∧Sat (A6 [Ay Q z C a Au B]) w [Ay Q z C a Au B] W:=by
 obtain⟨b,h⟩:=b
 refine Cb d Mh D 15 fun F f=>M ?_
 refine By D<|AG C2 0 D<|AZ Co 0 0 D D D<|Jd D<|Af (E3 (q:=256) D D)<|Jd D<|B6 (q:=1) D D<|Af (E3 (q:=256) D D)<|Af (PI A3 (p*256) ((p+1)*256) D (.some D) (.some D))<|A7 ?_
 intro W g
 subst f
 exact⟨D,g.pick [0]⟩
theorem hc(Q:Nat)(z:Dl)(C d Au:BX)(c:Nat)(w:World)(o:BE [Ay Q z C d Au AE] w)(A5:CG w)(p:∀k,CB k→¬A6 [Ay Q z C d Au AE] k)(hw:z.w≤32)(v:c≤256):Calls Tryz.prog 117 #[S Q,E c] w fun e W=>e=.returned (.agg (flat [bv (AL.bare z.w c).l]))∧∃AK,Sat (A6 [Ay Q z C d Au AE]) w [Ay Q z C d Au ⟨some ⟨AK,0,none⟩,257,257⟩,O AK [Aq EJ (FP z.w 257)] 51] W:=by
 have h:∀F,A6 [Ay Q z C d Au AE]=F→∀k,CB k→¬F k:=fun F g k r q=>p k r (g▸q)
 refine Cb o Mw D 53 fun F g=>Je<|Jh<|U<|Bw [Ak 32] fun j=>M ?_
 refine By D<|AG C2 11 D<|AZ IA 1 11 D D D<|Af (fun _ _ f b=>UW f IA D D true D)<|M ?_
 refine U<|Uz Kt 257 D D Z8 (by rw[LK Hh,List.length_replicate]) fun AK=>By D<|AG Tryz.underlying97 11 D<|U<|Cq 2 11 D D D<|?_
 refine M ?_
 refine By D<|AG C2 1 D<|AG BM 1 D<|AZ AF 2 1 D D D<|U<|BP RB D (fun w b=>VB z.w 0 w (A5.sat b (h F g)) (by omega) (by omega))<|U<|Bw [Ak 32] fun m=>U<|Bk 0 0 1 D D D<|?_
 refine M ?_
 refine By D<|AG C2 11 D<|AZ IA 3 11 D D D<|Cr IA D<|M ?_
 refine FO 1 [Aq EJ (FP z.w 0)] D (by rw[bw z.w])<|FO 0 [bv (AL.bare z.w 0).l] D D<|DL (fun s a W=>∃(i:Nat),s=257 - i∧AH 53 a (Jb (Jb (Jb (Jb (Jb (Jb Jk 0 (S Q)) 1 (E c)) 4 (S j)) 5 (S m)) 26 (E 257)) 27 (E i))∧Sat F w [O m [bv (AL.bare z.w i).l] 51,O AK [Aq EJ (FP z.w i)] 51,O j [Ak 32] 51,Ay Q z C d Au ⟨some ⟨AK,0,none⟩,257,257⟩] W∧i≤257) (fun a W f b=>⟨0,D,AY f,b.pick [0,1,2,3],by omega⟩) ?_
 rintro _ a W ⟨i,rfl,f,b,x⟩;revert a W
 refine Je<|Jh<|Ej D D<|Jg<|Jf<|Je<|Cz D (fun t=>?_) fun t=>?_
 ·
  refine M ?_
  refine DD 7<|zs (AA D)<|zs (Bp D)<|zs (AS C2 11 D)<|zs (Bb IA 3 11 D D D)<|zs (AA D)<|zs (BN B5 0 D D)<|Kz (H7 z.w i) i fun y A=>zs (Dj Kt i (i*32) (Pf 1 Hh (H7 z.w i)) D D)<|CS<|U<|?_
  refine CR 36 D (show _=(A2 AK (0+i*32))from D)<|fo 1 i Hh D D D (by rw[List.flatten_singleton];exact(List.append_nil _).symm) (fK z.w i (by omega)) (by rw[H7];omega)<|Jg<|Jf<|DD 7<|zs (AA D)<|zs (Bp D)<|zs (AS Tryz.underlying97 1 D)<|zs (AS Tryz.underlying68 1 D)<|zs (Bb Tryz.underlying3 3 1 D D D)<|zs (BN Tryz.underlying51 0 D D)<|zs (BN Tryz.underlying51 0 D D)<|CS<|U<|BP Tryz.func153 D (fun w b=>Oh z.w (AL.bare z.w i) (AL.bare z.w i) w (A5.sat b (h F g)))<|U<|Bk 0 0 1 D D D<|?_
  refine M ?_
  refine B6 (q:=1) D D<|M ?_
  exact fun a W f b=>⟨_,by omega,i+1,D,AY f,b.pick [0,1,2,3],by omega⟩
 obtain rfl:i=257:=by omega
 refine M ?_
 refine By D<|AG C2 11 D<|AZ IA 3 11 D D D<|Jd D<|Kz (H7 z.w 257) c fun u n=>Af (Dj Kt c (c*32) (Pf 1 Hh (H7 z.w 257)) D D)<|Af (LH B5 Hh c 0 1 [bv u.l] n (Pf 1 Hh (H7 z.w 257)) D D)<|U<|Bk 2 0 1 D D D<|?_
 refine Jg<|Jf<|Jq<|Fq B5 2 D D fun W b=>?_
 subst g
 exact⟨by rw[WM n];rfl,⟨AK,b.pick [3,1]⟩⟩
theorem dB(Q AK:Nat)(z:Dl)(C b Au:BX)(a:Nat)(w:World)(g:BE [Ay Q z C b Au ⟨some ⟨AK,0,none⟩,257,257⟩,O AK [Aq EJ (FP z.w 257)] 51] w)(A5:CG w)(h:∀k,CB k→¬A6 [Ay Q z C b Au ⟨some ⟨AK,0,none⟩,257,257⟩,O AK [Aq EJ (FP z.w 257)] 51] k)(hw:z.w≤32)(n:a≤256):Calls Tryz.prog 117 #[S Q,E a] w fun e W=>e=.returned (.agg (flat [bv (AL.bare z.w a).l]))∧Sat (A6 [Ay Q z C b Au ⟨some ⟨AK,0,none⟩,257,257⟩,O AK [Aq EJ (FP z.w 257)] 51]) w [Ay Q z C b Au ⟨some ⟨AK,0,none⟩,257,257⟩,O AK [Aq EJ (FP z.w 257)] 51] W:=by
 have o:∀F,A6 [Ay Q z C b Au ⟨some ⟨AK,0,none⟩,257,257⟩,O AK [Aq EJ (FP z.w 257)] 51]=F→∀k,CB k→¬F k:=fun F c k i q=>h k i (c▸q)
 refine Cb g Mw D 53 fun F c=>Je<|Jh<|U<|Bw [Ak 32] fun p=>M ?_
 refine By D<|AG C2 11 D<|AZ IA 1 11 D D D<|Af (fun _ _ j d=>UW j IA D D false D)<|M ?_
 refine By D<|AG C2 11 D<|AZ IA 1 11 D D D<|Jd D<|Kz (H7 z.w 257) a fun m f=>Af (Dj Kt a (a*32) (Pf 2 Hh (H7 z.w 257)) D D)<|Af (LH B5 Hh a 0 1 [bv m.l] f (Pf 2 Hh (H7 z.w 257)) D D)<|U<|Bk 0 0 1 D D D<|?_
 refine Jg<|Jf<|Jq<|Fq B5 0 D D fun W d=>?_
 subst c
 exact⟨by rw[WM f];rfl,d.pick [1,2]⟩
end Go.Proofs.YtaapafoibofbjaaGreatDoor
