/- SalvageClean holds of the given program, as the card says it. No other condition. -/
import Derived.Test.YtaapafoibofbjaaGreatDoorCards
import Derived.Test.YtaapafoibofbjaaGreatDoorTie
import Derived.ProofKit
import Derived.Lib.LaidTab
import Derived.SizedLaws
import Derived.OpenShut
import Derived.Deep.DeepHandedRow
import Derived.Deep.DeepLaidRun
import Derived.Test.YtaapafoibofbjaaGreatDoorM01
import Derived.Test.YtaapafoibofbjaaGreatDoorM51
import Derived.Test.YtaapafoibofbjaaGreatDoorM34
import Derived.Test.YtaapafoibofbjaaGreatDoorM07
import Derived.Test.YtaapafoibofbjaaGreatDoorM12
import Derived.Test.YtaapafoibofbjaaGreatDoorM32
import Derived.Test.YtaapafoibofbjaaGreatDoorM33
set_option linter.unusedVariables false
namespace Go.Proofs.YtaapafoibofbjaaGreatDoor
theorem bI{x y u:Fr.Bu}(d:x.g % 2=0)(h1:y.g % 2=1)(hw:x.w=y.w)(c:x.p=y.p)(hu:S6 x y u):Fr.Ed x y=some u:=by
 unfold Fr.Ed
 rw[if_neg (by omega)]
 rcases hu with⟨a,b,rfl⟩|⟨a,b,rfl⟩
 ·rw[if_neg (by omega),if_pos]
  refine⟨?_,b⟩
  cases u
  cases y
  simp only[Fr.Bu.mk.injEq]at*
  exact⟨hw,a,trivial,trivial,c⟩
 ·rw[if_pos (by omega),if_pos]
  refine⟨?_,b⟩
  cases u
  cases x
  simp only[Fr.Bu.mk.injEq]at*
  exact⟨hw.symm,a,trivial,trivial,c.symm⟩
theorem ZR{l:List UInt8}{n mk:Nat}(h:PZ l n mk):∃s,Gp l n s:=by
 obtain⟨x,y,u,g,z,hm,A,a,b,i,k,hw,m,o⟩:=h.j'
 have c:Dc l 0=(l.drop (256*0)).take 256:=D
 have d:Dc l 1=(l.drop (256*1)).take 256:=D
 have q:AI l 0=(l.drop (256*0)).take 256:=D
 have r:AI l 1=(l.drop (256*1)).take 256:=D
 have f:∀j,j<2→Fr.CN (((l.drop (256*j)).take 256).drop 64)=true:=fun j hj=>by
  rw[h.kp j hj]
  decide
 refine⟨u,⟨⟨x,by rw[c];exact a.DP⟩,by rw[c];exact f 0 (by omega)⟩,⟨⟨y,by rw[d];exact b.DP⟩,by rw[d];exact f 1 (by omega)⟩,?_,g,?_⟩
 ·rw[q,r]
  unfold Fr.choose
  rw[a.DP,b.DP]
  simp only[]
  rw[bI i k hw m o]
 ·intro p t E
  obtain⟨kd,B1,e,v,w,hl⟩:=h.Ar p t (by omega)
  have:AI l p=(l.drop (256*p)).take 256:=by unfold AI;rw[Nat.mul_comm]
  rw[this,e]
  exact aN (by omega) v w hl
end Go.Proofs.YtaapafoibofbjaaGreatDoor
namespace Go.Proofs.YtaapafoibofbjaaGreatDoor
open Go.RowKit
set_option maxRecDepth 100000
set_option maxHeartbeats 1000000
theorem aL{q:Option Addr}{n c:Nat}{l:List UInt8}{w:World}(d:DA w)(A5:CG w)(V:View w (I q n c) n 1 (bv l))(hl:l.length=n)(f:n≤140737488351232):Calls Tryz.prog 3 #[I q n c] w fun e W=>e=.returned (.bool true)∧Below w.heap.size w W:=by
 refine Cg w Rc D 9<|M ?_
 refine U<|?_
 refine Ba U0 D (fun w a=>ZO w (d.below a.A0 (Br _))) fun _ e W a ⟨p,k,L,he,o,b,J⟩=>⟨_,_,he,a.own o J,?_⟩
 refine U<|?_
 refine Ba Se D (fun w a=>Xs ((BZ 0) w a) b.len (by omega) (A5.sat a FU) true (fun _=>ZR b)) fun _ e W a ⟨he,J⟩=>⟨_,_,he,a.below J,?_⟩
 refine M ?_
 refine U<|?_
 refine Ba Se D (fun w a=>Xs ((Bx V) w a) hl (by omega) (A5.sat a FU) false (fun h=>by cases h)) fun _ e W a ⟨he,J⟩=>⟨_,_,he,a.below J,?_⟩
 refine A7 ?_
 exact fun W a=>⟨D,a.A0⟩
end Go.Proofs.YtaapafoibofbjaaGreatDoor
namespace Go.Proofs.YtaapafoibofbjaaGreatDoor.salvageClean
open Go.ChangeShapes Go.WideShapes Go.ChangeAt Go.RowKit
set_option linter.unusedVariables false
theorem own:ownKnob Tryz.prog.godebug=none:=by kernel_rfl
theorem laidOut:laidOutB Tryz.prog=true:=by kernel_rfl
theorem ZF:Tryz.prog.cellsOf 5=1:=by kernel_rfl
theorem aX:Tryz.prog.bytesOf 5=1:=by kernel_rfl
section
variable {H:Type} {enc:TypeId×Value→H} {P:Program}
theorem gb{x:Int}(h:(Lit.int .u8 x).wf=true):0≤x∧x<256:=by
 have h1:IntKind.u8.min=0:=D
 have a:IntKind.u8.max=255:=D
 simp only[Lit.wf,Bool.and_eq_true,decide_eq_true_eq]at h
 omega
def M_(zs:List Int):List UInt8:=zs.map fun z=>UInt8.ofNat z.toNat
theorem bV{zs:List Int}(h:∀z∈zs,0≤z∧z<256):bv (M_ zs)=zs.map fun z=>Value.int .u8 z:=by
 simp only[bv,M_,List.map_map]
 apply List.map_congr_left
 intro z a
 obtain⟨b,h1⟩:=h z a
 exact(g1 b h1).symm
theorem opened{t e:TypeId}(h:P.underlying t=some (.slice e))(he:P.underlying e=some (.int .u8))(k:P.cellsOf e=1){W:World}{Ch:Nat}{v:Value}{d:DataW H}{p:List MemPlace}
 (V:Cell.okWide P W .any Ch t v)(n:∃fuel,DataW.trod enc P W 0 (fun _=>true) true fuel t [v]=some (d,p)):
 ∃a m c l,v=.slice a m c∧View W (.slice a m c) m 1 (bv l)∧l.length=m∧m≤c∧((d=.nil∧m=0)∨∃es rs,d=.slice es rs∧es.length=m):=by
 obtain⟨fuel,o⟩:=n
 rcases open_ints h he k o with⟨f,g⟩|⟨a,len,cap,zs,f,_,hl,hm,q,g,r,s⟩
 ·simp only[List.cons.injEq,and_true]at f
  simp only[Prod.mk.injEq]at g
  exact⟨none,0,0,[],f,View.nil _ _,D,Br _,.inl ⟨g.1,D⟩⟩
 ·simp only[List.cons.injEq,and_true]at f
  subst f
  simp only[Prod.mk.injEq]at g
  simp only[if_true]at q
  have CM:len≤cap∧(cap:Int)≤IntKind.i64.max∧W.has P .any Ch a e cap:=by
   simpa only[Cell.okWide,h,Cell.ok]using V
  obtain⟨_,_,_,i,row,cells,w,_⟩:=CM
  have J:a.block<W.heap.size:=by
   apply Classical.byContradiction
   intro B
   have:W.heap[a.block]? =none:=by simp;omega
   simp[World.shape?,this]at w
  obtain⟨b,off,spot⟩:=a
  simp only at i J
  subst i
  have x:∀z∈zs.take len,0≤z∧z<256:=fun z y=>gb (s z (List.mem_of_mem_take y))
  refine⟨some ⟨b,off,none⟩,len,cap,M_ (zs.take len),D,⟨by simp[bv,M_];omega,.inr ⟨b,off,cap,D,by simp[bv,M_];omega,hl,hm,J,?_⟩⟩,by simp[M_];omega,hl,.inr ⟨_,_,g.1,by simp[lits];omega⟩⟩
  rw[bV x]
  intro j u hj
  rw[List.getElem?_map,Option.map_eq_some_iff]at hj
  obtain⟨z,hj,rfl⟩:=hj
  rw[List.getElem?_take]at hj
  split at hj
  ·have:=r j (by omega)
   have A:(⟨b,off,none⟩:Addr).add j=⟨b,off+j,none⟩:=by unfold Addr.add;split<;>simp_all
   rw[A]at this
   rw[this]
   simp[List.getD,hj]
  ·cases hj
end
theorem S1{W:World}{name:String}{g:Nat}{cs:Array Value}{xs:List Value}(b:Tryz.prog.globalNamed name=some g)(V:W.var? Tryz.prog name=some cs)(c:cs.toList=xs)(d:xs≠[]:=by decide):Cells W g 0 xs∧g<W.heap.size:=by
 have a:Cells W g 0 xs:=by
  intro j v hj
  rw[World.var?_cell b V,Nat.zero_add,←Array.getElem?_toList,c]
  exact hj
 refine⟨a,?_⟩
 cases xs with
 |nil=>exact absurd D d
 |cons x xs=>
  have e:=a 0 x D
  apply Classical.byContradiction
  intro f
  have:W.heap[g]? =none:=by simp;omega
  simp[World.cell?,this]at e
theorem U_{W:World}{name:String}{g:Nat}{cs:Array Value}{xs:List Value}(a:Tryz.prog.globalNamed name=some g)(V:W.var? Tryz.prog name=some cs)(b:cs.toList=xs):∃tb fr,W.heap[g]? =some (.cells (flat [xs]) tb fr):=by
 unfold World.var? at V
 rw[a]at V
 simp only[Option.bind_some]at V
 split at V
 ·rename_i d t fr c
  cases V
  refine⟨t,fr,?_⟩
  rw[c,←b]
  simp[flat]
 ·cases V
theorem Yr:Tryz.prog.globalNamed "ledger/ledgerref1.first" =some 20:=by kernel_rfl
theorem gq:(Tryz.prog.globals[20]?).map (·.type)=some 224:=by kernel_rfl
theorem US:Tryz.prog.globalNamed "ledger/ledgerref1.consts" =some 22:=by kernel_rfl
theorem bN:(Tryz.prog.globals[22]?).map (·.type)=some 292:=by kernel_rfl
theorem YQ:Tryz.prog.globalNamed "ledger/ledgerref2.divisor" =some 21:=by kernel_rfl
theorem cm:(Tryz.prog.globals[21]?).map (·.type)=some 299:=by kernel_rfl
theorem X7:Tryz.prog.globalNamed "ledger/digest.begin" =some 23:=by kernel_rfl
theorem ZE:(Tryz.prog.globals[23]?).map (·.type)=some 224:=by kernel_rfl
theorem Wo:Tryz.prog.globalNamed "ledger/digest.round" =some 24:=by kernel_rfl
theorem gu:(Tryz.prog.globals[24]?).map (·.type)=some 292:=by kernel_rfl
theorem bx{W:World}(h:laidMetH Tryz.prog Rows.salvageCleanRow.laid W):DA W∧CG W:=by
 have a:laidMet Tryz.prog Rows.salvageCleanRow.laid W:=h
 obtain⟨J,⟨K,t1,L,f1,M,N,b,c,d,e,⟨O,t2,c2,f2,P,Q,f,g,i,j,⟨R,t3,S,f3,T,U,k,m,n,o,⟨V,t4,X,f4,Y,Z,p,q,r,s,⟨aa,t5,ab,f5,ad,ae,t,u,v,w,_,_⟩,_⟩,_⟩,_⟩,_⟩,_⟩:=a
 obtain rfl:=Option.some.inj (Yr.symm.trans b)
 obtain rfl:=Option.some.inj (US.symm.trans f)
 obtain rfl:=Option.some.inj (YQ.symm.trans k)
 obtain rfl:=Option.some.inj (X7.symm.trans p)
 obtain rfl:=Option.some.inj (Wo.symm.trans t)
 obtain rfl:=Option.some.inj (gq.symm.trans c)
 obtain rfl:=Option.some.inj (bN.symm.trans g)
 obtain rfl:=Option.some.inj (cm.symm.trans m)
 obtain rfl:=Option.some.inj (ZE.symm.trans q)
 obtain rfl:=Option.some.inj (gu.symm.trans u)
 have x:=Lib.cells_of_tab (zs:=N'.map fun z=>((z:Nat):Int)) DW CI (by kernel_rfl) (by kernel_rfl) e
 have y:=Lib.cells_of_tab (zs:=J7.map fun z=>((z:Nat):Int)) FF CI (by kernel_rfl) (by kernel_rfl) j
 have A:=Lib.cells_of_tab (zs:=Ref.GL.map fun z=>((z.toNat:Nat):Int)) WC BV (by kernel_rfl) (by kernel_rfl) o
 have B:=Lib.cells_of_tab (zs:=AL.IP.l.map fun z=>((z.toNat:Nat):Int)) DW CI (by kernel_rfl) (by kernel_rfl) s
 have C:=Lib.cells_of_tab (zs:=AL.Tj.l.map fun z=>((z.toNat:Nat):Int)) FF CI (by kernel_rfl) (by kernel_rfl) w
 obtain⟨D,E⟩:=S1 (xs:=(Hr N').toList) Yr d (by rw[x];rfl)
 obtain⟨F,G⟩:=S1 (xs:=(Hr J7).toList) US i (by rw[y];rfl)
 obtain⟨H,I⟩:=S1 (xs:=bv Ref.GL) YQ n (by rw[A];rfl)
 exact⟨⟨D,E,F,G,H,I⟩,⟨U_ Wo v (by rw[C];rfl),U_ X7 r (by rw[B];rfl)⟩⟩
set_option maxRecDepth 100000 in
theorem gA (H:Type) (enc:TypeId×Value→H) (W:World) (base:Nat) (args:Array Value) (CX gs:List (DataW H)) (before:List MemPlace)
 (d:∀(j:Nat) t v,Tryz.f3.params[j]? =some t→args[j]? =some v→Value.okWide Tryz.prog W .any base t v)
 (g:DataW.Whole enc Tryz.prog Tryz.f3.params.toList Rows.salvageCleanSpec.vars false W args.toList CX gs before)
 (i:(DataW.weightsEach Tryz.prog (Tryz.f3.params.toList++Rows.salvageCleanSpec.plain.varTypes Tryz.prog) (CX++gs)).all (·≤reachBytes)=true)
 (w:laidMetH Tryz.prog Rows.salvageCleanRow.laid W):
 Calls Tryz.prog 3 args W fun e B8=>∃v,e=.returned v∧Rows.salvageCleanSpec.post enc Tryz.prog Tryz.f3 false true false false W args v B8:=by
 have b:=g
 obtain⟨p,q,k,y,rfl,M,N⟩:=g
 have o:DataW.TrodAll enc Tryz.prog W 0 (fun _=>true) true Tryz.f3.params.toList args.toList CX p:=k
 rw[Tryz.params3]at o d i
 obtain⟨v0,O,d0,P,z,Q,R,rfl,rfl,r,A⟩:=trodAll_cons o
 obtain⟨rfl,rfl,rfl⟩:=trodAll_nil A
 obtain rfl:args=#[v0]:=by cases args;simp_all
 obtain⟨rfl,rfl⟩:=trodVars_none y
 clear k
 simp only[List.append_nil]at b
 have B:∀x∈z,x.block<W.heap.size:=fun x f=>by simpa using b.lt x f
 have u:=r
 have C:Cell.okWide Tryz.prog W .any base 22 v0:=by
  have:=d 0 22 v0 D D
  simpa only[Value.okWide,Tryz.underlying22]using this
 obtain⟨s,n,c,E⟩:=okWide_slice Co (d 0 22 v0 D D)
 subst E
 obtain⟨fuel,F⟩:=r
 obtain⟨a,m,c,l,he,G,hl,S,Ad⟩:=opened Co BV ZF C ⟨fuel,by simpa[Value.cells]using F⟩
 rw[he]at u b⊢
 have hm:m≤140737488351232:=by
  rcases Ad with⟨_,h⟩|⟨es,rs,h,I⟩
  ·omega
  ·have:=sized_slice i (j:=0) (t:=22) (e:=5) D (by rw[h];rfl) Tryz.underlying22
   rw[aX]at this
   simp only[I,reachBytes]at this
   omega
 obtain⟨K,A5⟩:=bx w
 refine(aL K A5 G hl hm).mono fun e B8 ⟨L,J⟩=>?_
 subst L
 exact⟨_,D,_,_,_,[],_,[],b,trodAll_mk1 (shut_bool PW _),trodAll_mk1 (Below.trod laidOut (by kernel_rfl) (of_decide_eq_true (by kernel_rfl)) u J (fun x f=>B x (by simpa using f))),D,J.frame _,fun h=>by cases h⟩
def On:DataW Unit→List Value
 |.agg l=>l.map fun d=>match d with
  |.lit (.int k n)=>Value.int k n
  |_=>undef
 |_=>[]
def vars:List Nat:=[1,2,3,0,4,5,6,7,8,9,10,11,12,13,14,15,16,17,18,19]
def texts:List (List UInt8):=[[97,32,110,117,109,98,101,114,32,116,104,97,116,32,109,97,121,32,110,111,116,32,98,101],[116,104,101,32,100,105,115,107,32,104,97,115,32,110,111,32,112,111,119,101,114],[111,108,100,101,114,32,116,104,97,110,32,116,104,101,32,108,97,115,116,32,99,114,97,115,104],[116,104,101,32,100,105,115,107,32,105,115,32,99,111,114,114,117,112,116],[110,111,32,112,97,103,101,32,105,115,32,108,101,102,116],[110,111,32,98,97,116,99,104],[116,111,111,32,109,97,110,121,32,99,104,97,110,103,101,115],[97,32,118,97,108,117,101,32,116,111,111,32,108,111,110,103],[111,110,101,32,107,101,121,32,116,119,105,99,101],[110,111,116,104,105,110,103,32,105,115,32,108,97,105,100,32,104,101,114,101],[116,104,101,114,101,32,105,115,32,115,111,109,101,116,104,105,110,103,32,97,108,114,101,97,100,121],[116,104,101,32,108,111,119,32,101,110,100,32,108,105,101,115,32,97,98,111,118,101,32,116,104,101,32,104,105,103,104,32,101,110,100],[110,111,32,115,117,99,104,32,118,101,114,115,105,111,110,32,121,101,116],[97,32,118,101,114,115,105,111,110,32,98,101,108,111,119,32,116,104,101,32,102,105,114,115,116],[110,111,116,32,97,32,107,101,121,39,115,32,98,121,116,101,115],[110,111,32,115,117,99,104,32,116,114,97,110,115,97,99,116,105,111,110],[119,104,97,116,32,119,97,115,32,114,101,97,100,32,104,97,115,32,99,104,97,110,103,101,100],[110,111,32,115,116,114,101,97,109],[116,104,101,32,115,116,114,101,97,109,32,98,101,103,105,110,115,32,101,108,115,101,119,104,101,114,101],[97,110,111,116,104,101,114,32,114,111,111,116,32,116,104,97,110,32,116,104,101,32,115,116,114,101,97,109,32,115,97,121,115]]
noncomputable def low:Nat:=(World.holding Tryz.prog default ⟨#[],#[],[]⟩).heap.size
noncomputable def Ta(os:Os):World:=
 let w0:=World.holding Tryz.prog os ⟨(texts.map fun t=>Obj.cells #[.string ⟨t.toArray⟩] 363).toArray,#[],[]⟩
 {w0 with heap:=vars.zipIdx.foldl (fun h x=>h.modify x.1 fun
       |.cells _ t frozen=>.cells #[.iface 319 (.pointer (some ⟨low+x.2,0,none⟩))] t frozen
       |o=>o) ((((((w0.heap).modify 20 fun
       |.cells _ t frozen=>.cells (On (Rows.laid_ledger_ledgerref1_first (H:=Unit))).toArray t frozen
       |o=>o).modify 22 fun
       |.cells _ t frozen=>.cells (On (Rows.laid_ledger_ledgerref1_consts (H:=Unit))).toArray t frozen
       |o=>o).modify 21 fun
       |.cells _ t frozen=>.cells (On (Rows.laid_ledger_ledgerref2_divisor (H:=Unit))).toArray t frozen
       |o=>o).modify 23 fun
       |.cells _ t frozen=>.cells (On (Rows.laid_ledger_digest_begin (H:=Unit))).toArray t frozen
       |o=>o).modify 24 fun
       |.cells _ t frozen=>.cells (On (Rows.laid_ledger_digest_round (H:=Unit))).toArray t frozen
       |o=>o)}
def Rg:Array Value:=#[.slice none 0 0]
theorem hU(os:Os):laidMet Tryz.prog Rows.salvageCleanRow.laid ((Ta os).forCall (fun _ _=>0) ⟨#[],Rg,[]⟩).memory:=
 laidMet_of_run3 8 (by kernel_rfl) (by kernel_rfl) (by kernel_rfl)
theorem reads(os:Os){H:Type}(enc:TypeId×Value→H):∃places,DataW.whole enc Tryz.prog ((Ta os).forCall (fun _ _=>0) ⟨#[],Rg,[]⟩).memory Tryz.f3.params.toList Rows.salvageCleanSpec.vars false Rg.toList 8=some ([.nil],[],places):=
 ⟨[],by kernel_rfl⟩
set_option maxRecDepth 100000 in
theorem lifted (os:Os) (started:os.Started) (H:Type) (enc:TypeId×Value→H) (F:Stop.Interp):
 ReturnsInHanded {} Tryz.checked os 3 .any ((OpenSpec.ofChange Rows.salvageCleanSpec).preRow enc Tryz.prog Tryz.f3 Rows.salvageCleanRow.domain false Rows.salvageCleanRow.laid) (((OpenSpec.ofChange Rows.salvageCleanSpec).at F).post enc Tryz.prog Tryz.f3 false true false false):=by
 obtain⟨places,a⟩:=reads os enc
 refine returnsInHanded_of_row (C:=Tryz.checked) (s:=OpenSpec.ofChange Rows.salvageCleanSpec) own started (by kernel_rfl) Rc
  (witness_row_at (enc:=enc) (C:=Tryz.checked) false (Ta os) Rg D (by kernel_rfl) (by kernel_rfl) (by kernel_rfl)
    (OpenSpec.preRow_of_cond 8 a (by kernel_rfl) (fun k b=>by cases b) (by kernel_rfl) (hU os))) ?_
 intro W base args CX gs before c d _ _ e f _ _
 exact gA H enc W base args CX gs before c d e f
theorem said:Rows.SalvageCleanSaid:=
 OpenClaim.holds_of_cond 3 Tryz.f3 D D D D D D D ⟨D,D,D,D,D⟩ D D D D D (by kernel_rfl) Rc (by kernel_rfl)
  (of_decide_eq_true (by kernel_rfl)) (by unfold Func.isWrapper;first|(rw[if_pos (by decide+kernel)];kernel_rfl)|(rw[if_neg (by decide+kernel)];exact⟨D,D⟩))
  (fun os started H enc _ F=>by rw[OpenClaim.pre_eq_preRow];exact lifted os started H enc F)
theorem plain(f:FuncId)(fn:Func)(b:Tryz.pinned.checked.prog.funcNamed "ledger/ledgerlaw23.SalvageClean" =some f)(c:Tryz.pinned.checked.prog.funcs[f]? =some fn):
 true=Tryz.pinned.checked.prog.looks []∧∀(j:Nat) t,fn.params[j]? =some t→Tryz.pinned.checked.prog.wantsStandIn t=false:=by
 obtain rfl:f=3:=Option.some.inj ((show Tryz.prog.funcNamed "ledger/ledgerlaw23.SalvageClean" =some 3 by kernel_rfl).symm.trans b)|>.symm
 obtain rfl:fn=Tryz.f3:=(Option.some.inj (Rc.symm.trans c)).symm
 refine⟨by kernel_rfl,fun j t a=>?_⟩
 rw[Tryz.params3]at a
 obtain rfl:t=22:=by simpa using Array.mem_of_getElem? a
 exact(show Tryz.prog.wantsStandIn 22=false by kernel_rfl)
theorem card:Rows.SalvageCleanCardSaid:=
 Claim7.holds_tied_plain_at .later [] _ _ _ _ said (fun _ h=>by cases h) (by kernel_rfl) (fun _ h=>by cases h) salvageClean_row_tie D ⟨D,D⟩ (by kernel_rfl) D plain (by kernel_rfl)
end Go.Proofs.YtaapafoibofbjaaGreatDoor.salvageClean
