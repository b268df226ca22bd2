/- Laws and walks on the road to SalvageClean (part M07). No conditions beyond each law's own. -/
import Derived.Test.YtaapafoibofbjaaGreatDoorM01
import Derived.Test.YtaapafoibofbjaaGreatDoorM03
import Derived.Test.YtaapafoibofbjaaGreatDoorM06
import Derived.Test.YtaapafoibofbjaaGreatDoorM04
set_option linter.unusedVariables false
namespace Go.Proofs.YtaapafoibofbjaaGreatDoor
open Go.RowKit
variable {b n off size c m bytes p B:Nat} {x y BI:Operand} {ss pre:List (List Value)} {T tb e t:TypeId} {v z BA:Value} {fr:Nat×Nat} {BB:TypeDesc} {k:IntKind} {fn:Func} {xs:List Value} {i:Int}
structure Row (n:Nat) (K:List Value):Prop where
 len:K.length=n
 one:∀u∈K,u.oneCell'=true
theorem Ja.nil:([]:List (List Value)).flatten.length=0:=rfl
theorem Ja.one(r:ss.flatten.length=n):([v]::ss).flatten.length=1+n:=by simp[r];omega
theorem Ja.row{K:List Value}(h:Row m K)(r:ss.flatten.length=n):(K::ss).flatten.length=m+n:=by simp only[List.flatten_cons,List.length_append,h.len,r]
def Jw(ss:List (List Value)):Prop:=∀s∈ss,∀u∈s,u.oneCell'=true
theorem Jw.nil:Jw []:=fun _ h=>by cases h
theorem Jw.one(h:v.oneCell'=true)(r:Jw ss):Jw ([v]::ss):=by
 intro s a
 rcases List.mem_cons.1 a with rfl|a
 ·intro u hu;simp at hu;subst hu;exact h
 ·exact r s a
theorem Jw.row{K:List Value}(h:Row n K)(r:Jw ss):Jw (K::ss):=by
 intro s a
 rcases List.mem_cons.1 a with rfl|a
 ·exact h.one
 ·exact r s a
theorem H4{w:World}(J:w.heap[b]? =some (.cells (flat ss) T fr)):Cells w b 0 ss.flatten:=by
 intro j v hj
 rw[Nat.zero_add,cell_of_row _ _ _ _ _ _ J]
 simpa[flat]using hj
theorem dL(CP:List Value):∀(c:Array Value) (o:Nat),o+CP.length≤c.size→(KH c o CP).toList=c.toList.take o++CP++c.toList.drop (o+CP.length):=by
 intro c o h
 apply List.ext_getElem?
 intro j
 rw[Array.getElem?_toList]
 have b:(c.toList.take o).length=o:=by simp;omega
 rcases Nat.lt_or_ge j o with h1|h1
 ·rw[R8 _ _ _ _ (.inl h1),List.append_assoc,List.getElem?_append_left (by omega),List.getElem?_take,if_pos h1,Array.getElem?_toList]
 ·rcases Nat.lt_or_ge j (o+CP.length)with a|a
  ·obtain⟨k,rfl⟩:∃k,j=o+k:=⟨j - o,by omega⟩
   rw[aW _ _ _ _ (by omega) h,List.append_assoc,List.getElem?_append_right (by omega),b,Nat.add_sub_cancel_left,List.getElem?_append_left (by omega)]
  ·rw[R8 _ _ _ _ (.inr a),List.getElem?_append_right (by simp;omega),List.getElem?_drop,Array.getElem?_toList]
   congr 1
   simp
   omega
theorem Ml{w w':World}(BO:D0 w w' v BA)(h:∀k,v.ownBlock=some k→k≠b)(J:b<w.heap.size):∀k,BA.ownBlock=some k→k≠b:=by
 intro k a
 rcases BO.at_ k a with q|q
 ·exact h k q
 ·omega
theorem Mx{w w':World}{o:Obj}(J:w.heap[b]? =some o)(BO:D0 w w' v BA)(h:∀k,v.ownBlock=some k→k≠b):w'.heap[b]? =some o:=
 (BO.Bg.block b (DC J) (fun e=>h b e.symm D)).trans J
theorem PH{w w':World}{base:Nat}(h:w.ownsRow base e size v n xs)(g:w.grownBy w' (some b))(ne:∀k,v.ownBlock=some k→k≠b):w'.ownsRow base e size v n xs:=
 h.kept g (by
   cases V:v.ownBlock with
   |none=>exact .inl D
   |some k=>exact .inr (fun e=>by cases e;exact ne _ V D))
def Ak(n:Nat):List Value:=List.replicate n (.int .u8 0)
theorem Jl(n:Nat):Row n (Ak n):=⟨by simp[Ak],fun u hu=>by rw[List.eq_of_mem_replicate hu];rfl⟩
def I8(n:Nat):List Value:=List.replicate n (.int .u32 0)
theorem Jx(n:Nat):Row n (I8 n):=⟨by simp[I8],fun u hu=>by rw[List.eq_of_mem_replicate hu];rfl⟩
theorem Ju{l:List UInt8}(h:l.length=n):Row n (bv l):=⟨by rw[DG,h],Eo l⟩
section
variable {P:Program} {w w':World} {ops:Array Oper} {rest:List Oper} {a:Act} {Aa:Exit→Act→World→Prop} {N:Nat} {f:BW} {d:Nat} {ty:TypeId} {pos:String} {An:Array Edge} {dst:Option Tmp} {g:Option (Nat×Bool)} {K:Act→World→Prop}
theorem Rk(e:AH N a f)(Ad:Nat.blt d N=true)(i:(P.info? T).map (·.zero)=some (some z))(j:z.cells=flat ss)
 (h:∀c b W,w.heap.size=b→AH N c (Jb f d (.pointer (some ⟨b,0,none⟩)))→W.heap.size=b+1→W.heap[b]? =some (.cells (flat ss) T (0,0))→Below w.heap.size w W→K c W):Dw P ⟨some d,.alloc T,ty,pos,An,g⟩ a w K Aa:=
 ba e Ad i j (fun c W h1 k l m=>h c _ W D h1 k l m)
theorem Sm(e:AH N a f)(Ad:Nat.blt d N=true)(i:Aj f x=some v)(j:v.cells=flat ss)
 (h:∀c b W,w.heap.size=b→AH N c (Jb f d (.pointer (some ⟨b,0,none⟩)))→W.heap.size=b+1→W.heap[b]? =some (.cells (flat ss) T (0,0))→Below w.heap.size w W→K c W):Dw P ⟨some d,.box T x,ty,pos,An,g⟩ a w K Aa:=
 dk e Ad i j (fun c W h1 k l m=>h c _ W D h1 k l m)
theorem MY(c:AH N a f)(d:Aj f x=some (.pointer (some ⟨b,off,none⟩)))(hu:P.underlying T=some BB)(Ad:BB.isRow=true)(pre mid post:List (List Value))(J:w.heap[b]? =some (.cells (flat (pre++mid++post)) tb fr))(ho:pre.flatten.length=off)(e:(P.info? T).map (·.size)=some mid.flatten.length):CD P a w ⟨dst,.load T x,ty,pos,An,g⟩ (.agg (flat mid)) w:=by
 refine RN c d hu Ad ?_ e
 have:=H4 J
 intro j v hj
 have h:j<mid.flatten.length:=(List.getElem?_eq_some_iff.1 hj).1
 have:=this (off+j) v (by
  simp only[List.flatten_append]
  rw[←ho,List.append_assoc,List.getElem?_append_right (by omega),Nat.add_sub_cancel_left,List.getElem?_append_left h]
  exact hj)
 simpa using this
theorem IV(c:AH N a f)(d:Aj f x=some (.pointer (some ⟨b,off,none⟩)))(hu:P.underlying T=some BB)(Ad:BB.isRow=false)(pre:List (List Value))(v:Value)(post:List (List Value))(J:w.heap[b]? =some (.cells (flat (pre++[[v]]++post)) tb fr))(ho:pre.flatten.length=off):CD P a w ⟨dst,.load T x,ty,pos,An,g⟩ v w:=by
 refine Ei c d hu Ad ?_
 have:=H4 J off v (by
  simp only[List.flatten_append,List.flatten_cons]
  rw[←ho,List.append_assoc,List.getElem?_append_right (by omega),Nat.sub_self]
  rfl)
 simpa using this
theorem Z4(c:AH N a f)(d:Aj f x=some (.pointer (some ⟨b,off,none⟩)))(hu:P.underlying T=some BB)(Ad:BB.isRow=true){K:List Value}(e:Row n K)(h:Cells w b off K)(i:(P.info? T).map (·.size)=some n):CD P a w ⟨dst,.load T x,ty,pos,An,g⟩ (.agg (flat [K])) w:=
 RN c d hu Ad (xs:=[K].flatten) (by simpa using h) (by rw[i];simp[e.len])
theorem Kj{R:Ending→World→Prop}(c:AH N a f){t:Nat}(hr:fn.results=#[.cell t T])(V:f t=some (.pointer (some ⟨b,0,none⟩)))(J:w.heap[b]? =some (.cells (flat ss) tb fr))
 (hu:P.underlying T=some BB)(Ad:BB.isRow=true)(d:(P.info? T).map (·.size)=some ss.flatten.length)(h:R (.returned (.agg (flat ss))) w):bodyPost P fn R .ret a w:=
 ZD c hr V ss.flatten (H4 J) hu Ad d h
theorem FL{R:Ending→World→Prop}(c:AH N a f){t u:Nat}(hr:fn.results=#[.cell t T,.tmp u])(V:f t=some (.pointer (some ⟨b,0,none⟩)))(d:f u=some BA)(J:w.heap[b]? =some (.cells (flat ss) tb fr))
 (hu:P.underlying T=some BB)(Ad:BB.isRow=true)(e:(P.info? T).map (·.size)=some ss.flatten.length)(h:R (.returned (.tuple #[.agg (flat ss),BA])) w):bodyPost P fn R .ret a w:=
 fc c hr V d ss.flatten (H4 J) hu Ad e h
theorem ca{R:Ending→World→Prop}(c:AH N a f){t u:Nat}(hr:fn.results=#[.tmp u,.cell t T])(V:f t=some (.pointer (some ⟨b,0,none⟩)))(d:f u=some BA)(J:w.heap[b]? =some (.cells (flat ss) tb fr))
 (hu:P.underlying T=some BB)(Ad:BB.isRow=true)(e:(P.info? T).map (·.size)=some ss.flatten.length)(h:R (.returned (.tuple #[BA,.agg (flat ss)])) w):bodyPost P fn R .ret a w:=
 hG c hr V d ss.flatten (H4 J) hu Ad e h
theorem Ru(c:AH N a f)(k:Aj f x=some (.pointer (some ⟨b,off,none⟩)))(pre mid post ts:List (List Value))(J:w.heap[b]? =some (.cells (flat (pre++mid++post)) tb (0,0)))(l:Aj f y=some (.agg (flat ts)))
 (ho:pre.flatten.length=off)(hm:mid.flatten.length=ts.flatten.length)(m:(P.info? T).map (·.size)=some ts.flatten.length)(h1:Jw ts)
 (h:∀d W,AH N d f→W.heap.size=w.heap.size→W.heap[b]? =some (.cells (flat (pre++ts++post)) tb (0,0))→w.grownBy W (some b)→K d W):Dw P ⟨none,.store T x y,ty,pos,An,g⟩ a w K Aa:=by
 subst ho
 have e:(flat (pre++mid++post)).size=pre.flatten.length+mid.flatten.length+post.flatten.length:=by simp[flat];omega
 obtain⟨i,n⟩:=c5 b tb ts.flatten pre.flatten.length w _ J
 have p:KH (flat (pre++mid++post)) pre.flatten.length ts.flatten=flat (pre++ts++post):=by
  apply Array.toList_inj.1
  rw[dL _ _ _ (by rw[e];omega)]
  simp only[flat,List.flatten_append]
  generalize pre.flatten=A,mid.flatten=B,post.flatten=C,ts.flatten=Au at*
  have q:(A++B++C).take A.length=A:=by rw[List.append_assoc];exact List.take_left
  have r:(A++B++C).drop (A.length+Au.length)=C:=by rw[←hm,←List.length_append];exact List.drop_left
  rw[q,r]
 rw[p]at i
 have t:∀u∈ts.flatten,u.oneCell'=true:=by
  intro u hu
  obtain⟨s,z,E⟩:=List.mem_flatten.1 hu
  exact h1 s z u E
 refine⟨wp_store_mid T x y D b _ (flat ts) (c.A_ k) (c.A_ l) (fun j hj=>?_) (by rw[m];simp[flat]) (all_oneCell_toArray t) (h _ _ (c.VA undef) ?_ i n)⟩
 ·rw[cell_of_row _ _ _ _ _ _ J]
  have G:j<ts.flatten.length:=by simpa[flat]using hj
  exact⟨by rw[Array.getElem?_eq_getElem (by rw[e];omega)];rfl,frozen_of_row _ _ _ _ _ J⟩
 ·have:∀(CV:List Value) (o:Nat) (w:World),(w.setCells b o CV).heap.size=w.heap.size:=by
   intro CV
   induction CV with
   |nil=>intro o w;rfl
   |cons v CV F=>intro o w;exact(F _ _).trans (World.size_setCell _ _ _)
  exact this _ _ _
theorem Vf(d:AH N a f)(e:Aj f x=some (.pointer (some ⟨b,off,none⟩)))(pre:List (List Value))(DB:Value)(post:List (List Value))(J:w.heap[b]? =some (.cells (flat (pre++[[DB]]++post)) tb (0,0)))(i:Aj f y=some v)(V:v.oneCell'=true)
 (ho:pre.flatten.length=off)(j:(P.info? T).map (·.size)=some 1)
 (h:∀c W,AH N c f→W.heap.size=w.heap.size→W.heap[b]? =some (.cells (flat (pre++[[v]]++post)) tb (0,0))→w.grownBy W (some b)→K c W):Dw P ⟨none,.store T x y,ty,pos,An,g⟩ a w K Aa:=by
 subst ho
 refine Me d e J i V j (by simp[flat]) ?_ h
 apply Array.toList_inj.1
 rw[Array.toList_setIfInBounds]
 simp only[flat,List.flatten_append,List.flatten_cons,List.append_assoc,List.singleton_append]
 rw[List.set_append_right _ _ (Br _),Nat.sub_self]
 rfl
theorem Cs(d:AH N a f){b:Array (Nat×Operand)}{BH:List (Nat×Value)}(e:b.toList.map (fun p=>(p.1,Aj f p.2))=BH.map (fun p=>(p.1,some p.2)))(hr:(Instr.build T BH.toArray).run P w=.ok v w):CD P a w ⟨dst,.build T b,ty,pos,An,g⟩ v w:=by
 show(execOp a.eval _).run P w=_
 have:b.map (fun p=>(p.1,a.eval p.2))=BH.toArray:=by
  apply Array.toList_inj.1
  rw[Array.toList_map]
  apply List.ext_getElem?
  intro i
  have:=congrArg (fun q=>q[i]?) e
  simp only[List.getElem?_map]at this⊢
  cases h1:b.toList[i]? with
  |none=>rw[h1]at this;cases c:BH[i]? with
   |none=>simp
   |some v=>rw[c]at this;cases this
  |some x=>rw[h1]at this;cases c:BH[i]? with
   |none=>rw[c]at this;cases this
   |some v=>
    rw[c]at this
    simp only[Option.map_some,Option.some.injEq,Prod.mk.injEq]at this
    simp[this.1,d.A_ this.2]
 simp only[execOp,this,Sem.run_bind,hr,Result.andThen_ok,Sem.run_pure]
theorem Rm(d:AH N a f)(j:CO P t e size bytes z){b:Operand}{y:Option Addr}(l:Aj f x=some (.slice y n c))(h:Nat)(m:Aj f b=some (.int k h))(o:h≤c:=by omega):
 CD P a w ⟨dst,.slice t x none (some b) none,ty,pos,An,g⟩ (.slice y h c) w:=by
 show(execOp a.eval _).run P w=_
 obtain⟨i,p,s,r,u⟩:=j.ji
 have J:=Ue (P:=P) (w:=w) k n c h o
 have:Option.map (fun q:Addr=>q.add 0) y=y:=by cases y<;>simp[Addr.add]
 simp[execOp,d.A_ l,d.A_ m,Instr.sliceAt,Instr.slice,run_underlying j.jq,J,sizeOf,typeInfo,p,r,this]
theorem VH(b:AH N a f){d:Operand}{y p:Option Addr}{G5:Nat}(e:Aj f x=some (.slice y n c))(l:Nat)(hl:Aj f d=some (.int k l))(hr:∀(W:World) (k:IntKind),(Instr.sliceAt t (.slice y n c) (some (.int k l)) none none).run P W=.ok (.slice p m G5) W):
 CD P a w ⟨dst,.slice t x (some d) none none,ty,pos,An,g⟩ (.slice p m G5) w:=by
 show(execOp a.eval _).run P w=_
 simp[execOp,b.A_ e,b.A_ hl,hr]
theorem iw(b:AH N a f){d e:Operand}{y p:Option Addr}{G5:Nat}(i:Aj f x=some (.slice y n c)){k':IntKind}(l h:Nat)(hl:Aj f d=some (.int k l))(j:Aj f e=some (.int k' h))(hr:∀(W:World) (k k':IntKind),(Instr.sliceAt t (.slice y n c) (some (.int k l)) (some (.int k' h)) none).run P W=.ok (.slice p m G5) W):
 CD P a w ⟨dst,.slice t x (some d) (some e) none,ty,pos,An,g⟩ (.slice p m G5) w:=by
 show(execOp a.eval _).run P w=_
 simp[execOp,b.A_ i,b.A_ hl,b.A_ j,hr]
end
structure Jo (ss:List (List Value)) (n:Nat):Prop where
 len:ss.flatten.length=n
 one:Jw ss
theorem Jo.nil:Jo [] 0:=⟨D,Jw.nil⟩
theorem Jo.val(h:v.oneCell'=true)(r:Jo ss n):Jo ([v]::ss) (1+n):=⟨Ja.one r.len,Jw.one h r.one⟩
theorem Jo.row{K:List Value}(h:Row m K)(r:Jo ss n):Jo (K::ss) (m+n):=⟨Ja.row h r.len,Jw.row h r.one⟩
section
variable {P:Program} {w w':World} {ops:Array Oper} {rest:List Oper} {Aa:Exit→Act→World→Prop} {N:Nat} {f:BW} {d:Nat} {ty:TypeId} {pos:String} {An:Array Edge} {dst:Option Tmp} {R:Act→Prop} {K:Act→World→Prop}
theorem Hf(c:Aj f x=some (.agg (flat ss)))(h:∀b W,w.heap.size=b→W.heap.size=b+1→W.heap[b]? =some (.cells (flat ss) T (0,0))→Below w.heap.size w W→B_ P ops Aa N W (Jb f d (.pointer (some ⟨b,0,none⟩))) rest)(Ad:Nat.blt d N=true:=by exact rfl):
 B_ P ops Aa N w f (⟨some d,.box T x,ty,pos,An,none⟩::rest):=fun a e=>Cp D (fun K g=>Sm e Ad c (ss:=ss) D (fun i b W h1 j k l m=>g _ _ (h b W h1 k l m i j)))
theorem D4(ss:List (List Value))(h:∀b W,w.heap.size=b→W.heap.size=b+1→W.heap[b]? =some (.cells (flat ss) T (0,0))→Below w.heap.size w W→B_ P ops Aa N W (Jb f d (.pointer (some ⟨b,0,none⟩))) rest)(c:(P.info? T).map (·.zero)=some (some (.agg (flat ss))):=by kernel_rfl)(Ad:Nat.blt d N=true:=by exact rfl):
 B_ P ops Aa N w f (⟨some d,.alloc T,ty,pos,An,none⟩::rest):=fun a e=>Cp D (fun K g=>Rk e Ad c (ss:=ss) D (fun i b W h1 j k l m=>g _ _ (h b W h1 k l m i j)))
def GX(f:BW):List Operand→Option (List Value)
 |[]=>some []
 |x::xs=>match Aj f x,GX f xs with
  |some v,some l=>some (v::l)
  |_,_=>none
theorem Nf{f:BW}:∀ {xs:List Operand} {l:List Value},GX f xs=some l→xs.map (Aj f)=l.map some:=by
 intro xs
 induction xs with
 |nil=>intro l h;cases h;rfl
 |cons x xs a=>
  intro l h
  unfold GX at h
  split at h
  ·rename_i v m V hm
   cases h
   rw[List.map_cons,List.map_cons,V,a hm]
  ·cases h
theorem CL{Cf:FuncId}(b:P.funcs[Cf]? =some fn){xs:List Operand}{ts:Array TypeId}{l:List Value}(c:GX f xs=some l){BK:Ending→World→Prop}(g:Calls P Cf l.toArray w BK)(h:∀e W,BK e W→∃v,e=.returned v∧B_ P ops Aa N W (Jb f d v) rest)
 (i:(fn.name== "runtime.NumGoroutine")=false:=by kernel_rfl)(J:fn.body.isNone=false:=by kernel_rfl)(Ad:Nat.blt d N=true:=by exact rfl):B_ P ops Aa N w f (⟨some d,.call {callee:=.value (.func Cf),args:=xs.toArray,argTypes:=ts},ty,pos,An,none⟩::rest):=
 fun a j=>Cp D (fun K k=>Rj j Ad b i J (args:=l.toArray) (by simpa using Nf c) g (fun e W q=>by
  obtain⟨v,m,h1⟩:=h e W q
  exact⟨v,m,fun n o=>k _ _ (h1 n o)⟩))
theorem K2(b:CO P t e size bytes z)(c:Aj f x=some v){cs:Array Value}(g:v.cells=cs)(V:cs.size=size)(h:∀W,W.heap.size=w.heap.size+1→View W (.slice (some ⟨w.heap.size,0,none⟩) 1 1) 1 size cs.toList→Below w.heap.size w W→B_ P ops Aa N W (Jb f d (.slice (some ⟨w.heap.size,0,none⟩) 1 1)) rest)
 (i:Nat.ble size 16777216=true:=by exact rfl)(Ad:Nat.blt d N=true:=by exact rfl):B_ P ops Aa N w f (⟨some d,.buildSlice t 1 #[(0,x)],ty,pos,An,none⟩::rest):=
 fun a j=>Cp D (fun K k=>IJ j Ad b c g V (Nat.le_of_ble_eq_true i) (fun l W h1 m n o=>k _ _ (h W m n o l h1)))
theorem Hv(hu:P.underlying T=some BB)(i:Nat)(J:w.heap[b]? =some (.cells (flat ss) tb fr))(V:ss[i]? =some [v])(a:Aj f x=some (.pointer (some ⟨b,off,none⟩)))(h:B_ P ops Aa N w (Jb f d v) rest)
 (h1:ss.take i=pre:=by first|(simp only[List.take_succ_cons,List.take_zero,List.take_nil,List.drop_succ_cons,List.drop_zero,List.drop_nil,List.cons_append,List.nil_append,List.append_nil]<;>rfl)|exact rfl)(s1:pre.flatten.length=p:=by(repeat(first|exact Ja.nil|(apply Ja.one)|(apply Ja.row;(first|assumption|exact Jc.row _|exact Jl _|exact Jx _|exact Ju (by first|assumption|exact List.length_replicate|exact Jc.h _)|exact Jm.row (by first|assumption|exact Jm.zero _|exact Jv))))))(ho:p=off:=by first|rfl|omega)(hr:BB.isRow=false:=by exact rfl)(Ad:Nat.blt d N=true:=by exact rfl):B_ P ops Aa N w f (⟨some d,.load T x,ty,pos,An,none⟩::rest):=by
 have e:ss=pre++[[v]]++ss.drop (i+1):=by
  obtain⟨hl,c⟩:=List.getElem?_eq_some_iff.1 V
  rw[←h1,List.append_assoc,←c,List.singleton_append,←List.drop_eq_getElem_cons hl,List.take_append_drop]
 rw[e]at J
 exact Ep Ad (fun _ g=>IV g a hu hr pre v (ss.drop (i+1)) J (s1.trans ho)) h
theorem Ef(hu:P.underlying T=some BB)(J:w.heap[b]? =some (.cells (flat ss) tb fr))(a:Aj f x=some (.pointer (some ⟨b,0,none⟩)))(h:B_ P ops Aa N w (Jb f d (.agg (flat ss))) rest)
 (s1:ss.flatten.length=n:=by(repeat(first|exact Ja.nil|(apply Ja.one)|(apply Ja.row;(first|assumption|exact Jc.row _|exact Jl _|exact Jx _|exact Ju (by first|assumption|exact List.length_replicate|exact Jc.h _)|exact Jm.row (by first|assumption|exact Jm.zero _|exact Jv))))))(c:(P.info? T).map (·.size)=some n:=by kernel_rfl)(hr:BB.isRow=true:=by exact rfl)(Ad:Nat.blt d N=true:=by exact rfl):B_ P ops Aa N w f (⟨some d,.load T x,ty,pos,An,none⟩::rest):=
 Ep Ad (fun _ e=>MY e a hu hr [] ss [] (by simpa using J) D (by rw[c,s1])) h
theorem Ou(a:CO P t e size bytes z)(j:Nat)(o:Nat)(g:Aj f x=some (.slice (some ⟨b,off,none⟩) n c))(l:Aj f BI=some (.int k i))(h:B_ P ops Aa N w (Jb f d (.pointer (some ⟨b,o,none⟩))) rest)
 (hj:i=j:=by omega)(m:j<n:=by omega)(ho:off+j*size=o:=by first|rfl|omega)(Ad:Nat.blt d N=true:=by exact rfl):B_ P ops Aa N w f (⟨some d,.indexAddr t x BI,ty,pos,An,none⟩::rest):=Ep Ad (fun _ p=>Gu p a g l j hj m ho) h
theorem YA(hu:P.underlying T=some BB)(J:w.heap[b]? =some (.cells (flat ss) tb fr))(a:Aj f x=some (.pointer (some ⟨b,0,none⟩)))(h:FH P ops R N w (Jb f d (.agg (flat ss))) rest)
 (s1:ss.flatten.length=n:=by(repeat(first|exact Ja.nil|(apply Ja.one)|(apply Ja.row;(first|assumption|exact Jc.row _|exact Jl _|exact Jx _|exact Ju (by first|assumption|exact List.length_replicate|exact Jc.h _)|exact Jm.row (by first|assumption|exact Jm.zero _|exact Jv))))))(c:(P.info? T).map (·.size)=some n:=by kernel_rfl)(hr:BB.isRow=true:=by exact rfl)(Ad:Nat.blt d N=true:=by exact rfl):FH P ops R N w f (⟨some d,.load T x,ty,pos,An,none⟩::rest):=
 Gs Ad (fun _ e=>MY e a hu hr [] ss [] (by simpa using J) D (by rw[c,s1])) h
theorem M3(a:CO P t e size bytes z)(j:Nat)(o:Nat)(g:Aj f x=some (.slice (some ⟨b,off,none⟩) n c))(l:Aj f BI=some (.int k i))(h:FH P ops R N w (Jb f d (.pointer (some ⟨b,o,none⟩))) rest)
 (hj:i=j:=by omega)(m:j<n:=by omega)(ho:off+j*size=o:=by first|rfl|omega)(Ad:Nat.blt d N=true:=by exact rfl):FH P ops R N w f (⟨some d,.indexAddr t x BI,ty,pos,An,none⟩::rest):=Gs Ad (fun _ p=>Gu p a g l j hj m ho) h
end
section
variable {P:Program} {w w':World} {ops:Array Oper} {rest:List Oper} {Aa:Exit→Act→World→Prop} {N:Nat} {f:BW} {d:Nat} {ty:TypeId} {pos:String} {An:Array Edge} {g:Option (Nat×Bool)} {dst:Option Tmp} {R:Act→Prop} {K:Act→World→Prop} {a:Act}
theorem DZ{F:FuncId}{c:Code}{args:Array Value}{R:Ending→World→Prop}(b:P.funcs[F]? =some fn)(J:fn.body=some c)(N:Nat)
 (h:∀a,AH N a (JW args.toList)→c.wp P (bodyPost P fn R) a w)(d:args.size+(fn.ntmps - args.size)=N:=by kernel_rfl):Calls P F args w R:=Ti b J N d h
theorem Gh{BK:World→Prop}(i fuel:Nat){Cy:Nat}{listed:Array Bool}{o:Oper}(b:ops[i]? =some o)(c:o.guard=none)
 (h:∀K:Act→World→Prop,(∀a w,BK w→wpAnyH P .any ops Aa BK fuel (listed.setIfInBounds i true) a w→K a w)→Dw P o a w K Aa)(d:Cy=fuel+1:=by kernel_rfl)(hr:Region.ready .any ops listed=[i]:=by kernel_rfl):wpAnyH P .any ops Aa BK Cy listed a w:=WT b c d hr h
theorem Mf{id:Nat}{l:List Oper}(n:Nat)
 (h:∀W:World,W.heap.size=w.heap.size→Below w.heap.size w W→wpStill P l.toArray W (fun b=>wpList P l.toArray Aa (l.drop n) b W) (l.take n) a)(hm:P.follows .mixedOrders=true:=by kernel_rfl)(c:Region.lexTailB .any l.toArray n=true:=by kernel_rfl):(Code.region id l.toArray true).wp P Aa a w:=YL n hm c h
theorem KB{id:Nat}{l:List Oper}(BK:World→Prop)(h:∀W:World,W.heap.size=w.heap.size→Below w.heap.size w W→wpAnyH P .any l.toArray Aa BK l.toArray.size (Array.replicate l.toArray.size false) a W)(hm:P.follows .mixedOrders=true:=by kernel_rfl):(Code.region id l.toArray true).wp P Aa a w:=Qr BK hm h
theorem Ee(c:AH N a f){Cf:FuncId}{xs:Array Operand}{ts:Array TypeId}(args:Array Value)(i:P.funcs[Cf]? =some fn)
 {R:Ending→World→Prop}(j:Calls P Cf args w R)(h:∀e W,R e W→∃v,e=.returned v∧∀b,AH N b (Jb f d v)→K b W)(k:xs.toList.map (Aj f)=args.toList.map some:=by exact rfl)(l:(fn.name== "runtime.NumGoroutine")=false:=by kernel_rfl)(J:fn.body.isNone=false:=by kernel_rfl)(Ad:Nat.blt d N=true:=by exact rfl):
 Dw P ⟨some d,.call {callee:=.value (.func Cf),args:=xs,argTypes:=ts},ty,pos,An,g⟩ a w K Aa:=Rj c Ad i l J k j h
theorem E'(a:P.underlying t=some (.array n e))(size j o:Nat)(c:Aj f x=some (.pointer (some ⟨b,off,none⟩)))(g:Aj f BI=some (.int k i))(h:B_ P ops Aa N w (Jb f d (.pointer (some ⟨b,o,none⟩))) rest)
 (hj:i=j:=by omega)(l:j<n:=by omega)(ho:off+j*size=o:=by first|rfl|omega)(m:(P.info? e).map (·.size)=some size:=by kernel_rfl)(Ad:Nat.blt d N=true:=by exact rfl):B_ P ops Aa N w f (⟨some d,.indexAddr t x BI,ty,pos,An,none⟩::rest):=Cc (fun _ p=>Hl p a m c g j hj l ho) h Ad
theorem It(a:P.underlying t=some (.array n e))(size j o:Nat)(c:Aj f x=some (.pointer (some ⟨b,off,none⟩)))(g:Aj f BI=some (.int k i))(h:FH P ops R N w (Jb f d (.pointer (some ⟨b,o,none⟩))) rest)
 (hj:i=j:=by omega)(l:j<n:=by omega)(ho:off+j*size=o:=by first|rfl|omega)(m:(P.info? e).map (·.size)=some size:=by kernel_rfl)(Ad:Nat.blt d N=true:=by exact rfl):FH P ops R N w f (⟨some d,.indexAddr t x BI,ty,pos,An,none⟩::rest):=Fs (fun _ p=>Hl p a m c g j hj l ho) h Ad
theorem Zj{o:Option Nat}(n:Nat)(h:ss.flatten.length=n)(a:o=some n:=by kernel_rfl):o=some ss.flatten.length:=a.trans (congrArg some h.symm)
theorem gr(j:AH N a f)(i m:Nat){mid post ts res:List (List Value)}(J:w.heap[b]? =some (.cells (flat ss) tb (0,0)))(k:Aj f x=some (.pointer (some ⟨b,off,none⟩)))(l:Aj f y=some (.agg (flat ts)))
 (h:∀d W,AH N d f→W.heap.size=w.heap.size→W.heap[b]? =some (.cells (flat res) tb (0,0))→w.grownBy W (some b)→K d W)
 (h1:ss.take i=pre:=by first|(simp only[List.take_succ_cons,List.take_zero,List.take_nil,List.drop_succ_cons,List.drop_zero,List.drop_nil,List.cons_append,List.nil_append,List.append_nil]<;>rfl)|exact rfl)(n:(ss.drop i).take m=mid:=by first|(simp only[List.take_succ_cons,List.take_zero,List.take_nil,List.drop_succ_cons,List.drop_zero,List.drop_nil,List.cons_append,List.nil_append,List.append_nil]<;>rfl)|exact rfl)(o:ss.drop (i+m)=post:=by first|(simp only[List.take_succ_cons,List.take_zero,List.take_nil,List.drop_succ_cons,List.drop_zero,List.drop_nil,List.cons_append,List.nil_append,List.append_nil]<;>rfl)|exact rfl)(s:pre++ts++post=res:=by first|(simp only[List.cons_append,List.nil_append,List.append_nil]<;>rfl)|exact rfl)
 {q r:Nat}(s1:Jo pre p:=by(repeat(first|exact Jo.nil|(apply Jo.val rfl)|(apply Jo.row;(first|assumption|exact Jc.row _|exact Jl _|exact Jx _|exact Ju (by first|assumption|exact List.length_replicate|exact Jc.h _)|exact Jm.row (by first|assumption|exact Jm.zero _|exact Jv))))))(s2:Jo mid q:=by(repeat(first|exact Jo.nil|(apply Jo.val rfl)|(apply Jo.row;(first|assumption|exact Jc.row _|exact Jl _|exact Jx _|exact Ju (by first|assumption|exact List.length_replicate|exact Jc.h _)|exact Jm.row (by first|assumption|exact Jm.zero _|exact Jv))))))(c:Jo ts r:=by(repeat(first|exact Jo.nil|(apply Jo.val rfl)|(apply Jo.row;(first|assumption|exact Jc.row _|exact Jl _|exact Jx _|exact Ju (by first|assumption|exact List.length_replicate|exact Jc.h _)|exact Jm.row (by first|assumption|exact Jm.zero _|exact Jv))))))
 (ho:p=off:=by first|rfl|omega)(hm:q=r:=by exact rfl)(t:(P.info? T).map (·.size)=some r:=by kernel_rfl):Dw P ⟨none,.store T x y,ty,pos,An,g⟩ a w K Aa:=by
 subst s
 have e:ss=pre++mid++post:=by rw[←h1,←n,←o,←List.drop_drop,List.append_assoc,List.take_append_drop,List.take_append_drop]
 rw[e]at J
 exact Ru j k pre mid post ts J l (s1.len.trans ho) ((s2.len.trans hm).trans c.len.symm) (by rw[t,c.len]) c.one h
theorem CK(i m:Nat){mid post ts res:List (List Value)}(J:w.heap[b]? =some (.cells (flat ss) tb (0,0)))(c:Aj f x=some (.pointer (some ⟨b,off,none⟩)))(d:Aj f y=some (.agg (flat ts)))
 (h:∀W,W.heap.size=w.heap.size→W.heap[b]? =some (.cells (flat res) tb (0,0))→w.grownBy W (some b)→B_ P ops Aa N W f rest)
 (h1:ss.take i=pre:=by first|(simp only[List.take_succ_cons,List.take_zero,List.take_nil,List.drop_succ_cons,List.drop_zero,List.drop_nil,List.cons_append,List.nil_append,List.append_nil]<;>rfl)|exact rfl)(e:(ss.drop i).take m=mid:=by first|(simp only[List.take_succ_cons,List.take_zero,List.take_nil,List.drop_succ_cons,List.drop_zero,List.drop_nil,List.cons_append,List.nil_append,List.append_nil]<;>rfl)|exact rfl)(g:ss.drop (i+m)=post:=by first|(simp only[List.take_succ_cons,List.take_zero,List.take_nil,List.drop_succ_cons,List.drop_zero,List.drop_nil,List.cons_append,List.nil_append,List.append_nil]<;>rfl)|exact rfl)(j:pre++ts++post=res:=by first|(simp only[List.cons_append,List.nil_append,List.append_nil]<;>rfl)|exact rfl)
 {q r:Nat}(s1:Jo pre p:=by(repeat(first|exact Jo.nil|(apply Jo.val rfl)|(apply Jo.row;(first|assumption|exact Jc.row _|exact Jl _|exact Jx _|exact Ju (by first|assumption|exact List.length_replicate|exact Jc.h _)|exact Jm.row (by first|assumption|exact Jm.zero _|exact Jv))))))(s2:Jo mid q:=by(repeat(first|exact Jo.nil|(apply Jo.val rfl)|(apply Jo.row;(first|assumption|exact Jc.row _|exact Jl _|exact Jx _|exact Ju (by first|assumption|exact List.length_replicate|exact Jc.h _)|exact Jm.row (by first|assumption|exact Jm.zero _|exact Jv))))))(k:Jo ts r:=by(repeat(first|exact Jo.nil|(apply Jo.val rfl)|(apply Jo.row;(first|assumption|exact Jc.row _|exact Jl _|exact Jx _|exact Ju (by first|assumption|exact List.length_replicate|exact Jc.h _)|exact Jm.row (by first|assumption|exact Jm.zero _|exact Jv))))))
 (ho:p=off:=by first|rfl|omega)(hm:q=r:=by exact rfl)(l:(P.info? T).map (·.size)=some r:=by kernel_rfl):B_ P ops Aa N w f (⟨none,.store T x y,ty,pos,An,none⟩::rest):=
 fun a n=>Cp D (fun K o=>gr n i m J c d (fun s W t u v z=>o _ _ (h W u v z s t)) h1 e g j s1 s2 k ho hm l)
theorem M7(d:AH N a f)(i:Nat){post res:List (List Value)}{DB:Value}(J:w.heap[b]? =some (.cells (flat ss) tb (0,0)))(j:Aj f x=some (.pointer (some ⟨b,off,none⟩)))(k:Aj f y=some v)
 (h:∀c W,AH N c f→W.heap.size=w.heap.size→W.heap[b]? =some (.cells (flat res) tb (0,0))→w.grownBy W (some b)→K c W)
 (h1:ss.take i=pre:=by first|(simp only[List.take_succ_cons,List.take_zero,List.take_nil,List.drop_succ_cons,List.drop_zero,List.drop_nil,List.cons_append,List.nil_append,List.append_nil]<;>rfl)|exact rfl)(l:(ss.drop i).take 1=[[DB]]:=by first|(simp only[List.take_succ_cons,List.take_zero,List.take_nil,List.drop_succ_cons,List.drop_zero,List.drop_nil,List.cons_append,List.nil_append,List.append_nil]<;>rfl)|exact rfl)(m:ss.drop (i+1)=post:=by first|(simp only[List.take_succ_cons,List.take_zero,List.take_nil,List.drop_succ_cons,List.drop_zero,List.drop_nil,List.cons_append,List.nil_append,List.append_nil]<;>rfl)|exact rfl)(n:pre++[[v]]++post=res:=by first|(simp only[List.cons_append,List.nil_append,List.append_nil]<;>rfl)|exact rfl)
  (s1:pre.flatten.length=p:=by(repeat(first|exact Ja.nil|(apply Ja.one)|(apply Ja.row;(first|assumption|exact Jc.row _|exact Jl _|exact Jx _|exact Ju (by first|assumption|exact List.length_replicate|exact Jc.h _)|exact Jm.row (by first|assumption|exact Jm.zero _|exact Jv))))))(ho:p=off:=by first|rfl|omega)(V:v.oneCell'=true:=by exact rfl)(o:(P.info? T).map (·.size)=some 1:=by kernel_rfl):Dw P ⟨none,.store T x y,ty,pos,An,g⟩ a w K Aa:=by
 subst n
 have e:ss=pre++[[DB]]++post:=by rw[←h1,←l,←m,←List.drop_drop,List.append_assoc,List.take_append_drop,List.take_append_drop]
 rw[e]at J
 exact Vf d j pre DB post J k V (s1.trans ho) o h
theorem ME{o:Option Nat}(n:Nat)(s1:ss.flatten.length=p:=by(repeat(first|exact Ja.nil|(apply Ja.one)|(apply Ja.row;(first|assumption|exact Jc.row _|exact Jl _|exact Jx _|exact Ju (by first|assumption|exact List.length_replicate|exact Jc.h _)|exact Jm.row (by first|assumption|exact Jm.zero _|exact Jv))))))(a:p=n:=by exact rfl)(b:o=some n:=by kernel_rfl):o=some ss.flatten.length:=b.trans (congrArg some (s1.trans a).symm)
theorem Gn(i:AH N a f){base:Nat}{y:Value}{CP zs:List Value}(j:CO P t e size bytes z){s:Operand}
 (l:w.ownsRow base e size v n xs)(o:View w y m size CP)(h1:∀u∈CP,u.oneCell'=true)(q:base≤w.heap.size)(k:Nat)(r:xs++CP.take (m*size)=zs)
 (h:∀b p c W,AH N b (Jb f d (.slice p k c))→W.ownsRow base e size (.slice p k c) k zs→D0 w W v (.slice p k c)→K b W)
 (A:Aj f s=some v:=by exact rfl)(B:Aj f x=some y:=by exact rfl)(C:n+m≤maxLen:=by unfold maxLen;omega)(D:(n+m)*bytes≤140737488355328:=by omega)(E:n+m=k:=by first|exact rfl|omega)(Ad:Nat.blt d N=true:=by exact rfl):
 Dw P ⟨some d,.call {callee:=.builtin .append,args:=#[s,x],argTypes:=#[t,t]},ty,pos,An,g⟩ a w K Aa:=Xx i Ad j base A B l o h1 C D q E r h
end
theorem Ii{k:Nat}{a b c:World}(h:Below B a b)(g:b.grownBy c (some k))(d:B≤a.heap.size)(f:B≤k:=by omega):Below B a c:=h.grown g (Eg d h.size) (fun _ e=>by cases e;exact f)
theorem CJ{k:Nat}{a b c:World}(h:Below a.heap.size a b)(g:b.grownBy c (some k))(d:a.heap.size≤k:=by omega):Below a.heap.size a c:=h.grown g h.size (fun _ e=>by cases e;exact d)
theorem F'{a b c:World}(h:Below a.heap.size a b)(BO:D0 b c v BA)(o:b.ownsRow a.heap.size e size v n xs):Below a.heap.size a c:=h.trans (BO.below h.size (fun k d=>(o.lt k d).1))
theorem Et{a b c:World}(h:Below B a b)(k:Below b.heap.size b c)(d:B≤a.heap.size):Below B a c:=h.trans (k.mono (Eg d h.size))
theorem BG{a b c:World}(h:Below a.heap.size a b)(k:Below b.heap.size b c):Below a.heap.size a c:=h.trans (k.mono h.size)
theorem C6{w:World}{o:Obj}(h:w.heap[b]? =some o)(e:w.heap.size=c):b<c:=e▸DC h
theorem C8{a b:World}(h:Below B a b)(e:b.heap.size=c):a.heap.size≤c:=e▸h.size
theorem XU{w:World}(o:w.ownsRow B e size v n xs)(h:w.heap.size=b):GZ v b:=fun k a=>by have:=(o.lt k a).2;omega
end Go.Proofs.YtaapafoibofbjaaGreatDoor
