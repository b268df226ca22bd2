/- Laws and walks on the road to SalvagePlays (part M07). No conditions beyond each law's own. -/
import Derived.Test.YtjdboncaegphmaaGreatDoorM06
set_option linter.unusedVariables false
namespace Go.Proofs.YtjdboncaegphmaaGreatDoor
open Go.RowKit
set_option maxRecDepth 100000
set_option maxHeartbeats 2000000
variable {x y BI:Operand} {b n off c size bytes m p:Nat} {ss pre:List (List Value)} {T tb t e:TypeId} {v z BA:Value} {fr:Nat×Nat} {BB:TypeDesc} {k:IntKind} {fn:Func} {xs:List Value} {i:Int}
structure Row (n:Nat) (A5:List Value):Prop where
 len:A5.length=n
 one:∀u∈A5,u.oneCell'=true
theorem Ja.nil:([]:List (List Value)).flatten.length=0:=rfl
theorem Ja.one(r:ss.flatten.length=n):([v]::ss).flatten.length=1+n:=by simp[r];omega
theorem Ja.row{A5:List Value}(h:Row m A5)(r:ss.flatten.length=n):(A5::ss).flatten.length=m+n:=by simp only[W1,Gd,h.len,r]
def Jw(ss:List (List Value)):Prop:=∀s∈ss,∀u∈s,u.oneCell'=true
theorem Jw.nil:Jw []:=fun _ h=>by cases h
theorem Jw.one(h:v.oneCell'=true)(r:Jw ss):Jw ([v]::ss):=by
 intro s a
 rcases tO.1 a with rfl|a
 ·intro u hu;simp at hu;subst hu;exact h
 ·exact r s a
theorem Jw.row{A5:List Value}(h:Row n A5)(r:Jw ss):Jw (A5::ss):=by
 intro s a
 rcases tO.1 a with rfl|a
 ·exact h.one
 ·exact r s a
theorem H4{w:World}(J:w.heap[b]? =some (.cells (flat ss) T fr)):Cells w b 0 ss.flatten:=by
 intro j v hj;rw[IC,cell_of_row _ _ _ _ _ _ J];simpa[flat]using hj
theorem dL(CP:List Value):∀(c:Array Value) (o:Nat),o+CP.length≤c.size→(KH c o CP).toList=c.toList.take o++CP++c.toList.drop (o+CP.length):=by
 intro c o h;apply Q2;intro j;rw[lb];have b:(c.toList.take o).length=o:=by simp;omega
 rcases s9 j o with h1|h1
 ·rw[R8 _ _ _ _ (.inl h1),C9,V5 JY,LQ,if_pos h1,lb]
 ·rcases s9 j (o+CP.length)with a|a
  ·obtain⟨k,rfl⟩:∃k,j=o+k:=⟨j - o,JY⟩
   rw[aW _ _ _ _ JY h,C9,UP JY,b,Zm,V5 JY]
  ·rw[R8 _ _ _ _ (.inr a),UP (by simp;omega),Q1,lb]
   congr 1
   simp;omega
theorem Ml{w w':World}(BO:D0 w w' v BA)(h:∀k,v.ownBlock=some k→k≠b)(J:b<w.heap.size):∀k,BA.ownBlock=some k→k≠b:=by
 intro k a
 rcases BO.at_ k a with q|q
 ·exact h k q
 ·omega
def Ak(n:Nat):List Value:=List.replicate n (.int .u8 0)
abbrev VF:=([[E 0],[E 0],[E 0],[E 0],[E 0],Ak 32,Ak 32,Ak 32,[I none 0 0]]:List (List Value))
abbrev Yc:=([[E 0],[E 0],[E 0],[E 0],[E 0],[E 0],Ak 32]:List (List Value))
abbrev bG:=([[E 0],[E 0],Ak 32,[E 0],[E 0],Ak 32]:List (List Value))
theorem Jl(n:Nat):Row n (Ak n):=⟨by simp[Ak],fun u hu=>by rw[lu hu];rfl⟩
def I8(n:Nat):List Value:=List.replicate n (.int .u32 0)
theorem Jx(n:Nat):Row n (I8 n):=⟨by simp[I8],fun u hu=>by rw[lu hu];rfl⟩
theorem Ju{l:rG}(h:l.length=n):Row n (bv l):=⟨by rw[DG,h],Eo l⟩
section
variable {P:Program} {w w':World} {ops:Array Oper} {rest:List Oper} {a:Act} {Aa:Exit→Act→World→Prop} {N:Nat} {f:BW} {d:Nat} {ty:TypeId} {pos:String} {An:Array Edge} {dst:Option Tmp} {g:Option (Nat×Bool)} {A5:Act→World→Prop}
theorem Rk(e:AH N a f)(Ad:Nat.blt d N=true)(i:(P.info? T).map (·.zero)=some (some z))(j:z.cells=flat ss)
 (h:∀c b W,w.heap.size=b→AH N c (Jb f d (.pointer (some ⟨b,0,none⟩)))→W.heap.size=b+1→W.heap[b]? =some (.cells (flat ss) T (0,0))→Below w.heap.size w W→A5 c W):Dw P ⟨some d,.alloc T,ty,pos,An,g⟩ a w A5 Aa:=
 ba e Ad i j (fun c W h1 k l m=>h c _ W D h1 k l m)
theorem Sm(e:AH N a f)(Ad:Nat.blt d N=true)(i:Aj f x=some v)(j:v.cells=flat ss)
 (h:∀c b W,w.heap.size=b→AH N c (Jb f d (.pointer (some ⟨b,0,none⟩)))→W.heap.size=b+1→W.heap[b]? =some (.cells (flat ss) T (0,0))→Below w.heap.size w W→A5 c W):Dw P ⟨some d,.box T x,ty,pos,An,g⟩ a w A5 Aa:=
 dk e Ad i j (fun c W h1 k l m=>h c _ W D h1 k l m)
theorem MY(c:AH N a f)(d:Aj f x=some (.pointer (some ⟨b,off,none⟩)))(hu:P.underlying T=some BB)(Ad:BB.isRow=true)(pre mid post:List (List Value))(J:w.heap[b]? =some (.cells (flat (pre++mid++post)) tb fr))(ho:pre.flatten.length=off)(V:(P.info? T).map (·.size)=some mid.flatten.length):CD P a w ⟨dst,.load T x,ty,pos,An,g⟩ (.agg (flat mid)) w:=by
 refine RN c d hu Ad ?_ V;have:=H4 J;intro j v hj;have e:j<mid.flatten.length:=(EH.1 hj).1;have:=this (off+j) v (by
  simp only[YK];rw[←ho,C9,UP JY,Zm,V5 e];exact hj)
 simpa using this
theorem IV(c:AH N a f)(d:Aj f x=some (.pointer (some ⟨b,off,none⟩)))(hu:P.underlying T=some BB)(Ad:BB.isRow=false)(pre:List (List Value))(v:Value)(post:List (List Value))(J:w.heap[b]? =some (.cells (flat (pre++[[v]]++post)) tb fr))(ho:pre.flatten.length=off):CD P a w ⟨dst,.load T x,ty,pos,An,g⟩ v w:=by
 refine Ei c d hu Ad ?_;have:=H4 J off v (by
  simp only[YK,W1];rw[←ho,C9,UP JY,XT];rfl)
 simpa using this
theorem Kj{R:Ending→World→Prop}(c:AH N a f){t:Nat}(hr:fn.results=#[.cell t T])(d:f t=some (.pointer (some ⟨b,0,none⟩)))(J:w.heap[b]? =some (.cells (flat ss) tb fr))
 (hu:P.underlying T=some BB)(Ad:BB.isRow=true)(V:(P.info? T).map (·.size)=some ss.flatten.length)(h:R (.returned (.agg (flat ss))) w):bodyPost P fn R .ret a w:=
 ZD c hr d ss.flatten (H4 J) hu Ad V h
theorem FL{R:Ending→World→Prop}(c:AH N a f){t u:Nat}(hr:fn.results=#[.cell t T,.tmp u])(d:f t=some (.pointer (some ⟨b,0,none⟩)))(e:f u=some BA)(J:w.heap[b]? =some (.cells (flat ss) tb fr))
 (hu:P.underlying T=some BB)(Ad:BB.isRow=true)(V:(P.info? T).map (·.size)=some ss.flatten.length)(h:R (.returned (.tuple #[.agg (flat ss),BA])) w):bodyPost P fn R .ret a w:=
 fc c hr d e ss.flatten (H4 J) hu Ad V h
theorem ca{R:Ending→World→Prop}(c:AH N a f){t u:Nat}(hr:fn.results=#[.tmp u,.cell t T])(d:f t=some (.pointer (some ⟨b,0,none⟩)))(e:f u=some BA)(J:w.heap[b]? =some (.cells (flat ss) tb fr))
 (hu:P.underlying T=some BB)(Ad:BB.isRow=true)(V:(P.info? T).map (·.size)=some ss.flatten.length)(h:R (.returned (.tuple #[BA,.agg (flat ss)])) w):bodyPost P fn R .ret a w:=
 hG c hr d e ss.flatten (H4 J) hu Ad V h
theorem Ru(c:AH N a f)(k:Aj f x=some (.pointer (some ⟨b,off,none⟩)))(pre mid post sU:List (List Value))(J:w.heap[b]? =some (.cells (flat (pre++mid++post)) tb (0,0)))(l:Aj f y=some (.agg (flat sU)))
 (ho:pre.flatten.length=off)(hm:mid.flatten.length=sU.flatten.length)(V:(P.info? T).map (·.size)=some sU.flatten.length)(h1:Jw sU)
 (h:∀d W,AH N d f→W.heap.size=w.heap.size→W.heap[b]? =some (.cells (flat (pre++sU++post)) tb (0,0))→w.grownBy W (some b)→A5 d W):Dw P ⟨none,.store T x y,ty,pos,An,g⟩ a w A5 Aa:=by
 subst ho;have e:(flat (pre++mid++post)).size=pre.flatten.length+mid.flatten.length+post.flatten.length:=by simp[flat];omega
 obtain⟨i,m⟩:=c5 b tb sU.flatten pre.flatten.length w _ J;have n:KH (flat (pre++mid++post)) pre.flatten.length sU.flatten=flat (pre++sU++post):=by
  apply bg.1;rw[dL _ _ _ (by rw[e];omega)];simp only[flat,YK];generalize pre.flatten=A,mid.flatten=B,post.flatten=C,sU.flatten=Au at*;have p:(A++B++C).take A.length=A:=by rw[C9];exact dZ
  have q:(A++B++C).drop (A.length+Au.length)=C:=by rw[←hm,←Gd];exact List.drop_left
  rw[p,q]
 rw[n]at i;have r:∀u∈sU.flatten,u.oneCell'=true:=by
  intro u hu;obtain⟨s,t,z⟩:=W8.1 hu;exact h1 s t u z
 refine⟨wp_store_mid T x y D b _ (flat sU) (c.A_ k) (c.A_ l) (fun j hj=>?_) (by rw[V];simp[flat]) (all_oneCell_toArray r) (h _ _ (c.VA undef) ?_ i m)⟩
 ·rw[cell_of_row _ _ _ _ _ _ J];have F:j<sU.flatten.length:=by simpa[flat]using hj
  exact⟨by rw[Array.getElem?_eq_getElem (by rw[e];omega)];rfl,frozen_of_row _ _ _ _ _ J⟩
 ·have:∀(CV:List Value) (o:Nat) (w:World),(w.setCells b o CV).heap.size=w.heap.size:=by
   intro CV
   induction CV with
   |nil=>intro o w;rfl
   |cons v CV E=>intro o w;exact(E _ _).trans (World.size_setCell _ _ _)
  exact this _ _ _
theorem Vf(d:AH N a f)(e:Aj f x=some (.pointer (some ⟨b,off,none⟩)))(pre:List (List Value))(DB:Value)(post:List (List Value))(J:w.heap[b]? =some (.cells (flat (pre++[[DB]]++post)) tb (0,0)))(i:Aj f y=some v)(j:v.oneCell'=true)
 (ho:pre.flatten.length=off)(V:(P.info? T).map (·.size)=some 1)
 (h:∀c W,AH N c f→W.heap.size=w.heap.size→W.heap[b]? =some (.cells (flat (pre++[[v]]++post)) tb (0,0))→w.grownBy W (some b)→A5 c W):Dw P ⟨none,.store T x y,ty,pos,An,g⟩ a w A5 Aa:=by
 subst ho;refine Me d e J i j V (by simp[flat]) ?_ h;apply bg.1;rw[tX];simp only[flat,YK,W1,C9,j3];rw[jC _ _ (Br _),XT];rfl
theorem Cs(d:AH N a f){b:Array (Nat×Operand)}{BH:List (Nat×Value)}(e:b.toList.map (fun p=>(p.1,Aj f p.2))=BH.map (fun p=>(p.1,some p.2)))(hr:(Instr.build T BH.toArray).run P w=.ok v w):CD P a w ⟨dst,.build T b,ty,pos,An,g⟩ v w:=by
 show(execOp a.eval _).run P w=_;have:b.map (fun p=>(p.1,a.eval p.2))=BH.toArray:=by
  apply bg.1;rw[PL];apply Q2;intro i;have:=congrArg (fun q=>q[i]?) e;simp only[ti]at this⊢;cases h1:b.toList[i]? with
  |none=>rw[h1]at this;cases c:BH[i]? with
   |none=>simp
   |some v=>rw[c]at this;cases this
  |some x=>rw[h1]at this;cases c:BH[i]? with
   |none=>rw[c]at this;cases this
   |some v=>
    rw[c]at this;simp only[Ph,Option.some.injEq,Prod.mk.injEq]at this;simp[this.1,d.A_ this.2]
 simp only[execOp,this,Sem.run_bind,hr,Result.andThen_ok,Sem.run_pure]
theorem Rm(b:AH N a f)(d:CO P t e size bytes z){V:Operand}{y:Option Addr}(j:Aj f x=some (.slice y n c))(h:Nat)(l:Aj f V=some (.int k h))(m:h≤c:=by omega):
 CD P a w ⟨dst,.slice t x none (some V) none,ty,pos,An,g⟩ (.slice y h c) w:=by
 show(execOp a.eval _).run P w=_;obtain⟨i,o,r,p,s⟩:=d.V;have J:=Ue (P:=P) (w:=w) k n c h m;have:Option.map (fun q:Addr=>q.add 0) y=y:=by cases y<;>simp[Addr.add]
 simp[execOp,b.A_ j,b.A_ l,Instr.sliceAt,Instr.slice,run_underlying d.uG,J,sizeOf,typeInfo,o,p,this]
theorem VH(b:AH N a f){BU:Operand}{y p:Option Addr}{G5:Nat}(d:Aj f x=some (.slice y n c))(l:Nat)(hl:Aj f BU=some (.int k l))(hr:∀(W:World) (k:IntKind),(Instr.sliceAt t (.slice y n c) (some (.int k l)) none none).run P W=.ok (.slice p m G5) W):
 CD P a w ⟨dst,.slice t x (some BU) none none,ty,pos,An,g⟩ (.slice p m G5) w:=by
 show(execOp a.eval _).run P w=_;simp[execOp,b.A_ d,b.A_ hl,hr]
theorem ld(d:CO P t e size bytes z){y:Option Addr}(a:View w (.slice y n c) n size xs)(l h:Nat)(f:l≤h)(m:h≤n):
 ∃p,(∀(W:World) (k k':IntKind),(Instr.sliceAt t (.slice y n c) (some (.int k l)) (some (.int k' h)) none).run P W=.ok (.slice p (h - l) (c - l)) W)∧(∀W,View W (.slice y n c) n size xs→View W (.slice p (h - l) (c - l)) (h - l) size ((xs.drop (l*size)).take ((h - l)*size)))∧(∀k,(Value.slice p (h - l) (c - l)).ownBlock=some k→(Value.slice y n c).ownBlock=some k):=by
 obtain⟨i,s,x,u,A⟩:=d.V;have key:∀W,View W (.slice y n c) n size xs→n≤c∧xs.length≤c*size:=by
  intro W a
  rcases a.2 with⟨he,o,g⟩|⟨b,off,cap,he,o,g,_⟩
  ·simp only[Value.slice.injEq]at he;obtain⟨rfl,rfl,rfl⟩:=he;simp[g]
  ·simp only[Value.slice.injEq]at he;obtain⟨rfl, -,rfl⟩:=he;exact⟨g,o⟩
 obtain⟨p,j⟩:=i_ y l h c size;have B:=key w a;refine⟨p,fun W k k'=>?_,fun W r=>?_,?_⟩
 ·rw[←j];have J:=XW (P:=P) (w:=W) k k' n c l h f JY;simp[Instr.sliceAt,Instr.slice,run_underlying d.uG,J,sizeOf,typeInfo,s,u,sliced]
 ·have hl:h*size≤xs.length:=Eg (Xr _ m) r.1;have q:=(XN r l h c f JY (Br _) hl d.uO).1;rw[j,DV (by rw[J3,Sy];omega)]at q;exact q.trim
 ·have hl:h*size≤xs.length:=Eg (Xr _ m) a.1;have q:=(XN a l h c f JY (Br _) hl d.uO).2
  rwa[j]at q
theorem iw(b:AH N a f){BU V:Operand}{y p:Option Addr}{G5:Nat}(d:Aj f x=some (.slice y n c)){k':IntKind}(l h:Nat)(hl:Aj f BU=some (.int k l))(e:Aj f V=some (.int k' h))(hr:∀(W:World) (k k':IntKind),(Instr.sliceAt t (.slice y n c) (some (.int k l)) (some (.int k' h)) none).run P W=.ok (.slice p m G5) W):
 CD P a w ⟨dst,.slice t x (some BU) (some V) none,ty,pos,An,g⟩ (.slice p m G5) w:=by
 show(execOp a.eval _).run P w=_;simp[execOp,b.A_ d,b.A_ hl,b.A_ e,hr]
theorem mD{y:Option Addr}(a:View w (.slice y n c) n size xs)(h:Nat)(b:h≤n):View w (.slice y h c) h size (xs.take (h*size)):=by
 have:=a.hd h c (by have:=a.cap;omega) (Br _) (Eg (Xr _ b) a.1);have q:=this.trim;rw[LN,aQ (Xr _ (by have:=a.cap;omega))]at q;exact q
end
structure Jo (ss:List (List Value)) (n:Nat):Prop where
 len:ss.flatten.length=n
 one:Jw ss
theorem Jo.nil:Jo [] 0:=⟨D,Jw.nil⟩
theorem Jo.val(h:v.oneCell'=true)(r:Jo ss n):Jo ([v]::ss) (1+n):=⟨Ja.one r.len,Jw.one h r.one⟩
theorem Jo.row{A5:List Value}(h:Row m A5)(r:Jo ss n):Jo (A5::ss) (m+n):=⟨Ja.row h r.len,Jw.row h r.one⟩
section
variable {P:Program} {w w':World} {ops:Array Oper} {rest:List Oper} {Aa:Exit→Act→World→Prop} {N:Nat} {f:BW} {d:Nat} {ty:TypeId} {pos:String} {An:Array Edge} {dst:Option Tmp} {R:Act→Prop} {A5:Act→World→Prop}
theorem Hf(c:Aj f x=some (.agg (flat ss)))(h:∀b W,w.heap.size=b→W.heap.size=b+1→W.heap[b]? =some (.cells (flat ss) T (0,0))→Below w.heap.size w W→B_ P ops Aa N W (Jb f d (.pointer (some ⟨b,0,none⟩))) rest)(Ad:Nat.blt d N=true:=by exact rfl):
 B_ P ops Aa N w f (⟨some d,.box T x,ty,pos,An,none⟩::rest):=fun a e=>Cp D (fun A5 g=>Sm e Ad c (ss:=ss) D (fun i b W h1 j k l m=>g _ _ (h b W h1 k l m i j)))
theorem D4(ss:List (List Value))(h:∀b W,w.heap.size=b→W.heap.size=b+1→W.heap[b]? =some (.cells (flat ss) T (0,0))→Below w.heap.size w W→B_ P ops Aa N W (Jb f d (.pointer (some ⟨b,0,none⟩))) rest)(c:(P.info? T).map (·.zero)=some (some (.agg (flat ss))):=by kernel_rfl)(Ad:Nat.blt d N=true:=by exact rfl):
 B_ P ops Aa N w f (⟨some d,.alloc T,ty,pos,An,none⟩::rest):=fun a e=>Cp D (fun A5 g=>Rk e Ad c (ss:=ss) D (fun i b W h1 j k l m=>g _ _ (h b W h1 k l m i j)))
theorem BC(i m:Nat){mid post sU:List (List Value)}(J:w.heap[b]? =some (.cells (flat ss) tb (0,0)))(j:Aj f x=some (.pointer (some ⟨b,off,none⟩)))(k:Aj f y=some (.agg (flat sU)))
 (h:∀W,W.heap.size=w.heap.size→W.heap[b]? =some (.cells (flat (pre++sU++post)) tb (0,0))→w.grownBy W (some b)→B_ P ops Aa N W f rest)
 (h1:ss.take i=pre:=by first|(simp only[Ra,Jaa,RA,Rp,HE,Rx,HR,Hg,Ha]<;>rfl)|exact rfl)(c:(ss.drop i).take m=mid:=by first|(simp only[Ra,Jaa,RA,Rp,HE,Rx,HR,Hg,Ha]<;>rfl)|exact rfl)(d:ss.drop (i+m)=post:=by first|(simp only[Ra,Jaa,RA,Rp,HE,Rx,HR,Hg,Ha]<;>rfl)|exact rfl)
 {q r:Nat}(s1:Jo pre p:=by(repeat(first|exact Jo.nil|(apply Jo.val rfl)|(apply Jo.row;(first|assumption|exact Jc.row _|exact Jl _|exact Jx _|exact Ju (by first|assumption|exact He|exact Jc.h _)|exact Jm.row (by first|assumption|exact Jm.zero _|exact Jv))))))
 (s2:Jo mid q:=by(repeat(first|exact Jo.nil|(apply Jo.val rfl)|(apply Jo.row;(first|assumption|exact Jc.row _|exact Jl _|exact Jx _|exact Ju (by first|assumption|exact He|exact Jc.h _)|exact Jm.row (by first|assumption|exact Jm.zero _|exact Jv))))))
 (g:Jo sU r:=by(repeat(first|exact Jo.nil|(apply Jo.val rfl)|(apply Jo.row;(first|assumption|exact Jc.row _|exact Jl _|exact Jx _|exact Ju (by first|assumption|exact He|exact Jc.h _)|exact Jm.row (by first|assumption|exact Jm.zero _|exact Jv))))))
 (ho:p=off:=by first|rfl|omega)(hm:q=r:=by exact rfl)(V:(P.info? T).map (·.size)=some r:=by kernel_rfl):B_ P ops Aa N w f (⟨none,.store T x y,ty,pos,An,none⟩::rest):=by
 intro a l;have e:ss=pre++mid++post:=by rw[←h1,←c,←d,←tB,C9,td,td]
 rw[e]at J;exact Cp D (fun A5 n=>Ru l j pre mid post sU J k (s1.len.trans ho) ((s2.len.trans hm).trans g.len.symm) (by rw[V,g.len]) g.one (fun o W h1 c d s=>n _ _ (h W c d s o h1)))
def GX(f:BW):List Operand→Option (List Value)
 |[]=>some []
 |x::xs=>match Aj f x,GX f xs with
  |some v,some l=>some (v::l)
  |_,_=>none
theorem Nf{f:BW}:∀ {xs:List Operand} {l:List Value},GX f xs=some l→xs.map (Aj f)=l.map some:=by
 intro xs
 induction xs with
 |nil=>intro l h;cases h;rfl
 |cons x xs a=>
  intro l h;unfold GX at h;split at h
  ·rename_i v m b hm;cases h;rw[Zv,Zv,b,a hm]
  ·cases h
theorem CL{Cf:FuncId}(b:P.funcs[Cf]? =some fn){xs:List Operand}{sU:Array TypeId}{l:List Value}(c:GX f xs=some l){BK:Ending→World→Prop}(g:Calls P Cf l.toArray w BK)(h:∀e W,BK e W→∃v,e=.returned v∧B_ P ops Aa N W (Jb f d v) rest)
 (i:(fn.name== "runtime.NumGoroutine")=false:=by kernel_rfl)(J:fn.body.isNone=false:=by kernel_rfl)(Ad:Nat.blt d N=true:=by exact rfl):B_ P ops Aa N w f (⟨some d,.call {callee:=.value (.func Cf),args:=xs.toArray,argTypes:=sU},ty,pos,An,none⟩::rest):=
 fun a j=>Cp D (fun A5 k=>Rj j Ad b i J (args:=l.toArray) (by simpa using Nf c) g (fun e W q=>by
  obtain⟨v,m,h1⟩:=h e W q;exact⟨v,m,fun n o=>k _ _ (h1 n o)⟩))
theorem K2(b:CO P t e size bytes z)(c:Aj f x=some v){cs:Array Value}(g:v.cells=cs)(i:cs.size=size)(h:∀W,W.heap.size=w.heap.size+1→View W (.slice (some ⟨w.heap.size,0,none⟩) 1 1) 1 size cs.toList→Below w.heap.size w W→B_ P ops Aa N W (Jb f d (.slice (some ⟨w.heap.size,0,none⟩) 1 1)) rest)
 (j:Nat.ble size 16777216=true:=by exact rfl)(Ad:Nat.blt d N=true:=by exact rfl):B_ P ops Aa N w f (⟨some d,.buildSlice t 1 #[(0,x)],ty,pos,An,none⟩::rest):=
 fun a k=>Cp D (fun A5 l=>IJ k Ad b c g i (ZG j) (fun m W h1 n o p=>l _ _ (h W n o p m h1)))
theorem Hv(hu:P.underlying T=some BB)(i:Nat)(J:w.heap[b]? =some (.cells (flat ss) tb fr))(a:ss[i]? =some [v])(c:Aj f x=some (.pointer (some ⟨b,off,none⟩)))(h:B_ P ops Aa N w (Jb f d v) rest)
 (h1:ss.take i=pre:=by first|(simp only[Ra,Jaa,RA,Rp,HE,Rx,HR,Hg,Ha]<;>rfl)|exact rfl)(s1:pre.flatten.length=p:=by(repeat(first|exact Ja.nil|(apply Ja.one)|(apply Ja.row;(first|assumption|exact Jc.row _|exact Jl _|exact Jx _|exact Ju (by first|assumption|exact He|exact Jc.h _)|exact Jm.row (by first|assumption|exact Jm.zero _|exact Jv))))))(ho:p=off:=by first|rfl|omega)(hr:BB.isRow=false:=by exact rfl)(Ad:Nat.blt d N=true:=by exact rfl):B_ P ops Aa N w f (⟨some d,.load T x,ty,pos,An,none⟩::rest):=by
 have e:ss=pre++[[v]]++ss.drop (i+1):=by
  obtain⟨hl,g⟩:=EH.1 a;rw[←h1,C9,←g,j3,←Xy hl,td]
 rw[e]at J;exact Ep Ad (fun _ j=>IV j c hu hr pre v (ss.drop (i+1)) J (s1.trans ho)) h
theorem Ef(hu:P.underlying T=some BB)(J:w.heap[b]? =some (.cells (flat ss) tb fr))(a:Aj f x=some (.pointer (some ⟨b,0,none⟩)))(h:B_ P ops Aa N w (Jb f d (.agg (flat ss))) rest)
 (s1:ss.flatten.length=n:=by(repeat(first|exact Ja.nil|(apply Ja.one)|(apply Ja.row;(first|assumption|exact Jc.row _|exact Jl _|exact Jx _|exact Ju (by first|assumption|exact He|exact Jc.h _)|exact Jm.row (by first|assumption|exact Jm.zero _|exact Jv))))))(V:(P.info? T).map (·.size)=some n:=by kernel_rfl)(hr:BB.isRow=true:=by exact rfl)(Ad:Nat.blt d N=true:=by exact rfl):B_ P ops Aa N w f (⟨some d,.load T x,ty,pos,An,none⟩::rest):=
 Ep Ad (fun _ c=>MY c a hu hr [] ss [] (by simpa using J) D (by rw[V,s1])) h
theorem Ou(a:CO P t e size bytes z)(j:Nat)(o:Nat)(g:Aj f x=some (.slice (some ⟨b,off,none⟩) n c))(V:Aj f BI=some (.int k i))(h:B_ P ops Aa N w (Jb f d (.pointer (some ⟨b,o,none⟩))) rest)
 (hj:i=j:=by omega)(l:j<n:=by omega)(ho:off+j*size=o:=by first|rfl|omega)(Ad:Nat.blt d N=true:=by exact rfl):B_ P ops Aa N w f (⟨some d,.indexAddr t x BI,ty,pos,An,none⟩::rest):=Ep Ad (fun _ m=>Gu m a g V j hj l ho) h
theorem n7(hu:P.underlying T=some BB)(i:Nat)(J:w.heap[b]? =some (.cells (flat ss) tb fr))(a:ss[i]? =some [v])(c:Aj f x=some (.pointer (some ⟨b,off,none⟩)))(h:FH P ops R N w (Jb f d v) rest)
 (h1:ss.take i=pre:=by first|(simp only[Ra,Jaa,RA,Rp,HE,Rx,HR,Hg,Ha]<;>rfl)|exact rfl)(s1:pre.flatten.length=p:=by(repeat(first|exact Ja.nil|(apply Ja.one)|(apply Ja.row;(first|assumption|exact Jc.row _|exact Jl _|exact Jx _|exact Ju (by first|assumption|exact He|exact Jc.h _)|exact Jm.row (by first|assumption|exact Jm.zero _|exact Jv))))))(ho:p=off:=by first|rfl|omega)(hr:BB.isRow=false:=by exact rfl)(Ad:Nat.blt d N=true:=by exact rfl):FH P ops R N w f (⟨some d,.load T x,ty,pos,An,none⟩::rest):=by
 have e:ss=pre++[[v]]++ss.drop (i+1):=by
  obtain⟨hl,g⟩:=EH.1 a;rw[←h1,C9,←g,j3,←Xy hl,td]
 rw[e]at J;exact Gs Ad (fun _ j=>IV j c hu hr pre v (ss.drop (i+1)) J (s1.trans ho)) h
theorem M3(a:CO P t e size bytes z)(j:Nat)(o:Nat)(g:Aj f x=some (.slice (some ⟨b,off,none⟩) n c))(V:Aj f BI=some (.int k i))(h:FH P ops R N w (Jb f d (.pointer (some ⟨b,o,none⟩))) rest)
 (hj:i=j:=by omega)(l:j<n:=by omega)(ho:off+j*size=o:=by first|rfl|omega)(Ad:Nat.blt d N=true:=by exact rfl):FH P ops R N w f (⟨some d,.indexAddr t x BI,ty,pos,An,none⟩::rest):=Gs Ad (fun _ m=>Gu m a g V j hj l ho) h
end
section
variable {P:Program} {w w':World} {ops:Array Oper} {rest:List Oper} {Aa:Exit→Act→World→Prop} {N:Nat} {f:BW} {d:Nat} {ty:TypeId} {pos:String} {An:Array Edge} {g:Option (Nat×Bool)} {dst:Option Tmp} {R:Act→Prop} {A5:Act→World→Prop} {a:Act}
theorem DZ{F:FuncId}{c:Code}{args:Array Value}{R:Ending→World→Prop}(b:P.funcs[F]? =some fn)(J:fn.body=some c)(N:Nat)
 (h:∀a,AH N a (JW args.toList)→c.wp P (bodyPost P fn R) a w)(d:args.size+(fn.ntmps - args.size)=N:=by kernel_rfl):Calls P F args w R:=Ti b J N d h
theorem Gh{BK:World→Prop}(i fuel:Nat){Cy:Nat}{listed:Array Bool}{o:Oper}(V:ops[i]? =some o)(b:o.guard=none)
 (h:∀A5:Act→World→Prop,(∀a w,BK w→wpAnyH P .any ops Aa BK fuel (listed.setIfInBounds i true) a w→A5 a w)→Dw P o a w A5 Aa)(c:Cy=fuel+1:=by kernel_rfl)(hr:Region.ready .any ops listed=[i]:=by kernel_rfl):wpAnyH P .any ops Aa BK Cy listed a w:=WT V b c hr h
theorem Mf{id:Nat}{l:List Oper}(n:Nat)
 (h:∀W:World,W.heap.size=w.heap.size→Below w.heap.size w W→wpStill P l.toArray W (fun b=>wpList P l.toArray Aa (l.drop n) b W) (l.take n) a)(hm:P.follows .mixedOrders=true:=by kernel_rfl)(c:Region.lexTailB .any l.toArray n=true:=by kernel_rfl):(Code.region id l.toArray true).wp P Aa a w:=YL n hm c h
theorem KB{id:Nat}{l:List Oper}(BK:World→Prop)(h:∀W:World,W.heap.size=w.heap.size→Below w.heap.size w W→wpAnyH P .any l.toArray Aa BK l.toArray.size (Array.replicate l.toArray.size false) a W)(hm:P.follows .mixedOrders=true:=by kernel_rfl):(Code.region id l.toArray true).wp P Aa a w:=Qr BK hm h
theorem Ee(c:AH N a f){Cf:FuncId}{xs:Array Operand}{sU:Array TypeId}(args:Array Value)(i:P.funcs[Cf]? =some fn)
 {R:Ending→World→Prop}(j:Calls P Cf args w R)(h:∀e W,R e W→∃v,e=.returned v∧∀b,AH N b (Jb f d v)→A5 b W)(k:xs.toList.map (Aj f)=args.toList.map some:=by exact rfl)(l:(fn.name== "runtime.NumGoroutine")=false:=by kernel_rfl)(J:fn.body.isNone=false:=by kernel_rfl)(Ad:Nat.blt d N=true:=by exact rfl):
 Dw P ⟨some d,.call {callee:=.value (.func Cf),args:=xs,argTypes:=sU},ty,pos,An,g⟩ a w A5 Aa:=Rj c Ad i l J k j h
theorem E'(a:P.underlying t=some (.array n e))(size j o:Nat)(c:Aj f x=some (.pointer (some ⟨b,off,none⟩)))(V:Aj f BI=some (.int k i))(h:B_ P ops Aa N w (Jb f d (.pointer (some ⟨b,o,none⟩))) rest)
 (hj:i=j:=by omega)(g:j<n:=by omega)(ho:off+j*size=o:=by first|rfl|omega)(l:(P.info? e).map (·.size)=some size:=by kernel_rfl)(Ad:Nat.blt d N=true:=by exact rfl):B_ P ops Aa N w f (⟨some d,.indexAddr t x BI,ty,pos,An,none⟩::rest):=Cc (fun _ m=>Hl m a l c V j hj g ho) h Ad
theorem It(a:P.underlying t=some (.array n e))(size j o:Nat)(c:Aj f x=some (.pointer (some ⟨b,off,none⟩)))(V:Aj f BI=some (.int k i))(h:FH P ops R N w (Jb f d (.pointer (some ⟨b,o,none⟩))) rest)
 (hj:i=j:=by omega)(g:j<n:=by omega)(ho:off+j*size=o:=by first|rfl|omega)(l:(P.info? e).map (·.size)=some size:=by kernel_rfl)(Ad:Nat.blt d N=true:=by exact rfl):FH P ops R N w f (⟨some d,.indexAddr t x BI,ty,pos,An,none⟩::rest):=Fs (fun _ m=>Hl m a l c V j hj g ho) h Ad
theorem gr(j:AH N a f)(i m:Nat){mid post sU res:List (List Value)}(J:w.heap[b]? =some (.cells (flat ss) tb (0,0)))(k:Aj f x=some (.pointer (some ⟨b,off,none⟩)))(l:Aj f y=some (.agg (flat sU)))
 (h:∀d W,AH N d f→W.heap.size=w.heap.size→W.heap[b]? =some (.cells (flat res) tb (0,0))→w.grownBy W (some b)→A5 d W)
 (h1:ss.take i=pre:=by first|(simp only[Ra,Jaa,RA,Rp,HE,Rx,HR,Hg,Ha]<;>rfl)|exact rfl)(n:(ss.drop i).take m=mid:=by first|(simp only[Ra,Jaa,RA,Rp,HE,Rx,HR,Hg,Ha]<;>rfl)|exact rfl)(o:ss.drop (i+m)=post:=by first|(simp only[Ra,Jaa,RA,Rp,HE,Rx,HR,Hg,Ha]<;>rfl)|exact rfl)(s:pre++sU++post=res:=by first|(simp only[HR,Hg,Ha]<;>rfl)|exact rfl)
 {q r:Nat}(s1:Jo pre p:=by(repeat(first|exact Jo.nil|(apply Jo.val rfl)|(apply Jo.row;(first|assumption|exact Jc.row _|exact Jl _|exact Jx _|exact Ju (by first|assumption|exact He|exact Jc.h _)|exact Jm.row (by first|assumption|exact Jm.zero _|exact Jv))))))(s2:Jo mid q:=by(repeat(first|exact Jo.nil|(apply Jo.val rfl)|(apply Jo.row;(first|assumption|exact Jc.row _|exact Jl _|exact Jx _|exact Ju (by first|assumption|exact He|exact Jc.h _)|exact Jm.row (by first|assumption|exact Jm.zero _|exact Jv))))))(c:Jo sU r:=by(repeat(first|exact Jo.nil|(apply Jo.val rfl)|(apply Jo.row;(first|assumption|exact Jc.row _|exact Jl _|exact Jx _|exact Ju (by first|assumption|exact He|exact Jc.h _)|exact Jm.row (by first|assumption|exact Jm.zero _|exact Jv))))))
 (ho:p=off:=by first|rfl|omega)(hm:q=r:=by exact rfl)(V:(P.info? T).map (·.size)=some r:=by kernel_rfl):Dw P ⟨none,.store T x y,ty,pos,An,g⟩ a w A5 Aa:=by
 subst s;have e:ss=pre++mid++post:=by rw[←h1,←n,←o,←tB,C9,td,td]
 rw[e]at J;exact Ru j k pre mid post sU J l (s1.len.trans ho) ((s2.len.trans hm).trans c.len.symm) (by rw[V,c.len]) c.one h
theorem CK(i m:Nat){mid post sU res:List (List Value)}(J:w.heap[b]? =some (.cells (flat ss) tb (0,0)))(c:Aj f x=some (.pointer (some ⟨b,off,none⟩)))(d:Aj f y=some (.agg (flat sU)))
 (h:∀W,W.heap.size=w.heap.size→W.heap[b]? =some (.cells (flat res) tb (0,0))→w.grownBy W (some b)→B_ P ops Aa N W f rest)
 (h1:ss.take i=pre:=by first|(simp only[Ra,Jaa,RA,Rp,HE,Rx,HR,Hg,Ha]<;>rfl)|exact rfl)(e:(ss.drop i).take m=mid:=by first|(simp only[Ra,Jaa,RA,Rp,HE,Rx,HR,Hg,Ha]<;>rfl)|exact rfl)(g:ss.drop (i+m)=post:=by first|(simp only[Ra,Jaa,RA,Rp,HE,Rx,HR,Hg,Ha]<;>rfl)|exact rfl)(j:pre++sU++post=res:=by first|(simp only[HR,Hg,Ha]<;>rfl)|exact rfl)
 {q r:Nat}(s1:Jo pre p:=by(repeat(first|exact Jo.nil|(apply Jo.val rfl)|(apply Jo.row;(first|assumption|exact Jc.row _|exact Jl _|exact Jx _|exact Ju (by first|assumption|exact He|exact Jc.h _)|exact Jm.row (by first|assumption|exact Jm.zero _|exact Jv))))))(s2:Jo mid q:=by(repeat(first|exact Jo.nil|(apply Jo.val rfl)|(apply Jo.row;(first|assumption|exact Jc.row _|exact Jl _|exact Jx _|exact Ju (by first|assumption|exact He|exact Jc.h _)|exact Jm.row (by first|assumption|exact Jm.zero _|exact Jv))))))(k:Jo sU r:=by(repeat(first|exact Jo.nil|(apply Jo.val rfl)|(apply Jo.row;(first|assumption|exact Jc.row _|exact Jl _|exact Jx _|exact Ju (by first|assumption|exact He|exact Jc.h _)|exact Jm.row (by first|assumption|exact Jm.zero _|exact Jv))))))
 (ho:p=off:=by first|rfl|omega)(hm:q=r:=by exact rfl)(V:(P.info? T).map (·.size)=some r:=by kernel_rfl):B_ P ops Aa N w f (⟨none,.store T x y,ty,pos,An,none⟩::rest):=
 fun a l=>Cp D (fun A5 n=>gr l i m J c d (fun o W s t u v=>n _ _ (h W t u v o s)) h1 e g j s1 s2 k ho hm V)
theorem Gn(i:AH N a f){base:Nat}{y:Value}{CP zs:List Value}(j:CO P t e size bytes z){s:Operand}
 (l:w.ownsRow base e size v n xs)(o:View w y m size CP)(h1:∀u∈CP,u.oneCell'=true)(q:base≤w.heap.size)(k:Nat)(r:xs++CP.take (m*size)=zs)
 (h:∀b p c W,AH N b (Jb f d (.slice p k c))→W.ownsRow base e size (.slice p k c) k zs→D0 w W v (.slice p k c)→A5 b W)
 (A:Aj f s=some v:=by exact rfl)(B:Aj f x=some y:=by exact rfl)(C:n+m≤maxLen:=by unfold maxLen;omega)(D:(n+m)*bytes≤140737488355328:=by omega)(E:n+m=k:=by first|exact rfl|omega)(Ad:Nat.blt d N=true:=by exact rfl):
 Dw P ⟨some d,.call {callee:=.builtin .append,args:=#[s,x],argTypes:=#[t,t]},ty,pos,An,g⟩ a w A5 Aa:=Xx i Ad j base A B l o h1 C D q E r h
end
theorem Ii{B k:Nat}{a b c:World}(h:Below B a b)(g:b.grownBy c (some k))(d:B≤a.heap.size)(f:B≤k:=by omega):Below B a c:=h.grown g (Eg d h.size) (fun _ e=>by cases e;exact f)
theorem F'{a b c:World}(h:Below a.heap.size a b)(BO:D0 b c v BA)(o:b.ownsRow a.heap.size e size v n xs):Below a.heap.size a c:=h.trans (BO.below h.size (fun k d=>(o.lt k d).1))
theorem Et{B:Nat}{a b c:World}(h:Below B a b)(k:Below b.heap.size b c)(d:B≤a.heap.size):Below B a c:=h.trans (k.mono (Eg d h.size))
theorem BG{a b c:World}(h:Below a.heap.size a b)(k:Below b.heap.size b c):Below a.heap.size a c:=h.trans (k.mono h.size)
theorem C6{w:World}{o:Obj}(h:w.heap[b]? =some o)(e:w.heap.size=c):b<c:=e▸DC h
theorem C8{B:Nat}{a b:World}(h:Below B a b)(e:b.heap.size=c):a.heap.size≤c:=e▸h.size
