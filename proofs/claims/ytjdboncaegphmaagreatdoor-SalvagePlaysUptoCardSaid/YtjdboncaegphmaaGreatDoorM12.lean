/- Laws and walks on the road to SalvagePlays (part M12). No conditions beyond each law's own. -/
import Derived.Test.YtjdboncaegphmaaGreatDoorM11
set_option linter.unusedVariables false
namespace Go.Proofs.YtjdboncaegphmaaGreatDoor
open Go.RowKit
set_option maxRecDepth 100000
set_option maxHeartbeats 2000000
variable {x y:Operand} {t u T tb e:TypeId} {k:IntKind} {p q:Int} {v BA:Value} {n size b c j i off m id bytes:Nat} {ss pre post:List (List Value)} {BB:TypeDesc} {xs CP:List Value} {fn:Func} {op:Op} {Dk o:Oper} {Bo:Type} {l:List Oper}
section
variable {P:Program} {w w':World} {a:Act} {N d:Nat} {f:BW} {A5 Ft:Act→World→Prop} {Aa:Exit→Act→World→Prop} {ty:TypeId} {pos:String} {An:Array Edge} {g:Option (Nat×Bool)}
theorem aU(j:AH N a f)(Ad:Nat.blt d N=true){z:Value}(i:CO P t e size bytes z)(l:Aj f x=some v){cs:Array Value}(m:v.cells=cs)(b:cs.size=size)(n:size≤16777216)(base:Nat)(J:base≤w.heap.size)
 (h:∀c p W,AH N c (Jb f d (.slice p 1 1))→W.heap.size=w.heap.size+1→W.ownsRow base e size (.slice p 1 1) 1 cs.toList→(∀k,(Value.slice p 1 1).ownBlock=some k→w.heap.size≤k)→Below w.heap.size w W→A5 c W):Dw P ⟨some d,.buildSlice t 1 #[(0,x)],ty,pos,An,g⟩ a w A5 Aa:=by
 subst m;refine F8 (v:=.slice (some ⟨w.heap.size,0,none⟩) 1 1) (w':=w.alloc (.cells v.cells e)) j Ad ?_ (fun c o=>h c _ _ o (by simp) ⟨by simpa using b,.inr ⟨w.heap.size,1,v.cells,D,J,heap_alloc_new w _,Br _,JZ,by simpa using b,?_⟩⟩ (fun k i=>by simp[Value.ownBlock]at i;omega) ((Cn _ _).alloc (Br _) _))
 ·have:(#[(0,x)]:Array (Nat×Operand)).map (fun p=>(p.1,a.eval p.2))=#[(0,v)]:=by simp[j.A_ l]
  simp only[execOp,Sem.run_bind,Sem.run_pure,this,RR i v b n w,Result.andThen_ok]
 ·rw[DV (by simp[b])]
theorem hP(d:AH N a f){c:Array (Nat×Operand)}{BH:List (Nat×Value)}(e:c.toList.map (fun p=>(p.1,Aj f p.2))=BH.map (fun p=>(p.1,some p.2))):c.map (fun p=>(p.1,a.eval p.2))=BH.toArray:=by
 apply bg.1;rw[PL];apply Q2;intro i;have:=congrArg (fun q=>q[i]?) e;simp only[ti]at this⊢;cases h1:c.toList[i]? with
 |none=>rw[h1]at this;cases b:BH[i]? with
  |none=>simp
  |some v=>rw[b]at this;cases this
 |some x=>rw[h1]at this;cases b:BH[i]? with
  |none=>rw[b]at this;cases this
  |some v=>
   rw[b]at this;simp only[Ph,Option.some.injEq,Prod.mk.injEq]at this;simp[this.1,d.A_ this.2]
theorem Dw.mono(h:∀a w,A5 a w→Ft a w)(q:Dw P o a w A5 Aa):Dw P o a w Ft Aa:=⟨Oper.wp_mono h q.out⟩
end
structure Ji (n:Nat) where
 l:List UInt8
 h:l.length=n
abbrev b1:=fun(a:Ji 64)=>([[E ((a.l.getD 4 0).toNat)],[E (Fr.le ((a.l.drop 8).take 7))],[E (Fr.le ((a.l.drop 16).take 4))],[E (Fr.le ((a.l.drop 20).take 4))],[E (Fr.le ((a.l.drop 24).take 4))]]:List (List Value))
theorem Ji.row(x:Ji n):Row n (bv x.l):=Ju x.h
def Ji.set{n:Nat}(x:Ji n)(j:Nat)(u:UInt8):Ji n:=⟨x.l.set j u,by rw[Kh];exact x.h⟩
def Ji.zero(n:Nat):Ji n:=⟨List.replicate n 0,He⟩
def Ji.lay{n:Nat}(x:Ji n)(o:Nat)(s:rG):Ji n:=if h:o+s.length≤n then⟨x.l.take o++(s++x.l.drop (o+s.length)),by have:=x.h;simp only[Gd,FX,J3];omega⟩else x
theorem Ji.NC(x:Ji n){o:Nat}{s:rG}(h:o+s.length≤n):(x.lay o s).l=x.l.take o++(s++x.l.drop (o+s.length)):=by unfold Ji.lay;rw[dif_pos h]
structure Jn (n:Nat) where
 l:List UInt32
 h:l.length=n
def Dx(l:List UInt32):List Value:=l.map fun x=>.int .u32 ((x.toNat:Nat):Int)
theorem Y'(l:List UInt32):(Dx l).length=l.length:=MU _
theorem SD{l:List UInt32}(h:j<l.length):(Dx l)[j]? =some (.int .u32 ((l.getD j 0).toNat:Nat)):=by
 unfold Dx;rw[ti,F3 h,Dm,F3 h];rfl
theorem gK(l:List UInt32)(j:Nat)(x:UInt32):Dx (l.set j x)=(Dx l).set j (.int .u32 ((x.toNat:Nat):Int)):=rp
theorem fL{l:List UInt32}(h:l.length=n):Row n (Dx l):=⟨(Y' l).trans h,by intro u hu;obtain⟨x,_,rfl⟩:=bI.1 hu;rfl⟩
theorem Jn.row(x:Jn n):Row n (Dx x.l):=fL x.h
def Jn.set{n:Nat}(x:Jn n)(j:Nat)(u:UInt32):Jn n:=⟨x.l.set j u,by rw[Kh];exact x.h⟩
def Jn.zero(n:Nat):Jn n:=⟨List.replicate n 0,He⟩
theorem Jp(h:ss.flatten.length=n:=by(repeat(first|(with_reducible exact Ja.nil)|(with_reducible apply Ja.one)|(apply Ja.row;(first|(with_reducible exact Jc.row _)|(with_reducible exact Ji.row _)|(with_reducible exact Jn.row _)))|(apply Ja.row;(first|assumption|(with_reducible exact Jc.row _)|(with_reducible exact Ji.row _)|(with_reducible exact Jn.row _)|exact Jc.row _|exact Jl _|exact Jx _|exact Ju (by first|assumption|exact He|exact Jc.h _|exact Ji.h _)|exact Jm.row (by first|assumption|exact Jm.zero _|exact Jv)))|(apply Ja.one)|exact Ja.nil))):ss.flatten.length=n:=h
theorem JF(h:Jo ss n:=by(repeat(first|(with_reducible exact Jo.nil)|((with_reducible apply Jo.val);exact rfl)|(apply Jo.row;(first|(with_reducible exact Jc.row _)|(with_reducible exact Ji.row _)|(with_reducible exact Jn.row _)))|(apply Jo.row;(first|assumption|(with_reducible exact Jc.row _)|(with_reducible exact Ji.row _)|(with_reducible exact Jn.row _)|exact Jc.row _|exact Jl _|exact Jx _|exact Ju (by first|assumption|exact He|exact Jc.h _|exact Ji.h _)|exact Jm.row (by first|assumption|exact Jm.zero _|exact Jv)))|(apply Jo.val rfl)|exact Jo.nil))):Jo ss n:=h
theorem Jr{a b:List (List Value)}(h:a=b:=by first|(simp only[Ra,Jaa,RA,Rp,HE,Rx,HR,Hg,Ha,RI,JX]<;>rfl)|exact rfl):a=b:=h
def Ac(p:Option Addr):Nat:=(p.map (·.block)).getD 0
def RX(p:Option Addr):Nat:=(p.map (·.off)).getD 0
abbrev Hn(p:Option Addr)(k:Nat):Value:=.pointer (some ⟨Ac p,RX p+k,none⟩)
abbrev Be(k:IntKind)(n:Nat):Value:=.int k (n:Int)
theorem Qs{w:World}{p:Option Addr}(h:View w (.slice p n c) n size xs)(a:0<n:=by omega):p=some ⟨Ac p,RX p,none⟩:=by
 obtain⟨b,o,rfl⟩:=IW h a;rfl
section
variable {P:Program} {ops:Array Oper} {rest:List Oper} {Aa:Exit→Act→World→Prop} {N:Nat} {f:BW} {d:Nat} {ty:TypeId} {pos:String} {An:Array Edge} {dst:Option Tmp} {g:Option (Nat×Bool)} {F:Nat→Prop} {w0:World} {H:List Atom} {A5:Act→World→Prop} {R:World→Act→Prop} {Ek:List Atom} {fuel Cy:Nat} {listed:Array Bool}
abbrev AT(N:Nat)(f:BW)(F:Nat→Prop)(w0:World)(H:List Atom)(A5:Act→World→Prop):Prop:=∀a w,AH N a f→Sat F w0 H w→A5 a w
abbrev NU(P:Program)(ops:Array Oper)(R:World→Act→Prop)(N:Nat)(f:BW)(F:Nat→Prop)(w0:World)(H:List Atom)(l:List Oper):Prop:=∀a w,AH N a f→Sat F w0 H w→wpStill P ops w (R w) l a
abbrev Hu(P:Program)(ops:Array Oper)(Aa:Exit→Act→World→Prop)(N:Nat)(f:BW)(F:Nat→Prop)(w0:World)(Ek H:List Atom)(fuel:Nat)(listed:Array Bool):Prop:=∀a w,AH N a f→Sat F w0 H w→Sat F w0 Ek w→wpAnyH P .any ops Aa (Sat F w0 Ek) fuel listed a w
abbrev NS(P:Program)(ops:Array Oper)(Aa:Exit→Act→World→Prop)(F:Nat→Prop)(w0:World)(Ek:List Atom)(fuel:Nat)(listed:Array Bool):Act→World→Prop:=fun a w=>Sat F w0 Ek w∧wpAnyH P .any ops Aa (Sat F w0 Ek) fuel listed a w
abbrev BR(P:Program)(N:Nat)(f:BW)(F:Nat→Prop)(w0:World)(H:List Atom)(o:Oper)(v:Value):Prop:=∀a w,AH N a f→Sat F w0 H w→CD P a w o v w
abbrev D3(P:Program)(o:Oper)(Aa:Exit→Act→World→Prop)(N:Nat)(f:BW)(F:Nat→Prop)(w0:World)(H:List Atom)(A5:Act→World→Prop):Prop:=AT N f F w0 H (fun a w=>Dw P o a w A5 Aa)
def KF(H:List Atom)(BI:List Nat):List Atom:=BI.filterMap (fun i=>H[i]?)
theorem Sat.As{F:Nat→Prop}{w0 w W:World}{H H1 Gm:List Atom}(h:Sat F w0 H w)(i1 i2:List Nat)(c:Sat (A6 H1) w Gm W)(e:(i1++i2).map (fun i=>H[i]?)=(H1++KF H i2).map some:=by exact rfl)(a:(i1++i2).Nodup:=by decide):Sat F w0 (Gm++KF H i2) W:=Sat.call (h.pick (i1++i2) e a) c
theorem Cg{Cf:FuncId}{c:Code}{args:List Value}{T:Ending→World→Prop}(w:World)(b:P.funcs[Cf]? =some fn)(J:fn.body=some c)(N:Nat)(h:AT N (JW args) C1 w [] (c.wp P (bodyPost P fn T)))(d:args.toArray.size+(fn.ntmps - args.toArray.size)=N:=by kernel_rfl):Calls P Cf args.toArray w T:=
 Ti b J N d (fun a e=>h a w e (Sat.start _ _))
theorem Cb{Cf:FuncId}{c:Code}{args:List Value}{T:Ending→World→Prop}{w:World}(b:BE H w)(d:P.funcs[Cf]? =some fn)(J:fn.body=some c)(N:Nat)(h:∀F,A6 H=F→AT N (JW args) F w H (c.wp P (bodyPost P fn T)))(e:args.toArray.size+(fn.ntmps - args.toArray.size)=N:=by kernel_rfl):Calls P Cf args.toArray w T:=
 Ti d J N e (fun a f=>h _ D a w f (Sat.begin b))
theorem Ff{T:Ending→World→Prop}(h:∀w,Sat F w0 H w→T (.returned (.tuple #[])) w)(hr:fn.results=#[]:=by exact rfl):AT N f F w0 H (bodyPost P fn T .ret):=fun a w b c=>Yt b hr (h w c)
theorem JJ{T:Ending→World→Prop}{t:Nat}(b:f t=some v)(h:∀w,Sat F w0 H w→T (.returned v) w)(hr:fn.results=#[.tmp t]:=by exact rfl):AT N f F w0 H (bodyPost P fn T .ret):=fun a w c d=>Xh c hr b (h w d)
theorem JN{T:Ending→World→Prop}{t u:Nat}(b:f t=some v)(hu:f u=some BA)(h:∀w,Sat F w0 H w→T (.returned (.tuple #[v,BA])) w)(hr:fn.results=#[.tmp t,.tmp u]:=by exact rfl):AT N f F w0 H (bodyPost P fn T .ret):=fun a w c d=>a9 c hr b hu (h w d)
theorem Jt{T:Ending→World→Prop}(h:AT N f F w0 H (bodyPost P fn T .ret)):AT N f F w0 H (bodyPost P fn T .normal):=h
theorem Fq{T:Ending→World→Prop}{t:Nat}{c:TypeId}(hu:P.underlying c=some BB)(i:Nat)(V:H[i]? =some (O b ss tb))(e:f t=some (.pointer (some ⟨b,0,none⟩)))(h:∀w,Sat F w0 H w→T (.returned (.agg (flat ss))) w)(s1:ss.flatten.length=n:=by exact Jp)(g:(P.info? c).map (·.size)=some n:=by kernel_rfl)(hr:fn.results=#[.cell t c]:=by exact rfl)(Ad:BB.isRow=true:=by exact rfl):AT N f F w0 H (bodyPost P fn T .ret):=
 fun a w j d=>Kj j hr e (d.Dq i V) hu Ad (by rw[g,s1]) (h w d)
theorem Gl{T:Ending→World→Prop}{t u:Nat}{c:TypeId}(hu:P.underlying c=some BB)(i:Nat)(V:H[i]? =some (O b ss tb))(e:f t=some (.pointer (some ⟨b,0,none⟩)))(g:f u=some BA)(h:∀w,Sat F w0 H w→T (.returned (.tuple #[.agg (flat ss),BA])) w)(s1:ss.flatten.length=n:=by exact Jp)(j:(P.info? c).map (·.size)=some n:=by kernel_rfl)(hr:fn.results=#[.cell t c,.tmp u]:=by exact rfl)(Ad:BB.isRow=true:=by exact rfl):AT N f F w0 H (bodyPost P fn T .ret):=
 fun a w k d=>FL k hr e g (d.Dq i V) hu Ad (by rw[j,s1]) (h w d)
theorem h3{T:Ending→World→Prop}{t u:Nat}{c:TypeId}(hu:P.underlying c=some BB)(i:Nat)(V:H[i]? =some (O b ss tb))(e:f t=some (.pointer (some ⟨b,0,none⟩)))(g:f u=some BA)(h:∀w,Sat F w0 H w→T (.returned (.tuple #[BA,.agg (flat ss)])) w)(s1:ss.flatten.length=n:=by exact Jp)(j:(P.info? c).map (·.size)=some n:=by kernel_rfl)(hr:fn.results=#[.tmp u,.cell t c]:=by exact rfl)(Ad:BB.isRow=true:=by exact rfl):AT N f F w0 H (bodyPost P fn T .ret):=
 fun a w k d=>ca k hr e g (d.Dq i V) hu Ad (by rw[j,s1]) (h w d)
theorem iD{p:Prop}(c:∀w,Sat F w0 H w→p)(h:p→AT N f F w0 H A5):AT N f F w0 H A5:=fun a w d b=>h (c w b) a w d b
theorem CR(t:Nat)(b:f t=some v)(e:v=BA)(h:AT N (Jb f t BA) F w0 H A5):AT N f F w0 H A5:=fun a w c d=>h a w (c.RF t b e) d
theorem Jg(h:AT N f F w0 H (Aa .normal)):AT N f F w0 H (wpList P ops Aa []):=h
theorem Jf(h:AT N f F w0 H A5):AT N f F w0 H (Exit.then A5 Aa .normal):=h
theorem Jz(h:AT N f F w0 H (Aa (.exit i))):AT N f F w0 H (Exit.then A5 Aa (.exit i)):=h
theorem JI(h:AT N f F w0 H (Aa .ret)):AT N f F w0 H (Exit.then A5 Aa .ret):=h
theorem JA(h:AT N f F w0 H (Aa .normal)):AT N f F w0 H (Exit.inBlock i Aa .normal):=h
theorem JO(h:AT N f F w0 H (Aa .ret)):AT N f F w0 H (Exit.inBlock i Aa .ret):=h
theorem JE(h:AT N f F w0 H (Aa .normal)):AT N f F w0 H (Exit.inBlock i Aa (.exit i)):=fun a w b c=>T2 (h a w b c)
theorem JS(h:AT N f F w0 H (Aa (.exit j)))(b:Nat.beq j i=false:=by exact rfl):AT N f F w0 H (Exit.inBlock i Aa (.exit j)):=fun a w c d=>WJ b (h a w c d)
theorem Je{x y:Code}(h:AT N f F w0 H (x.wp P (Exit.then (y.wp P Aa) Aa))):AT N f F w0 H ((Code.seq x y).wp P Aa):=fun a w b c=>wp_seq (h a w b c)
theorem Jh(h:AT N f F w0 H (wpList P l.toArray Aa l)):AT N f F w0 H ((Code.region id l.toArray false).wp P Aa):=fun a w b c=>wp_region_lit (h a w b c)
theorem Jy(h:AT N f F w0 H (Aa .normal)):AT N f F w0 H (Code.skip.wp P Aa):=fun a w b c=>wp_skip (h a w b c)
theorem JR(h:AT N f F w0 H (Aa (.exit id))):AT N f F w0 H ((Code.exit id).wp P Aa):=fun a w b c=>wp_exit (h a w b c)
theorem Jq(h:AT N f F w0 H (Aa .ret)):AT N f F w0 H (Code.ret.wp P Aa):=fun a w b c=>wp_ret (h a w b c)
theorem JD{c:Code}(h:AT N f F w0 H (c.wp P (Exit.inBlock id Aa))):AT N f F w0 H ((Code.block id c).wp P Aa):=fun a w b d=>wp_block (h a w b d)
theorem J9{c:Operand}{x y:Code}{t:Bool}(e:Aj f c=some (.bool t))(h1:t=true→AT N f F w0 H (x.wp P Aa))(g:t=false→AT N f F w0 H (y.wp P Aa)):AT N f F w0 H ((Code.cond c x y).wp P Aa):=fun a w b d=>wp_cond_split (b.A_ e) (fun h=>h1 h a w b d) (fun h=>g h a w b d)
theorem Cz{c:Operand}{x y:Code}{p:Prop}[Decidable p](a:Aj f c=some (.bool (decide p)))(h1:p→AT N f F w0 H (x.wp P Aa))(b:¬p→AT N f F w0 H (y.wp P Aa)):AT N f F w0 H ((Code.cond c x y).wp P Aa):=J9 a (fun h=>h1 (of_decide_eq_true h)) (fun h=>b (of_decide_eq_false h))
theorem HI{c:Operand}{x y:Code}{p:Prop}[Decidable p](a:Aj f c=some (.bool (!decide p)))(h1:¬p→AT N f F w0 H (x.wp P Aa))(b:p→AT N f F w0 H (y.wp P Aa)):AT N f F w0 H ((Code.cond c x y).wp P Aa):=J9 a (fun h=>h1 (Uc h)) (fun h=>b (W3 h))
theorem JL{c:Operand}{x y:Code}(a:Aj f c=some (.bool true))(h1:AT N f F w0 H (x.wp P Aa)):AT N f F w0 H ((Code.cond c x y).wp P Aa):=J9 a (fun _=>h1) (fun h=>by cases h)
theorem JH{c:Operand}{x y:Code}(a:Aj f c=some (.bool false))(b:AT N f F w0 H (y.wp P Aa)):AT N f F w0 H ((Code.cond c x y).wp P Aa):=J9 a (fun h=>by cases h) (fun _=>b)
theorem DL{c:Code}(b:Nat→Act→World→Prop){d:Nat}(g:∀a w,AH N a f→Sat F w0 H w→b d a w)(round:∀n a w,b n a w→c.wp P (Exit.then (fun h w'=>∃e,e<n∧b e h w') Aa) a w):AT N f F w0 H ((Code.loop c).wp P Aa):=fun a w i j=>Ec b d (g a w i j) round
theorem Gq{x y:Code}(M:Act→World→Prop)(h:AT N f F w0 H (x.wp P (Exit.then M Aa)))(b:∀a w,M a w→y.wp P Aa a w):AT N f F w0 H ((Code.seq x y).wp P Aa):=fun a w c d=>ZZ M (h a w c d) b
theorem Hj{x:Code}(M:Act→World→Prop)(h:AT N f F w0 H (x.wp P (Exit.then M Aa)))(b:∀a w,M a w→Aa .normal a w):AT N f F w0 H (x.wp P Aa):=fun a w c d=>eJ M (h a w c d) b
theorem Jj{t:Bool}(hj:ops[j]? =some Dk){k:Nat}(b:Dk.dst=some k)(c:f k=some (.bool t))(h:AT N f F w0 H (wpList P ops Aa (⟨dst,op,ty,pos,An,none⟩::rest))):AT N f F w0 H (wpList P ops Aa (⟨dst,op,ty,pos,An,some (j,t)⟩::rest)):=fun a w d e=>ES hj b c (fun g i=>h g w i e) a d
theorem JP{t u:Bool}(hj:ops[j]? =some Dk){k:Nat}(b:Dk.dst=some k)(c:f k=some (.bool u))(e:t=!u)(h:AT N (Jb f d undef) F w0 H (wpList P ops Aa rest))(Ad:Nat.blt d N=true:=by exact rfl):AT N f F w0 H (wpList P ops Aa (⟨some d,op,ty,pos,An,some (j,t)⟩::rest)):=fun a w g i=>E6 hj b c e (fun l m=>h l w m i) Ad a g
theorem JQ{t:Bool}(hj:ops[j]? =some Dk){k:Nat}(b:Dk.dst=some k)(c:f k=some undef)(h:AT N (Jb f d undef) F w0 H (wpList P ops Aa rest))(Ad:Nat.blt d N=true:=by exact rfl):AT N f F w0 H (wpList P ops Aa (⟨some d,op,ty,pos,An,some (j,t)⟩::rest)):=fun a w e g=>fO hj b c (fun i l=>h i w l g) Ad a e
theorem CX{t:Bool}(hj:ops[j]? =some Dk){k:Nat}(b:Dk.dst=some k)(c:f k=some (.bool t))(h:NU P ops R N f F w0 H (⟨dst,op,ty,pos,An,none⟩::rest)):NU P ops R N f F w0 H (⟨dst,op,ty,pos,An,some (j,t)⟩::rest):=fun a w d e=>jv hj b c (fun g i=>h g w i e) a d
theorem Dp{t u:Bool}(hj:ops[j]? =some Dk){k:Nat}(b:Dk.dst=some k)(c:f k=some (.bool u))(e:t=!u)(h:NU P ops R N (Jb f d undef) F w0 H rest)(Ad:Nat.blt d N=true:=by exact rfl):NU P ops R N f F w0 H (⟨some d,op,ty,pos,An,some (j,t)⟩::rest):=fun a w g i=>kW hj b c e (fun l m=>h l w m i) Ad a g
theorem GR(h:NU P l.toArray (fun w a=>Aa .normal a w) N f F w0 H l)(hm:P.follows .mixedOrders=true:=by kernel_rfl)(b:Region.lexB .any l.toArray=true:=by kernel_rfl):AT N f F w0 H ((Code.region id l.toArray true).wp P Aa):=fun a w c d=>Zr hm b (fun W _ J=>h a W c (d.below J))
theorem DD(n:Nat)(h:NU P l.toArray (fun w a=>wpList P l.toArray Aa (l.drop n) a w) N f F w0 H (l.take n))(hm:P.follows .mixedOrders=true:=by kernel_rfl)(b:Region.lexTailB .any l.toArray n=true:=by kernel_rfl):AT N f F w0 H ((Code.region id l.toArray true).wp P Aa):=fun a w c d=>YL n hm b (fun W _ J=>h a W c (d.below J))
theorem CS(h:AT N f F w0 H (fun a w=>R w a)):NU P ops R N f F w0 H []:=fun a w b c=>h a w b c
theorem zs(hr:BR P N f F w0 H ⟨some d,op,ty,pos,An,none⟩ v)(h:NU P ops R N (Jb f d v) F w0 H rest)(Ad:Nat.blt d N=true:=by exact rfl):NU P ops R N f F w0 H (⟨some d,op,ty,pos,An,none⟩::rest):=fun a w b c=>Yg b Ad (hr a w b c) (fun e g=>h e w g c)
theorem CQ(BI:List Nat)(h:Hu P l.toArray Aa N f F w0 (KF H BI) H l.toArray.size (Array.replicate l.toArray.size false))(e:BI.map (fun i=>H[i]?)=(KF H BI).map some:=by exact rfl)(c:BI.Nodup:=by decide)(hm:P.follows .mixedOrders=true:=by kernel_rfl):AT N f F w0 H ((Code.region id l.toArray true).wp P Aa):=fun a w d b=>Qr (Sat F w0 (KF H BI)) hm (fun W _ J=>h a W d (b.below J) ((b.below J).pick BI e c))
theorem Cm(h:AT N f F w0 H (Aa .normal))(hr:Region.ready .any ops listed=[]:=by kernel_rfl):Hu P ops Aa N f F w0 Ek H fuel listed:=fun a w b c _=>XO hr (h a w b c)
theorem Ab(i:Nat)(V:ops[i]? =some ⟨some d,op,ty,pos,An,none⟩)(g:BR P N f F w0 Ek ⟨some d,op,ty,pos,An,none⟩ v)(h:Hu P ops Aa N (Jb f d v) F w0 Ek H fuel (listed.setIfInBounds i true))(j:Cy=fuel+1:=by apply Eq.refl)(zs:Region.noSelect ops=true:=by kernel_rfl)(k:Region.free .any ops listed i=true:=by kernel_rfl)(l:(Region.ready .any ops listed).contains i=true:=by kernel_rfl)(AR:∀c (a:Act) w,Aa (.panic c) (a.put (some d) v) w→Aa (.panic c) a w:=by exact fun _ _ _ h=>h)(m:Nat.blt d N=true:=by exact rfl):Hu P ops Aa N f F w0 Ek H Cy listed:=
 fun a w b n e=>Zq b m V j zs k l AR (fun W q=>g a W b q) e (fun o p=>h o w p n e)
theorem Dn(i:Nat){t:Bool}{k:Nat}(V:ops[i]? =some ⟨some d,op,ty,pos,An,some (j,t)⟩)(hj:ops[j]? =some Dk)(g:Dk.dst=some k)(l:f k=some (.bool t))(m:BR P N f F w0 Ek ⟨some d,op,ty,pos,An,some (j,t)⟩ v)(h:Hu P ops Aa N (Jb f d v) F w0 Ek H fuel (listed.setIfInBounds i true))(n:Cy=fuel+1:=by apply Eq.refl)(zs:Region.noSelect ops=true:=by kernel_rfl)(o:Region.free .any ops listed i=true:=by kernel_rfl)(p:(Region.ready .any ops listed).contains i=true:=by kernel_rfl)(AR:∀c (a:Act) w,Aa (.panic c) (a.put (some d) v) w→Aa (.panic c) a w:=by exact fun _ _ _ h=>h)(r:Nat.blt d N=true:=by exact rfl):Hu P ops Aa N f F w0 Ek H Cy listed:=
 fun a w b s e=>hM b r V (UN D hj g b l) n zs o p AR (fun W q=>m a W b q) e (fun u x=>h u w x s e)
theorem C3(i:Nat){t u:Bool}{k:Nat}(V:ops[i]? =some o)(g:o.guard=some (j,t))(hj:ops[j]? =some Dk)(l:Dk.dst=some k)(m:f k=some (.bool u))(n:t=!u)(ho:o.dst=some d)(h:Hu P ops Aa N (Jb f d undef) F w0 Ek H fuel (listed.setIfInBounds i true))(p:Cy=fuel+1:=by apply Eq.refl)(zs:Region.noSelect ops=true:=by kernel_rfl)(q:Region.free .any ops listed i=true:=by kernel_rfl)(r:(Region.ready .any ops listed).contains i=true:=by kernel_rfl)(AR:∀c (a:Act) w,Aa (.panic c) (a.put (some d) undef) w→Aa (.panic c) a w:=by exact fun _ _ _ h=>h)(s:Nat.blt d N=true:=by exact rfl):Hu P ops Aa N f F w0 Ek H Cy listed:=by
 subst n;exact fun a w b v e=>bP b ho s V (ic g hj l b m) p zs q r AR e (fun x y=>h x w y v e)
theorem Bh(i:Nat)(V:ops[i]? =some o)(h:D3 P o Aa N f F w0 H (NS P ops Aa F w0 Ek fuel (listed.setIfInBounds i true)))(b:o.guard=none:=by exact rfl)(c:Cy=fuel+1:=by apply Eq.refl)(hr:Region.ready .any ops listed=[i]:=by kernel_rfl):Hu P ops Aa N f F w0 Ek H Cy listed:=
 fun a w d e j=>WT V b c hr (fun A5 g=>Dw.mono (fun a w q=>g a w q.1 q.2) (h a w d e))
theorem K8(i:Nat){t:Bool}{k:Nat}(V:ops[i]? =some o)(hj:ops[j]? =some Dk)(c:Dk.dst=some k)(d:f k=some (.bool t))(h:D3 P o Aa N f F w0 H (NS P ops Aa F w0 Ek fuel (listed.setIfInBounds i true)))(e:o.guard=some (j,t):=by exact rfl)(g:Cy=fuel+1:=by apply Eq.refl)(hr:Region.ready .any ops listed=[i]:=by kernel_rfl):Hu P ops Aa N f F w0 Ek H Cy listed:=
 fun a w b l n=>eP V (UN e hj c b d) g hr (fun A5 m=>Dw.mono (fun a w q=>m a w q.1 q.2) (h a w b l))
theorem Gy(i j:Nat){o':Oper}(V:ops[i]? =some o)(hj:ops[j]? =some o')(h:D3 P o Aa N f F w0 H (NS P ops Aa F w0 Ek fuel (listed.setIfInBounds i true)))(e:D3 P o' Aa N f F w0 H (NS P ops Aa F w0 Ek fuel (listed.setIfInBounds j true)))(g:o.guard=none:=by exact rfl)(k:o'.guard=none:=by exact rfl)(l:Cy=fuel+1:=by apply Eq.refl)(hr:Region.ready .any ops listed=[i,j]:=by kernel_rfl):Hu P ops Aa N f F w0 Ek H Cy listed:=
 fun a w c d m=>cD V g hj k l hr (fun A5 b=>Dw.mono (fun a w q=>b a w q.1 q.2) (h a w c d)) (fun A5 b=>Dw.mono (fun a w q=>b a w q.1 q.2) (e a w c d))
theorem A8(BI:List Nat)(h:Hu P ops Aa N f F w0 Ek H fuel listed)(e:BI.map (fun i=>H[i]?)=Ek.map some:=by exact rfl)(c:BI.Nodup:=by decide):AT N f F w0 H (NS P ops Aa F w0 Ek fuel listed):=fun a w d b=>⟨b.pick BI e c,h a w d b (b.pick BI e c)⟩
theorem U(h:D3 P o Aa N f F w0 H (wpList P ops Aa rest))(b:o.guard=none:=by exact rfl):AT N f F w0 H (wpList P ops Aa (o::rest)):=fun a w c d=>Cp b (fun A5 e=>Dw.mono e (h a w c d))
theorem IK(hr:BR P N f F w0 H ⟨some d,op,ty,pos,An,g⟩ v)(h:AT N (Jb f d v) F w0 H A5)(Ad:Nat.blt d N=true:=by exact rfl):D3 P ⟨some d,op,ty,pos,An,g⟩ Aa N f F w0 H A5:=fun a w b c=>F8 b Ad (hr a w b c) (fun e i=>h e w i c)
theorem Af(hr:BR P N f F w0 H ⟨some d,op,ty,pos,An,none⟩ v)(h:AT N (Jb f d v) F w0 H (wpList P ops Aa rest))(Ad:Nat.blt d N=true:=by exact rfl):AT N f F w0 H (wpList P ops Aa (⟨some d,op,ty,pos,An,none⟩::rest)):=fun a w b c=>Zo b Ad (hr a w b c) (fun e g=>h e w g c)
theorem AA(b:Aj f x=some v):BR P N f F w0 H ⟨some d,.move x,ty,pos,An,g⟩ v:=fun a w c e=>Qz c b
theorem Ck(b:Aj f x=some v):BR P N f F w0 H ⟨some d,.assign x,ty,pos,An,g⟩ v:=fun a w c e=>Pw c b
theorem Bp{p:Addr}(b:Aj f x=some (.pointer (some p))):BR P N f F w0 H ⟨some d,.nilCheck x,ty,pos,An,g⟩ (.pointer (some p)):=fun a w c e=>S4 c b
theorem El{CV:Array Value}(b:Aj f x=some (.tuple CV))(c:CV[i]? =some v):BR P N f F w0 H ⟨some d,.extract x i,ty,pos,An,g⟩ v:=fun a w e h=>TS e b c
theorem D'{c:Operand}(b:Aj f c=some (.bool true))(e:Aj f x=some v):BR P N f F w0 H ⟨some d,.pick c x y,ty,pos,An,g⟩ v:=fun a w h i=>UZ h b e
theorem EK{c:Operand}(b:Aj f c=some (.bool false))(e:Aj f y=some v):BR P N f F w0 H ⟨some d,.pick c x y,ty,pos,An,g⟩ v:=fun a w h i=>Y6 h b e
theorem R7(b:P.underlying t=some (.slice e)){p:Option Addr}(h:Aj f x=some (.slice p n c)):BR P N f F w0 H ⟨some d,.call {callee:=.builtin .len,args:=#[x],argTypes:=#[t]},ty,pos,An,g⟩ (.int .i64 n):=fun a w i j=>Rz i b h
theorem AS{s:TypeId}{c:Array Field}(hu:P.underlying s=some (.struct c))(o:Nat)(e:Aj f x=some (.pointer (some ⟨b,off,none⟩))){Ce:Field}(h:c[i]? =some Ce:=by exact rfl)(j:(P.info? Ce.type).any (fun i=>Nat.blt 0 i.size)=true:=by kernel_rfl)(ho:off+Ce.offset=o:=by first|rfl|omega):BR P N f F w0 H ⟨some d,.fieldAddr s x i,ty,pos,An,g⟩ (.pointer (some ⟨b,o,none⟩)):=fun a w k l=>P9 k e hu h j ho
theorem Pc{p q:Nat}(b:Aj f x=some (.int .i64 p))(c:Aj f y=some (.int .i64 q))(J:p+q≤9223372036854775807:=by omega):BR P N f F w0 H ⟨some d,.binOp .add t x y u,ty,pos,An,g⟩ (.int .i64 ((p+q:Nat):Int)):=fun a w e h=>Hb e b c D J
theorem HS{p q:Nat}(b:Aj f x=some (.int .i64 p))(c:Aj f y=some (.int .i64 q))(hr:p=q+(p - q):=by omega)(J:p≤9223372036854775807:=by omega):BR P N f F w0 H ⟨some d,.binOp .sub t x y u,ty,pos,An,g⟩ (.int .i64 ((p - q:Nat):Int)):=fun a w e h=>Km e b c hr J
theorem E3{p q:Nat}(b:Aj f x=some (.int .i64 p))(c:Aj f y=some (.int .i64 q))(J:p*q≤9223372036854775807:=by omega):BR P N f F w0 H ⟨some d,.binOp .mul t x y u,ty,pos,An,g⟩ (.int .i64 ((p*q:Nat):Int)):=fun a w e h=>Sx e b c D J
theorem Iy{p q:Nat}(b:Aj f x=some (.int .i64 p))(c:Aj f y=some (.int .i64 q))(e:0<q:=by omega)(J:p≤9223372036854775807:=by omega):BR P N f F w0 H ⟨some d,.binOp .quo t x y u,ty,pos,An,g⟩ (.int .i64 ((p/q:Nat):Int)):=fun a w h i=>Sv h b c D e J
theorem GG{p q:Nat}(b:Aj f x=some (.int .i64 p))(c:Aj f y=some (.int .i64 q))(e:0<q:=by omega):BR P N f F w0 H ⟨some d,.binOp .rem t x y u,ty,pos,An,g⟩ (.int .i64 ((p % q:Nat):Int)):=fun a w h i=>PA h b c D e
theorem Rn(b:Aj f x=some (.int k p))(c:Aj f y=some (.int k q)):BR P N f F w0 H ⟨some d,.binOp .lss t x y u,ty,pos,An,g⟩ (.bool (decide (p<q))):=fun a w e h=>MG e b c _ D
theorem dD(b:p<q)(c:Aj f x=some (.int k p))(e:Aj f y=some (.int k q)):BR P N f F w0 H ⟨some d,.binOp .lss t x y u,ty,pos,An,g⟩ (.bool true):=fun a w h i=>MG h c e true (decide_eq_true b)
theorem dj(b:¬(p<q))(c:Aj f x=some (.int k p))(e:Aj f y=some (.int k q)):BR P N f F w0 H ⟨some d,.binOp .lss t x y u,ty,pos,An,g⟩ (.bool false):=fun a w h i=>MG h c e false (decide_eq_false b)
theorem e5(b:Aj f x=some (.int k p))(c:Aj f y=some (.int k q)):BR P N f F w0 H ⟨some d,.binOp .leq t x y u,ty,pos,An,g⟩ (.bool (decide (p≤q))):=fun a w e h=>PR e b c _ D
theorem bu(b:p≤q)(c:Aj f x=some (.int k p))(e:Aj f y=some (.int k q)):BR P N f F w0 H ⟨some d,.binOp .leq t x y u,ty,pos,An,g⟩ (.bool true):=fun a w h i=>PR h c e true (decide_eq_true b)
theorem eF(b:¬(p≤q))(c:Aj f x=some (.int k p))(e:Aj f y=some (.int k q)):BR P N f F w0 H ⟨some d,.binOp .leq t x y u,ty,pos,An,g⟩ (.bool false):=fun a w h i=>PR h c e false (decide_eq_false b)
theorem aR(b:Aj f x=some (.int k p))(c:Aj f y=some (.int k q)):BR P N f F w0 H ⟨some d,.binOp .gtr t x y u,ty,pos,An,g⟩ (.bool (decide (q<p))):=fun a w e h=>PO e b c _ D
theorem YD(b:q<p)(c:Aj f x=some (.int k p))(e:Aj f y=some (.int k q)):BR P N f F w0 H ⟨some d,.binOp .gtr t x y u,ty,pos,An,g⟩ (.bool true):=fun a w h i=>PO h c e true (decide_eq_true b)
theorem LG(b:¬(q<p))(c:Aj f x=some (.int k p))(e:Aj f y=some (.int k q)):BR P N f F w0 H ⟨some d,.binOp .gtr t x y u,ty,pos,An,g⟩ (.bool false):=fun a w h i=>PO h c e false (decide_eq_false b)
theorem ZH(b:Aj f x=some (.int k p))(c:Aj f y=some (.int k q)):BR P N f F w0 H ⟨some d,.binOp .geq t x y u,ty,pos,An,g⟩ (.bool (decide (q≤p))):=fun a w e h=>Qk e b c _ D
theorem Xo(b:q≤p)(c:Aj f x=some (.int k p))(e:Aj f y=some (.int k q)):BR P N f F w0 H ⟨some d,.binOp .geq t x y u,ty,pos,An,g⟩ (.bool true):=fun a w h i=>Qk h c e true (decide_eq_true b)
theorem Wp(b:¬(q≤p))(c:Aj f x=some (.int k p))(e:Aj f y=some (.int k q)):BR P N f F w0 H ⟨some d,.binOp .geq t x y u,ty,pos,An,g⟩ (.bool false):=fun a w h i=>Qk h c e false (decide_eq_false b)
theorem Pz(b:Aj f x=some (.int k p))(c:Aj f y=some (.int k q)):BR P N f F w0 H ⟨some d,.binOp .eql t x y u,ty,pos,An,g⟩ (.bool (decide (p=q))):=fun a w e h=>ND e b c _ D
theorem OY(b:p=q)(c:Aj f x=some (.int k p))(e:Aj f y=some (.int k q)):BR P N f F w0 H ⟨some d,.binOp .eql t x y u,ty,pos,An,g⟩ (.bool true):=fun a w h i=>ND h c e true (decide_eq_true b)
theorem M6(b:¬(p=q))(c:Aj f x=some (.int k p))(e:Aj f y=some (.int k q)):BR P N f F w0 H ⟨some d,.binOp .eql t x y u,ty,pos,An,g⟩ (.bool false):=fun a w h i=>ND h c e false (decide_eq_false b)
theorem cJ(b:Aj f x=some (.int k p))(c:Aj f y=some (.int k q)):BR P N f F w0 H ⟨some d,.binOp .neq t x y u,ty,pos,An,g⟩ (.bool (!decide (p=q))):=fun a w e h=>Nr e b c _ D
theorem Hp(b:¬(p=q))(c:Aj f x=some (.int k p))(e:Aj f y=some (.int k q)):BR P N f F w0 H ⟨some d,.binOp .neq t x y u,ty,pos,An,g⟩ (.bool true):=fun a w h i=>Nr h c e true (by rw[decide_eq_false b];rfl)
theorem GY(b:p=q)(c:Aj f x=some (.int k p))(e:Aj f y=some (.int k q)):BR P N f F w0 H ⟨some d,.binOp .neq t x y u,ty,pos,An,g⟩ (.bool false):=fun a w h i=>Nr h c e false (by rw[decide_eq_true b];rfl)
theorem Jd(a:Aj f x=some v)(h:AT N (Jb f d v) F w0 H (wpList P ops Aa rest))(Ad:Nat.blt d N=true:=by exact rfl):AT N f F w0 H (wpList P ops Aa (⟨some d,.move x,ty,pos,An,none⟩::rest)):=Af (AA a) h Ad
theorem Js(a:Aj f x=some v)(h:AT N (Jb f d v) F w0 H (wpList P ops Aa rest))(Ad:Nat.blt d N=true:=by exact rfl):AT N f F w0 H (wpList P ops Aa (⟨some d,.assign x,ty,pos,An,none⟩::rest)):=Af (Ck a) h Ad
theorem By{p:Addr}(a:Aj f x=some (.pointer (some p)))(h:AT N (Jb f d (.pointer (some p))) F w0 H (wpList P ops Aa rest))(Ad:Nat.blt d N=true:=by exact rfl):AT N f F w0 H (wpList P ops Aa (⟨some d,.nilCheck x,ty,pos,An,none⟩::rest)):=Af (Bp a) h Ad
theorem Bc{CV:Array Value}(a:Aj f x=some (.tuple CV))(b:CV[i]? =some v)(h:AT N (Jb f d v) F w0 H (wpList P ops Aa rest))(Ad:Nat.blt d N=true:=by exact rfl):AT N f F w0 H (wpList P ops Aa (⟨some d,.extract x i,ty,pos,An,none⟩::rest)):=Af (El a b) h Ad
theorem JM{c:Operand}(a:Aj f c=some (.bool true))(b:Aj f x=some v)(h:AT N (Jb f d v) F w0 H (wpList P ops Aa rest))(Ad:Nat.blt d N=true:=by exact rfl):AT N f F w0 H (wpList P ops Aa (⟨some d,.pick c x y,ty,pos,An,none⟩::rest)):=Af (D' a b) h Ad
theorem JK{c:Operand}(a:Aj f c=some (.bool false))(b:Aj f y=some v)(h:AT N (Jb f d v) F w0 H (wpList P ops Aa rest))(Ad:Nat.blt d N=true:=by exact rfl):AT N f F w0 H (wpList P ops Aa (⟨some d,.pick c x y,ty,pos,An,none⟩::rest)):=Af (EK a b) h Ad
theorem Cr(a:P.underlying t=some (.slice e)){p:Option Addr}(b:Aj f x=some (.slice p n c))(h:AT N (Jb f d (.int .i64 n)) F w0 H (wpList P ops Aa rest))(Ad:Nat.blt d N=true:=by exact rfl):AT N f F w0 H (wpList P ops Aa (⟨some d,.call {callee:=.builtin .len,args:=#[x],argTypes:=#[t]},ty,pos,An,none⟩::rest)):=Af (R7 a b) h Ad
theorem AG{s:TypeId}{a:Array Field}(hu:P.underlying s=some (.struct a))(o:Nat)(c:Aj f x=some (.pointer (some ⟨b,off,none⟩)))(h:AT N (Jb f d (.pointer (some ⟨b,o,none⟩))) F w0 H (wpList P ops Aa rest)){Ce:Field}(e:a[i]? =some Ce:=by exact rfl)(g:(P.info? Ce.type).any (fun i=>Nat.blt 0 i.size)=true:=by kernel_rfl)(ho:off+Ce.offset=o:=by first|rfl|omega)(Ad:Nat.blt d N=true:=by exact rfl):AT N f F w0 H (wpList P ops Aa (⟨some d,.fieldAddr s x i,ty,pos,An,none⟩::rest)):=Af (AS hu o c e g ho) h Ad
theorem B6{p q:Nat}(a:Aj f x=some (.int .i64 p))(b:Aj f y=some (.int .i64 q))(h:AT N (Jb f d (.int .i64 ((p+q:Nat):Int))) F w0 H (wpList P ops Aa rest))(J:p+q≤9223372036854775807:=by omega)(Ad:Nat.blt d N=true:=by exact rfl):AT N f F w0 H (wpList P ops Aa (⟨some d,.binOp .add t x y u,ty,pos,An,none⟩::rest)):=Af (Pc a b J) h Ad
theorem Es{p q:Nat}(a:Aj f x=some (.int .i64 p))(b:Aj f y=some (.int .i64 q))(h:AT N (Jb f d (.int .i64 ((p - q:Nat):Int))) F w0 H (wpList P ops Aa rest))(hr:p=q+(p - q):=by omega)(J:p≤9223372036854775807:=by omega)(Ad:Nat.blt d N=true:=by exact rfl):AT N f F w0 H (wpList P ops Aa (⟨some d,.binOp .sub t x y u,ty,pos,An,none⟩::rest)):=Af (HS a b hr J) h Ad
theorem Ej(a:Aj f x=some (.int k p))(b:Aj f y=some (.int k q))(h:AT N (Jb f d (.bool (decide (p<q)))) F w0 H (wpList P ops Aa rest))(Ad:Nat.blt d N=true:=by exact rfl):AT N f F w0 H (wpList P ops Aa (⟨some d,.binOp .lss t x y u,ty,pos,An,none⟩::rest)):=Af (Rn a b) h Ad
theorem IS(a:p<q)(b:Aj f x=some (.int k p))(c:Aj f y=some (.int k q))(h:AT N (Jb f d (.bool true)) F w0 H (wpList P ops Aa rest))(Ad:Nat.blt d N=true:=by exact rfl):AT N f F w0 H (wpList P ops Aa (⟨some d,.binOp .lss t x y u,ty,pos,An,none⟩::rest)):=Af (dD a b c) h Ad
theorem ET(a:¬(p<q))(b:Aj f x=some (.int k p))(c:Aj f y=some (.int k q))(h:AT N (Jb f d (.bool false)) F w0 H (wpList P ops Aa rest))(Ad:Nat.blt d N=true:=by exact rfl):AT N f F w0 H (wpList P ops Aa (⟨some d,.binOp .lss t x y u,ty,pos,An,none⟩::rest)):=Af (dj a b c) h Ad
theorem fS(a:Aj f x=some (.int k p))(b:Aj f y=some (.int k q))(h:AT N (Jb f d (.bool (decide (p≤q)))) F w0 H (wpList P ops Aa rest))(Ad:Nat.blt d N=true:=by exact rfl):AT N f F w0 H (wpList P ops Aa (⟨some d,.binOp .leq t x y u,ty,pos,An,none⟩::rest)):=Af (e5 a b) h Ad
theorem d_(a:p≤q)(b:Aj f x=some (.int k p))(c:Aj f y=some (.int k q))(h:AT N (Jb f d (.bool true)) F w0 H (wpList P ops Aa rest))(Ad:Nat.blt d N=true:=by exact rfl):AT N f F w0 H (wpList P ops Aa (⟨some d,.binOp .leq t x y u,ty,pos,An,none⟩::rest)):=Af (bu a b c) h Ad
theorem bY(a:¬(p≤q))(b:Aj f x=some (.int k p))(c:Aj f y=some (.int k q))(h:AT N (Jb f d (.bool false)) F w0 H (wpList P ops Aa rest))(Ad:Nat.blt d N=true:=by exact rfl):AT N f F w0 H (wpList P ops Aa (⟨some d,.binOp .leq t x y u,ty,pos,An,none⟩::rest)):=Af (eF a b c) h Ad
theorem Mp(a:Aj f x=some (.int k p))(b:Aj f y=some (.int k q))(h:AT N (Jb f d (.bool (decide (q<p)))) F w0 H (wpList P ops Aa rest))(Ad:Nat.blt d N=true:=by exact rfl):AT N f F w0 H (wpList P ops Aa (⟨some d,.binOp .gtr t x y u,ty,pos,An,none⟩::rest)):=Af (aR a b) h Ad
theorem QD(a:q<p)(b:Aj f x=some (.int k p))(c:Aj f y=some (.int k q))(h:AT N (Jb f d (.bool true)) F w0 H (wpList P ops Aa rest))(Ad:Nat.blt d N=true:=by exact rfl):AT N f F w0 H (wpList P ops Aa (⟨some d,.binOp .gtr t x y u,ty,pos,An,none⟩::rest)):=Af (YD a b c) h Ad
theorem HF(a:¬(q<p))(b:Aj f x=some (.int k p))(c:Aj f y=some (.int k q))(h:AT N (Jb f d (.bool false)) F w0 H (wpList P ops Aa rest))(Ad:Nat.blt d N=true:=by exact rfl):AT N f F w0 H (wpList P ops Aa (⟨some d,.binOp .gtr t x y u,ty,pos,An,none⟩::rest)):=Af (LG a b c) h Ad
theorem dE(a:Aj f x=some (.int k p))(b:Aj f y=some (.int k q))(h:AT N (Jb f d (.bool (decide (q≤p)))) F w0 H (wpList P ops Aa rest))(Ad:Nat.blt d N=true:=by exact rfl):AT N f F w0 H (wpList P ops Aa (⟨some d,.binOp .geq t x y u,ty,pos,An,none⟩::rest)):=Af (ZH a b) h Ad
theorem TK(a:q≤p)(b:Aj f x=some (.int k p))(c:Aj f y=some (.int k q))(h:AT N (Jb f d (.bool true)) F w0 H (wpList P ops Aa rest))(Ad:Nat.blt d N=true:=by exact rfl):AT N f F w0 H (wpList P ops Aa (⟨some d,.binOp .geq t x y u,ty,pos,An,none⟩::rest)):=Af (Xo a b c) h Ad
theorem NB(a:¬(q≤p))(b:Aj f x=some (.int k p))(c:Aj f y=some (.int k q))(h:AT N (Jb f d (.bool false)) F w0 H (wpList P ops Aa rest))(Ad:Nat.blt d N=true:=by exact rfl):AT N f F w0 H (wpList P ops Aa (⟨some d,.binOp .geq t x y u,ty,pos,An,none⟩::rest)):=Af (Wp a b c) h Ad
theorem E2(a:Aj f x=some (.int k p))(b:Aj f y=some (.int k q))(h:AT N (Jb f d (.bool (decide (p=q)))) F w0 H (wpList P ops Aa rest))(Ad:Nat.blt d N=true:=by exact rfl):AT N f F w0 H (wpList P ops Aa (⟨some d,.binOp .eql t x y u,ty,pos,An,none⟩::rest)):=Af (Pz a b) h Ad
theorem EU(a:p=q)(b:Aj f x=some (.int k p))(c:Aj f y=some (.int k q))(h:AT N (Jb f d (.bool true)) F w0 H (wpList P ops Aa rest))(Ad:Nat.blt d N=true:=by exact rfl):AT N f F w0 H (wpList P ops Aa (⟨some d,.binOp .eql t x y u,ty,pos,An,none⟩::rest)):=Af (OY a b c) h Ad
theorem Gi(a:¬(p=q))(b:Aj f x=some (.int k p))(c:Aj f y=some (.int k q))(h:AT N (Jb f d (.bool false)) F w0 H (wpList P ops Aa rest))(Ad:Nat.blt d N=true:=by exact rfl):AT N f F w0 H (wpList P ops Aa (⟨some d,.binOp .eql t x y u,ty,pos,An,none⟩::rest)):=Af (M6 a b c) h Ad
theorem JU(a:Aj f x=some (.int k p))(b:Aj f y=some (.int k q))(h:AT N (Jb f d (.bool (!decide (p=q)))) F w0 H (wpList P ops Aa rest))(Ad:Nat.blt d N=true:=by exact rfl):AT N f F w0 H (wpList P ops Aa (⟨some d,.binOp .neq t x y u,ty,pos,An,none⟩::rest)):=Af (cJ a b) h Ad
theorem Ix(a:¬(p=q))(b:Aj f x=some (.int k p))(c:Aj f y=some (.int k q))(h:AT N (Jb f d (.bool true)) F w0 H (wpList P ops Aa rest))(Ad:Nat.blt d N=true:=by exact rfl):AT N f F w0 H (wpList P ops Aa (⟨some d,.binOp .neq t x y u,ty,pos,An,none⟩::rest)):=Af (Hp a b c) h Ad
theorem Ci(a:p=q)(b:Aj f x=some (.int k p))(c:Aj f y=some (.int k q))(h:AT N (Jb f d (.bool false)) F w0 H (wpList P ops Aa rest))(Ad:Nat.blt d N=true:=by exact rfl):AT N f F w0 H (wpList P ops Aa (⟨some d,.binOp .neq t x y u,ty,pos,An,none⟩::rest)):=Af (GY a b c) h Ad
theorem GV(b:Aj f x=some (.int k p))(c:Aj f y=some (.int k q))(h1:p<q→AT N (Jb f d (.bool true)) F w0 H (wpList P ops Aa rest))(e:¬(p<q)→AT N (Jb f d (.bool false)) F w0 H (wpList P ops Aa rest))(Ad:Nat.blt d N=true:=by exact rfl):AT N f F w0 H (wpList P ops Aa (⟨some d,.binOp .lss t x y u,ty,pos,An,none⟩::rest)):=by
 by_cases a:p<q
 ·exact IS a b c (h1 a) Ad
 ·exact ET a b c (e a) Ad
theorem L6(b:Aj f x=some (.int k p))(c:Aj f y=some (.int k q))(h1:p≤q→AT N (Jb f d (.bool true)) F w0 H (wpList P ops Aa rest))(e:¬(p≤q)→AT N (Jb f d (.bool false)) F w0 H (wpList P ops Aa rest))(Ad:Nat.blt d N=true:=by exact rfl):AT N f F w0 H (wpList P ops Aa (⟨some d,.binOp .leq t x y u,ty,pos,An,none⟩::rest)):=by
 by_cases a:p≤q
 ·exact d_ a b c (h1 a) Ad
 ·exact bY a b c (e a) Ad
theorem Kl(b:Aj f x=some (.int k p))(c:Aj f y=some (.int k q))(h1:q<p→AT N (Jb f d (.bool true)) F w0 H (wpList P ops Aa rest))(e:¬(q<p)→AT N (Jb f d (.bool false)) F w0 H (wpList P ops Aa rest))(Ad:Nat.blt d N=true:=by exact rfl):AT N f F w0 H (wpList P ops Aa (⟨some d,.binOp .gtr t x y u,ty,pos,An,none⟩::rest)):=by
 by_cases a:q<p
 ·exact QD a b c (h1 a) Ad
 ·exact HF a b c (e a) Ad
theorem Pm(b:Aj f x=some (.int k p))(c:Aj f y=some (.int k q))(h1:q≤p→AT N (Jb f d (.bool true)) F w0 H (wpList P ops Aa rest))(e:¬(q≤p)→AT N (Jb f d (.bool false)) F w0 H (wpList P ops Aa rest))(Ad:Nat.blt d N=true:=by exact rfl):AT N f F w0 H (wpList P ops Aa (⟨some d,.binOp .geq t x y u,ty,pos,An,none⟩::rest)):=by
 by_cases a:q≤p
 ·exact TK a b c (h1 a) Ad
 ·exact NB a b c (e a) Ad
theorem Gx(b:Aj f x=some (.int k p))(c:Aj f y=some (.int k q))(h1:p=q→AT N (Jb f d (.bool true)) F w0 H (wpList P ops Aa rest))(e:¬(p=q)→AT N (Jb f d (.bool false)) F w0 H (wpList P ops Aa rest))(Ad:Nat.blt d N=true:=by exact rfl):AT N f F w0 H (wpList P ops Aa (⟨some d,.binOp .eql t x y u,ty,pos,An,none⟩::rest)):=by
 by_cases a:p=q
 ·exact EU a b c (h1 a) Ad
 ·exact Gi a b c (e a) Ad
theorem Li(b:Aj f x=some (.int k p))(c:Aj f y=some (.int k q))(h1:p=q→AT N (Jb f d (.bool false)) F w0 H (wpList P ops Aa rest))(e:¬(p=q)→AT N (Jb f d (.bool true)) F w0 H (wpList P ops Aa rest))(Ad:Nat.blt d N=true:=by exact rfl):AT N f F w0 H (wpList P ops Aa (⟨some d,.binOp .neq t x y u,ty,pos,An,none⟩::rest)):=by
 by_cases a:p=q
 ·exact Ci a b c (h1 a) Ad
 ·exact Ix a b c (e a) Ad
theorem Bb(hu:P.underlying T=some BB)(i j:Nat)(V:H[i]? =some (O b ss tb))(c:ss[j]? =some [v])(h:Aj f x=some (.pointer (some ⟨b,off,none⟩)))(h1:ss.take j=pre:=by exact Jr){p:Nat}(s1:pre.flatten.length=p:=by exact Jp)(ho:p=off:=by first|rfl|omega)(hr:BB.isRow=false:=by exact rfl):BR P N f F w0 H ⟨some d,.load T x,ty,pos,An,g⟩ v:=fun a w k m=>by
 subst h1;refine IV k h hu hr (ss.take j) v (ss.drop (j+1)) (tb:=tb) (fr:=(0,0)) ?_ (s1.trans ho);rw[m.Dq i V];obtain⟨l,e⟩:=EH.1 c;rw[←e,C9,j3,←Xy,td]
theorem AZ(hu:P.underlying T=some BB)(i j:Nat)(V:H[i]? =some (O b ss tb))(a:ss[j]? =some [v])(c:Aj f x=some (.pointer (some ⟨b,off,none⟩)))(h:AT N (Jb f d v) F w0 H (wpList P ops Aa rest))(h1:ss.take j=pre:=by exact Jr){p:Nat}(s1:pre.flatten.length=p:=by exact Jp)(ho:p=off:=by first|rfl|omega)(hr:BB.isRow=false:=by exact rfl)(Ad:Nat.blt d N=true:=by exact rfl):AT N f F w0 H (wpList P ops Aa (⟨some d,.load T x,ty,pos,An,none⟩::rest)):=Af (Bb hu i j V a c h1 s1 ho hr) h Ad
theorem DH(hu:P.underlying T=some BB)(i j m:Nat)(mid:List (List Value))(V:H[i]? =some (O b ss tb))(c:Aj f x=some (.pointer (some ⟨b,off,none⟩)))(h1:ss.take j=pre:=by exact Jr)(e:(ss.drop j).take m=mid:=by exact Jr)(h:ss.drop (j+m)=post:=by exact rfl){p:Nat}(s1:pre.flatten.length=p:=by exact Jp)(s2:mid.flatten.length=n:=by exact Jp)(ho:p=off:=by first|rfl|omega)(k:(P.info? T).map (·.size)=some n:=by kernel_rfl)(hr:BB.isRow=true:=by exact rfl):BR P N f F w0 H ⟨some d,.load T x,ty,pos,An,g⟩ (.agg (flat mid)):=fun a w l o=>by
 refine MY l c hu hr pre mid post (tb:=tb) (fr:=(0,0)) ?_ (s1.trans ho) (by rw[k,s2]);rw[o.Dq i V,show ss=pre++mid++post from by rw[←h1,←e,←h,←tB,C9,td,td]]
theorem BN(hu:P.underlying T=some BB)(i:Nat)(V:H[i]? =some (O b ss tb))(c:Aj f x=some (.pointer (some ⟨b,0,none⟩)))(s1:ss.flatten.length=n:=by exact Jp)(e:(P.info? T).map (·.size)=some n:=by kernel_rfl)(hr:BB.isRow=true:=by exact rfl):BR P N f F w0 H ⟨some d,.load T x,ty,pos,An,g⟩ (.agg (flat ss)):=fun a w h j=>by
 refine MY h c hu hr [] ss [] (tb:=tb) (fr:=(0,0)) ?_ D (by rw[e,s1]);rw[j.Dq i V,Hg,Ha]
theorem Bx(a:View w0 v n size xs):∀w,Sat C1 w0 H w→View w v n size xs:=fun w b=>Ws a b
theorem BZ{e:Nat}(i:Nat)(V:H[i]? =some (Ae e size v n xs):=by exact rfl):∀w,Sat F w0 H w→View w v n size xs:=fun w a=>View.own (a.rw i V)
theorem Dj{z:Value}(b:CO P t e size bytes z)(j k:Nat){p:Option Addr}(h:∀w,Sat F w0 H w→View w (.slice p n c) n size xs){BI:Operand}{i:IntKind}{i0:Int}(l:Aj f x=some (.slice p n c))(m:Aj f BI=some (.int i i0))(hj:i0=j:=by omega)(o:j<n:=by omega)(ho:j*size=k:=by first|rfl|omega):BR P N f F w0 H ⟨some d,.indexAddr t x BI,ty,pos,An,g⟩ (Hn p k):=fun a w q r=>
 Gu q b (l.trans (by rw[←Qs (h w r)])) m j hj o (by rw[ho])
theorem Fj(hu:P.underlying T=some BB)(j:Nat){k:Nat}{p:Option Addr}{l:rG}(e:∀w,Sat F w0 H w→View w (.slice p n c) n 1 (bv l))(h:Aj f x=some (Hn p k))(hj:j<n:=by omega)(ho:j*1=k:=by first|rfl|omega)(hr:BB.isRow=false:=by exact rfl):BR P N f F w0 H ⟨some d,.load T x,ty,pos,An,g⟩ (.int .u8 ((l.getD j 0).toNat:Nat)):=fun a w i m=>by
 have b:=e w m;rw[Qs b]at b;exact Ei i h hu hr (GH b j hj (by rw[ho]))
theorem Q8(hu:P.underlying T=some BB){enc:Bo→List Value}(hl:∀x,(enc x).length=size)(j q:Nat){k:Nat}{p:Option Addr}{L:List Bo}{y:Bo}(i:L[j]? =some y)(r:∀w,Sat F w0 H w→View w (.slice p n c) n size (Aq enc L))(s:Aj f x=some (Hn p k))(he:enc y=ss.flatten)(t:ss[q]? =some [v])(h1:ss.take q=pre:=by exact Jr)(s1:pre.flatten.length=m:=by exact Jp)(hj:j<n:=by omega)(ho:j*size+m=k:=by first|rfl|omega)(hr:BB.isRow=false:=by exact rfl):BR P N f F w0 H ⟨some d,.load T x,ty,pos,An,g⟩ v:=fun a w u z=>by
 subst h1;have b:=r w z;rw[Qs b]at b;have h:=QC hl b i D;rw[he]at h;refine Ei u s hu hr (ei (ss.take q) v (ss.drop (q+1)) (o:=RX p+j*size) ?_ s1 JY);obtain⟨l,e⟩:=EH.1 t;rw[←e,C9,j3,←Xy,td];exact h
theorem J1(hu:P.underlying T=some BB){enc:Bo→List Value}(hl:∀x,(enc x).length=1)(j:Nat){k:Nat}{p:Option Addr}{L:List Bo}{y:Bo}(a:L[j]? =some y)(b:∀w,Sat F w0 H w→View w (.slice p n c) n 1 (Aq enc L))(e:Aj f x=some (Hn p k))(he:enc y=[v])(hj:j<n:=by omega)(ho:j*1+0=k:=by first|rfl|omega)(hr:BB.isRow=false:=by exact rfl):BR P N f F w0 H ⟨some d,.load T x,ty,pos,An,g⟩ v:=Q8 hu hl j 0 a b e (ss:=[[v]]) he D (h1:=D) (s1:=D) (hj:=hj) (ho:=ho) (hr:=hr)
theorem LH(hu:P.underlying T=some BB){enc:Bo→List Value}(hl:∀x,(enc x).length=size)(j q m:Nat)(mid:List (List Value)){k:Nat}{p:Option Addr}{L:List Bo}{y:Bo}(h:L[j]? =some y)(i:∀w,Sat F w0 H w→View w (.slice p n c) n size (Aq enc L))(l:Aj f x=some (Hn p k))(he:enc y=ss.flatten)(h1:ss.take q=pre:=by exact Jr)(o:(ss.drop q).take m=mid:=by exact Jr)(t:ss.drop (q+m)=post:=by exact rfl){r s:Nat}(s1:pre.flatten.length=r:=by exact Jp)(s2:mid.flatten.length=s:=by exact Jp)(hj:j<n:=by omega)(ho:j*size+r=k:=by first|rfl|omega)(u:(P.info? T).map (·.size)=some s:=by kernel_rfl)(hr:BB.isRow=true:=by exact rfl):BR P N f F w0 H ⟨some d,.load T x,ty,pos,An,g⟩ (.agg (flat mid)):=fun a w v z=>by
 have b:=i w z;rw[Qs b]at b;have e:=QC hl b h D;rw[he,show ss=pre++mid++post from by rw[←h1,←o,←t,←tB,C9,td,td]]at e;exact Wg v l hu hr (Q0 pre mid post e s1 JY) (by rw[u,s2])
theorem Cv(c:Aj f x=some (.agg (flat ss)))(h:∀b,AT N (Jb f d (S b)) F w0 (O b ss T::H) A5)(Ad:Nat.blt d N=true:=by exact rfl):D3 P ⟨some d,.box T x,ty,pos,An,g⟩ Aa N f F w0 H A5:=
 fun a w i j=>Sm i Ad c (ss:=ss) D (fun l b W h1 m p n o=>h b l W m (j.new o n (fun k e=>by cases e;omega)))
theorem SL(ss:List (List Value))(c:Aj f x=some v)(i:v.cells=flat ss)(h:∀b,AT N (Jb f d (S b)) F w0 (O b ss T::H) A5)(Ad:Nat.blt d N=true:=by exact rfl):D3 P ⟨some d,.box T x,ty,pos,An,g⟩ Aa N f F w0 H A5:=
 fun a w j l=>Sm j Ad c i (fun m b W h1 n q o p=>h b m W n (l.new p o (fun k e=>by cases e;omega)))
theorem Bw(ss:List (List Value))(h:∀b,AT N (Jb f d (S b)) F w0 (O b ss T::H) A5)(c:(P.info? T).map (·.zero)=some (some (.agg (flat ss))):=by kernel_rfl)(Ad:Nat.blt d N=true:=by exact rfl):D3 P ⟨some d,.alloc T,ty,pos,An,g⟩ Aa N f F w0 H A5:=
 fun a w i j=>Rk i Ad c (ss:=ss) D (fun l b W h1 m p n o=>h b l W m (j.new o n (fun k e=>by cases e;omega)))
theorem NI(z:Value)(ss:List (List Value))(c:z.cells=flat ss)(h:∀b,AT N (Jb f d (S b)) F w0 (O b ss T::H) A5)(i:(P.info? T).map (·.zero)=some (some z):=by kernel_rfl)(Ad:Nat.blt d N=true:=by exact rfl):D3 P ⟨some d,.alloc T,ty,pos,An,g⟩ Aa N f F w0 H A5:=
 fun a w j l=>Rk j Ad i c (fun m b W h1 n q o p=>h b m W n (l.new p o (fun k e=>by cases e;omega)))
theorem Bk(i j m:Nat){mid sU:List (List Value)}(V:H[i]? =some (O b ss tb))(o:Aj f x=some (.pointer (some ⟨b,off,none⟩)))(s:Aj f y=some (.agg (flat sU)))(h:AT N f F w0 (H.set i (O b (pre++sU++post) tb)) A5)
 (h1:ss.take j=pre:=by exact Jr)(l:(ss.drop j).take m=mid:=by exact Jr)(c:ss.drop (j+m)=post:=by exact Jr){p q r:Nat}(s1:Jo pre p:=by exact JF)(s2:Jo mid q:=by exact JF)(d:Jo sU r:=by exact JF)(ho:p=off:=by first|rfl|omega)(hm:q=r:=by exact rfl)(t:(P.info? T).map (·.size)=some r:=by kernel_rfl):D3 P ⟨none,.store T x y,ty,pos,An,g⟩ Aa N f F w0 H A5:=
 fun a w u n=>Ru u o pre mid post sU (by rw[n.Dq i V,show ss=pre++mid++post from by rw[←h1,←l,←c,←tB,C9,td,td]]) s (s1.len.trans ho) ((s2.len.trans hm).trans d.len.symm) (by rw[t,d.len]) d.one (fun v W h1 l c z=>h v W h1 (n.set i V (C7.grown z) c (fun k e=>.inl e)))
theorem Cq(i j:Nat){DB:Value}(V:H[i]? =some (O b ss tb))(m:Aj f x=some (.pointer (some ⟨b,off,none⟩)))(n:Aj f y=some v)(h:AT N f F w0 (H.set i (O b (pre++[[v]]++post) tb)) A5)
 (h1:ss.take j=pre:=by exact Jr)(d:(ss.drop j).take 1=[[DB]]:=by exact Jr)(c:ss.drop (j+1)=post:=by exact Jr){p:Nat}(s1:pre.flatten.length=p:=by exact Jp)(ho:p=off:=by first|rfl|omega)(o:v.oneCell'=true:=by exact rfl)(q:(P.info? T).map (·.size)=some 1:=by kernel_rfl):D3 P ⟨none,.store T x y,ty,pos,An,g⟩ Aa N f F w0 H A5:=
 fun a w r l=>Vf r m pre DB post (by rw[l.Dq i V,show ss=pre++[[DB]]++post from by rw[←h1,←d,←c,←tB,C9,td,td]]) n o (s1.trans ho) q (fun s W h1 d c t=>h s W h1 (l.set i V (C7.grown t) c (fun k e=>.inl e)))
theorem Ey{z:Value}(b:CO P t e size bytes z)(xs:List Value)(c:Aj f x=some v)(i:v.cells.toList=xs)(j:v.cells.size=size)(h:∀p,AT N (Jb f d (I p 1 1)) F w0 (Ae e size (I p 1 1) 1 xs::H) A5)(l:Nat.ble size 16777216=true:=by exact rfl)(Ad:Nat.blt d N=true:=by exact rfl):D3 P ⟨some d,.buildSlice t 1 #[(0,x)],ty,pos,An,g⟩ Aa N f F w0 H A5:=
 fun a w m n=>aU m Ad b c D j (ZG l) w.heap.size (Br _) (fun o p W h1 u q r s=>h p o W h1 (n.new s (by rw[←i];exact Ew q (F2 _)) (fun k e=>r k e)))
theorem RY(e:TypeId){c:Array (Nat×Operand)}(BH:List (Nat×Value))(cs:List Value)(j:c.toList.map (fun p=>(p.1,Aj f p.2))=BH.map (fun p=>(p.1,some p.2)))(h:∀p,AT N (Jb f d (I p n n)) F w0 (Ae e 1 (I p n n) n cs::H) A5)(b:cs.length=n:=by exact rfl)(hm:n≤maxLen:=by unfold maxLen;omega)(hr:∀w,(Instr.buildSlice t n BH.toArray).run P w=.ok (.slice (some ⟨w.heap.size,0,none⟩) n n) (w.alloc (.cells cs.toArray e)):=by intro w;kernel_rfl)(Ad:Nat.blt d N=true:=by exact rfl):D3 P ⟨some d,.buildSlice t n c,ty,pos,An,g⟩ Aa N f F w0 H A5:=
 fun a w i l=>F8 (v:=.slice (some ⟨w.heap.size,0,none⟩) n n) (w':=w.alloc (.cells cs.toArray e)) i Ad (by simp only[execOp,hP i j,Sem.run_bind,hr w,Result.andThen_ok,Sem.run_pure]) (fun m o=>
  h _ m _ o (l.new ((Cn _ _).alloc (Br _) _) ⟨by simpa using b,.inr ⟨w.heap.size,n,cs.toArray,D,F2 _,heap_alloc_new w _,Br _,hm,by simpa using b,by rw[DV (by simp[b])]⟩⟩ (fun k e=>by cases e;exact Br _)))
theorem DI{z:Value}(j:CO P t e size bytes z)(i:Nat){s:Operand}{y:Value}{k:Nat}(zs:List Value)(V:H[i]? =some (Ae e size v n xs))(l:Aj f s=some v)(o:Aj f x=some y)(q:∀w,Sat F w0 H w→View w y m size CP)(h1:∀u∈CP,u.oneCell'=true)(r:xs++CP.take (m*size)=zs)(A:n+m=k)
 (h:∀p c,AT N (Jb f d (I p k c)) F w0 (H.set i (Ae e size (I p k c) k zs)) A5)(B:n+m≤maxLen:=by unfold maxLen;omega)(C:(n+m)*bytes≤140737488355328:=by omega)(Ad:Nat.blt d N=true:=by exact rfl):D3 P ⟨some d,.call {callee:=.builtin .append,args:=#[s,x],argTypes:=#[t,t]},ty,pos,An,g⟩ Aa N f F w0 H A5:=
 fun a w D b=>Xx D Ad j 0 l o (b.rw i V) (q w b) h1 B C (F2 _) A r (fun E p c W G J BO=>h p c E W G (b.set i V (C7.Ny BO) J (fun k e=>BO.at_ k e)))
theorem Ba{Cf:FuncId}(c:P.funcs[Cf]? =some fn){xs:List Operand}{sU:Array TypeId}{l:List Value}(i:GX f xs=some l){T:World→Ending→World→Prop}(j:∀w,Sat F w0 H w→Calls P Cf l.toArray w (T w))(h:∀w e W,Sat F w0 H w→T w e W→∃v H',e=.returned v∧Sat F w0 H' W∧AT N (Jb f d v) F w0 H' A5)
 (k:(fn.name== "runtime.NumGoroutine")=false:=by kernel_rfl)(J:fn.body.isNone=false:=by kernel_rfl)(Ad:Nat.blt d N=true:=by exact rfl):D3 P ⟨some d,.call {callee:=.value (.func Cf),args:=xs.toArray,argTypes:=sU},ty,pos,An,g⟩ Aa N f F w0 H A5:=
 fun a w m b=>Rj m Ad c k J (args:=l.toArray) (by simpa using Nf i) (j w b) (fun e W q=>by
  obtain⟨v,H',n,o,h1⟩:=h w e W b q;exact⟨v,n,fun p r=>h1 p W r o⟩)
theorem Nd{s:TypeId}{b:Array Field}(hu:P.underlying s=some (.struct b))(k':Nat){p:Option Addr}{k:Nat}(c:Aj f x=some (Hn p k)){Ce:Field}(e:b[i]? =some Ce:=by exact rfl)(h:(P.info? Ce.type).any (fun i=>Nat.blt 0 i.size)=true:=by kernel_rfl)(ho:k+Ce.offset=k':=by first|rfl|omega):BR P N f F w0 H ⟨some d,.fieldAddr s x i,ty,pos,An,g⟩ (Hn p k'):=fun a w j l=>P9 j c hu e h (by rw[e8,ho])
theorem D9(c:P.underlying t=some (.array n e))(size j o:Nat){BI:Operand}{i:Int}(h:Aj f x=some (.pointer (some ⟨b,off,none⟩)))(V:Aj f BI=some (.int k i))(l:(P.info? e).map (·.size)=some size:=by kernel_rfl)(hj:i=j:=by omega)(m:j<n:=by omega)(ho:off+j*size=o:=by first|rfl|omega):BR P N f F w0 H ⟨some d,.indexAddr t x BI,ty,pos,An,g⟩ (.pointer (some ⟨b,o,none⟩)):=fun a w p q=>Hl p c l h V j hj m ho
theorem K3(hu:P.underlying T=some BB)(i q j:Nat){l:rG}(V:H[i]? =some (O b ss tb))(c:ss[q]? =some (bv l))(k:Aj f x=some (.pointer (some ⟨b,off,none⟩)))(h1:ss.take q=pre:=by exact Jr){p:Nat}(s1:pre.flatten.length=p:=by exact Jp)(hl:l.length=m:=by first|exact Jc.h _|exact Ji.h _|exact He|assumption)(hj:j<m:=by omega)(ho:p+j=off:=by first|rfl|omega)(hr:BB.isRow=false:=by exact rfl):BR P N f F w0 H ⟨some d,.load T x,ty,pos,An,g⟩ (.int .u8 ((l.getD j 0).toNat:Nat)):=fun a w n r=>by
 subst h1;refine Ei n k hu hr (dS (ss.take q) l (ss.drop (q+1)) (o:=0) ?_ s1 hl hj JY);obtain⟨z,e⟩:=EH.1 c;rw[←e,C9,j3,←Xy,td];exact H4 (r.Dq i V)
theorem eQ(i q j:Nat)(u:UInt8){c:Jc}(V:H[i]? =some (O b ss tb))(o:Aj f x=some (.pointer (some ⟨b,off,none⟩)))(r:Aj f y=some (.int .u8 ((u.toNat:Nat):Int)))(h:∀Bd:Jc,Bd.l=c.l.set j u→AT N f F w0 (H.set i (O b (pre++[bv Bd.l]++post) tb)) A5)
 (h1:ss.take q=pre:=by exact Jr)(m:(ss.drop q).take 1=[bv c.l]:=by exact Jr)(d:ss.drop (q+1)=post:=by exact Jr){p:Nat}(s1:pre.flatten.length=p:=by exact Jp)(hj:j<32:=by omega)(ho:p+j=off:=by first|rfl|omega)(s:(P.info? T).map (·.size)=some 1:=by kernel_rfl):D3 P ⟨none,.store T x y,ty,pos,An,g⟩ Aa N f F w0 H A5:=
 fun a w t n=>hR t o pre post (by rw[n.Dq i V,show ss=pre++[bv c.l]++post from by rw[←h1,←m,←d,←tB,C9,td,td]]) s1 c.h hj ho r s (fun v W h1 m d z=>h ⟨c.l.set j u,by rw[Kh];exact c.h⟩ D v W h1 (n.set i V (C7.grown z) d (fun k e=>.inl e)))
theorem Kz{BO:Prop}{L:List Bo}(hl:L.length=n)(j:Nat)(h:∀x,L[j]? =some x→BO)(hj:j<n:=by omega):BO:=by
 obtain⟨x,a⟩:=getD_some hl hj;exact h x a
theorem cF{enc:Bo→List Value}(he:∀x,(enc x).length=size)(i:Nat){L:List Bo}(h:L.length=n→AT N f F w0 H A5)(V:H[i]? =some (Ae e size v n (Aq enc L)):=by exact rfl)(a:0<size:=by decide):AT N f F w0 H A5:=iD (fun w b=>I3 he a (b.rw i V)) h
theorem Vh{enc:Bo→List Value}(he:∀x,(enc x).length=size)(i j:Nat){L:List Bo}(h:∀x,L[j]? =some x→AT N f F w0 H A5)(V:H[i]? =some (Ae e size v n (Aq enc L)):=by exact rfl)(hj:j<n:=by omega)(a:0<size:=by decide):AT N f F w0 H A5:=cF he i (fun hl=>Kz hl j h hj) V a
theorem Dr(e:TypeId)(size:Nat)(xs:List Value)(h:AT N f F w0 (Ae e size (.slice none 0 0) 0 xs::H) A5)(b:xs=[]:=by exact rfl):AT N f F w0 H A5:=fun a w c d=>by
 subst b;exact h a w c (d.nil e size)
theorem EL{l l' a:rG}(hl:l'.length=m)(e:l++l'=a:=by exact rfl):bv l++(bv l').take (m*1)=bv a:=by
 rw[Q6,DV (by rw[DG];exact Mk hl),←e];exact(Mu _ _).symm
theorem H0{enc:Bo→List Value}(he:∀x,(enc x).length=size){L a b:List Bo}(hl:a.length=m)(e:L++a=b:=by exact rfl):Aq enc L++(Aq enc a).take (m*size)=Aq enc b:=by
 rw[DV (by rw[LK he,hl];exact Br _),←e,Py]
theorem Sat.eG{e:Nat}{w:World}(h:Sat (A6 [Ae e size v n xs]) w0 H w):D0 w0 w v v:=⟨⟨h.GA.os,h.GA.tape,h.GA.output,h.GA.size,fun k a b=>h.GA.block k a (fun q=>b (NA q).symm)⟩,fun k a=>.inl a⟩
theorem Ls.z{a:Value}{q:Option Addr}{e sz:Nat}(h:Ls w0 a q n c size xs)(hF:A6 [Ae e sz a m CP]=F):∀w,Sat F w0 H w→View w (.slice q n c) n size xs:=fun w b=>by
 subst hF;exact h.below b.eG
theorem gB{w:World}{q:Option Addr}(h:View w (.slice q n c) n size xs):∀a,q=some a→a.block<w.heap.size:=by
 intro a d
 rcases h.2 with⟨z,_⟩|⟨b,off,cap,e,h1,f,g,J,i⟩
 ·rw[d]at z;cases z
 ·rw[d]at e;cases e;exact J
theorem Sat.gQ{e s:Nat}{q:Option Addr}{w:World}(h:Sat C1 w0 H w)(i:Nat)(b:View w0 (.slice q n c) n size xs)(V:H[i]? =some (Ae e s v m CP):=by exact rfl):Ls w v q n c size xs:=⟨Ws b h,fun k d a f e=>by
 have h1:=gB b a f;have g:=(h.u4 i _ V k d).resolve_left id;omega⟩
theorem Sat.Q5{e s d b:Nat}{q:Option Addr}{w:World}(h:Sat F w0 H w)(i j:Nat)(V:H[i]? =some (Ae e s v m CP):=by exact rfl)(hj:H[j]? =some (Ae d b (.slice q n c) n xs):=by exact rfl)(f:i≠j:=by decide):Ls w v q n c b xs:=⟨View.own (h.rw j hj),fun k l a o e=>h.u_ i j _ _ f V hj k l (by
 have h1:=h.rw j hj;subst o
 rcases h1.2 with⟨z,_⟩|⟨g,cap,cur,z,_⟩
 ·cases z
 ·cases z;exact congrArg some e)⟩
theorem Tf(i:Nat)(xs b:List Value)(q:xs=b){e:Nat}(h:AT N f F w0 (H.set i (Ae e size v n b)) A5)(V:H[i]? =some (Ae e size v n xs):=by exact rfl):AT N f F w0 H A5:=fun a w c d=>h a w c (by
 subst q;rw[show H.set i (Ae e size v n xs)=H from Q2 (fun j=>by
  rw[jz];split
  ·rename_i z;subst z;rw[V];split
   ·rfl
   ·rename_i z;exact absurd (EH.1 V).1 z
  ·rfl)]
 exact d)
end
