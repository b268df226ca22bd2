/- Laws and walks on the road to SalvagePlays (part M04). No conditions beyond each law's own. -/
import Derived.Maps.Own
import Derived.Maps.OwnSet
import Derived.Maps.Views
import Derived.Test.YtjdboncaegphmaaGreatDoorM03
set_option linter.unusedVariables false
namespace Go.Proofs.YtjdboncaegphmaaGreatDoor
open Go.RowKit
set_option maxRecDepth 100000
set_option maxHeartbeats 2000000
variable {x y c:Operand} {t u:TypeId} {k:IntKind} {p q:Int} {v:Value} {i b j off:Nat} {op:Op} {Dk:Oper}
abbrev E(n:Nat):Value:=.int .i64 (n:Int)
abbrev SY:=([[E 0],[E 0],[E 0],[E 0],[E 0]]:List (List Value))
abbrev I(p:Option Addr)(n c:Nat):Value:=.slice p n c
abbrev bM:=([[E 0],[E 0],[E 0],[E 0],[E 0],[E 0],[E 0],[E 0],[E 0],[I none 0 0]]:List (List Value))
abbrev cr:=fun a b=>([[E 3],[E 2],[I a 257 b],[E 0],[I none 0 0],[I none 0 0],[I none 0 0],[I none 0 0]]:List (List Value))
abbrev S(b:Nat):Value:=.pointer (some ⟨b,0,none⟩)
abbrev A2(b o:Nat):Value:=.pointer (some ⟨b,o,none⟩)
abbrev C'(b:Bool):Value:=.bool b
abbrev GZ(v:Value)(b:Nat):Prop:=∀k,v.ownBlock=some k→k≠b
abbrev CY(w:World)(b:Nat)(ss:List (List Value))(T:TypeId):Prop:=w.heap[b]? =some (.cells (flat ss) T (0,0))
theorem l1{n c:Nat}:GZ (I none n c) b:=fun k a=>by cases a
theorem ny{B:Nat}{a b c:World}(h:Below B a b)(k:Below b.heap.size b c)(d:B≤b.heap.size):Below B a c:=h.trans (k.mono d)
theorem Bl{w w':World}{o:Obj}(h:w.heap[b]? =some o)(J:Below w.heap.size w w'):w'.heap[b]? =some o:=PU h J
theorem EN{w w':World}{B:Nat}{e:TypeId}{size n:Nat}{xs:List Value}(h:w.ownsRow B e size v n xs)(J:Below w.heap.size w w'):w'.ownsRow B e size v n xs:=YN h J
theorem AY{N:Nat}{a:Act}{f g:BW}(b:AH N a f)(h:Sub f g:=by(repeat(first|exact Sub.Jk _|refine Sub.Jb ?_ rfl))):AH N a g:=b.sub h
section
variable {P:Program} {w w':World} {ops:Array Oper} {rest:List Oper} {Aa:Exit→Act→World→Prop} {N:Nat} {f:BW} {d:Nat} {ty:TypeId} {pos:String} {An:Array Edge} {dst:Option Tmp} {R:Act→Prop} {A5:Act→World→Prop}
abbrev B_(P:Program)(ops:Array Oper)(Aa:Exit→Act→World→Prop)(N:Nat)(w:World)(f:BW)(l:List Oper):Prop:=∀a,AH N a f→wpList P ops Aa l a w
abbrev FH(P:Program)(ops:Array Oper)(R:Act→Prop)(N:Nat)(w:World)(f:BW)(l:List Oper):Prop:=∀a,AH N a f→wpStill P ops w R l a
theorem P9{Ce:Field}{f:BW}{s:TypeId}{o:Nat}{e:Array Field}{a:Act}{g:Option (Nat×Bool)}(h:AH N a f)(j:Aj f x=some (.pointer (some ⟨b,off,none⟩)))(hu:P.underlying s=some (.struct e))(k:e[i]? =some Ce)(c:(P.info? Ce.type).any (fun i=>Nat.blt 0 i.size)=true)(ho:off+Ce.offset=o):CD P a w ⟨dst,.fieldAddr s x i,ty,pos,An,g⟩ (.pointer (some ⟨b,o,none⟩)) w:=by
 cases d:P.info? Ce.type with
 |none=>rw[d]at c;cases c
 |some z=>
  rw[d]at c;have:=ZG (show Nat.ble 1 z.size=true from c);exact bW h j hu k (sz:=z.size - 1) (by rw[d];simp;omega) ho
theorem ES{t:Bool}(hj:ops[j]? =some Dk){k:Nat}(c:Dk.dst=some k)(d:f k=some (.bool t))(h:B_ P ops Aa N w f (⟨dst,op,ty,pos,An,none⟩::rest)):B_ P ops Aa N w f (⟨dst,op,ty,pos,An,some (j,t)⟩::rest):=by
 intro a b;have hw:Region.wanted ⟨dst,op,ty,pos,An,some (j,t)⟩ (yielded ops a.tmps)=true:=by
  have:=L2 (b.h k _ d);simp[Region.wanted,yielded,hj,c,this]
 have:=h a b;unfold wpList at this⊢;rw[if_pos (by simp[Region.wanted])]at this;rw[if_pos hw];exact this
theorem E6{t u:Bool}(hj:ops[j]? =some Dk){k:Nat}(b:Dk.dst=some k)(c:f k=some (.bool u))(e:t=!u)(h:B_ P ops Aa N w (Jb f d undef) rest)(Ad:Nat.blt d N=true:=by exact rfl):B_ P ops Aa N w f (⟨some d,op,ty,pos,An,some (j,t)⟩::rest):=by
 subst e;exact fun a g=>cB D hj b g c D Ad h
theorem fO{t:Bool}(hj:ops[j]? =some Dk){k:Nat}(b:Dk.dst=some k)(c:f k=some undef)(h:B_ P ops Aa N w (Jb f d undef) rest)(Ad:Nat.blt d N=true:=by exact rfl):B_ P ops Aa N w f (⟨some d,op,ty,pos,An,some (j,t)⟩::rest):=
 fun a e=>fE D hj b e c D Ad h
theorem jv{t:Bool}(hj:ops[j]? =some Dk){k:Nat}(c:Dk.dst=some k)(d:f k=some (.bool t))(h:FH P ops R N w f (⟨dst,op,ty,pos,An,none⟩::rest)):FH P ops R N w f (⟨dst,op,ty,pos,An,some (j,t)⟩::rest):=by
 intro a b;have hw:Region.wanted ⟨dst,op,ty,pos,An,some (j,t)⟩ (yielded ops a.tmps)=true:=by
  have:=L2 (b.h k _ d);simp[Region.wanted,yielded,hj,c,this]
 have:=h a b;unfold wpStill at this⊢;rw[if_pos (by simp[Region.wanted])]at this;rw[if_pos hw];exact this
theorem kW{t u:Bool}(hj:ops[j]? =some Dk){k:Nat}(b:Dk.dst=some k)(c:f k=some (.bool u))(e:t=!u)(h:FH P ops R N w (Jb f d undef) rest)(Ad:Nat.blt d N=true:=by exact rfl):FH P ops R N w f (⟨some d,op,ty,pos,An,some (j,t)⟩::rest):=by
 subst e;exact fun a g=>pT D hj b g c D Ad h
theorem Aw(h:∀a,AH N a f→Aa .normal a w):B_ P ops Aa N w f []:=h
theorem Ai(h:∀a,AH N a f→A5 a w):∀a,AH N a f→Exit.then A5 Aa .normal a w:=h
theorem BY(h:∀a,AH N a f→Aa (.exit i) a w):∀a,AH N a f→Exit.then A5 Aa (.exit i) a w:=h
theorem DK(h:∀a,AH N a f→Aa .ret a w):∀a,AH N a f→Exit.then A5 Aa .ret a w:=h
theorem DN(h:∀a,AH N a f→Aa .normal a w):∀a,AH N a f→Exit.inBlock i Aa .normal a w:=h
theorem FE(h:∀a,AH N a f→Aa .ret a w):∀a,AH N a f→Exit.inBlock i Aa .ret a w:=h
theorem Ds(h:∀a,AH N a f→Aa .normal a w):∀a,AH N a f→Exit.inBlock i Aa (.exit i) a w:=fun a b=>T2 (h a b)
theorem Ao{x y:Code}(h:∀a,AH N a f→x.wp P (Exit.then (y.wp P Aa) Aa) a w):∀a,AH N a f→(Code.seq x y).wp P Aa a w:=fun a b=>wp_seq (h a b)
theorem AD{id:Nat}{l:List Oper}(h:B_ P l.toArray Aa N w f l):∀a,AH N a f→(Code.region id l.toArray false).wp P Aa a w:=fun a b=>wp_region_lit (h a b)
theorem CA(h:∀a,AH N a f→Aa .normal a w):∀a,AH N a f→Code.skip.wp P Aa a w:=fun a b=>wp_skip (h a b)
theorem Dv{id:Nat}(h:∀a,AH N a f→Aa (.exit id) a w):∀a,AH N a f→(Code.exit id).wp P Aa a w:=fun a b=>wp_exit (h a b)
theorem C0(h:∀a,AH N a f→Aa .ret a w):∀a,AH N a f→Code.ret.wp P Aa a w:=fun a b=>wp_ret (h a b)
theorem B'{id:Nat}{c:Code}(h:∀a,AH N a f→c.wp P (Exit.inBlock id Aa) a w):∀a,AH N a f→(Code.block id c).wp P Aa a w:=fun a b=>wp_block (h a b)
theorem I5{x y:Code}{t:Bool}(d:Aj f c=some (.bool t))(h1:t=true→∀a,AH N a f→x.wp P Aa a w)(e:t=false→∀a,AH N a f→y.wp P Aa a w):∀a,AH N a f→(Code.cond c x y).wp P Aa a w:=fun a b=>wp_cond_split (b.A_ d) (fun h=>h1 h a b) (fun h=>e h a b)
theorem DU{x y:Code}{p:Prop}[Decidable p](b:Aj f c=some (.bool (decide p)))(h1:p→∀a,AH N a f→x.wp P Aa a w)(d:¬p→∀a,AH N a f→y.wp P Aa a w):∀a,AH N a f→(Code.cond c x y).wp P Aa a w:=I5 b (fun h=>h1 (of_decide_eq_true h)) (fun h=>d (of_decide_eq_false h))
theorem OM{x y:Code}{p:Prop}[Decidable p](b:Aj f c=some (.bool (!decide p)))(h1:¬p→∀a,AH N a f→x.wp P Aa a w)(d:p→∀a,AH N a f→y.wp P Aa a w):∀a,AH N a f→(Code.cond c x y).wp P Aa a w:=I5 b (fun h=>h1 (Uc h)) (fun h=>d (W3 h))
theorem Gf{x y:Code}(b:Aj f c=some (.bool true))(h1:∀a,AH N a f→x.wp P Aa a w):∀a,AH N a f→(Code.cond c x y).wp P Aa a w:=I5 b (fun _=>h1) (fun h=>by cases h)
theorem FQ{x y:Code}(b:Aj f c=some (.bool false))(d:∀a,AH N a f→y.wp P Aa a w):∀a,AH N a f→(Code.cond c x y).wp P Aa a w:=I5 b (fun h=>by cases h) (fun _=>d)
theorem EE{fn:Func}{BK:Ending→World→Prop}{t:Nat}(b:f t=some v)(h:BK (.returned v) w)(hr:fn.results=#[.tmp t]:=by exact rfl):∀a,AH N a f→bodyPost P fn BK .ret a w:=fun a c=>Xh c hr b h
theorem Az(a:Aj f x=some v)(h:B_ P ops Aa N w (Jb f d v) rest)(Ad:Nat.blt d N=true:=by exact rfl):B_ P ops Aa N w f (⟨some d,.move x,ty,pos,An,none⟩::rest):=Ep Ad (fun _ b=>Qz b a) h
theorem D7(a:Aj f x=some v)(h:FH P ops R N w (Jb f d v) rest)(Ad:Nat.blt d N=true:=by exact rfl):FH P ops R N w f (⟨some d,.move x,ty,pos,An,none⟩::rest):=Gs Ad (fun _ b=>Qz b a) h
theorem AV(a:Aj f x=some v)(h:B_ P ops Aa N w (Jb f d v) rest)(Ad:Nat.blt d N=true:=by exact rfl):B_ P ops Aa N w f (⟨some d,.assign x,ty,pos,An,none⟩::rest):=Ep Ad (fun _ b=>Pw b a) h
theorem QJ{p:Addr}(a:Aj f x=some (.pointer (some p)))(h:B_ P ops Aa N w (Jb f d (.pointer (some p))) rest)(Ad:Nat.blt d N=true:=by exact rfl):B_ P ops Aa N w f (⟨some d,.nilCheck x,ty,pos,An,none⟩::rest):=Ep Ad (fun _ b=>S4 b a) h
theorem CH{CV:Array Value}(a:Aj f x=some (.tuple CV))(b:CV[i]? =some v)(h:B_ P ops Aa N w (Jb f d v) rest)(Ad:Nat.blt d N=true:=by exact rfl):B_ P ops Aa N w f (⟨some d,.extract x i,ty,pos,An,none⟩::rest):=Ep Ad (fun _ c=>TS c a b) h
theorem LD(a:Aj f c=some (.bool true))(b:Aj f x=some v)(h:B_ P ops Aa N w (Jb f d v) rest)(Ad:Nat.blt d N=true:=by exact rfl):B_ P ops Aa N w f (⟨some d,.pick c x y,ty,pos,An,none⟩::rest):=Ep Ad (fun _ e=>UZ e a b) h
theorem I0(a:Aj f c=some (.bool false))(b:Aj f y=some v)(h:B_ P ops Aa N w (Jb f d v) rest)(Ad:Nat.blt d N=true:=by exact rfl):B_ P ops Aa N w f (⟨some d,.pick c x y,ty,pos,An,none⟩::rest):=Ep Ad (fun _ e=>Y6 e a b) h
theorem M5{b:Bool}(a:Aj f x=some (.bool b))(h:B_ P ops Aa N w (Jb f d (.bool (!b))) rest)(Ad:Nat.blt d N=true:=by exact rfl):B_ P ops Aa N w f (⟨some d,.unOp .not t x,ty,pos,An,none⟩::rest):=Ep Ad (fun _ c=>CE c a) h
theorem HT{e:TypeId}(a:P.underlying t=some (.slice e)){p:Option Addr}{n c:Nat}(b:Aj f x=some (.slice p n c))(h:B_ P ops Aa N w (Jb f d (.int .i64 n)) rest)(Ad:Nat.blt d N=true:=by exact rfl):B_ P ops Aa N w f (⟨some d,.call {callee:=.builtin .len,args:=#[x],argTypes:=#[t]},ty,pos,An,none⟩::rest):=Ep Ad (fun _ g=>Rz g a b) h
theorem Gt{s:TypeId}{a:Array Field}(hu:P.underlying s=some (.struct a))(o:Nat)(c:Aj f x=some (.pointer (some ⟨b,off,none⟩)))(h:B_ P ops Aa N w (Jb f d (.pointer (some ⟨b,o,none⟩))) rest){Ce:Field}(e:a[i]? =some Ce:=by exact rfl)(g:(P.info? Ce.type).any (fun i=>Nat.blt 0 i.size)=true:=by kernel_rfl)(ho:off+Ce.offset=o:=by first|rfl|omega)(Ad:Nat.blt d N=true:=by exact rfl):B_ P ops Aa N w f (⟨some d,.fieldAddr s x i,ty,pos,An,none⟩::rest):=Ep Ad (fun _ j=>P9 j c hu e g ho) h
theorem Dz{p q:Nat}(a:Aj f x=some (.int .i64 p))(b:Aj f y=some (.int .i64 q))(h:B_ P ops Aa N w (Jb f d (.int .i64 ((p+q:Nat):Int))) rest)(J:p+q≤9223372036854775807:=by omega)(Ad:Nat.blt d N=true:=by exact rfl):B_ P ops Aa N w f (⟨some d,.binOp .add t x y u,ty,pos,An,none⟩::rest):=Ep Ad (fun _ c=>Hb c a b D J) h
theorem OE{p q:Nat}(a:Aj f x=some (.int .i64 p))(b:Aj f y=some (.int .i64 q))(h:FH P ops R N w (Jb f d (.int .i64 ((p+q:Nat):Int))) rest)(J:p+q≤9223372036854775807:=by omega)(Ad:Nat.blt d N=true:=by exact rfl):FH P ops R N w f (⟨some d,.binOp .add t x y u,ty,pos,An,none⟩::rest):=Gs Ad (fun _ c=>Hb c a b D J) h
theorem Rv{p q:Nat}(a:Aj f x=some (.int .i64 p))(b:Aj f y=some (.int .i64 q))(h:B_ P ops Aa N w (Jb f d (.int .i64 ((p - q:Nat):Int))) rest)(hr:p=q+(p - q):=by omega)(J:p≤9223372036854775807:=by omega)(Ad:Nat.blt d N=true:=by exact rfl):B_ P ops Aa N w f (⟨some d,.binOp .sub t x y u,ty,pos,An,none⟩::rest):=Ep Ad (fun _ c=>Km c a b hr J) h
theorem Nv{p q:Nat}(a:Aj f x=some (.int .i64 p))(b:Aj f y=some (.int .i64 q))(h:B_ P ops Aa N w (Jb f d (.int .i64 ((p*q:Nat):Int))) rest)(J:p*q≤9223372036854775807:=by omega)(Ad:Nat.blt d N=true:=by exact rfl):B_ P ops Aa N w f (⟨some d,.binOp .mul t x y u,ty,pos,An,none⟩::rest):=Ep Ad (fun _ c=>Sx c a b D J) h
theorem Qe{p q:Nat}(a:Aj f x=some (.int .i64 p))(b:Aj f y=some (.int .i64 q))(h:B_ P ops Aa N w (Jb f d (.int .i64 ((p/q:Nat):Int))) rest)(c:0<q:=by omega)(J:p≤9223372036854775807:=by omega)(Ad:Nat.blt d N=true:=by exact rfl):B_ P ops Aa N w f (⟨some d,.binOp .quo t x y u,ty,pos,An,none⟩::rest):=Ep Ad (fun _ e=>Sv e a b D c J) h
theorem n'{p q:Nat}(a:Aj f x=some (.int .i64 p))(b:Aj f y=some (.int .i64 q))(h:FH P ops R N w (Jb f d (.int .i64 ((p/q:Nat):Int))) rest)(c:0<q:=by omega)(J:p≤9223372036854775807:=by omega)(Ad:Nat.blt d N=true:=by exact rfl):FH P ops R N w f (⟨some d,.binOp .quo t x y u,ty,pos,An,none⟩::rest):=Gs Ad (fun _ e=>Sv e a b D c J) h
theorem Mz{p q:Nat}(a:Aj f x=some (.int .i64 p))(b:Aj f y=some (.int .i64 q))(h:B_ P ops Aa N w (Jb f d (.int .i64 ((p % q:Nat):Int))) rest)(c:0<q:=by omega)(Ad:Nat.blt d N=true:=by exact rfl):B_ P ops Aa N w f (⟨some d,.binOp .rem t x y u,ty,pos,An,none⟩::rest):=Ep Ad (fun _ e=>PA e a b D c) h
theorem mi{p q:Nat}(a:Aj f x=some (.int .i64 p))(b:Aj f y=some (.int .i64 q))(h:FH P ops R N w (Jb f d (.int .i64 ((p % q:Nat):Int))) rest)(c:0<q:=by omega)(Ad:Nat.blt d N=true:=by exact rfl):FH P ops R N w f (⟨some d,.binOp .rem t x y u,ty,pos,An,none⟩::rest):=Gs Ad (fun _ e=>PA e a b D c) h
theorem D_(a:Aj f x=some (.int k p))(b:Aj f y=some (.int k q))(h:B_ P ops Aa N w (Jb f d (.bool (decide (p<q)))) rest)(Ad:Nat.blt d N=true:=by exact rfl):B_ P ops Aa N w f (⟨some d,.binOp .lss t x y u,ty,pos,An,none⟩::rest):=Ep Ad (fun _ c=>MG c a b _ D) h
theorem Ur(a:p<q)(b:Aj f x=some (.int k p))(c:Aj f y=some (.int k q))(h:B_ P ops Aa N w (Jb f d (.bool true)) rest)(Ad:Nat.blt d N=true:=by exact rfl):B_ P ops Aa N w f (⟨some d,.binOp .lss t x y u,ty,pos,An,none⟩::rest):=Ep Ad (fun _ e=>MG e b c true (decide_eq_true a)) h
theorem Zn(a:¬(p<q))(b:Aj f x=some (.int k p))(c:Aj f y=some (.int k q))(h:B_ P ops Aa N w (Jb f d (.bool false)) rest)(Ad:Nat.blt d N=true:=by exact rfl):B_ P ops Aa N w f (⟨some d,.binOp .lss t x y u,ty,pos,An,none⟩::rest):=Ep Ad (fun _ e=>MG e b c false (decide_eq_false a)) h
theorem h4(a:Aj f x=some (.int k p))(b:Aj f y=some (.int k q))(h:B_ P ops Aa N w (Jb f d (.bool (decide (q<p)))) rest)(Ad:Nat.blt d N=true:=by exact rfl):B_ P ops Aa N w f (⟨some d,.binOp .gtr t x y u,ty,pos,An,none⟩::rest):=Ep Ad (fun _ c=>PO c a b _ D) h
theorem ko(a:q<p)(b:Aj f x=some (.int k p))(c:Aj f y=some (.int k q))(h:B_ P ops Aa N w (Jb f d (.bool true)) rest)(Ad:Nat.blt d N=true:=by exact rfl):B_ P ops Aa N w f (⟨some d,.binOp .gtr t x y u,ty,pos,An,none⟩::rest):=Ep Ad (fun _ e=>PO e b c true (decide_eq_true a)) h
theorem jX(a:¬(q<p))(b:Aj f x=some (.int k p))(c:Aj f y=some (.int k q))(h:B_ P ops Aa N w (Jb f d (.bool false)) rest)(Ad:Nat.blt d N=true:=by exact rfl):B_ P ops Aa N w f (⟨some d,.binOp .gtr t x y u,ty,pos,An,none⟩::rest):=Ep Ad (fun _ e=>PO e b c false (decide_eq_false a)) h
theorem cw(a:Aj f x=some (.int k p))(b:Aj f y=some (.int k q))(h:B_ P ops Aa N w (Jb f d (.bool (decide (q≤p)))) rest)(Ad:Nat.blt d N=true:=by exact rfl):B_ P ops Aa N w f (⟨some d,.binOp .geq t x y u,ty,pos,An,none⟩::rest):=Ep Ad (fun _ c=>Qk c a b _ D) h
theorem p0(a:q≤p)(b:Aj f x=some (.int k p))(c:Aj f y=some (.int k q))(h:B_ P ops Aa N w (Jb f d (.bool true)) rest)(Ad:Nat.blt d N=true:=by exact rfl):B_ P ops Aa N w f (⟨some d,.binOp .geq t x y u,ty,pos,An,none⟩::rest):=Ep Ad (fun _ e=>Qk e b c true (decide_eq_true a)) h
theorem rY(a:¬(q≤p))(b:Aj f x=some (.int k p))(c:Aj f y=some (.int k q))(h:B_ P ops Aa N w (Jb f d (.bool false)) rest)(Ad:Nat.blt d N=true:=by exact rfl):B_ P ops Aa N w f (⟨some d,.binOp .geq t x y u,ty,pos,An,none⟩::rest):=Ep Ad (fun _ e=>Qk e b c false (decide_eq_false a)) h
theorem XY(a:Aj f x=some (.int k p))(b:Aj f y=some (.int k q))(h:B_ P ops Aa N w (Jb f d (.bool (decide (p=q)))) rest)(Ad:Nat.blt d N=true:=by exact rfl):B_ P ops Aa N w f (⟨some d,.binOp .eql t x y u,ty,pos,An,none⟩::rest):=Ep Ad (fun _ c=>ND c a b _ D) h
theorem MD(a:p=q)(b:Aj f x=some (.int k p))(c:Aj f y=some (.int k q))(h:B_ P ops Aa N w (Jb f d (.bool true)) rest)(Ad:Nat.blt d N=true:=by exact rfl):B_ P ops Aa N w f (⟨some d,.binOp .eql t x y u,ty,pos,An,none⟩::rest):=Ep Ad (fun _ e=>ND e b c true (decide_eq_true a)) h
theorem Kr(a:¬(p=q))(b:Aj f x=some (.int k p))(c:Aj f y=some (.int k q))(h:B_ P ops Aa N w (Jb f d (.bool false)) rest)(Ad:Nat.blt d N=true:=by exact rfl):B_ P ops Aa N w f (⟨some d,.binOp .eql t x y u,ty,pos,An,none⟩::rest):=Ep Ad (fun _ e=>ND e b c false (decide_eq_false a)) h
theorem Rq(a:Aj f x=some (.int k p))(b:Aj f y=some (.int k q))(h:B_ P ops Aa N w (Jb f d (.bool (!decide (p=q)))) rest)(Ad:Nat.blt d N=true:=by exact rfl):B_ P ops Aa N w f (⟨some d,.binOp .neq t x y u,ty,pos,An,none⟩::rest):=Ep Ad (fun _ c=>Nr c a b _ D) h
theorem Ky(a:¬(p=q))(b:Aj f x=some (.int k p))(c:Aj f y=some (.int k q))(h:B_ P ops Aa N w (Jb f d (.bool true)) rest)(Ad:Nat.blt d N=true:=by exact rfl):B_ P ops Aa N w f (⟨some d,.binOp .neq t x y u,ty,pos,An,none⟩::rest):=Ep Ad (fun _ e=>Nr e b c true (by rw[decide_eq_false a];rfl)) h
theorem Mg(a:p=q)(b:Aj f x=some (.int k p))(c:Aj f y=some (.int k q))(h:B_ P ops Aa N w (Jb f d (.bool false)) rest)(Ad:Nat.blt d N=true:=by exact rfl):B_ P ops Aa N w f (⟨some d,.binOp .neq t x y u,ty,pos,An,none⟩::rest):=Ep Ad (fun _ e=>Nr e b c false (by rw[decide_eq_true a];rfl)) h
theorem D8{T:TypeId}{BB:TypeDesc}(hu:P.underlying T=some BB)(a:w.cell? ⟨b,off,none⟩=some v)(c:Aj f x=some (.pointer (some ⟨b,off,none⟩)))(h:B_ P ops Aa N w (Jb f d v) rest)(hr:BB.isRow=false:=by exact rfl)(Ad:Nat.blt d N=true:=by exact rfl):B_ P ops Aa N w f (⟨some d,.load T x,ty,pos,An,none⟩::rest):=Ep Ad (fun _ e=>Ei e c hu hr a) h
theorem H3{T:TypeId}{BB:TypeDesc}(hu:P.underlying T=some BB)(a:w.cell? ⟨b,off,none⟩=some v)(c:Aj f x=some (.pointer (some ⟨b,off,none⟩)))(h:FH P ops R N w (Jb f d v) rest)(hr:BB.isRow=false:=by exact rfl)(Ad:Nat.blt d N=true:=by exact rfl):FH P ops R N w f (⟨some d,.load T x,ty,pos,An,none⟩::rest):=Gs Ad (fun _ e=>Ei e c hu hr a) h
theorem Cc(hr:∀a,AH N a f→CD P a w ⟨some d,op,ty,pos,An,none⟩ v w)(h:B_ P ops Aa N w (Jb f d v) rest)(Ad:Nat.blt d N=true:=by exact rfl):B_ P ops Aa N w f (⟨some d,op,ty,pos,An,none⟩::rest):=Ep Ad hr h
theorem Fs(hr:∀a,AH N a f→CD P a w ⟨some d,op,ty,pos,An,none⟩ v w)(h:FH P ops R N w (Jb f d v) rest)(Ad:Nat.blt d N=true:=by exact rfl):FH P ops R N w f (⟨some d,op,ty,pos,An,none⟩::rest):=Gs Ad hr h
end
end Go.Proofs.YtjdboncaegphmaaGreatDoor
namespace Go.Proofs.YtjdboncaegphmaaGreatDoor.At
open Go.Maps
set_option linter.unusedVariables false
def Fa{H:Type}(l:List (Nat×Nat))(Au:DataW H):DataW H:=l.foldl (fun m p=>m.put (.int .u32 p.1) (.lit (.int .i64 p.2))) Au
def last(l:List (Nat×Nat))(d:Nat):Option Nat:=l.foldl (fun o p=>if p.1=d then some p.2 else o) none
theorem XG{H:Type}(l:List (Nat×Nat))(a b:Nat)(Au:DataW H):Fa (l++[(a,b)]) Au=(Fa l Au).put (.int .u32 a) (.lit (.int .i64 b)):=by simp[Fa,List.foldl_append]
theorem isKey(n:Int):WideAt.IsKeyLit (.int .u32 n):=trivial
theorem X8{a b:Nat}(h:a≠b):(Lit.int .u32 a)≠(Lit.int .u32 b):=fun e=>h (by simp at e;omega)
theorem ag{H:Type}(l:List (Nat×Nat))(d:Nat):∀(Au:DataW H) (o:Option Nat),IsMap Au→Maps.has Au (.int .u32 d)=o.isSome→(∀z,Au.atKey (.int .u32 d) z=match o with|some j=>.lit (.int .i64 j)|none=>z)→
 Maps.has (Fa l Au) (.int .u32 d)=(l.foldl (fun o p=>if p.1=d then some p.2 else o) o).isSome∧
 ∀z,(Fa l Au).atKey (.int .u32 d) z=match l.foldl (fun o p=>if p.1=d then some p.2 else o) o with|some j=>.lit (.int .i64 j)|none=>z:=by
 induction l with
 |nil=>intro Au o hm h1 a;exact⟨h1,a⟩
 |cons p l b=>
  intro Au o hm h1 a;simp only[Fa,j_];refine b (Au.put (.int .u32 p.1) (.lit (.int .i64 p.2))) (if p.1=d then some p.2 else o) (hm.put _ _) ?_ ?_
  ·by_cases e:p.1=d
   ·subst e;rw[if_pos D,has_put_same hm (isKey _)];rfl
   ·rw[if_neg e,has_put_other (X8 (fun h=>e h.symm)),h1]
  ·intro z
   by_cases e:p.1=d
   ·subst e;rw[if_pos D,atKey_put_same hm (isKey _)]
   ·rw[if_neg e,atKey_put_other (X8 (fun h=>e h.symm)),a]
theorem look{H:Type}(l:List (Nat×Nat))(d:Nat):Maps.has (Fa l (.map []:DataW H)) (.int .u32 d)=(last l d).isSome∧
 ∀z,(Fa l (.map []:DataW H)).atKey (.int .u32 d) z=match last l d with|some j=>.lit (.int .i64 j)|none=>z:=
 ag l d _ none isMap_empty D (fun z=>rfl)
def made(c k:Nat):Nat:=steps (8*(c+1)) (2^k)
theorem gY(c k:Nat):made (c+1) k=steps 8 (made c k):=by
 unfold made;rw[←T',show 8*(c+1+1)=8*(c+1)+8 by omega]
theorem h9(c k:Nat)(a:k<8):made c k<4294967296:=Yz _ (by have:2^k<2^8:=Nat.pow_lt_pow_right JZ a;omega)
def rowOf(n c k:Nat):List (Nat×Nat):=(List.range k).map fun k=>(made c k,8*(n - 1 - c)+k)
def rows(n:Nat):Nat→List (Nat×Nat)
 |0=>[]
 |c+1=>rows n c++rowOf n c 8
def tail(n k:Nat):List (Nat×Nat):=(List.range k).map fun k=>(2^k,8*n+k)
theorem cY(n c k:Nat):rowOf n c (k+1)=rowOf n c k++[(made c k,8*(n - 1 - c)+k)]:=by simp[rowOf,List.range_succ]
theorem cE(n k:Nat):tail n (k+1)=tail n k++[(2^k,8*n+k)]:=by simp[tail,List.range_succ]
def EG(n:Nat):List (Nat×Nat):=rows n n++tail n 32
end Go.Proofs.YtjdboncaegphmaaGreatDoor.At
namespace Go.Proofs.YtjdboncaegphmaaGreatDoor.At
set_option linter.unusedVariables false
def Im(l:rG)(i:Nat)(d:UInt8):List UInt8:=l.set i (l.getD i 0^^^d)
theorem cf(l:rG)(i:Nat)(d:UInt8):(Im l i d).length=l.length:=by simp[Im]
theorem eR(l:rG)(i:Nat)(d:UInt8):Im (Im l i d) i d=l:=by
 by_cases h:i<l.length
 ·unfold Im;have:(l.set i (l.getD i 0^^^d)).getD i 0=l.getD i 0^^^d:=by simp[List.getD_eq_getElem?_getD,h]
  rw[this,List.set_set,UInt8.xor_assoc,UInt8.xor_self,UInt8.xor_zero];apply Q2;intro j;simp only[jz]
  by_cases e:i=j
  ·subst e;simp[h,List.getD_eq_getElem?_getD]
  ·rw[if_neg e]
 ·unfold Im;simp only[List.set_eq_of_length_le (Nat.le_of_not_lt h)]
theorem TV(l:rG):sum l=feed 4294967295 l^^^4294967295:=by
 unfold sum update;rw[show inv 0=4294967295 from D,ON (OI l JZ)]
def stored(l:rG)(n:Nat):Nat:=(l.getD n 0).toNat|||(l.getD (n+1) 0).toNat*256|||(l.getD (n+2) 0).toNat*65536|||(l.getD (n+3) 0).toNat*16777216
theorem MX(a b k:Nat)(h:a<2^k):a|||b*2^k=a+b*2^k:=by
 rw[Nat.or_comm,RV,←q4 h,j7]
theorem Sh(l:rG)(n:Nat):stored l n=(l.getD n 0).toNat+(l.getD (n+1) 0).toNat*256+(l.getD (n+2) 0).toNat*65536+(l.getD (n+3) 0).toNat*16777216:=by
 unfold stored;have a:=(l.getD n 0).toNat_lt;have h1:=(l.getD (n+1) 0).toNat_lt;have b:=(l.getD (n+2) 0).toNat_lt;rw[show(256:Nat)=2^8 from D,show(65536:Nat)=2^16 from D,show(16777216:Nat)=2^24 from D];rw[MX _ _ 8 JY,MX _ _ 16 JY,MX _ _ 24 JY]
theorem Ts(l:rG)(n:Nat):stored l n<4294967296:=by
 rw[Sh];have a:=(l.getD n 0).toNat_lt;have h1:=(l.getD (n+1) 0).toNat_lt;have b:=(l.getD (n+2) 0).toNat_lt;have c:=(l.getD (n+3) 0).toNat_lt;omega
def C5(l:rG)(n:Nat):Nat:=sum (l.take n)^^^stored l n
theorem Uo(l:rG)(n:Nat):C5 l n<4294967296:=Mx (n:=32) (G7 _) (Ts _ _)
theorem az{a b:Nat}:a^^^b=0↔a=b:=by
 constructor
 ·intro h;have:=congrArg (·^^^b) h;simpa[Nat.xor_assoc]using this
 ·rintro rfl;exact j5 _
theorem XP(l:rG)(n:Nat):C5 l n=0↔sum (l.take n)=stored l n:=az
def PD(n j:Nat):Nat:=if j<8*n then made (n - 1 - j/8) (j % 8)else 2^(j - 8*n)
def bit(l:rG)(j:Nat):List UInt8:=Im l (j/8) (UInt8.ofNat (2^(j % 8)))
theorem Zk(l:rG)(j:Nat):bit (bit l j) j=l:=eR _ _ _
theorem Tz(l:rG)(j:Nat):(bit l j).length=l.length:=cf _ _ _
theorem pj(a b k:Nat)(h:a<2^k:=by omega):a|||b*2^k=a^^^b*2^k:=by
 have h1:(b*2^k^^^a)/2^k=b:=by
  rw[mL,Nat.mul_div_cancel _ (jn k),QA h,b']
 have d:(b*2^k^^^a) % 2^k=a:=by
  rw[la,Nat.mul_mod_left,s_ h,mx]
 have c:=Nat.div_add_mod (b*2^k^^^a) (2^k);rw[h1,d]at c;rw[MX _ _ _ h,cA a,←c,RV,j7]
theorem ji(l:rG)(n:Nat):stored l n=(l.getD n 0).toNat^^^(l.getD (n+1) 0).toNat*256^^^(l.getD (n+2) 0).toNat*65536^^^(l.getD (n+3) 0).toNat*16777216:=by
 unfold stored;have d:=(l.getD n 0).toNat_lt;have h1:=(l.getD (n+1) 0).toNat_lt;have e:=(l.getD (n+2) 0).toNat_lt;have c:(l.getD n 0).toNat|||(l.getD (n+1) 0).toNat*256=(l.getD n 0).toNat^^^(l.getD (n+1) 0).toNat*256:=pj _ _ 8
 have f:(l.getD n 0).toNat|||(l.getD (n+1) 0).toNat*256<65536:=by
  have:=MX (l.getD n 0).toNat (l.getD (n+1) 0).toNat 8 JY;rw[show(2:Nat)^8=256 from D]at this;omega
 have a:=pj ((l.getD n 0).toNat|||(l.getD (n+1) 0).toNat*256) (l.getD (n+2) 0).toNat 16;have g:((l.getD n 0).toNat|||(l.getD (n+1) 0).toNat*256)|||(l.getD (n+2) 0).toNat*65536<16777216:=by
  have:=MX ((l.getD n 0).toNat|||(l.getD (n+1) 0).toNat*256) (l.getD (n+2) 0).toNat 16 JY;rw[show(2:Nat)^16=65536 from D]at this;omega
 have b:=pj (((l.getD n 0).toNat|||(l.getD (n+1) 0).toNat*256)|||(l.getD (n+2) 0).toNat*65536) (l.getD (n+3) 0).toNat 24;rw[show(2:Nat)^16=65536 from D]at a;rw[show(2:Nat)^24=16777216 from D]at b;rw[b,a,c]
theorem WO(a b c:Nat):a^^^b^^^c=a^^^c^^^b:=by rw[au,cA b c,←au]
end Go.Proofs.YtjdboncaegphmaaGreatDoor.At
namespace Go.Proofs.YtjdboncaegphmaaGreatDoor
open Go.RowKit
set_option maxRecDepth 100000
set_option maxHeartbeats 2000000
theorem A3:CO Tryz.prog 29 5 1 1 (.int .u8 0):=CO.mk' B7 AB D JZ
def P0:Array Value:=(At.Ih.map fun n:Nat=>Value.int .u32 (n:Int)).toArray
theorem ij:P0.size=16:=rfl
theorem Vn(i:Nat)(h:i<16):P0[i]? =some (.int .u32 (At.Ih.getD i 0:Nat)):=by
 have hl:i<At.Ih.length:=h;unfold P0;rw[mT,ti,F3 hl,Dm,F3 hl];rfl
theorem Uf(i:Nat)(h:i<16):At.Ih.getD i 0<4294967296:=by
 have:∀i,i<16→At.Ih.getD i 0<4294967296:=JZ;exact this i h
theorem hX(r:Nat)(q:Option Addr)(n c:Nat)(l:rG)(w:World)(hr:r<4294967296)(a:View w (.slice q n c) n 1 (bv l))(hl:l.length=n):
 Calls Tryz.prog 162 #[.int .u32 r,.slice q n c] w fun e w'=>e=.returned (.int .u32 (At.feed r l:Nat))∧Below w.heap.size w w':=by
 have ao:=a.max
 go_enter Wc,Tryz.ntmps162
 go_wp2_with (with_reducible refine LX 278 ?_)
 refine⟨KE D 278 D (z:=.agg (Array.replicate 16 (.int .u32 0))) AB ?_⟩;intro aq F h1 G;simp only[Value.cells]at h1
 go_wp2_with (with_reducible refine HV 278 ?_)
 refine⟨Kn D 278 (.tmp 5) (.tmp 8) D (b:=w.heap.size) (c:=(Array.replicate 16 (.int .u32 0))) (c':=P0) D h1 D AB (by simp[ij]) AB ?_⟩;intro d ar H I;have H2:=AX H;have J:Below w.heap.size w d:=G.grown I JY (fun k K=>by cases K;exact Br _);clear h1 H G I
 go_wp2
 go_loop [0,7,11] (fun ad _ i=>∃(k g:Nat),k≤n∧i=.int .i64 k∧ad=.int .u32 g∧Hid (g=At.feed r (l.take k))) (fun _ _ i=>n - (intOf i).toNat)
 case atStart=>exact⟨0,r,JY,D,D,AX D⟩
 case round=>
  obtain⟨k,g,K,rfl,rfl,m⟩:=hrel;have L:g<4294967296:=by rw[m.out];exact At.OI _ hr
  by_cases M:k<n
  ·have ae:View d (.slice q n c) n 1 (bv l):=a.below J
   go_wp2_with (with_reducible refine HD 29 ?_)
   refine⟨idx A3 D (.tmp 9) (.tmp 11) D (y:=q) (n:=n) (c:=c) D ae D k D M ?_⟩;intro b off N _;obtain⟨x,u⟩:∃x:UInt8,x=l[k]:=⟨_,D⟩
   have au:d.cell? ⟨b,off,none⟩=some (.int .u8 x.toNat):=by
    have:=N 0 (.int .u8 x.toNat) (by simp[bv,hl,M,u,List.getElem?_drop]);simpa using this
   have av:x.toNat<256:=x.toNat_lt;have af:=AX u;clear N u;have A:=At.cH r l k JY;rw[←m.out,←af.out]at A;have ag:=AX A;clear A
   go_wp2_with (with_reducible refine FM 105 ?_)
   refine⟨LW D D (p:=g) (q:=x.toNat) D D L JY (g^^^x.toNat) D ?_⟩;obtain⟨y,f⟩:∃y,y=g^^^x.toNat:=⟨_,D⟩
   rw[←f];have ah:y<4294967296:=by rw[f];exact Mx (n:=32) L JY
   have ai:=AX f;clear f;obtain⟨i1,O⟩:∃i,i=y % 16:=⟨_,D⟩
   have B:i1<16:=JY;have P:=AX O;clear O
   go_wp2_with (with_reducible refine FM 105 ?_)
   refine⟨UL D D (p:=y) 4 D D ah JZ i1 P.out.symm ?_⟩
   go_wp2_with (with_reducible refine HD 278 ?_)
   refine⟨Ri (size:=1) qt AB D (.tmp 5) (.tmp 20) D D (i:=(i1:Int)) D i1 D B ?_⟩;rw[show 0+i1*1=i1 by omega];obtain⟨t1,h⟩:∃t,t=At.Ih.getD i1 0:=⟨_,D⟩
   have aw:d.cell? ⟨w.heap.size,i1,none⟩=some (.int .u32 t1):=by rw[h,cell_of_row _ _ _ _ _ _ H2.out,Vn _ B]
   have Q:t1<4294967296:=by rw[h];exact Uf _ B
   have aj:=AX h;clear h
   go_wp2_with (first|(with_reducible refine FM 105 ?_))
   obtain⟨s1,R⟩:∃s,s=y/16:=⟨_,D⟩
   have S:s1<4294967296:=JY;have T:=AX R;clear R;refine⟨Va D D (p:=y) (n:=4) D D JZ s1 T.out.symm ?_⟩
   go_wp2_with (first|(with_reducible refine FM 105 ?_))
   obtain⟨z,C⟩:∃o:Nat,o=t1^^^s1:=⟨_,D⟩
   have F:z<4294967296:=by rw[C];exact Mx (n:=32) Q S
   have U:=AX C;clear C;refine⟨LW D D (p:=t1) (q:=s1) D D Q S z U.out.symm ?_⟩;obtain⟨i2,V⟩:∃i,i=z % 16:=⟨_,D⟩
   have E:i2<16:=JY;have W:=AX V;clear V
   go_wp2_with (with_reducible refine FM 105 ?_)
   refine⟨UL D D (p:=z) 4 D D F JZ i2 W.out.symm ?_⟩
   go_wp2_with (with_reducible refine HD 278 ?_)
   refine⟨Ri (size:=1) qt AB D (.tmp 5) (.tmp 27) D D (i:=(i2:Int)) D i2 D E ?_⟩;rw[show 0+i2*1=i2 by omega];obtain⟨t2,j⟩:∃t,t=At.Ih.getD i2 0:=⟨_,D⟩
   have ax:d.cell? ⟨w.heap.size,i2,none⟩=some (.int .u32 t2):=by rw[j,cell_of_row _ _ _ _ _ _ H2.out,Vn _ E]
   have X:t2<4294967296:=by rw[j];exact Uf _ E
   have ak:=AX j;clear j
   go_wp2_with (first|(with_reducible refine FM 105 ?_))
   obtain⟨s2,Y⟩:∃s,s=z/16:=⟨_,D⟩
   have Z:s2<4294967296:=JY;have aa:=AX Y;clear Y;refine⟨Va D D (p:=z) (n:=4) D D JZ s2 aa.out.symm ?_⟩
   go_wp2_with (first|(with_reducible refine FM 105 ?_))
   obtain⟨v,a⟩:∃o:Nat,o=t2^^^s2:=⟨_,D⟩
   have v1:v<4294967296:=by rw[a];exact Mx (n:=32) X Z
   have ab:=AX a;clear a;refine⟨LW D D (p:=t2) (q:=s2) D D X Z v ab.out.symm ?_⟩;have al:Hid (v=At.feed r (l.take (k+1))):=AX (by rw[ag.out,←ai.out,ab.out,ak.out,aa.out,W.out,U.out,aj.out,T.out,P.out];exact At.cj y)
   go_wp2
   go_round
   case rel=>exact⟨k+1,v,JY,by go_num,D,al⟩
   case measure=>simp[intOf];omega
  ·have an:k=n:=JY
   go_wp2
   go_ret
   have e:g=At.feed r l:=by rw[m.out,an,DV JY]
   subst e;exact⟨D,J⟩
theorem V1(r:Nat)(q:Option Addr)(n c:Nat)(l:rG)(w:World)(hr:r<4294967296)(i:View w (.slice q n c) n 1 (bv l))(hl:l.length=n):
 Calls Tryz.prog 134 #[.int .u32 r,.slice q n c] w fun e w'=>e=.returned (.int .u32 (At.update r l:Nat))∧Below w.heap.size w w':=by
 go_enter Th,Tryz.ntmps134
 go_wp2_with (with_reducible refine RM 105 ?_)
 obtain⟨x,b⟩:∃x,x=At.inv r:=⟨_,D⟩
 have d:x<4294967296:=by rw[b];exact At.O3 r
 have f:=AX b;clear b;refine⟨V0 D D (p:=r) D hr x f.out.symm ?_⟩
 go_wp2_with (first|(with_reducible refine RM 105 ?_)|(go_at_call 162;with_reducible refine C_ ?_))
 refine⟨(hX x q n c l w d i hl).mono ?_⟩;rintro e m ⟨rfl,J⟩;obtain⟨y,a⟩:∃y,y=At.feed x l:=⟨_,D⟩
 have j:y<4294967296:=by rw[a];exact At.OI _ d
 rw[←a];have k:=AX a;clear a
 go_wp2_with (first|(with_reducible refine RM 105 ?_))
 obtain⟨z,g⟩:∃z,z=At.inv y:=⟨_,D⟩
 have h:=AX g;clear g;refine⟨V0 D D (p:=y) D j z h.out.symm ?_⟩;have e:z=At.update r l:=by rw[h.out,k.out,f.out];rfl
 subst e
 go_wp2
 go_ret
 exact⟨D,J⟩
theorem I4(q:Option Addr)(n c:Nat)(l:rG)(w:World)(a:View w (.slice q n c) n 1 (bv l))(hl:l.length=n):
 Calls Tryz.prog 102 #[.slice q n c] w fun e w'=>e=.returned (.int .u32 (At.sum l:Nat))∧Below w.heap.size w w':=by
 have C:=V1 0 q n c l w JZ a hl;rw[show At.update 0 l=At.sum l from D]at C
 go_enter p7,Tryz.ntmps102
 go_wp2_with (first|(go_at_call 134;with_reducible refine C_ ?_))
 refine⟨C.mono ?_⟩;rintro e b ⟨rfl,J⟩
 go_wp2
 go_ret
 exact⟨D,J⟩
