/- Laws and walks on the road to SalvageNever and SalvageHeals (part M04). No conditions beyond each law's own. -/
import Derived.Test.YtcdaflcjhimimaaGreatDoorM01
import Derived.Test.YtcdaflcjhimimaaGreatDoorM03
import Derived.Test.YtcdaflcjhimimaaGreatDoorM02
set_option linter.unusedVariables false
namespace Go.Proofs.YtcdaflcjhimimaaGreatDoor
open Go.RowKit
variable {x y c:Operand} {t u e:TypeId} {k:IntKind} {p q:Int} {v:Value} {i b j n off:Nat} {op:Op} {CX:Oper}
abbrev E(n:Nat):Value:=.int .i64 (n:Int)
abbrev F(p:Option Addr)(n c:Nat):Value:=.slice p n c
abbrev AB(b:Nat):Value:=.pointer (some ⟨b,0,none⟩)
abbrev Sl(b o:Nat):Value:=.pointer (some ⟨b,o,none⟩)
abbrev Br(b:Bool):Value:=.bool b
abbrev Z(v:Value)(b:Nat):Prop:=∀k,v.ownBlock=some k→k≠b
abbrev Ai(w:World)(b:Nat)(ss:List (List Value))(Az:TypeId):Prop:=w.heap[b]? =some (.cells (flat ss) Az (0,0))
theorem FL{c:Nat}:Z (F none n c) b:=fun k a=>by cases a
theorem D2{w:World}{B size:Nat}{xs:List Value}(o:w.ownsRow B e size v n xs)(h:b<B:=by omega):Z v b:=fun k a=>by have:=(o.lt k a).1;omega
theorem Q{w w':World}{o:Obj}(h:w.heap[b]? =some o)(a:Below w.heap.size w w'):w'.heap[b]? =some o:=XH h a
theorem V{w w':World}{B:Nat}{size:Nat}{xs:List Value}(h:w.ownsRow B e size v n xs)(a:Below w.heap.size w w'):w'.ownsRow B e size v n xs:=Q5 h a
theorem At{U:Nat}{a:Act}{f g:Db}(b:Ao U a f)(h:Sub f g:=by(repeat(first|exact Sub.Je _|refine Sub.Ja ?_ rfl))):Ao U a g:=b.sub h
section
variable {P:Program} {w w':World} {ops:Array Oper} {rest:List Oper} {Ac:Exit→Act→World→Prop} {U:Nat} {f:Db} {d:Nat} {ty:TypeId} {pos:String} {AF:Array Edge} {dst:Option Tmp} {R:Act→Prop} {Aa:Act→World→Prop}
abbrev BG(P:Program)(ops:Array Oper)(Ac:Exit→Act→World→Prop)(U:Nat)(w:World)(f:Db)(l:List Oper):Prop:=∀a,Ao U a f→wpList P ops Ac l a w
abbrev Cw(P:Program)(ops:Array Oper)(R:Act→Prop)(U:Nat)(w:World)(f:Db)(l:List Oper):Prop:=∀a,Ao U a f→wpStill P ops w R l a
theorem Mh{Cs:Field}{f:Db}{s:TypeId}{o:Nat}{e:Array Field}{a:Act}{g:Option (Nat×Bool)}(h:Ao U a f)(j:Au f x=some (.pointer (some ⟨b,off,none⟩)))(hu:P.underlying s=some (.struct e))(k:e[i]? =some Cs)(c:(P.info? Cs.type).any (fun i=>Nat.blt 0 i.size)=true)(l:off+Cs.offset=o):Cy P a w ⟨dst,.fieldAddr s x i,ty,pos,AF,g⟩ (.pointer (some ⟨b,o,none⟩)) w:=by
 cases d:P.info? Cs.type with
 |none=>rw[d]at c;cases c
 |some z=>
  rw[d]at c
  have:=Nat.le_of_ble_eq_true (show Nat.ble 1 z.size=true from c)
  exact JA h j hu k (sz:=z.size - 1) (by rw[d];simp;omega) l
theorem Ad{t:Bool}(c:ops[j]? =some CX){k:Nat}(d:CX.dst=some k)(e:f k=some (.bool t))(h:BG P ops Ac U w f (⟨dst,op,ty,pos,AF,none⟩::rest)):BG P ops Ac U w f (⟨dst,op,ty,pos,AF,some (j,t)⟩::rest):=by
 intro a b
 have hw:Region.wanted ⟨dst,op,ty,pos,AF,some (j,t)⟩ (yielded ops a.tmps)=true:=by
  have:=JV (b.h k _ e)
  simp[Region.wanted,yielded,c,d,this]
 have:=h a b
 unfold wpList at this⊢
 rw[if_pos (by simp[Region.wanted])]at this
 rw[if_pos hw]
 exact this
theorem Ae{t u:Bool}(b:ops[j]? =some CX){k:Nat}(c:CX.dst=some k)(e:f k=some (.bool u))(g:t=!u)(h:BG P ops Ac U w (Ja f d undef) rest)(Ab:Nat.blt d U=true:=by exact rfl):BG P ops Ac U w f (⟨some d,op,ty,pos,AF,some (j,t)⟩::rest):=by
 subst g
 exact fun a i=>Vs D b c i e D Ab h
theorem FU{t:Bool}(b:ops[j]? =some CX){k:Nat}(c:CX.dst=some k)(e:f k=some undef)(h:BG P ops Ac U w (Ja f d undef) rest)(Ab:Nat.blt d U=true:=by exact rfl):BG P ops Ac U w f (⟨some d,op,ty,pos,AF,some (j,t)⟩::rest):=
 fun a g=>Y8 D b c g e D Ab h
theorem BI{t:Bool}(c:ops[j]? =some CX){k:Nat}(d:CX.dst=some k)(e:f k=some (.bool t))(h:Cw P ops R U w f (⟨dst,op,ty,pos,AF,none⟩::rest)):Cw P ops R U w f (⟨dst,op,ty,pos,AF,some (j,t)⟩::rest):=by
 intro a b
 have hw:Region.wanted ⟨dst,op,ty,pos,AF,some (j,t)⟩ (yielded ops a.tmps)=true:=by
  have:=JV (b.h k _ e)
  simp[Region.wanted,yielded,c,d,this]
 have:=h a b
 unfold wpStill at this⊢
 rw[if_pos (by simp[Region.wanted])]at this
 rw[if_pos hw]
 exact this
theorem Bo{t u:Bool}(b:ops[j]? =some CX){k:Nat}(c:CX.dst=some k)(e:f k=some (.bool u))(g:t=!u)(h:Cw P ops R U w (Ja f d undef) rest)(Ab:Nat.blt d U=true:=by exact rfl):Cw P ops R U w f (⟨some d,op,ty,pos,AF,some (j,t)⟩::rest):=by
 subst g
 exact fun a i=>SY D b c i e D Ab h
theorem M(h:∀a,Ao U a f→Ac .normal a w):BG P ops Ac U w f []:=h
theorem Er(h:∀a,Ao U a f→R a):Cw P ops R U w f []:=h
theorem G(h:∀a,Ao U a f→Aa a w):∀a,Ao U a f→Exit.then Aa Ac .normal a w:=h
theorem AW(h:∀a,Ao U a f→Ac (.exit i) a w):∀a,Ao U a f→Exit.then Aa Ac (.exit i) a w:=h
theorem AX(h:∀a,Ao U a f→Ac .ret a w):∀a,Ao U a f→Exit.then Aa Ac .ret a w:=h
theorem Bq(h:∀a,Ao U a f→Ac .normal a w):∀a,Ao U a f→Exit.inBlock i Ac .normal a w:=h
theorem C1(h:∀a,Ao U a f→Ac .ret a w):∀a,Ao U a f→Exit.inBlock i Ac .ret a w:=h
theorem BN(h:∀a,Ao U a f→Ac .normal a w):∀a,Ao U a f→Exit.inBlock i Ac (.exit i) a w:=fun a b=>XF (h a b)
theorem ED(h:∀a,Ao U a f→Ac (.exit j) a w)(b:Nat.beq j i=false:=by exact rfl):∀a,Ao U a f→Exit.inBlock i Ac (.exit j) a w:=fun a c=>Y9 b (h a c)
theorem K{x y:Code}(h:∀a,Ao U a f→x.wp P (Exit.then (y.wp P Ac) Ac) a w):∀a,Ao U a f→(Code.seq x y).wp P Ac a w:=fun a b=>wp_seq (h a b)
theorem N{id:Nat}{l:List Oper}(h:BG P l.toArray Ac U w f l):∀a,Ao U a f→(Code.region id l.toArray false).wp P Ac a w:=fun a b=>wp_region_lit (h a b)
theorem AE(h:∀a,Ao U a f→Ac .normal a w):∀a,Ao U a f→Code.skip.wp P Ac a w:=fun a b=>wp_skip (h a b)
theorem BO{id:Nat}(h:∀a,Ao U a f→Ac (.exit id) a w):∀a,Ao U a f→(Code.exit id).wp P Ac a w:=fun a b=>wp_exit (h a b)
theorem AA(h:∀a,Ao U a f→Ac .ret a w):∀a,Ao U a f→Code.ret.wp P Ac a w:=fun a b=>wp_ret (h a b)
theorem A2{id:Nat}{c:Code}(h:∀a,Ao U a f→c.wp P (Exit.inBlock id Ac) a w):∀a,Ao U a f→(Code.block id c).wp P Ac a w:=fun a b=>wp_block (h a b)
theorem Ej{x y:Code}{t:Bool}(d:Au f c=some (.bool t))(e:t=true→∀a,Ao U a f→x.wp P Ac a w)(g:t=false→∀a,Ao U a f→y.wp P Ac a w):∀a,Ao U a f→(Code.cond c x y).wp P Ac a w:=fun a b=>wp_cond_split (b.CL d) (fun h=>e h a b) (fun h=>g h a b)
theorem Bl{x y:Code}{p:Prop}[Decidable p](b:Au f c=some (.bool (decide p)))(d:p→∀a,Ao U a f→x.wp P Ac a w)(e:¬p→∀a,Ao U a f→y.wp P Ac a w):∀a,Ao U a f→(Code.cond c x y).wp P Ac a w:=Ej b (fun h=>d (of_decide_eq_true h)) (fun h=>e (of_decide_eq_false h))
theorem E7{x y:Code}{p:Prop}[Decidable p](b:Au f c=some (.bool (!decide p)))(d:¬p→∀a,Ao U a f→x.wp P Ac a w)(e:p→∀a,Ao U a f→y.wp P Ac a w):∀a,Ao U a f→(Code.cond c x y).wp P Ac a w:=Ej b (fun h=>d (YG h)) (fun h=>e (Zf h))
theorem BS{x y:Code}(b:Au f c=some (.bool true))(d:∀a,Ao U a f→x.wp P Ac a w):∀a,Ao U a f→(Code.cond c x y).wp P Ac a w:=Ej b (fun _=>d) (fun h=>by cases h)
theorem BE{x y:Code}(b:Au f c=some (.bool false))(d:∀a,Ao U a f→y.wp P Ac a w):∀a,Ao U a f→(Code.cond c x y).wp P Ac a w:=Ej b (fun h=>by cases h) (fun _=>d)
theorem AZ{fn:Func}{A4:Ending→World→Prop}{t:Nat}(b:f t=some v)(h:A4 (.returned v) w)(c:fn.results=#[.tmp t]:=by exact rfl):∀a,Ao U a f→bodyPost P fn A4 .ret a w:=fun a d=>X3 d c b h
theorem IA{fn:Func}{A4:Ending→World→Prop}{t u:Nat}{BL:Value}(b:f t=some v)(hu:f u=some BL)(h:A4 (.returned (.tuple #[v,BL])) w)(c:fn.results=#[.tmp t,.tmp u]:=by exact rfl):∀a,Ao U a f→bodyPost P fn A4 .ret a w:=fun a d=>VJ d c b hu h
theorem I(a:Au f x=some v)(h:BG P ops Ac U w (Ja f d v) rest)(Ab:Nat.blt d U=true:=by exact rfl):BG P ops Ac U w f (⟨some d,.move x,ty,pos,AF,none⟩::rest):=Dy Ab (fun _ b=>Ew b a) h
theorem A3(a:Au f x=some v)(h:Cw P ops R U w (Ja f d v) rest)(Ab:Nat.blt d U=true:=by exact rfl):Cw P ops R U w f (⟨some d,.move x,ty,pos,AF,none⟩::rest):=EB Ab (fun _ b=>Ew b a) h
theorem O(a:Au f x=some v)(h:BG P ops Ac U w (Ja f d v) rest)(Ab:Nat.blt d U=true:=by exact rfl):BG P ops Ac U w f (⟨some d,.assign x,ty,pos,AF,none⟩::rest):=Dy Ab (fun _ b=>Kb b a) h
theorem Ff(a:Au f x=some v)(h:Cw P ops R U w (Ja f d v) rest)(Ab:Nat.blt d U=true:=by exact rfl):Cw P ops R U w f (⟨some d,.assign x,ty,pos,AF,none⟩::rest):=EB Ab (fun _ b=>Kb b a) h
theorem Bt{p:Addr}(a:Au f x=some (.pointer (some p)))(h:BG P ops Ac U w (Ja f d (.pointer (some p))) rest)(Ab:Nat.blt d U=true:=by exact rfl):BG P ops Ac U w f (⟨some d,.nilCheck x,ty,pos,AF,none⟩::rest):=Dy Ab (fun _ b=>Lz b a) h
theorem Ee{p:Addr}(a:Au f x=some (.pointer (some p)))(h:Cw P ops R U w (Ja f d (.pointer (some p))) rest)(Ab:Nat.blt d U=true:=by exact rfl):Cw P ops R U w f (⟨some d,.nilCheck x,ty,pos,AF,none⟩::rest):=EB Ab (fun _ b=>Lz b a) h
theorem BC{CQ:Array Value}(a:Au f x=some (.tuple CQ))(b:CQ[i]? =some v)(h:BG P ops Ac U w (Ja f d v) rest)(Ab:Nat.blt d U=true:=by exact rfl):BG P ops Ac U w f (⟨some d,.extract x i,ty,pos,AF,none⟩::rest):=Dy Ab (fun _ c=>RA c a b) h
theorem Bn(a:Au f c=some (.bool true))(b:Au f x=some v)(h:BG P ops Ac U w (Ja f d v) rest)(Ab:Nat.blt d U=true:=by exact rfl):BG P ops Ac U w f (⟨some d,.pick c x y,ty,pos,AF,none⟩::rest):=Dy Ab (fun _ e=>M1 e a b) h
theorem G'(a:Au f c=some (.bool true))(b:Au f x=some v)(h:Cw P ops R U w (Ja f d v) rest)(Ab:Nat.blt d U=true:=by exact rfl):Cw P ops R U w f (⟨some d,.pick c x y,ty,pos,AF,none⟩::rest):=EB Ab (fun _ e=>M1 e a b) h
theorem Ba(a:Au f c=some (.bool false))(b:Au f y=some v)(h:BG P ops Ac U w (Ja f d v) rest)(Ab:Nat.blt d U=true:=by exact rfl):BG P ops Ac U w f (⟨some d,.pick c x y,ty,pos,AF,none⟩::rest):=Dy Ab (fun _ e=>Oe e a b) h
theorem GU(a:Au f c=some (.bool false))(b:Au f y=some v)(h:Cw P ops R U w (Ja f d v) rest)(Ab:Nat.blt d U=true:=by exact rfl):Cw P ops R U w f (⟨some d,.pick c x y,ty,pos,AF,none⟩::rest):=EB Ab (fun _ e=>Oe e a b) h
theorem Dn{b:Bool}(a:Au f x=some (.bool b))(h:BG P ops Ac U w (Ja f d (.bool (!b))) rest)(Ab:Nat.blt d U=true:=by exact rfl):BG P ops Ac U w f (⟨some d,.unOp .not t x,ty,pos,AF,none⟩::rest):=Dy Ab (fun _ c=>LN c a) h
theorem BY(a:P.underlying t=some (.slice e)){p:Option Addr}{c:Nat}(b:Au f x=some (.slice p n c))(h:BG P ops Ac U w (Ja f d (.int .i64 n)) rest)(Ab:Nat.blt d U=true:=by exact rfl):BG P ops Ac U w f (⟨some d,.call {callee:=.builtin .len,args:=#[x],argTypes:=#[t]},ty,pos,AF,none⟩::rest):=Dy Ab (fun _ g=>Nt g a b) h
theorem J_(a:P.underlying t=some (.slice e)){p:Option Addr}{c:Nat}(b:Au f x=some (.slice p n c))(h:Cw P ops R U w (Ja f d (.int .i64 n)) rest)(Ab:Nat.blt d U=true:=by exact rfl):Cw P ops R U w f (⟨some d,.call {callee:=.builtin .len,args:=#[x],argTypes:=#[t]},ty,pos,AF,none⟩::rest):=EB Ab (fun _ g=>Nt g a b) h
theorem Am{s:TypeId}{a:Array Field}(hu:P.underlying s=some (.struct a))(o:Nat)(c:Au f x=some (.pointer (some ⟨b,off,none⟩)))(h:BG P ops Ac U w (Ja f d (.pointer (some ⟨b,o,none⟩))) rest){Cs:Field}(e:a[i]? =some Cs:=by exact rfl)(g:(P.info? Cs.type).any (fun i=>Nat.blt 0 i.size)=true:=by kernel_rfl)(j:off+Cs.offset=o:=by first|rfl|omega)(Ab:Nat.blt d U=true:=by exact rfl):BG P ops Ac U w f (⟨some d,.fieldAddr s x i,ty,pos,AF,none⟩::rest):=Dy Ab (fun _ k=>Mh k c hu e g j) h
theorem Cx{s:TypeId}{a:Array Field}(hu:P.underlying s=some (.struct a))(o:Nat)(c:Au f x=some (.pointer (some ⟨b,off,none⟩)))(h:Cw P ops R U w (Ja f d (.pointer (some ⟨b,o,none⟩))) rest){Cs:Field}(e:a[i]? =some Cs:=by exact rfl)(g:(P.info? Cs.type).any (fun i=>Nat.blt 0 i.size)=true:=by kernel_rfl)(j:off+Cs.offset=o:=by first|rfl|omega)(Ab:Nat.blt d U=true:=by exact rfl):Cw P ops R U w f (⟨some d,.fieldAddr s x i,ty,pos,AF,none⟩::rest):=EB Ab (fun _ k=>Mh k c hu e g j) h
theorem A_{p q:Nat}(a:Au f x=some (.int .i64 p))(b:Au f y=some (.int .i64 q))(h:BG P ops Ac U w (Ja f d (.int .i64 ((p+q:Nat):Int))) rest)(c:p+q≤9223372036854775807:=by omega)(Ab:Nat.blt d U=true:=by exact rfl):BG P ops Ac U w f (⟨some d,.binOp .add t x y u,ty,pos,AF,none⟩::rest):=Dy Ab (fun _ e=>Lq e a b D c) h
theorem Fv{p q:Nat}(a:Au f x=some (.int .i64 p))(b:Au f y=some (.int .i64 q))(h:Cw P ops R U w (Ja f d (.int .i64 ((p+q:Nat):Int))) rest)(c:p+q≤9223372036854775807:=by omega)(Ab:Nat.blt d U=true:=by exact rfl):Cw P ops R U w f (⟨some d,.binOp .add t x y u,ty,pos,AF,none⟩::rest):=EB Ab (fun _ e=>Lq e a b D c) h
theorem U0{p q:Nat}(r:Nat)(a:Au f x=some (.int .i64 p))(b:Au f y=some (.int .i64 q))(h:BG P ops Ac U w (Ja f d (.int .i64 ((r:Nat):Int))) rest)(c:p+q=r:=by first|rfl|omega)(e:r≤9223372036854775807:=by omega)(Ab:Nat.blt d U=true:=by exact rfl):BG P ops Ac U w f (⟨some d,.binOp .add t x y u,ty,pos,AF,none⟩::rest):=Dy Ab (fun _ g=>Lq g a b c e) h
theorem E'{p q:Nat}(a:Au f x=some (.int .i64 p))(b:Au f y=some (.int .i64 q))(h:BG P ops Ac U w (Ja f d (.int .i64 ((p - q:Nat):Int))) rest)(c:p=q+(p - q):=by omega)(e:p≤9223372036854775807:=by omega)(Ab:Nat.blt d U=true:=by exact rfl):BG P ops Ac U w f (⟨some d,.binOp .sub t x y u,ty,pos,AF,none⟩::rest):=Dy Ab (fun _ g=>Lg g a b c e) h
theorem HI{p q:Nat}(a:Au f x=some (.int .i64 p))(b:Au f y=some (.int .i64 q))(h:Cw P ops R U w (Ja f d (.int .i64 ((p - q:Nat):Int))) rest)(c:p=q+(p - q):=by omega)(e:p≤9223372036854775807:=by omega)(Ab:Nat.blt d U=true:=by exact rfl):Cw P ops R U w f (⟨some d,.binOp .sub t x y u,ty,pos,AF,none⟩::rest):=EB Ab (fun _ g=>Lg g a b c e) h
theorem FT{p q:Nat}(a:Au f x=some (.int .i64 p))(b:Au f y=some (.int .i64 q))(h:BG P ops Ac U w (Ja f d (.int .i64 ((p*q:Nat):Int))) rest)(c:p*q≤9223372036854775807:=by omega)(Ab:Nat.blt d U=true:=by exact rfl):BG P ops Ac U w f (⟨some d,.binOp .mul t x y u,ty,pos,AF,none⟩::rest):=Dy Ab (fun _ e=>Sd e a b D c) h
theorem G_{p q:Nat}(a:Au f x=some (.int .i64 p))(b:Au f y=some (.int .i64 q))(h:Cw P ops R U w (Ja f d (.int .i64 ((p*q:Nat):Int))) rest)(c:p*q≤9223372036854775807:=by omega)(Ab:Nat.blt d U=true:=by exact rfl):Cw P ops R U w f (⟨some d,.binOp .mul t x y u,ty,pos,AF,none⟩::rest):=EB Ab (fun _ e=>Sd e a b D c) h
theorem FK{p q:Nat}(a:Au f x=some (.int .i64 p))(b:Au f y=some (.int .i64 q))(h:BG P ops Ac U w (Ja f d (.int .i64 ((p/q:Nat):Int))) rest)(c:0<q:=by omega)(e:p≤9223372036854775807:=by omega)(Ab:Nat.blt d U=true:=by exact rfl):BG P ops Ac U w f (⟨some d,.binOp .quo t x y u,ty,pos,AF,none⟩::rest):=Dy Ab (fun _ g=>Pt g a b D c e) h
theorem N9{p q:Nat}(a:Au f x=some (.int .i64 p))(b:Au f y=some (.int .i64 q))(h:Cw P ops R U w (Ja f d (.int .i64 ((p/q:Nat):Int))) rest)(c:0<q:=by omega)(e:p≤9223372036854775807:=by omega)(Ab:Nat.blt d U=true:=by exact rfl):Cw P ops R U w f (⟨some d,.binOp .quo t x y u,ty,pos,AF,none⟩::rest):=EB Ab (fun _ g=>Pt g a b D c e) h
theorem EM{p q:Nat}(a:Au f x=some (.int .i64 p))(b:Au f y=some (.int .i64 q))(h:BG P ops Ac U w (Ja f d (.int .i64 ((p % q:Nat):Int))) rest)(c:0<q:=by omega)(Ab:Nat.blt d U=true:=by exact rfl):BG P ops Ac U w f (⟨some d,.binOp .rem t x y u,ty,pos,AF,none⟩::rest):=Dy Ab (fun _ e=>PK e a b D c) h
theorem PM{p q:Nat}(a:Au f x=some (.int .i64 p))(b:Au f y=some (.int .i64 q))(h:Cw P ops R U w (Ja f d (.int .i64 ((p % q:Nat):Int))) rest)(c:0<q:=by omega)(Ab:Nat.blt d U=true:=by exact rfl):Cw P ops R U w f (⟨some d,.binOp .rem t x y u,ty,pos,AF,none⟩::rest):=EB Ab (fun _ e=>PK e a b D c) h
theorem B5(a:Au f x=some (.int k p))(b:Au f y=some (.int k q))(h:BG P ops Ac U w (Ja f d (.bool (decide (p<q)))) rest)(Ab:Nat.blt d U=true:=by exact rfl):BG P ops Ac U w f (⟨some d,.binOp .lss t x y u,ty,pos,AF,none⟩::rest):=Dy Ab (fun _ c=>Kd c a b _ D) h
theorem V_(a:Au f x=some (.int k p))(b:Au f y=some (.int k q))(h:Cw P ops R U w (Ja f d (.bool (decide (p<q)))) rest)(Ab:Nat.blt d U=true:=by exact rfl):Cw P ops R U w f (⟨some d,.binOp .lss t x y u,ty,pos,AF,none⟩::rest):=EB Ab (fun _ c=>Kd c a b _ D) h
theorem D8(a:p<q)(b:Au f x=some (.int k p))(c:Au f y=some (.int k q))(h:BG P ops Ac U w (Ja f d (.bool true)) rest)(Ab:Nat.blt d U=true:=by exact rfl):BG P ops Ac U w f (⟨some d,.binOp .lss t x y u,ty,pos,AF,none⟩::rest):=Dy Ab (fun _ e=>Kd e b c true (decide_eq_true a)) h
theorem PS(a:p<q)(b:Au f x=some (.int k p))(c:Au f y=some (.int k q))(h:Cw P ops R U w (Ja f d (.bool true)) rest)(Ab:Nat.blt d U=true:=by exact rfl):Cw P ops R U w f (⟨some d,.binOp .lss t x y u,ty,pos,AF,none⟩::rest):=EB Ab (fun _ e=>Kd e b c true (decide_eq_true a)) h
theorem DO(a:¬(p<q))(b:Au f x=some (.int k p))(c:Au f y=some (.int k q))(h:BG P ops Ac U w (Ja f d (.bool false)) rest)(Ab:Nat.blt d U=true:=by exact rfl):BG P ops Ac U w f (⟨some d,.binOp .lss t x y u,ty,pos,AF,none⟩::rest):=Dy Ab (fun _ e=>Kd e b c false (decide_eq_false a)) h
theorem PQ(a:¬(p<q))(b:Au f x=some (.int k p))(c:Au f y=some (.int k q))(h:Cw P ops R U w (Ja f d (.bool false)) rest)(Ab:Nat.blt d U=true:=by exact rfl):Cw P ops R U w f (⟨some d,.binOp .lss t x y u,ty,pos,AF,none⟩::rest):=EB Ab (fun _ e=>Kd e b c false (decide_eq_false a)) h
theorem QT(a:Au f x=some (.int k p))(b:Au f y=some (.int k q))(h:BG P ops Ac U w (Ja f d (.bool (decide (p≤q)))) rest)(Ab:Nat.blt d U=true:=by exact rfl):BG P ops Ac U w f (⟨some d,.binOp .leq t x y u,ty,pos,AF,none⟩::rest):=Dy Ab (fun _ c=>Ng c a b _ D) h
theorem Let(a:p≤q)(b:Au f x=some (.int k p))(c:Au f y=some (.int k q))(h:BG P ops Ac U w (Ja f d (.bool true)) rest)(Ab:Nat.blt d U=true:=by exact rfl):BG P ops Ac U w f (⟨some d,.binOp .leq t x y u,ty,pos,AF,none⟩::rest):=Dy Ab (fun _ e=>Ng e b c true (decide_eq_true a)) h
theorem NG(a:¬(p≤q))(b:Au f x=some (.int k p))(c:Au f y=some (.int k q))(h:BG P ops Ac U w (Ja f d (.bool false)) rest)(Ab:Nat.blt d U=true:=by exact rfl):BG P ops Ac U w f (⟨some d,.binOp .leq t x y u,ty,pos,AF,none⟩::rest):=Dy Ab (fun _ e=>Ng e b c false (decide_eq_false a)) h
theorem Ip(a:Au f x=some (.int k p))(b:Au f y=some (.int k q))(h:BG P ops Ac U w (Ja f d (.bool (decide (q<p)))) rest)(Ab:Nat.blt d U=true:=by exact rfl):BG P ops Ac U w f (⟨some d,.binOp .gtr t x y u,ty,pos,AF,none⟩::rest):=Dy Ab (fun _ c=>JP c a b _ D) h
theorem Gp(a:q<p)(b:Au f x=some (.int k p))(c:Au f y=some (.int k q))(h:BG P ops Ac U w (Ja f d (.bool true)) rest)(Ab:Nat.blt d U=true:=by exact rfl):BG P ops Ac U w f (⟨some d,.binOp .gtr t x y u,ty,pos,AF,none⟩::rest):=Dy Ab (fun _ e=>JP e b c true (decide_eq_true a)) h
theorem XP(a:q<p)(b:Au f x=some (.int k p))(c:Au f y=some (.int k q))(h:Cw P ops R U w (Ja f d (.bool true)) rest)(Ab:Nat.blt d U=true:=by exact rfl):Cw P ops R U w f (⟨some d,.binOp .gtr t x y u,ty,pos,AF,none⟩::rest):=EB Ab (fun _ e=>JP e b c true (decide_eq_true a)) h
theorem FV(a:¬(q<p))(b:Au f x=some (.int k p))(c:Au f y=some (.int k q))(h:BG P ops Ac U w (Ja f d (.bool false)) rest)(Ab:Nat.blt d U=true:=by exact rfl):BG P ops Ac U w f (⟨some d,.binOp .gtr t x y u,ty,pos,AF,none⟩::rest):=Dy Ab (fun _ e=>JP e b c false (decide_eq_false a)) h
theorem V'(a:¬(q<p))(b:Au f x=some (.int k p))(c:Au f y=some (.int k q))(h:Cw P ops R U w (Ja f d (.bool false)) rest)(Ab:Nat.blt d U=true:=by exact rfl):Cw P ops R U w f (⟨some d,.binOp .gtr t x y u,ty,pos,AF,none⟩::rest):=EB Ab (fun _ e=>JP e b c false (decide_eq_false a)) h
theorem JT(a:Au f x=some (.int k p))(b:Au f y=some (.int k q))(h:BG P ops Ac U w (Ja f d (.bool (decide (q≤p)))) rest)(Ab:Nat.blt d U=true:=by exact rfl):BG P ops Ac U w f (⟨some d,.binOp .geq t x y u,ty,pos,AF,none⟩::rest):=Dy Ab (fun _ c=>Lb c a b _ D) h
theorem Gy(a:q≤p)(b:Au f x=some (.int k p))(c:Au f y=some (.int k q))(h:BG P ops Ac U w (Ja f d (.bool true)) rest)(Ab:Nat.blt d U=true:=by exact rfl):BG P ops Ac U w f (⟨some d,.binOp .geq t x y u,ty,pos,AF,none⟩::rest):=Dy Ab (fun _ e=>Lb e b c true (decide_eq_true a)) h
theorem GL(a:¬(q≤p))(b:Au f x=some (.int k p))(c:Au f y=some (.int k q))(h:BG P ops Ac U w (Ja f d (.bool false)) rest)(Ab:Nat.blt d U=true:=by exact rfl):BG P ops Ac U w f (⟨some d,.binOp .geq t x y u,ty,pos,AF,none⟩::rest):=Dy Ab (fun _ e=>Lb e b c false (decide_eq_false a)) h
theorem Dk(a:Au f x=some (.int k p))(b:Au f y=some (.int k q))(h:BG P ops Ac U w (Ja f d (.bool (decide (p=q)))) rest)(Ab:Nat.blt d U=true:=by exact rfl):BG P ops Ac U w f (⟨some d,.binOp .eql t x y u,ty,pos,AF,none⟩::rest):=Dy Ab (fun _ c=>IT c a b _ D) h
theorem D5(a:p=q)(b:Au f x=some (.int k p))(c:Au f y=some (.int k q))(h:BG P ops Ac U w (Ja f d (.bool true)) rest)(Ab:Nat.blt d U=true:=by exact rfl):BG P ops Ac U w f (⟨some d,.binOp .eql t x y u,ty,pos,AF,none⟩::rest):=Dy Ab (fun _ e=>IT e b c true (decide_eq_true a)) h
theorem J0(a:p=q)(b:Au f x=some (.int k p))(c:Au f y=some (.int k q))(h:Cw P ops R U w (Ja f d (.bool true)) rest)(Ab:Nat.blt d U=true:=by exact rfl):Cw P ops R U w f (⟨some d,.binOp .eql t x y u,ty,pos,AF,none⟩::rest):=EB Ab (fun _ e=>IT e b c true (decide_eq_true a)) h
theorem E0(a:¬(p=q))(b:Au f x=some (.int k p))(c:Au f y=some (.int k q))(h:BG P ops Ac U w (Ja f d (.bool false)) rest)(Ab:Nat.blt d U=true:=by exact rfl):BG P ops Ac U w f (⟨some d,.binOp .eql t x y u,ty,pos,AF,none⟩::rest):=Dy Ab (fun _ e=>IT e b c false (decide_eq_false a)) h
theorem Kc(a:¬(p=q))(b:Au f x=some (.int k p))(c:Au f y=some (.int k q))(h:Cw P ops R U w (Ja f d (.bool false)) rest)(Ab:Nat.blt d U=true:=by exact rfl):Cw P ops R U w f (⟨some d,.binOp .eql t x y u,ty,pos,AF,none⟩::rest):=EB Ab (fun _ e=>IT e b c false (decide_eq_false a)) h
theorem Fi(a:Au f x=some (.int k p))(b:Au f y=some (.int k q))(h:BG P ops Ac U w (Ja f d (.bool (!decide (p=q)))) rest)(Ab:Nat.blt d U=true:=by exact rfl):BG P ops Ac U w f (⟨some d,.binOp .neq t x y u,ty,pos,AF,none⟩::rest):=Dy Ab (fun _ c=>JX c a b _ D) h
theorem Wr(a:Au f x=some (.int k p))(b:Au f y=some (.int k q))(h:Cw P ops R U w (Ja f d (.bool (!decide (p=q)))) rest)(Ab:Nat.blt d U=true:=by exact rfl):Cw P ops R U w f (⟨some d,.binOp .neq t x y u,ty,pos,AF,none⟩::rest):=EB Ab (fun _ c=>JX c a b _ D) h
theorem F6(a:¬(p=q))(b:Au f x=some (.int k p))(c:Au f y=some (.int k q))(h:BG P ops Ac U w (Ja f d (.bool true)) rest)(Ab:Nat.blt d U=true:=by exact rfl):BG P ops Ac U w f (⟨some d,.binOp .neq t x y u,ty,pos,AF,none⟩::rest):=Dy Ab (fun _ e=>JX e b c true (by rw[decide_eq_false a];rfl)) h
theorem X7(a:¬(p=q))(b:Au f x=some (.int k p))(c:Au f y=some (.int k q))(h:Cw P ops R U w (Ja f d (.bool true)) rest)(Ab:Nat.blt d U=true:=by exact rfl):Cw P ops R U w f (⟨some d,.binOp .neq t x y u,ty,pos,AF,none⟩::rest):=EB Ab (fun _ e=>JX e b c true (by rw[decide_eq_false a];rfl)) h
theorem Dr(a:p=q)(b:Au f x=some (.int k p))(c:Au f y=some (.int k q))(h:BG P ops Ac U w (Ja f d (.bool false)) rest)(Ab:Nat.blt d U=true:=by exact rfl):BG P ops Ac U w f (⟨some d,.binOp .neq t x y u,ty,pos,AF,none⟩::rest):=Dy Ab (fun _ e=>JX e b c false (by rw[decide_eq_true a];rfl)) h
theorem Of(a:p=q)(b:Au f x=some (.int k p))(c:Au f y=some (.int k q))(h:Cw P ops R U w (Ja f d (.bool false)) rest)(Ab:Nat.blt d U=true:=by exact rfl):Cw P ops R U w f (⟨some d,.binOp .neq t x y u,ty,pos,AF,none⟩::rest):=EB Ab (fun _ e=>JX e b c false (by rw[decide_eq_true a];rfl)) h
theorem Cg{Az:TypeId}{BU:TypeDesc}(hu:P.underlying Az=some BU)(a:w.cell? ⟨b,off,none⟩=some v)(c:Au f x=some (.pointer (some ⟨b,off,none⟩)))(h:BG P ops Ac U w (Ja f d v) rest)(e:BU.isRow=false:=by exact rfl)(Ab:Nat.blt d U=true:=by exact rfl):BG P ops Ac U w f (⟨some d,.load Az x,ty,pos,AF,none⟩::rest):=Dy Ab (fun _ g=>D1 g c hu e a) h
theorem Dw{Az:TypeId}{BU:TypeDesc}(hu:P.underlying Az=some BU)(a:w.cell? ⟨b,off,none⟩=some v)(c:Au f x=some (.pointer (some ⟨b,off,none⟩)))(h:Cw P ops R U w (Ja f d v) rest)(e:BU.isRow=false:=by exact rfl)(Ab:Nat.blt d U=true:=by exact rfl):Cw P ops R U w f (⟨some d,.load Az x,ty,pos,AF,none⟩::rest):=EB Ab (fun _ g=>D1 g c hu e a) h
theorem AT(b:∀a,Ao U a f→Cy P a w ⟨some d,op,ty,pos,AF,none⟩ v w)(h:BG P ops Ac U w (Ja f d v) rest)(Ab:Nat.blt d U=true:=by exact rfl):BG P ops Ac U w f (⟨some d,op,ty,pos,AF,none⟩::rest):=Dy Ab b h
theorem Cz(b:∀a,Ao U a f→Cy P a w ⟨some d,op,ty,pos,AF,none⟩ v w)(h:Cw P ops R U w (Ja f d v) rest)(Ab:Nat.blt d U=true:=by exact rfl):Cw P ops R U w f (⟨some d,op,ty,pos,AF,none⟩::rest):=EB Ab b h
end
end Go.Proofs.YtcdaflcjhimimaaGreatDoor
namespace Go.Proofs.YtcdaflcjhimimaaGreatDoor
open Go.RowKit
set_option maxRecDepth 100000
set_option maxHeartbeats 1000000
def Fy:Value:=.agg #[.int .i64 0,.int .i64 0,.int .i64 0,.int .i64 0,.int .i64 0]
theorem U2(q:Option Addr)(c:Nat)(l:List UInt8)(w:World)(a:View w (.slice q 256 c) 256 1 (bv l))(i:l.length=256)(j:Af.Cj (l.take 64) 60≠0):
 Calls Tryz.prog 34 #[.slice q 256 c] w fun e w'=>e=.returned (.tuple #[Fy,.int .i64 52])∧Below w.heap.size w w':=by
 have hcap:=a.cap
 have m:View w (.slice q 64 c) 64 1 (bv (l.take 64)):=a.pre 64 (by omega) (by omega)
 have f:=Jt q 60 c (l.take 64)
 have Ab:decide (Af.Cj (l.take 64) 60=0)=false:=by simpa using j
 rw[Ab]at f
 go_enter GB,Tryz.ntmps34
 go_wp2_with (with_reducible refine JK 59 ?_)
 refine⟨E9 D 59 D (z:=Fy) (by kernel_rfl) ?_⟩
 intro o u d b1
 simp only[Value.cells,Fy]at d
 have H1:=Aw d
 clear d
 have A:=a.below b1
 go_wp2_with (with_reducible refine Gr ?_)
 refine⟨HK A0 D (.tmp 10) (.const (.int .i64 64)) D (y:=q) (n:=256) (c:=c) D 64 D (by omega) ?_⟩
 go_wp2_with (first|(go_at_call 63;with_reducible refine C5 ?_))
 refine⟨(f o (m.below b1) (by simp[i])).mono ?_⟩
 rintro e p ⟨rfl,b2⟩
 have g:p.heap[w.heap.size]? =_:=(b2.block w.heap.size (by omega)).trans H1.out
 have B:∀(x:Bool) (w:World),(Op.unary .not (.bool x)).run Tryz.prog w=.ok (.bool (!x)) w:=fun _ _=>rfl
 go_wp2_with (with_reducible refine Hj 59 ?_)
 refine⟨IK D 59 (.tmp 2) (.tmp 14) D (b:=w.heap.size) (c':=#[.int .i64 0,.int .i64 0,.int .i64 0,.int .i64 0,.int .i64 0]) D g D (by kernel_rfl) D (by kernel_rfl) ?_⟩
 intro C E h r
 obtain⟨s,F⟩:=live h
 clear g h
 go_wp2
 exact bodyPost_ret (v:=.tuple #[Fy,.int .i64 52]) (by simp[results,Tryz.results34,go_sem,s,Fy]) D ⟨D,(b1.trans (b2.mono (by omega))).grown r (by have:=b2.size;omega) (fun k t=>by cases t;exact Be _)⟩


end Go.Proofs.YtcdaflcjhimimaaGreatDoor
namespace Go.Proofs.YtcdaflcjhimimaaGreatDoor
open Go.RowKit Go.Maps
set_option maxRecDepth 100000
set_option maxHeartbeats 1000000
variable {w:World} {A6 n c:Nat} {cs:Array Value} {q:Option Addr} {l:List UInt8}
def IG(c:Array Value)(o:Nat):List Value→Array Value
 |[]=>c
 |v::CQ=>IG (c.setIfInBounds o v) (o+1) CQ
theorem NS(CQ:List Value):∀(c:Array Value) (o j:Nat),j<o∨o+CQ.length≤j→(IG c o CQ)[j]? =c[j]? :=by
 induction CQ with
 |nil=>intro c o j _;rfl
 |cons v CQ a=>
  intro c o j h
  simp only[List.length_cons]at h
  rw[IG,a _ _ _ (by omega),Array.getElem?_setIfInBounds,if_neg (by omega)]
theorem WJ(CQ:List Value):∀(c:Array Value) (o j:Nat),j<CQ.length→o+CQ.length≤c.size→(IG c o CQ)[o+j]? =CQ[j]? :=by
 induction CQ with
 |nil=>intro c o j h _;simp at h
 |cons v CQ a=>
  intro c o j h b
  simp only[List.length_cons]at h b
  cases j with
  |zero=>
   rw[IG,NS _ _ _ _ (by omega)]
   have:o<c.size:=by omega
   simp[this]
  |succ j=>
   rw[IG,show o+(j+1)=o+1+j by omega,a _ _ _ (by omega) (by simp;omega)]
   rfl
theorem Y'(b:Nat)(Az:TypeId)(CQ:List Value):∀(o:Nat) (w:World) (c:Array Value),w.heap[b]? =some (.cells c Az (0,0))→(w.setCells b o CQ).heap[b]? =some (.cells (IG c o CQ) Az (0,0))∧w.grownBy (w.setCells b o CQ) (some b):=by
 induction CQ with
 |nil=>intro o w c h;exact⟨h,Ki _ _⟩
 |cons v CQ a=>
  intro o w c h
  obtain⟨d,e⟩:=a (o+1) (w.setCell ⟨b,o,none⟩ v) _ (IX h v)
  exact⟨d,Ij (IF w b o v) e⟩
def HX(w:World)(A6:Nat)(cs:Array Value)(q:Option Addr)(n c:Nat)(l:List UInt8):Prop:=
 w.heap[A6]? =some (.cells cs 88 (0,0))∧cs.size=14∧cs[0]? =some (.slice q n c)∧View w (.slice q n c) n 1 (bv l)∧l.length=n∧(∀k,(Value.slice q n c).ownBlock=some k→k≠A6)∧TabIs w A6 6 252 cs∧TabIs w A6 10 60 cs
theorem HX.lt(h:HX w A6 cs q n c l):A6<w.heap.size:=(Array.getElem?_eq_some_iff.1 h.1).1
theorem HX.below{W:World}(h:HX w A6 cs q n c l)(b:Below w.heap.size w W):HX W A6 cs q n c l:=by
 have a:=h.lt
 obtain⟨d,e,f,g,i,j,k,m⟩:=h
 exact⟨(b.block A6 a).trans d,e,f,g.below b,i,j,k.below b,m.below b⟩
theorem HX.drew(h:HX w A6 cs q n c l):HX w.drew A6 cs q n c l:=h.below (Bu _ _).drew
theorem HX.other{W:World}{k:Nat}(h:HX w A6 cs q n c l)(g:w.grownBy W (some k))(y:A6<k)(d:∀j,(Value.slice q n c).ownBlock=some j→j<k)(f:∃c t,w.heap[k]? =some (.cells c t (0,0))):HX W A6 cs q n c l:=by
 have z:=h.lt
 obtain⟨i,m,o,p,r,s,u,v⟩:=h
 obtain⟨c',A,x⟩:=f
 have hm:∀j,j<w.heap.size→(∃es c,w.heap[j]? =some (.map es c))→W.heap[j]? =w.heap[j]? :=fun j a ⟨es,B,b⟩=>g.block j a (by
  intro e
  cases e
  rw[x]at b
  cases b)
 exact⟨Ag g i (by omega),m,o,p.grown g (fun j a e=>by have:=d j a;simp at e;omega),r,s,u.kept hm,v.kept hm⟩
def S'(q:Option Addr)(n c:Nat):Array Value:=#[.slice q n c,.int .i64 0,.int .i64 0,.int .i64 0,.int .i64 0,.int .i64 0,.int .u32 0,.int .i32 0,.int .u32 0,.map none,.int .u32 0,.int .i32 0,.int .u32 0,.map none]
end Go.Proofs.YtcdaflcjhimimaaGreatDoor
namespace Go.Proofs.YtcdaflcjhimimaaGreatDoor
open Go.RowKit
variable {n b off size c bytes m p:Nat} {Az AU t e:TypeId} {ss pre:List (List Value)} {x:Operand} {v z BL:Value} {C6:Nat×Nat} {BU:TypeDesc} {y:Option Addr} {k:IntKind} {xs:List Value} {fn:Func}
structure Row (n:Nat) (Aa:List Value):Prop where
 len:Aa.length=n
 one:∀u∈Aa,u.oneCell'=true
theorem Jb.nil:([]:List (List Value)).flatten.length=0:=rfl
theorem Jb.one(r:ss.flatten.length=n):([v]::ss).flatten.length=1+n:=by simp[r];omega
theorem Jb.row{Aa:List Value}(h:Row m Aa)(r:ss.flatten.length=n):(Aa::ss).flatten.length=m+n:=by simp only[List.flatten_cons,List.length_append,h.len,r]
def Jc(ss:List (List Value)):Prop:=∀s∈ss,∀u∈s,u.oneCell'=true
theorem Jc.nil:Jc []:=fun _ h=>by cases h
theorem Jc.one(h:v.oneCell'=true)(r:Jc ss):Jc ([v]::ss):=by
 intro s a
 rcases List.mem_cons.1 a with rfl|a
 ·intro u hu;simp at hu;subst hu;exact h
 ·exact r s a
theorem Jc.row{Aa:List Value}(h:Row n Aa)(r:Jc ss):Jc (Aa::ss):=by
 intro s a
 rcases List.mem_cons.1 a with rfl|a
 ·exact h.one
 ·exact r s a
theorem HE{w:World}(a:w.heap[b]? =some (.cells (flat ss) Az C6)):Cells w b 0 ss.flatten:=by
 intro j v c
 rw[Nat.zero_add,cell_of_row _ _ _ _ _ _ a]
 simpa[flat]using c
theorem U7(ys:List Value):∀(c:Array Value) (o:Nat),o+ys.length≤c.size→(IG c o ys).toList=c.toList.take o++ys++c.toList.drop (o+ys.length):=by
 intro c o h
 apply List.ext_getElem?
 intro j
 rw[Array.getElem?_toList]
 have d:(c.toList.take o).length=o:=by simp;omega
 rcases Nat.lt_or_ge j o with a|a
 ·rw[NS _ _ _ _ (.inl a),List.append_assoc,List.getElem?_append_left (by omega),List.getElem?_take,if_pos a,Array.getElem?_toList]
 ·rcases Nat.lt_or_ge j (o+ys.length)with b|b
  ·obtain⟨k,rfl⟩:∃k,j=o+k:=⟨j - o,by omega⟩
   rw[WJ _ _ _ _ (by omega) h,List.append_assoc,List.getElem?_append_right (by omega),d,Nat.add_sub_cancel_left,List.getElem?_append_left (by omega)]
  ·rw[NS _ _ _ _ (.inr b),List.getElem?_append_right (by simp;omega),List.getElem?_drop,Array.getElem?_toList]
   congr 1
   simp
   omega
theorem A9{w w':World}(a:C' w w' v BL)(h:∀k,v.ownBlock=some k→k≠b)(d:b<w.heap.size):∀k,BL.ownBlock=some k→k≠b:=by
 intro k c
 rcases a.at_ k c with q|q
 ·exact h k q
 ·omega
theorem A'{w w':World}{o:Obj}(a:w.heap[b]? =some o)(c:C' w w' v BL)(h:∀k,v.ownBlock=some k→k≠b):w'.heap[b]? =some o:=
 (c.ai.block b (Ar a) (fun e=>h b e.symm D)).trans a
theorem Ax{w w':World}{base:Nat}(h:w.ownsRow base e size v n xs)(g:w.grownBy w' (some b))(ne:∀k,v.ownBlock=some k→k≠b):w'.ownsRow base e size v n xs:=
 h.kept g (by
   cases a:v.ownBlock with
   |none=>exact .inl D
   |some k=>exact .inr (fun e=>by cases e;exact ne _ a D))
def Av(n:Nat):List Value:=List.replicate n (.int .u8 0)
theorem Jg(n:Nat):Row n (Av n):=⟨by simp[Av],fun u hu=>by rw[List.eq_of_mem_replicate hu];rfl⟩
def Ir(n:Nat):List Value:=List.replicate n (.int .u32 0)
theorem Jk(n:Nat):Row n (Ir n):=⟨by simp[Ir],fun u hu=>by rw[List.eq_of_mem_replicate hu];rfl⟩
theorem Jh{l:List UInt8}(h:l.length=n):Row n (bv l):=⟨by rw[D_,h],G4 l⟩
section
variable {P:Program} {w w':World} {ops:Array Oper} {rest:List Oper} {a:Act} {Ac:Exit→Act→World→Prop} {U:Nat} {f:Db} {d:Nat} {ty:TypeId} {pos:String} {AF:Array Edge} {dst:Option Tmp} {g:Option (Nat×Bool)} {Aa:Act→World→Prop}
theorem Fq(e:Ao U a f)(Ab:Nat.blt d U=true)(i:(P.info? Az).map (·.zero)=some (some z))(j:z.cells=flat ss)
 (h:∀c b W,w.heap.size=b→Ao U c (Ja f d (.pointer (some ⟨b,0,none⟩)))→W.heap.size=b+1→W.heap[b]? =some (.cells (flat ss) Az (0,0))→Below w.heap.size w W→Aa c W):DP P ⟨some d,.alloc Az,ty,pos,AF,g⟩ a w Aa Ac:=
 UK e Ab i j (fun c W k l m n=>h c _ W D k l m n)
theorem Nq(e:Ao U a f)(Ab:Nat.blt d U=true)(i:Au f x=some v)(j:v.cells=flat ss)
 (h:∀c b W,w.heap.size=b→Ao U c (Ja f d (.pointer (some ⟨b,0,none⟩)))→W.heap.size=b+1→W.heap[b]? =some (.cells (flat ss) Az (0,0))→Below w.heap.size w W→Aa c W):DP P ⟨some d,.box Az x,ty,pos,AF,g⟩ a w Aa Ac:=
 SO e Ab i j (fun c W k l m n=>h c _ W D k l m n)
theorem EO(d:Ao U a f)(e:Au f x=some (.pointer (some ⟨b,off,none⟩)))(hu:P.underlying Az=some BU)(Ab:BU.isRow=true)(pre mid post:List (List Value))(h:w.heap[b]? =some (.cells (flat (pre++mid++post)) AU C6))(i:pre.flatten.length=off)(k:(P.info? Az).map (·.size)=some mid.flatten.length):Cy P a w ⟨dst,.load Az x,ty,pos,AF,g⟩ (.agg (flat mid)) w:=by
 refine On d e hu Ab ?_ k
 have:=HE h
 intro j v c
 have l:j<mid.flatten.length:=(List.getElem?_eq_some_iff.1 c).1
 have:=this (off+j) v (by
  simp only[List.flatten_append]
  rw[←i,List.append_assoc,List.getElem?_append_right (by omega),Nat.add_sub_cancel_left,List.getElem?_append_left l]
  exact c)
 simpa using this
theorem Cl(c:Ao U a f)(d:Au f x=some (.pointer (some ⟨b,off,none⟩)))(hu:P.underlying Az=some BU)(Ab:BU.isRow=false)(pre:List (List Value))(v:Value)(post:List (List Value))(e:w.heap[b]? =some (.cells (flat (pre++[[v]]++post)) AU C6))(h:pre.flatten.length=off):Cy P a w ⟨dst,.load Az x,ty,pos,AF,g⟩ v w:=by
 refine D1 c d hu Ab ?_
 have:=HE e off v (by
  simp only[List.flatten_append,List.flatten_cons]
  rw[←h,List.append_assoc,List.getElem?_append_right (by omega),Nat.sub_self]
  rfl)
 simpa using this
theorem SK(c:Ao U a f)(d:Au f x=some (.pointer (some ⟨b,off,none⟩)))(hu:P.underlying Az=some BU)(Ab:BU.isRow=true){Aa:List Value}(e:Row n Aa)(h:Cells w b off Aa)(i:(P.info? Az).map (·.size)=some n):Cy P a w ⟨dst,.load Az x,ty,pos,AF,g⟩ (.agg (flat [Aa])) w:=
 On c d hu Ab (xs:=[Aa].flatten) (by simpa using h) (by rw[i];simp[e.len])
theorem E4{R:Ending→World→Prop}(c:Ao U a f){t:Nat}(d:fn.results=#[.cell t Az])(e:f t=some (.pointer (some ⟨b,0,none⟩)))(g:w.heap[b]? =some (.cells (flat ss) AU C6))
 (hu:P.underlying Az=some BU)(Ab:BU.isRow=true)(i:(P.info? Az).map (·.size)=some ss.flatten.length)(h:R (.returned (.agg (flat ss))) w):bodyPost P fn R .ret a w:=
 Zb c d e ss.flatten (HE g) hu Ab i h
theorem DG{R:Ending→World→Prop}(c:Ao U a f){t u:Nat}(d:fn.results=#[.cell t Az,.tmp u])(e:f t=some (.pointer (some ⟨b,0,none⟩)))(g:f u=some BL)(i:w.heap[b]? =some (.cells (flat ss) AU C6))
 (hu:P.underlying Az=some BU)(Ab:BU.isRow=true)(j:(P.info? Az).map (·.size)=some ss.flatten.length)(h:R (.returned (.tuple #[.agg (flat ss),BL])) w):bodyPost P fn R .ret a w:=
 Yz c d e g ss.flatten (HE i) hu Ab j h
theorem Ky{R:Ending→World→Prop}(c:Ao U a f){t u:Nat}(d:fn.results=#[.tmp u,.cell t Az])(e:f t=some (.pointer (some ⟨b,0,none⟩)))(g:f u=some BL)(i:w.heap[b]? =some (.cells (flat ss) AU C6))
 (hu:P.underlying Az=some BU)(Ab:BU.isRow=true)(j:(P.info? Az).map (·.size)=some ss.flatten.length)(h:R (.returned (.tuple #[BL,.agg (flat ss)])) w):bodyPost P fn R .ret a w:=
 S5 c d e g ss.flatten (HE i) hu Ab j h
theorem Gs(d:Ao U a f){y:Operand}(m:Au f x=some (.pointer (some ⟨b,off,none⟩)))(pre mid post c:List (List Value))(e:w.heap[b]? =some (.cells (flat (pre++mid++post)) AU (0,0)))(n:Au f y=some (.agg (flat c)))
 (p:pre.flatten.length=off)(hm:mid.flatten.length=c.flatten.length)(q:(P.info? Az).map (·.size)=some c.flatten.length)(r:Jc c)
 (h:∀i W,Ao U i f→W.heap.size=w.heap.size→W.heap[b]? =some (.cells (flat (pre++c++post)) AU (0,0))→w.grownBy W (some b)→Aa i W):DP P ⟨none,.store Az x y,ty,pos,AF,g⟩ a w Aa Ac:=by
 subst p
 have k:(flat (pre++mid++post)).size=pre.flatten.length+mid.flatten.length+post.flatten.length:=by simp[flat];omega
 obtain⟨l,t⟩:=Y' b AU c.flatten pre.flatten.length w _ e
 have z:IG (flat (pre++mid++post)) pre.flatten.length c.flatten=flat (pre++c++post):=by
  apply Array.toList_inj.1
  rw[U7 _ _ _ (by rw[k];omega)]
  simp only[flat,List.flatten_append]
  generalize pre.flatten=A,mid.flatten=B,post.flatten=C,c.flatten=Ea at*
  have E:(A++B++C).take A.length=A:=by rw[List.append_assoc];exact List.take_left
  have F:(A++B++C).drop (A.length+Ea.length)=C:=by rw[←hm,←List.length_append];exact List.drop_left
  rw[E,F]
 rw[z]at l
 have G:∀u∈c.flatten,u.oneCell'=true:=by
  intro u hu
  obtain⟨s,H,I⟩:=List.mem_flatten.1 hu
  exact r s H u I
 refine⟨wp_store_mid Az x y D b _ (flat c) (d.CL m) (d.CL n) (fun j J=>?_) (by rw[q];simp[flat]) (all_oneCell_toArray G) (h _ _ (d.Qt undef) ?_ l t)⟩
 ·rw[cell_of_row _ _ _ _ _ _ e]
  have L:j<c.flatten.length:=by simpa[flat]using J
  exact⟨by rw[Array.getElem?_eq_getElem (by rw[k];omega)];rfl,frozen_of_row _ _ _ _ _ e⟩
 ·have:∀(CQ:List Value) (o:Nat) (w:World),(w.setCells b o CQ).heap.size=w.heap.size:=by
   intro CQ
   induction CQ with
   |nil=>intro o w;rfl
   |cons v CQ K=>intro o w;exact(K _ _).trans (World.size_setCell _ _ _)
  exact this _ _ _
theorem V2(d:Ao U a f){y:Operand}(e:Au f x=some (.pointer (some ⟨b,off,none⟩)))(pre:List (List Value))(old:Value)(post:List (List Value))(i:w.heap[b]? =some (.cells (flat (pre++[[old]]++post)) AU (0,0)))(j:Au f y=some v)(k:v.oneCell'=true)
 (l:pre.flatten.length=off)(m:(P.info? Az).map (·.size)=some 1)
 (h:∀c W,Ao U c f→W.heap.size=w.heap.size→W.heap[b]? =some (.cells (flat (pre++[[v]]++post)) AU (0,0))→w.grownBy W (some b)→Aa c W):DP P ⟨none,.store Az x y,ty,pos,AF,g⟩ a w Aa Ac:=by
 subst l
 refine Kx d e i j k m (by simp[flat]) ?_ h
 apply Array.toList_inj.1
 rw[Array.toList_setIfInBounds]
 simp only[flat,List.flatten_append,List.flatten_cons,List.append_assoc,List.singleton_append]
 rw[List.set_append_right _ _ (Be _),Nat.sub_self]
 rfl
theorem CE(e:Ao U a f){b:Array (Nat×Operand)}{Bf:List (Nat×Value)}(h:b.toList.map (fun p=>(p.1,Au f p.2))=Bf.map (fun p=>(p.1,some p.2)))(j:(Instr.build Az Bf.toArray).run P w=.ok v w):Cy P a w ⟨dst,.build Az b,ty,pos,AF,g⟩ v w:=by
 show(execOp a.eval _).run P w=_
 have:b.map (fun p=>(p.1,a.eval p.2))=Bf.toArray:=by
  apply Array.toList_inj.1
  rw[Array.toList_map]
  apply List.ext_getElem?
  intro i
  have:=congrArg (fun q=>q[i]?) h
  simp only[List.getElem?_map]at this⊢
  cases d:b.toList[i]? with
  |none=>rw[d]at this;cases c:Bf[i]? with
   |none=>simp
   |some v=>rw[c]at this;cases this
  |some x=>rw[d]at this;cases c:Bf[i]? with
   |none=>rw[c]at this;cases this
   |some v=>
    rw[c]at this
    simp only[Option.map_some,Option.some.injEq,Prod.mk.injEq]at this
    simp[this.1,e.CL this.2]
 simp only[execOp,this,Sem.run_bind,j,Result.andThen_ok,Sem.run_pure]
theorem IW(d:Ao U a f)(j:CN P t e size bytes z){b:Operand}(l:Au f x=some (.slice y n c))(h:Nat)(m:Au f b=some (.int k h))(o:h≤c:=by omega):
 Cy P a w ⟨dst,.slice t x none (some b) none,ty,pos,AF,g⟩ (.slice y h c) w:=by
 show(execOp a.eval _).run P w=_
 obtain⟨i,p,u,r,v⟩:=j.bl
 have s:=O2 (P:=P) (w:=w) k n c h o
 have:Option.map (fun q:Addr=>q.add 0) y=y:=by cases y<;>simp[Addr.add]
 simp[execOp,d.CL l,d.CL m,Instr.sliceAt,Instr.slice,run_underlying j.ZJ,s,sizeOf,typeInfo,p,r,this]
theorem JY(d:CN P t e size bytes z)(a:View w (.slice y n c) n size xs)(l:Nat)(f:l≤n:=by omega):
 ∃p,(∀(W:World) (k:IntKind),(Instr.sliceAt t (.slice y n c) (some (.int k l)) none none).run P W=.ok (.slice p (n - l) (c - l)) W)∧(∀W,View W (.slice y n c) n size xs→View W (.slice p (n - l) (c - l)) (n - l) size (xs.drop (l*size)))∧(∀k,(Value.slice p (n - l) (c - l)).ownBlock=some k→(Value.slice y n c).ownBlock=some k):=by
 obtain⟨i,r,x,s,A⟩:=d.bl
 have key:∀W,View W (.slice y n c) n size xs→n≤c∧xs.length≤c*size:=by
  intro W a
  rcases a.2 with⟨he,o,g⟩|⟨b,off,cap,he,o,g,_⟩
  ·simp only[Value.slice.injEq]at he
   obtain⟨rfl,rfl,rfl⟩:=he
   simp[g]
  ·simp only[Value.slice.injEq]at he
   obtain⟨rfl, -,rfl⟩:=he
   exact⟨g,o⟩
 obtain⟨p,h⟩:=ML y l n c size
 refine⟨p,fun W k=>?_,fun W j=>?_,?_⟩
 ·rw[←h]
  have u:=NT (P:=P) (w:=W) k n c l f
  simp[Instr.sliceAt,Instr.slice,run_underlying d.ZJ,u,sizeOf,typeInfo,r,s,sliced]
 ·have m:=key W j
  have q:=(KV j l n c f m.1 (Be _) j.1 d.aF).1
  rw[h]at q
  rwa[List.take_of_length_le (by rw[List.length_drop,Nat.mul_sub_right_distrib];omega)]at q
 ·have m:=key w a
  have q:=(KV a l n c f m.1 (Be _) a.1 d.aF).2
  rwa[h]at q
theorem I_(b:Ao U a f){d:Operand}{p:Option Addr}{Hu:Nat}(e:Au f x=some (.slice y n c))(l:Nat)(h:Au f d=some (.int k l))(i:∀(W:World) (k:IntKind),(Instr.sliceAt t (.slice y n c) (some (.int k l)) none none).run P W=.ok (.slice p m Hu) W):
 Cy P a w ⟨dst,.slice t x (some d) none none,ty,pos,AF,g⟩ (.slice p m Hu) w:=by
 show(execOp a.eval _).run P w=_
 simp[execOp,b.CL e,b.CL h,i]
theorem Li(d:CN P t e size bytes z)(a:View w (.slice y n c) n size xs)(l h:Nat)(f:l≤h:=by omega)(hn:h≤n:=by omega):
 ∃p,(∀(W:World) (k k':IntKind),(Instr.sliceAt t (.slice y n c) (some (.int k l)) (some (.int k' h)) none).run P W=.ok (.slice p (h - l) (c - l)) W)∧(∀W,View W (.slice y n c) n size xs→View W (.slice p (h - l) (c - l)) (h - l) size ((xs.drop (l*size)).take ((h - l)*size)))∧(∀k,(Value.slice p (h - l) (c - l)).ownBlock=some k→(Value.slice y n c).ownBlock=some k):=by
 obtain⟨i,s,A,u,B⟩:=d.bl
 have key:∀W,View W (.slice y n c) n size xs→n≤c∧xs.length≤c*size:=by
  intro W a
  rcases a.2 with⟨he,o,g⟩|⟨b,off,cap,he,o,g,_⟩
  ·simp only[Value.slice.injEq]at he
   obtain⟨rfl,rfl,rfl⟩:=he
   simp[g]
  ·simp only[Value.slice.injEq]at he
   obtain⟨rfl, -,rfl⟩:=he
   exact⟨g,o⟩
 obtain⟨p,j⟩:=ML y l h c size
 have D:=key w a
 refine⟨p,fun W k k'=>?_,fun W r=>?_,?_⟩
 ·rw[←j]
  have v:=NY (P:=P) (w:=W) k k' n c l h f (by omega)
  simp[Instr.sliceAt,Instr.slice,run_underlying d.ZJ,v,sizeOf,typeInfo,s,u,sliced]
 ·have m:h*size≤xs.length:=Bs (Nat.mul_le_mul_right _ hn) r.1
  have q:=(KV r l h c f (by omega) (Be _) m d.aF).1
  rw[j,List.take_of_length_le (by rw[List.length_drop,Nat.mul_sub_right_distrib];omega)]at q
  exact q.trim
 ·have m:h*size≤xs.length:=Bs (Nat.mul_le_mul_right _ hn) a.1
  have q:=(KV a l h c f (by omega) (Be _) m d.aF).2
  rwa[j]at q
theorem Ke(b:Ao U a f){d e:Operand}{p:Option Addr}{Hu:Nat}(i:Au f x=some (.slice y n c)){k':IntKind}(l h:Nat)(j:Au f d=some (.int k l))(o:Au f e=some (.int k' h))(q:∀(W:World) (k k':IntKind),(Instr.sliceAt t (.slice y n c) (some (.int k l)) (some (.int k' h)) none).run P W=.ok (.slice p m Hu) W):
 Cy P a w ⟨dst,.slice t x (some d) (some e) none,ty,pos,AF,g⟩ (.slice p m Hu) w:=by
 show(execOp a.eval _).run P w=_
 simp[execOp,b.CL i,b.CL j,b.CL o,q]
theorem Kl(a:View w (.slice y n c) n size xs)(h:Nat)(hn:h≤n:=by omega):View w (.slice y h c) h size (xs.take (h*size)):=by
 have:=a.PY h c (by have:=a.cap;omega) (Be _) (Bs (Nat.mul_le_mul_right _ hn) a.1)
 have q:=this.trim
 rw[List.take_take,Nat.min_eq_left (Nat.mul_le_mul_right _ (by have:=a.cap;omega))]at q
 exact q
end
structure Ji (ss:List (List Value)) (n:Nat):Prop where
 len:ss.flatten.length=n
 one:Jc ss
theorem Ji.nil:Ji [] 0:=⟨D,Jc.nil⟩
theorem Ji.val(h:v.oneCell'=true)(r:Ji ss n):Ji ([v]::ss) (1+n):=⟨Jb.one r.len,Jc.one h r.one⟩
theorem Ji.row{Aa:List Value}(h:Row m Aa)(r:Ji ss n):Ji (Aa::ss) (m+n):=⟨Jb.row h r.len,Jc.row h r.one⟩
section
variable {P:Program} {w w':World} {ops:Array Oper} {rest:List Oper} {Ac:Exit→Act→World→Prop} {U:Nat} {f:Db} {d:Nat} {ty:TypeId} {pos:String} {AF:Array Edge} {dst:Option Tmp} {R:Act→Prop} {Aa:Act→World→Prop}
theorem CW(c:Au f x=some (.agg (flat ss)))(h:∀b W,w.heap.size=b→W.heap.size=b+1→W.heap[b]? =some (.cells (flat ss) Az (0,0))→Below w.heap.size w W→BG P ops Ac U W (Ja f d (.pointer (some ⟨b,0,none⟩))) rest)(Ab:Nat.blt d U=true:=by exact rfl):
 BG P ops Ac U w f (⟨some d,.box Az x,ty,pos,AF,none⟩::rest):=fun a e=>Bj D (fun Aa g=>Nq e Ab c (ss:=ss) D (fun i b W j k l m n=>g _ _ (h b W j l m n i k)))
theorem BQ(ss:List (List Value))(h:∀b W,w.heap.size=b→W.heap.size=b+1→W.heap[b]? =some (.cells (flat ss) Az (0,0))→Below w.heap.size w W→BG P ops Ac U W (Ja f d (.pointer (some ⟨b,0,none⟩))) rest)(c:(P.info? Az).map (·.zero)=some (some (.agg (flat ss))):=by kernel_rfl)(Ab:Nat.blt d U=true:=by exact rfl):
 BG P ops Ac U w f (⟨some d,.alloc Az,ty,pos,AF,none⟩::rest):=fun a e=>Bj D (fun Aa g=>Fq e Ab c (ss:=ss) D (fun i b W j k l m n=>g _ _ (h b W j l m n i k)))
def Mv(f:Db):List Operand→Option (List Value)
 |[]=>some []
 |x::xs=>match Au f x,Mv f xs with
  |some v,some l=>some (v::l)
  |_,_=>none
theorem Uv{f:Db}:∀ {xs:List Operand} {l:List Value},Mv f xs=some l→xs.map (Au f)=l.map some:=by
 intro xs
 induction xs with
 |nil=>intro l h;cases h;rfl
 |cons x xs a=>
  intro l h
  unfold Mv at h
  split at h
  ·rename_i v m b hm
   cases h
   rw[List.map_cons,List.map_cons,b,a hm]
  ·cases h
theorem AS{b:FuncId}(c:P.funcs[b]? =some fn){xs:List Operand}{g:Array TypeId}{l:List Value}(i:Mv f xs=some l){A4:Ending→World→Prop}(j:Calls P b l.toArray w A4)(h:∀e W,A4 e W→∃v,e=.returned v∧BG P ops Ac U W (Ja f d v) rest)
 (hn:(fn.name== "runtime.NumGoroutine")=false:=by kernel_rfl)(k:fn.body.isNone=false:=by kernel_rfl)(Ab:Nat.blt d U=true:=by exact rfl):BG P ops Ac U w f (⟨some d,.call {callee:=.value (.func b),args:=xs.toArray,argTypes:=g},ty,pos,AF,none⟩::rest):=
 fun a m=>Bj D (fun Aa n=>Q3 m Ab c hn k (args:=l.toArray) (by simpa using Uv i) j (fun e W q=>by
  obtain⟨v,o,p⟩:=h e W q
  exact⟨v,o,fun r s=>n _ _ (p r s)⟩))
theorem D6(b:CN P t e size bytes z)(c:Au f x=some v){cs:Array Value}(g:v.cells=cs)(i:cs.size=size)(h:∀W,W.heap.size=w.heap.size+1→View W (.slice (some ⟨w.heap.size,0,none⟩) 1 1) 1 size cs.toList→Below w.heap.size w W→BG P ops Ac U W (Ja f d (.slice (some ⟨w.heap.size,0,none⟩) 1 1)) rest)
 (j:Nat.ble size 16777216=true:=by exact rfl)(Ab:Nat.blt d U=true:=by exact rfl):BG P ops Ac U w f (⟨some d,.buildSlice t 1 #[(0,x)],ty,pos,AF,none⟩::rest):=
 fun a k=>Bj D (fun Aa l=>Gh k Ab b c g i (Nat.le_of_ble_eq_true j) (fun m W n o p q=>l _ _ (h W o p q m n)))
theorem AK(hu:P.underlying Az=some BU)(i:Nat)(a:w.heap[b]? =some (.cells (flat ss) AU C6))(c:ss[i]? =some [v])(g:Au f x=some (.pointer (some ⟨b,off,none⟩)))(h:BG P ops Ac U w (Ja f d v) rest)
 (j:ss.take i=pre:=by first|(simp only[List.take_succ_cons,List.take_zero,List.take_nil,List.drop_succ_cons,List.drop_zero,List.drop_nil,List.cons_append,List.nil_append,List.append_nil]<;>rfl)|exact rfl)(s1:pre.flatten.length=p:=by(repeat(first|exact Jb.nil|(apply Jb.one)|(apply Jb.row;(first|assumption|exact Jd.row _|exact Jg _|exact Jk _|exact Jh (by first|assumption|exact List.length_replicate|exact Jd.h _)|exact Jf.row (by first|assumption|exact Jf.zero _|exact Jj))))))(k:p=off:=by first|rfl|omega)(l:BU.isRow=false:=by exact rfl)(Ab:Nat.blt d U=true:=by exact rfl):BG P ops Ac U w f (⟨some d,.load Az x,ty,pos,AF,none⟩::rest):=by
 have e:ss=pre++[[v]]++ss.drop (i+1):=by
  obtain⟨m,n⟩:=List.getElem?_eq_some_iff.1 c
  rw[←j,List.append_assoc,←n,List.singleton_append,←List.drop_eq_getElem_cons m,List.take_append_drop]
 rw[e]at a
 exact Dy Ab (fun _ o=>Cl o g hu l pre v (ss.drop (i+1)) a (s1.trans k)) h
theorem BP(hu:P.underlying Az=some BU)(a:w.heap[b]? =some (.cells (flat ss) AU C6))(c:Au f x=some (.pointer (some ⟨b,0,none⟩)))(h:BG P ops Ac U w (Ja f d (.agg (flat ss))) rest)
 (s1:ss.flatten.length=n:=by(repeat(first|exact Jb.nil|(apply Jb.one)|(apply Jb.row;(first|assumption|exact Jd.row _|exact Jg _|exact Jk _|exact Jh (by first|assumption|exact List.length_replicate|exact Jd.h _)|exact Jf.row (by first|assumption|exact Jf.zero _|exact Jj))))))(e:(P.info? Az).map (·.size)=some n:=by kernel_rfl)(g:BU.isRow=true:=by exact rfl)(Ab:Nat.blt d U=true:=by exact rfl):BG P ops Ac U w f (⟨some d,.load Az x,ty,pos,AF,none⟩::rest):=
 Dy Ab (fun _ i=>EO i c hu g [] ss [] (by simpa using a) D (by rw[e,s1])) h
theorem Eu(hu:P.underlying Az=some BU)(i m:Nat)(mid:List (List Value))(a:w.heap[b]? =some (.cells (flat ss) AU C6))(c:Au f x=some (.pointer (some ⟨b,off,none⟩)))(h:BG P ops Ac U w (Ja f d (.agg (flat mid))) rest)
 (g:ss.take i=pre:=by first|(simp only[List.take_succ_cons,List.take_zero,List.take_nil,List.drop_succ_cons,List.drop_zero,List.drop_nil,List.cons_append,List.nil_append,List.append_nil]<;>rfl)|exact rfl)(j:(ss.drop i).take m=mid:=by first|(simp only[List.take_succ_cons,List.take_zero,List.take_nil,List.drop_succ_cons,List.drop_zero,List.drop_nil,List.cons_append,List.nil_append,List.append_nil]<;>rfl)|exact rfl)(s1:pre.flatten.length=p:=by(repeat(first|exact Jb.nil|(apply Jb.one)|(apply Jb.row;(first|assumption|exact Jd.row _|exact Jg _|exact Jk _|exact Jh (by first|assumption|exact List.length_replicate|exact Jd.h _)|exact Jf.row (by first|assumption|exact Jf.zero _|exact Jj))))))(s2:mid.flatten.length=n:=by(repeat(first|exact Jb.nil|(apply Jb.one)|(apply Jb.row;(first|assumption|exact Jd.row _|exact Jg _|exact Jk _|exact Jh (by first|assumption|exact List.length_replicate|exact Jd.h _)|exact Jf.row (by first|assumption|exact Jf.zero _|exact Jj))))))(k:p=off:=by first|rfl|omega)(l:(P.info? Az).map (·.size)=some n:=by kernel_rfl)(o:BU.isRow=true:=by exact rfl)(Ab:Nat.blt d U=true:=by exact rfl):BG P ops Ac U w f (⟨some d,.load Az x,ty,pos,AF,none⟩::rest):=by
 have e:ss=pre++mid++ss.drop (i+m):=by rw[←g,←j,←List.drop_drop,List.append_assoc,List.take_append_drop,List.take_append_drop]
 rw[e]at a
 exact Dy Ab (fun _ q=>EO q c hu o pre mid _ a (s1.trans k) (by rw[l,s2])) h
theorem Cn(g:CN P t e size bytes z)(j:Nat)(o:Nat){a:Operand}(l:Au f x=some (.slice (some ⟨b,off,none⟩) n c)){i:Int}(m:Au f a=some (.int k i))(h:BG P ops Ac U w (Ja f d (.pointer (some ⟨b,o,none⟩))) rest)
 (p:i=j:=by omega)(q:j<n:=by omega)(r:off+j*size=o:=by first|rfl|omega)(Ab:Nat.blt d U=true:=by exact rfl):BG P ops Ac U w f (⟨some d,.indexAddr t x a,ty,pos,AF,none⟩::rest):=Dy Ab (fun _ s=>Fz s g l m j p q r) h
theorem Dx(hu:P.underlying Az=some BU)(i:Nat)(a:w.heap[b]? =some (.cells (flat ss) AU C6))(c:ss[i]? =some [v])(g:Au f x=some (.pointer (some ⟨b,off,none⟩)))(h:Cw P ops R U w (Ja f d v) rest)
 (j:ss.take i=pre:=by first|(simp only[List.take_succ_cons,List.take_zero,List.take_nil,List.drop_succ_cons,List.drop_zero,List.drop_nil,List.cons_append,List.nil_append,List.append_nil]<;>rfl)|exact rfl)(s1:pre.flatten.length=p:=by(repeat(first|exact Jb.nil|(apply Jb.one)|(apply Jb.row;(first|assumption|exact Jd.row _|exact Jg _|exact Jk _|exact Jh (by first|assumption|exact List.length_replicate|exact Jd.h _)|exact Jf.row (by first|assumption|exact Jf.zero _|exact Jj))))))(k:p=off:=by first|rfl|omega)(l:BU.isRow=false:=by exact rfl)(Ab:Nat.blt d U=true:=by exact rfl):Cw P ops R U w f (⟨some d,.load Az x,ty,pos,AF,none⟩::rest):=by
 have e:ss=pre++[[v]]++ss.drop (i+1):=by
  obtain⟨m,n⟩:=List.getElem?_eq_some_iff.1 c
  rw[←j,List.append_assoc,←n,List.singleton_append,←List.drop_eq_getElem_cons m,List.take_append_drop]
 rw[e]at a
 exact EB Ab (fun _ o=>Cl o g hu l pre v (ss.drop (i+1)) a (s1.trans k)) h
theorem Ht(hu:P.underlying Az=some BU)(a:w.heap[b]? =some (.cells (flat ss) AU C6))(c:Au f x=some (.pointer (some ⟨b,0,none⟩)))(h:Cw P ops R U w (Ja f d (.agg (flat ss))) rest)
 (s1:ss.flatten.length=n:=by(repeat(first|exact Jb.nil|(apply Jb.one)|(apply Jb.row;(first|assumption|exact Jd.row _|exact Jg _|exact Jk _|exact Jh (by first|assumption|exact List.length_replicate|exact Jd.h _)|exact Jf.row (by first|assumption|exact Jf.zero _|exact Jj))))))(e:(P.info? Az).map (·.size)=some n:=by kernel_rfl)(g:BU.isRow=true:=by exact rfl)(Ab:Nat.blt d U=true:=by exact rfl):Cw P ops R U w f (⟨some d,.load Az x,ty,pos,AF,none⟩::rest):=
 EB Ab (fun _ i=>EO i c hu g [] ss [] (by simpa using a) D (by rw[e,s1])) h
theorem Nj(hu:P.underlying Az=some BU)(i m:Nat)(mid:List (List Value))(a:w.heap[b]? =some (.cells (flat ss) AU C6))(c:Au f x=some (.pointer (some ⟨b,off,none⟩)))(h:Cw P ops R U w (Ja f d (.agg (flat mid))) rest)
 (g:ss.take i=pre:=by first|(simp only[List.take_succ_cons,List.take_zero,List.take_nil,List.drop_succ_cons,List.drop_zero,List.drop_nil,List.cons_append,List.nil_append,List.append_nil]<;>rfl)|exact rfl)(j:(ss.drop i).take m=mid:=by first|(simp only[List.take_succ_cons,List.take_zero,List.take_nil,List.drop_succ_cons,List.drop_zero,List.drop_nil,List.cons_append,List.nil_append,List.append_nil]<;>rfl)|exact rfl)(s1:pre.flatten.length=p:=by(repeat(first|exact Jb.nil|(apply Jb.one)|(apply Jb.row;(first|assumption|exact Jd.row _|exact Jg _|exact Jk _|exact Jh (by first|assumption|exact List.length_replicate|exact Jd.h _)|exact Jf.row (by first|assumption|exact Jf.zero _|exact Jj))))))(s2:mid.flatten.length=n:=by(repeat(first|exact Jb.nil|(apply Jb.one)|(apply Jb.row;(first|assumption|exact Jd.row _|exact Jg _|exact Jk _|exact Jh (by first|assumption|exact List.length_replicate|exact Jd.h _)|exact Jf.row (by first|assumption|exact Jf.zero _|exact Jj))))))(k:p=off:=by first|rfl|omega)(l:(P.info? Az).map (·.size)=some n:=by kernel_rfl)(o:BU.isRow=true:=by exact rfl)(Ab:Nat.blt d U=true:=by exact rfl):Cw P ops R U w f (⟨some d,.load Az x,ty,pos,AF,none⟩::rest):=by
 have e:ss=pre++mid++ss.drop (i+m):=by rw[←g,←j,←List.drop_drop,List.append_assoc,List.take_append_drop,List.take_append_drop]
 rw[e]at a
 exact EB Ab (fun _ q=>EO q c hu o pre mid _ a (s1.trans k) (by rw[l,s2])) h
theorem C0(g:CN P t e size bytes z)(j:Nat)(o:Nat){a:Operand}(l:Au f x=some (.slice (some ⟨b,off,none⟩) n c)){i:Int}(m:Au f a=some (.int k i))(h:Cw P ops R U w (Ja f d (.pointer (some ⟨b,o,none⟩))) rest)
 (p:i=j:=by omega)(q:j<n:=by omega)(r:off+j*size=o:=by first|rfl|omega)(Ab:Nat.blt d U=true:=by exact rfl):Cw P ops R U w f (⟨some d,.indexAddr t x a,ty,pos,AF,none⟩::rest):=EB Ab (fun _ s=>Fz s g l m j p q r) h
end
end Go.Proofs.YtcdaflcjhimimaaGreatDoor
