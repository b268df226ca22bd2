/- Laws and walks on the road to SalvagePlays (part M11). No conditions beyond each law's own. -/
import Derived.Laws.Tables
import Derived.Test.YtjdboncaegphmaaGreatDoorM10
set_option linter.unusedVariables false
namespace Go.Proofs.YtjdboncaegphmaaGreatDoor
open Go.RowKit
set_option maxRecDepth 100000
set_option maxHeartbeats 2000000
variable {x y:Operand} {i:Nat} {t T:TypeId} {o:Oper}
theorem XA(l:rG):flat [bv l]=(bv l).toArray:=by simp[flat]
theorem NL:Tryz.prog.cellsOf 48=32:=AB
theorem Ug{Ch:rG}(h:Ch.length=32):Tryz.prog.keyLits 3 48 (bv Ch)=some ((List.range 32).map (fun i=>[Lit.int .u8 ((Ch.getD i 0).toNat:Nat)])).flatten:=by
 have hr:=mapM_some (f:=fun i=>Tryz.prog.keyLits 2 5 (((bv Ch).drop (i*Tryz.prog.cellsOf 5)).take (Tryz.prog.cellsOf 5))) (g:=fun i=>[Lit.int .u8 ((Ch.getD i 0).toNat:Nat)]) (l:=List.range 32) (fun i V=>by
  have a:i<Ch.length:=by rw[h];exact QZ.1 V
  have e:((bv Ch).drop (i*1)).take 1=[.int .u8 (Ch[i].toNat:Nat)]:=by
   rw[Q6,Hk,Ip,RS,To,F3 a];rfl
  have b:Ch.getD i 0=Ch[i]:=by rw[Dm,F3 a];rfl
  have hw:(Lit.int .u8 ((Ch[i].toNat:Nat):Int)).wf=true:=by
   have:=Ch[i].toNat_lt;have h1:IntKind.u8.min=0:=D;have c:IntKind.u8.max=255:=D;simp only[Lit.wf,Kq,decide_eq_true_eq];omega
  rw[Qa,e,b];simp[Program.keyLits,Tryz.underlying5,hw])
 have hl:(bv Ch).length=Tryz.prog.cellsOf 48:=by rw[DG,h,NL]
 unfold Program.keyLits;simp only[Tryz.underlying48];rw[if_pos hl,hr];rfl
theorem iS{l m:rG}(hl:l.length=32)(hm:m.length=32)(h:((List.range 32).map (fun i=>[Lit.int .u8 ((l.getD i 0).toNat:Nat)])).flatten=((List.range 32).map (fun i=>[Lit.int .u8 ((m.getD i 0).toNat:Nat)])).flatten):l=m:=by
 have e:∀Ch:List UInt8,((List.range 32).map (fun i=>[Lit.int .u8 ((Ch.getD i 0).toNat:Nat)])).flatten=(List.range 32).map (fun i=>Lit.int .u8 ((Ch.getD i 0).toNat:Nat)):=by
  intro Ch;exact NQ _ _
 rw[e,e]at h;have a:=o3.1 h;refine cI JY (fun i h1 b=>?_);have:=a i (by simp;omega);rw[Dm,Dm,F3 h1,F3 b]at this;simp only[QW,Lit.int.injEq,true_and]at this;exact M'.1 JY
theorem iY{l m:rG}(hl:l.length=32)(hm:m.length=32)(w:World):(binOp .eql 48 (.agg (bv l).toArray) (.agg (bv m).toArray)).run Tryz.prog w=.ok (.bool (decide (l=m))) w:=by
 have Z:∀ {Ch:rG},Ch.length=32→(Value.agg (bv Ch).toArray).formed Tryz.prog 48=true:=fun h=>by simp[Value.formed,Tryz.underlying48,DG,h,NL]
 have b:Tryz.prog.keyLits 3 48 (Value.agg (bv l).toArray).cells.toList=some _:=Ug hl;have c:Tryz.prog.keyLits 3 48 (Value.agg (bv m).toArray).cells.toList=some _:=Ug hm;obtain⟨r,hr,a⟩:=run_equalIn_deep (P:=Tryz.prog) 9997 3 48 AB w 3 3 (.agg (bv l).toArray) (.agg (bv m).toArray) _ _ (Z hl) (Z hm) b c;have e:r=decide (l=m):=by
  by_cases he:l=m
  ·subst he;simpa using a.2 D
  ·cases r
   ·simp[he]
   ·exact absurd (iS hl hm (a.1 D)) he
 subst e;have e:binOp .eql 48 (.agg (bv l).toArray) (.agg (bv m).toArray)=(do pure (.bool (←Op.equal 48 (.agg (bv l).toArray) (.agg (bv m).toArray)))):=D;have:(9997+3:Nat)=10000:=D;rw[this]at hr;have d:(Op.equal 48 (.agg (bv l).toArray) (.agg (bv m).toArray)).run Tryz.prog w=_:=hr;rw[e,Sem.run_bind,d,Result.andThen_ok,Sem.run_pure]
theorem ad(op:BinOp)(x y:Operand)(p q:Array Value)(w:World)(h:op=.eql∨op=.neq):(eqGuard op 48 x y (.agg p) (.agg q)).run Tryz.prog w=.ok () w:=by
 rcases h with rfl|rfl<;>kernel_rfl
theorem pB{l m:rG}(hl:l.length=32)(hm:m.length=32)(w:World):(binOp .neq 48 (.agg (bv l).toArray) (.agg (bv m).toArray)).run Tryz.prog w=.ok (.bool (!decide (l=m))) w:=by
 have h:=iY hl hm w;have a:binOp .eql 48 (.agg (bv l).toArray) (.agg (bv m).toArray)=(do pure (.bool (←Op.equal 48 (.agg (bv l).toArray) (.agg (bv m).toArray)))):=D;have c:binOp .neq 48 (.agg (bv l).toArray) (.agg (bv m).toArray)=(do pure (.bool (!(←Op.equal 48 (.agg (bv l).toArray) (.agg (bv m).toArray))))):=D;rw[a,Sem.run_bind]at h;rw[c,Sem.run_bind];cases hr:(Op.equal 48 (.agg (bv l).toArray) (.agg (bv m).toArray)).run Tryz.prog w with
 |ok b w'=>
  rw[hr]at h;simp only[Result.andThen_ok,Sem.run_pure,Result.ok.injEq,Value.bool.injEq]at h⊢;exact⟨by rw[h.1],h.2⟩
 |halt r w'=>rw[hr]at h;simp at h
section
variable {w:World} {a:Act} {N:Nat} {f:BW} {ty:TypeId} {pos:String} {An:Array Edge} {dst:Option Tmp} {g:Option (Nat×Bool)}
theorem dH(d:AH N a f){l m:rG}(hl:l.length=32)(hm:m.length=32)(b:Aj f x=some (.agg (flat [bv l])))(c:Aj f y=some (.agg (flat [bv m])))(r:Bool)(hr:decide (l=m)=r):CD Tryz.prog a w ⟨dst,.binOp .eql 48 x y t,ty,pos,An,g⟩ (.bool r) w:=by
 subst hr;rw[XA]at b c;exact ED d b c (ad _ _ _ _ _ _ (.inl D)) (iY hl hm w)
theorem qu(d:AH N a f){l m:rG}(hl:l.length=32)(hm:m.length=32)(b:Aj f x=some (.agg (flat [bv l])))(c:Aj f y=some (.agg (flat [bv m])))(r:Bool)(hr:(!decide (l=m))=r):CD Tryz.prog a w ⟨dst,.binOp .neq 48 x y t,ty,pos,An,g⟩ (.bool r) w:=by
 subst hr;rw[XA]at b c;exact ED d b c (ad _ _ _ _ _ _ (.inr D)) (pB hl hm w)
end
theorem PX:Tryz.prog.cellsOf 136=32:=AB
theorem VX{Ch:rG}(h:Ch.length=32):Tryz.prog.keyLits 3 136 (bv Ch)=some ((List.range 32).map (fun i=>[Lit.int .u8 ((Ch.getD i 0).toNat:Nat)])).flatten:=by
 have hr:=mapM_some (f:=fun i=>Tryz.prog.keyLits 2 5 (((bv Ch).drop (i*Tryz.prog.cellsOf 5)).take (Tryz.prog.cellsOf 5))) (g:=fun i=>[Lit.int .u8 ((Ch.getD i 0).toNat:Nat)]) (l:=List.range 32) (fun i V=>by
  have a:i<Ch.length:=by rw[h];exact QZ.1 V
  have e:((bv Ch).drop (i*1)).take 1=[.int .u8 (Ch[i].toNat:Nat)]:=by
   rw[Q6,Hk,Ip,RS,To,F3 a];rfl
  have b:Ch.getD i 0=Ch[i]:=by rw[Dm,F3 a];rfl
  have hw:(Lit.int .u8 ((Ch[i].toNat:Nat):Int)).wf=true:=by
   have:=Ch[i].toNat_lt;have h1:IntKind.u8.min=0:=D;have c:IntKind.u8.max=255:=D;simp only[Lit.wf,Kq,decide_eq_true_eq];omega
  rw[Qa,e,b];simp[Program.keyLits,Tryz.underlying5,hw])
 have hl:(bv Ch).length=Tryz.prog.cellsOf 136:=by rw[DG,h,PX]
 unfold Program.keyLits;simp only[Tryz.underlying136];rw[if_pos hl,hr];rfl
theorem aP{l m:rG}(hl:l.length=32)(hm:m.length=32)(h:((List.range 32).map (fun i=>[Lit.int .u8 ((l.getD i 0).toNat:Nat)])).flatten=((List.range 32).map (fun i=>[Lit.int .u8 ((m.getD i 0).toNat:Nat)])).flatten):l=m:=by
 have e:∀Ch:List UInt8,((List.range 32).map (fun i=>[Lit.int .u8 ((Ch.getD i 0).toNat:Nat)])).flatten=(List.range 32).map (fun i=>Lit.int .u8 ((Ch.getD i 0).toNat:Nat)):=by
  intro Ch;exact NQ _ _
 rw[e,e]at h;have a:=o3.1 h;refine cI JY (fun i h1 b=>?_);have:=a i (by simp;omega);rw[Dm,Dm,F3 h1,F3 b]at this;simp only[QW,Lit.int.injEq,true_and]at this;exact M'.1 JY
theorem b3{l m:rG}(hl:l.length=32)(hm:m.length=32)(w:World):(binOp .eql 136 (.agg (bv l).toArray) (.agg (bv m).toArray)).run Tryz.prog w=.ok (.bool (decide (l=m))) w:=by
 have Z:∀ {Ch:rG},Ch.length=32→(Value.agg (bv Ch).toArray).formed Tryz.prog 136=true:=fun h=>by simp[Value.formed,Tryz.underlying136,DG,h,PX]
 have b:Tryz.prog.keyLits 3 136 (Value.agg (bv l).toArray).cells.toList=some _:=VX hl;have c:Tryz.prog.keyLits 3 136 (Value.agg (bv m).toArray).cells.toList=some _:=VX hm;obtain⟨r,hr,a⟩:=run_equalIn_deep (P:=Tryz.prog) 9997 3 136 AB w 3 3 (.agg (bv l).toArray) (.agg (bv m).toArray) _ _ (Z hl) (Z hm) b c;have e:r=decide (l=m):=by
  by_cases he:l=m
  ·subst he;simpa using a.2 D
  ·cases r
   ·simp[he]
   ·exact absurd (aP hl hm (a.1 D)) he
 subst e;have e:binOp .eql 136 (.agg (bv l).toArray) (.agg (bv m).toArray)=(do pure (.bool (←Op.equal 136 (.agg (bv l).toArray) (.agg (bv m).toArray)))):=D;have:(9997+3:Nat)=10000:=D;rw[this]at hr;have d:(Op.equal 136 (.agg (bv l).toArray) (.agg (bv m).toArray)).run Tryz.prog w=_:=hr;rw[e,Sem.run_bind,d,Result.andThen_ok,Sem.run_pure]
theorem cl(op:BinOp)(x y:Operand)(p q:Array Value)(w:World)(h:op=.eql∨op=.neq):(eqGuard op 136 x y (.agg p) (.agg q)).run Tryz.prog w=.ok () w:=by
 rcases h with rfl|rfl<;>kernel_rfl
theorem dR{l m:rG}(hl:l.length=32)(hm:m.length=32)(w:World):(binOp .neq 136 (.agg (bv l).toArray) (.agg (bv m).toArray)).run Tryz.prog w=.ok (.bool (!decide (l=m))) w:=by
 have h:=b3 hl hm w;have a:binOp .eql 136 (.agg (bv l).toArray) (.agg (bv m).toArray)=(do pure (.bool (←Op.equal 136 (.agg (bv l).toArray) (.agg (bv m).toArray)))):=D;have c:binOp .neq 136 (.agg (bv l).toArray) (.agg (bv m).toArray)=(do pure (.bool (!(←Op.equal 136 (.agg (bv l).toArray) (.agg (bv m).toArray))))):=D;rw[a,Sem.run_bind]at h;rw[c,Sem.run_bind];cases hr:(Op.equal 136 (.agg (bv l).toArray) (.agg (bv m).toArray)).run Tryz.prog w with
 |ok b w'=>
  rw[hr]at h;simp only[Result.andThen_ok,Sem.run_pure,Result.ok.injEq,Value.bool.injEq]at h⊢;exact⟨by rw[h.1],h.2⟩
 |halt r w'=>rw[hr]at h;simp at h
section
variable {w:World} {a:Act} {N:Nat} {f:BW} {ty:TypeId} {pos:String} {An:Array Edge} {dst:Option Tmp} {g:Option (Nat×Bool)}
theorem bD(d:AH N a f){l m:rG}(hl:l.length=32)(hm:m.length=32)(b:Aj f x=some (.agg (flat [bv l])))(c:Aj f y=some (.agg (flat [bv m])))(r:Bool)(hr:decide (l=m)=r):CD Tryz.prog a w ⟨dst,.binOp .eql 136 x y t,ty,pos,An,g⟩ (.bool r) w:=by
 subst hr;rw[XA]at b c;exact ED d b c (cl _ _ _ _ _ _ (.inl D)) (b3 hl hm w)
theorem Qj(d:AH N a f){l m:rG}(hl:l.length=32)(hm:m.length=32)(b:Aj f x=some (.agg (flat [bv l])))(c:Aj f y=some (.agg (flat [bv m])))(r:Bool)(hr:(!decide (l=m))=r):CD Tryz.prog a w ⟨dst,.binOp .neq 136 x y t,ty,pos,An,g⟩ (.bool r) w:=by
 subst hr;rw[XA]at b c;exact ED d b c (cl _ _ _ _ _ _ (.inr D)) (dR hl hm w)
end
theorem hq(B:List Value):∀(l A M:List Value) (off k:Nat),A.length=off+k→M.length=l.length→
 (l.zipIdx k).foldl (fun(cs:Array Value) (p:Value×Nat)=>cs.setIfInBounds (off+p.2) p.1) (A++M++B).toArray=(A++l++B).toArray:=by
 intro l
 induction l with
 |nil=>
  intro A M off k _ a;have:M=[]:=WH.1 a;subst this;rfl
 |cons c l b=>
  intro A M off k d a;cases M with
  |nil=>simp at a
  |cons m M=>
   rw[List.zipIdx_cons,j_];have h1:(A++m::M++B).toArray.setIfInBounds (off+k) c=(A++[c]++M++B).toArray:=by
    apply bg.1;rw[tX];show(A++m::M++B).set (off+k) c=A++[c]++M++B;rw[←d,C9,jC _ _ (Br _),XT];simp
   show(l.zipIdx (k+1)).foldl _ ((A++m::M++B).toArray.setIfInBounds (off+k) c)=_;rw[h1,b (A++[c]) M off (k+1) (by simp;omega) (by simpa using a)];simp
theorem B3{place:Nat→Option (Nat×Nat)}{v:Value}{off size:Nat}{rest:List (Nat×Value)}(pre mid post sU:List (List Value))(c:place i=some (off,size))(ho:pre.flatten.length=off)(hm:mid.flatten.length=size)(d:sU.flatten.length=size)(b:v.cells=flat sU){r:Array Value}
 (h:Instr.fill place (flat (pre++sU++post)) rest=some r):Instr.fill place (flat (pre++mid++post)) ((i,v)::rest)=some r:=by
 unfold Instr.fill;rw[c];simp only;have a:v.cells.size=size:=by rw[b,Tk,d]
 have hl:¬(off+v.cells.size>(flat (pre++mid++post)).size):=by
  rw[a,Tk];simp only[YK,Gd,gt_iff_lt,Nat.not_lt];omega
 rw[if_neg (by simp only[a,ne_eq,not_true_eq_false,decide_false,Bool.false_or,decide_eq_true_eq];rw[←a];exact hl)];have e:v.cells.zipIdx.foldl (fun cs x=>cs.setIfInBounds (off+x.2) x.1) (flat (pre++mid++post))=flat (pre++sU++post):=by
  rw[b,←Array.foldl_toList,Array.toList_zipIdx];have:=hq post.flatten sU.flatten pre.flatten mid.flatten off 0 JY JY;simp only[flat,YK];exact this
 exact e▸h
section
variable {P:Program} {w w':World} {a:Act} {Aa:Exit→Act→World→Prop} {N:Nat} {f:BW} {d:Nat} {ty:TypeId} {pos:String} {An:Array Edge} {dst:Option Tmp} {g:Option (Nat×Bool)} {A5:Act→World→Prop}
theorem E5{b:Array Field}(hu:P.underlying T=some (.struct b)){ss:List (List Value)}(a:(P.info? T).map (·.zero)=some (some (.agg (flat ss)))){places:List (Nat×Nat)}(c:b.toList.mapM (fun f=>(P.info? f.type).map fun i=>(f.offset,i.size))=some places){parts:List (Nat×Value)}{r:Array Value}(h:Instr.fill (places.toArray[·]?) (flat ss) parts=some r):P.built T parts=some r:=by
 unfold Program.built;cases V:P.info? T with
 |none=>rw[V]at a;cases a
 |some it=>
  rw[V]at a;have d:it.zero=some (.agg (flat ss)):=by simpa using a
  rw[hu];simp only[d,c];exact h
theorem tT{v BA:Value}(h:CD P a w o v w)(e:v=BA):CD P a w o BA w:=by subst e;exact h
theorem E_(c:AH N a f){b:Array (Nat×Operand)}{BH:List (Nat×Value)}(d:b.toList.map (fun p=>(p.1,Aj f p.2))=BH.map (fun p=>(p.1,some p.2))){r:Array Value}(hr:P.built T BH=some r):CD P a w ⟨dst,.build T b,ty,pos,An,g⟩ (.agg r) w:=
 Cs c d (run_build _ _ _ _ (by simpa using hr))
end
section
variable {P:Program} {w w':World} {ops:Array Oper} {rest:List Oper} {Aa:Exit→Act→World→Prop} {N:Nat} {f:BW} {d:Nat} {ty:TypeId} {pos:String} {An:Array Edge} {g:Option (Nat×Bool)} {dst:Option Tmp} {R:Act→Prop} {A5:Act→World→Prop} {a:Act}
end
structure Jc where
 l:List UInt8
 h:l.length=32
theorem Jc.ext{x y:Jc}(h:x.l=y.l):x=y:=by cases x;cases y;cases h;rfl
theorem Jc.row(x:Jc):Row 32 (bv x.l):=Ju x.h
structure DM where
 p:Option Addr
 v:List UInt8
 c:Nat
def DM.val(s:DM):Value:=.slice s.p s.v.length s.c
def DM.ok(W:World)(s:DM):Prop:=View W s.val s.v.length 1 (bv s.v)
structure MN where
 k:Jc
 d:Bool
 s:DM
structure Eh where
 k:Jc
 s:DM
def J4(x:Eh):List Value:=List.flatten [bv x.k.l,[.slice x.s.p x.s.v.length x.s.c]]
theorem Pe(x:Eh):(J4 x).length=33:=Ja.row x.k.row (Ja.one Ja.nil)
structure Bf where
 Bd:Nat
 l:Nat
 r:Nat
 lc:Nat
 rc:Nat
 ls:Jc
 rs:Jc
 k:Jc
 s:DM
abbrev Xz:=fun(a:Bf)=>([[E a.Bd],[E a.l],[E a.r],[E a.lc],[E a.rc],bv a.ls.l,bv a.rs.l,bv a.k.l,[I a.s.p a.s.v.length a.s.c]]:List (List Value))
def GI(x:Bf):List Value:=List.flatten [[.int .i64 ((x.Bd:Nat):Int)],[.int .i64 ((x.l:Nat):Int)],[.int .i64 ((x.r:Nat):Int)],[.int .i64 ((x.lc:Nat):Int)],[.int .i64 ((x.rc:Nat):Int)],bv x.ls.l,bv x.rs.l,bv x.k.l,[.slice x.s.p x.s.v.length x.s.c]]
theorem QR(x:Bf):(GI x).length=102:=Ja.one (Ja.one (Ja.one (Ja.one (Ja.one (Ja.row x.ls.row (Ja.row x.rs.row (Ja.row x.k.row (Ja.one Ja.nil))))))))
structure B9 where
 v:Nat
 f:Nat
 uU:Nat
 uW:Nat
 r:Nat
 c:Nat
 s:Jc
abbrev ab:=fun(a:B9)=>([[E a.v],[E a.f],[E a.uU],[E a.uW],[E a.r],[E a.c],bv a.s.l]:List (List Value))
def Mv(x:B9):List Value:=List.flatten [[.int .i64 ((x.v:Nat):Int)],[.int .i64 ((x.f:Nat):Int)],[.int .i64 ((x.uU:Nat):Int)],[.int .i64 ((x.uW:Nat):Int)],[.int .i64 ((x.r:Nat):Int)],[.int .i64 ((x.c:Nat):Int)],bv x.s.l]
theorem Wh(x:B9):(Mv x).length=38:=Ja.one (Ja.one (Ja.one (Ja.one (Ja.one (Ja.one (Ja.row x.s.row Ja.nil))))))
structure IU where
 b:Nat
 p:Nat
 k:Jc
 s:Jc
def I6(x:IU):List Value:=List.flatten [[.int .i64 ((x.b:Nat):Int)],[.int .i64 ((x.p:Nat):Int)],bv x.k.l,bv x.s.l]
theorem YR(x:IU):(I6 x).length=66:=Ja.one (Ja.one (Ja.row x.k.row (Ja.row x.s.row Ja.nil)))
def EJ(x:Jc):List Value:=List.flatten [bv x.l]
theorem Hh(x:Jc):(EJ x).length=32:=Ja.row x.row Ja.nil
def Bm(x:Nat):List Value:=[.int .i64 ((x:Nat):Int)]
theorem Gj(x:Nat):(Bm x).length=1:=rfl
theorem MQ:CO Tryz.prog 51 50 33 56 (.agg (flat [Ak 32,[.slice none 0 0]])):=CO.mk' B5 AB D JZ
theorem MF:CO Tryz.prog 95 138 102 160 (.agg (flat [[.int .i64 0],[.int .i64 0],[.int .i64 0],[.int .i64 0],[.int .i64 0],Ak 32,Ak 32,Ak 32,[.slice none 0 0]])):=CO.mk' IA AB D JZ
theorem TT:CO Tryz.prog 96 142 38 80 (.agg (flat [[.int .i64 0],[.int .i64 0],[.int .i64 0],[.int .i64 0],[.int .i64 0],[.int .i64 0],Ak 32])):=CO.mk' W2 AB D JZ
theorem PN:CO Tryz.prog 130 217 66 80 (.agg (flat [[.int .i64 0],[.int .i64 0],Ak 32,Ak 32])):=CO.mk' Sz AB D JZ
theorem Kt:CO Tryz.prog 98 136 32 32 (.agg (flat [Ak 32])):=CO.mk' J' AB D JZ
theorem G0:CO Tryz.prog 38 3 1 8 (.int .i64 0):=CO.mk' Lc AB D JZ
theorem j2{P:Nat→Prop}(h:∀j,j<i→P j)(V:P i):∀j,j<i+1→P j:=by
 intro j hj
 rcases s9 j i with q|q
 ·exact h j q
 ·obtain rfl:j=i:=JY;exact V
def CU:Jc:=⟨List.replicate 32 0,D⟩
def NP:DM:=⟨none,[],0⟩
theorem HJ{Bo:Type}{enc:Bo→List Value}(h:∀x,∀u∈enc x,u.oneCell'=true)(L:List Bo):∀u∈Aq enc L,u.oneCell'=true:=by
 intro u hu;obtain⟨s,a,hu⟩:=W8.1 hu;obtain⟨x,_,rfl⟩:=bI.1 a;exact h x u hu
theorem OR{ss:List (List Value)}(h:Jw ss):∀u∈ss.flatten,u.oneCell'=true:=by
 intro u hu;obtain⟨s,a,hu⟩:=W8.1 hu;exact h s a u hu
theorem VQ(x:IU):∀u∈I6 x,u.oneCell'=true:=OR (.one D (.one D (.row x.k.row (.row x.s.row .nil))))
theorem TR(x:Nat):∀u∈Bm x,u.oneCell'=true:=by intro u hu;simp[Bm]at hu;subst hu;rfl
theorem jm(x:Bf):∀u∈GI x,u.oneCell'=true:=OR (.one D (.one D (.one D (.one D (.one D (.row x.ls.row (.row x.rs.row (.row x.k.row (.one rfl .nil)))))))))
theorem iV(x:B9):∀u∈Mv x,u.oneCell'=true:=OR (.one D (.one D (.one D (.one D (.one D (.one D (.row x.s.row .nil)))))))
def Ea(l:rG)(i:Nat):Nat:=if 255<i then 0 else(l.getD (i/8) 0).toNat/2^(7 - i % 8) % 2
def L4(l m:rG):Nat:=((List.range 256).find? (fun i=>Ea l i !=Ea m i)).getD 256
theorem pS{l m:rG}(V:i<256)(h:∀j,j<i→Ea l j=Ea m j)(a:¬Ea l i=Ea m i):L4 l m=i:=by
 unfold L4;have:(List.range 256).find? (fun i=>Ea l i !=Ea m i)=some i:=by
  rw[mr];refine⟨by simpa using a,by simpa using V,fun j hj=>by simpa using h j hj⟩
 rw[this];rfl
theorem rN{l m:rG}(h:∀j,j<256→Ea l j=Ea m j):L4 l m=256:=by
 unfold L4;have:(List.range 256).find? (fun i=>Ea l i !=Ea m i)=none:=by
  rw[lP];intro i V;simpa using h i (QZ.1 V)
 rw[this];rfl
def FT:List UInt8→List UInt8→Int
 |x::l,y::m=>if x=y then FT l m else if x.toNat<y.toNat then -1 else 1
 |_,_=>0
theorem eJ{P:Program}{x:Code}{Aa:Exit→Act→World→Prop}{a:Act}{w:World}(M:Act→World→Prop)(h:x.wp P (Exit.then M Aa) a w)(b:∀a w,M a w→Aa .normal a w):x.wp P Aa a w:=
 wp_mono h (fun e a w q=>by
  cases e with
  |normal=>exact b a w q
  |_=>exact q)
theorem WX{q:Option Addr}{n a c c' b:Nat}(h:∀k,(Value.slice q n c).ownBlock=some k→k≠b):∀k,(Value.slice q a c').ownBlock=some k→k≠b:=by cases q<;>exact h
structure Ls (w:World) (vt:Value) (q:Option Addr) (n c size:Nat) (xs:List Value):Prop where
 v:View w (.slice q n c) n size xs
 ne:∀k,vt.ownBlock=some k→∀a,q=some a→a.block≠k
theorem Ls.below{w W:World}{d BA:Value}{q:Option Addr}{n c size:Nat}{xs:List Value}(h:Ls w d q n c size xs)(BO:D0 w W d BA):View W (.slice q n c) n size xs:=by
 refine⟨h.v.1,?_⟩
 rcases h.v.2 with z|⟨b,off,cap,a,h1,f,g,J,i⟩
 ·exact .inl z
 ·refine .inr ⟨b,off,cap,a,h1,f,g,Wb J BO.Bg.size,?_⟩;simp only[Value.slice.injEq]at a;exact i.Fm (BO.Bg.block b J (fun e=>h.ne b e.symm _ a.1 D))
section
variable {P:Program} {w w':World} {ops:Array Oper} {rest:List Oper} {a:Act} {Aa:Exit→Act→World→Prop} {N:Nat} {f:BW} {d:Nat} {ty:TypeId} {pos:String} {An:Array Edge} {dst:Option Tmp} {g:Option (Nat×Bool)} {A5:Act→World→Prop}
theorem Lk(k:AH N a f){d e:TypeId}{z:Value}(i:CO P t e 1 1 z)(he:P.underlying e=some (.int .u8))(Ad:P.underlying d=some .string){y:Option Addr}{n c:Nat}{l:rG}(m:Aj f x=some (.slice y n c))(o:View w (.slice y n c) n 1 (bv l))(hl:l.length=n):
 CD P a w ⟨dst,.convert t d x,ty,pos,An,g⟩ (.string ⟨l.toArray⟩) w:=by
 show(execOp a.eval _).run P w=_;have hr:(convert t d (.slice y n c)).run P w=.ok (.string ⟨l.toArray⟩) w:=by
  rcases o.2 with⟨h,p,q⟩|⟨b,off,cap,h,p,q,u,v,r⟩
  ·simp only[Value.slice.injEq]at h;obtain⟨rfl,rfl,rfl⟩:=h;obtain rfl:l=[]:=WH.1 hl;rw[run_convert_bytes_nil w t e i.uG he 0 0 d Ad];rfl
  ·simp only[Value.slice.injEq]at h;obtain⟨rfl, -,rfl⟩:=h;subst hl;exact run_convert_bytes_back w t d e ⟨b,off,none⟩ c l i.uG he Ad (fun j hj=>by
    rw[F6];exact r j (.int .u8 (l[j].toNat:Nat)) (by simp[bv,hj]))
 simp[execOp,k.A_ m,hr]
theorem ej(t:TypeId)(l m:rG)(w:World):(binOp .eql t (.string ⟨l.toArray⟩) (.string ⟨m.toArray⟩)).run P w=.ok (.bool (decide (l=m))) w:=by
 by_cases e:l=m
 ·subst e;simp[binOp,Op.stringOp]
 ·simp[binOp,Op.stringOp,e]
theorem g_(t:TypeId)(l m:rG)(w:World):(binOp .neq t (.string ⟨l.toArray⟩) (.string ⟨m.toArray⟩)).run P w=.ok (.bool (!decide (l=m))) w:=by
 by_cases e:l=m
 ·subst e;simp[binOp,Op.stringOp]
 ·simp[binOp,Op.stringOp,e]
theorem UU(b:AH N a f){c:TypeId}{l m:rG}(d:Aj f x=some (.string ⟨l.toArray⟩))(e:Aj f y=some (.string ⟨m.toArray⟩))(r:Bool)(hr:decide (l=m)=r):CD P a w ⟨dst,.binOp .eql T x y c,ty,pos,An,g⟩ (.bool r) w:=by
 subst hr;exact ED b d e (by simp[eqGuard]) (ej _ _ _ _)
theorem SW(b:AH N a f){c:TypeId}{l m:rG}(d:Aj f x=some (.string ⟨l.toArray⟩))(e:Aj f y=some (.string ⟨m.toArray⟩))(r:Bool)(hr:(!decide (l=m))=r:=by simp):CD P a w ⟨dst,.binOp .neq T x y c,ty,pos,An,g⟩ (.bool r) w:=by
 subst hr;exact ED b d e (by simp[eqGuard]) (g_ _ _ _ _)
theorem UN{j:Nat}{t:Bool}(b:o.guard=some (j,t)){Dk:Oper}(hj:ops[j]? =some Dk){k:Nat}(c:Dk.dst=some k)(d:AH N a f)(e:f k=some (.bool t)):Region.wanted o (yielded ops a.tmps)=true:=by
 have:=L2 (d.h k _ e);simp[Region.wanted,b,yielded,hj,c,this]
theorem ic{j:Nat}{t:Bool}(b:o.guard=some (j,!t)){Dk:Oper}(hj:ops[j]? =some Dk){k:Nat}(c:Dk.dst=some k)(d:AH N a f)(e:f k=some (.bool t)):Region.wanted o (yielded ops a.tmps)=false:=by
 have:=L2 (d.h k _ e);cases t<;>simp[Region.wanted,b,yielded,hj,c,this]
theorem hM{BK:World→Prop}{op:Op}{v:Value}{fuel Cy:Nat}{listed:Array Bool}(e:AH N a f)(Ad:Nat.blt d N=true)(V:ops[i]? =some ⟨some d,op,ty,pos,An,g⟩)(hw:Region.wanted ⟨some d,op,ty,pos,An,g⟩ (yielded ops a.tmps)=true)(j:Cy=fuel+1)(k:Region.noSelect ops=true)(l:Region.free .any ops listed i=true)(hr:(Region.ready .any ops listed).contains i=true)
 (hQ:∀c (a:Act) w,Aa (.panic c) (a.put (some d) v) w→Aa (.panic c) a w)(m:∀W,BK W→CD P a W ⟨some d,op,ty,pos,An,g⟩ v W)(n:BK w)
 (h:∀b,AH N b (Jb f d v)→wpAnyH P .any ops Aa BK fuel (listed.setIfInBounds i true) b w):wpAnyH P .any ops Aa BK Cy listed a w:=by
 subst j;exact wpAnyH_take V k l hr hQ (.inl ⟨hw,m⟩) n (h _ (e.put Ad v))
theorem bP{BK:World→Prop}{fuel Cy:Nat}{listed:Array Bool}(e:AH N a f)(ho:o.dst=some d)(Ad:Nat.blt d N=true)(V:ops[i]? =some o)(hw:Region.wanted o (yielded ops a.tmps)=false)(g:Cy=fuel+1)(j:Region.noSelect ops=true)(k:Region.free .any ops listed i=true)(hr:(Region.ready .any ops listed).contains i=true)
 (hQ:∀c (a:Act) w,Aa (.panic c) (a.put (some d) undef) w→Aa (.panic c) a w)(l:BK w)
 (h:∀b,AH N b (Jb f d undef)→wpAnyH P .any ops Aa BK fuel (listed.setIfInBounds i true) b w):wpAnyH P .any ops Aa BK Cy listed a w:=by
 subst g;refine wpAnyH_take V j k hr (v:=undef) (by rw[ho];exact hQ) (.inr ⟨hw,D⟩) l ?_;rw[ho];exact h _ (e.put Ad undef)
theorem eP{BK:World→Prop}{fuel Cy:Nat}{listed:Array Bool}(V:ops[i]? =some o)(hw:Region.wanted o (yielded ops a.tmps)=true)(b:Cy=fuel+1)(hr:Region.ready .any ops listed=[i])
 (h:∀A5:Act→World→Prop,(∀a w,BK w→wpAnyH P .any ops Aa BK fuel (listed.setIfInBounds i true) a w→A5 a w)→Dw P o a w A5 Aa):wpAnyH P .any ops Aa BK Cy listed a w:=by
 subst b;refine wpAnyH_ready hr (by simp) (AllReadyH.cons V (fun A5 c=>?_) AllReadyH.nil);rw[if_pos hw];exact(h A5 (fun a w d hw=>c.out a w d (fun _=>hw))).out
end
