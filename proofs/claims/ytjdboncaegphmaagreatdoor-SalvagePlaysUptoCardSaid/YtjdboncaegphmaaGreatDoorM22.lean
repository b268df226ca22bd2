/- Laws and walks on the road to SalvagePlays (part M22). No conditions beyond each law's own. -/
import Derived.Maps.Range
import Derived.Test.YtjdboncaegphmaaGreatDoorM15
import Derived.Test.YtjdboncaegphmaaGreatDoorM19
set_option linter.unusedVariables false
namespace Go.Proofs.YtjdboncaegphmaaGreatDoor
open Go.RowKit
open Go.WideElems (Fit rd rg pl rd_val rd_key rg_of rd_mk)
open Go.Maps (Keyed)
open Go.ChangeMaps (notKey putKey mem_insert_iff setBlock)
open Go.ChangeMaps Go.MapKept
open Go.WideShapes (sorted_perm)
set_option maxRecDepth 100000
set_option maxHeartbeats 2000000
variable {t e:TypeId} {GB:Lit}
def Df(v:Value):Option (DataW Value×List MemPlace):=some (.held v,[])
def E8(P:Program)(k:TypeId){Bo Dg:Type}(Ca:Bo→Value)(A_:Dg→Value)(b n:Nat)(f:Bo→Option Dg)(w:World):Prop:=
 ∃es clock,w.heap[b]? =some (.map es clock)∧Fit P k Df es clock∧es.size≤n∧(∀e∈es.toList,∃a x,e.key=Ca a∧e.val=A_ x∧f a=some x)∧(∀a x,f a=some x→∃e∈es.toList,e.key=Ca a)
def CF{Bo Dg:Type}[DecidableEq Bo](f:Bo→Option Dg)(a:Bo)(x:Dg):Bo→Option Dg:=fun b=>if b=a then some x else f b
section
variable {P:Program} {k:TypeId} {Bo Dg:Type} {Ca:Bo→Value} {A_:Dg→Value} {b n:Nat} {Z:Bo→Option Dg} {w:World}
theorem E8.lt(h:E8 P k Ca A_ b n Z w):b<w.heap.size:=by
 obtain⟨es,clock,J, -⟩:=h;exact(SR.1 J).1
theorem E8.loc{w':World}(h:E8 P k Ca A_ b n Z w)(e:w'.heap[b]? =w.heap[b]?):E8 P k Ca A_ b n Z w':=by
 obtain⟨es,clock,J,r⟩:=h;exact⟨es,clock,e.trans J,r⟩
theorem E8.look(c:Bool)(h:E8 P k Ca A_ b n Z w)(A5:Keyed P k)(inj:∀a d,Ca a=Ca d→a=d)(i:P.underlying t=some (.map k e)){z:Value}(j:(zeroValue e).run P w=.ok z w){a:Bo}(l:keyOf P k (Ca a)=some GB):
 (Instr.lookup t (.map (some b)) (Ca a) c).run P w=.ok (match Z a with|some x=>if c then .tuple #[A_ x,.bool true]else A_ x|none=>if c then .tuple #[z,.bool false]else z) w:=by
 obtain⟨es,clock,J,F,C,h1,m⟩:=h
 rcases Maps.fit_look c A5 i j J F l with⟨f,o, -⟩|⟨p,y,hm,q,f, -, -⟩
 ·cases g:Z a with
  |none=>exact f
  |some x=>
   obtain⟨r,s,u⟩:=m a x g;exact absurd u (o r s)
 ·obtain⟨d,x,v,A,g⟩:=h1 p hm;have B:d=a:=inj _ _ (v.symm.trans q);subst B;rw[A]at f;rw[g];exact f
theorem E8.Jb[DecidableEq Bo](h:E8 P k Ca A_ b n Z w)(A5:Keyed P k)(inj:∀a f,Ca a=Ca f→a=f)(I:P.underlying t=some (.map k e))(K:n<maxLen){a:Bo}(j:keyOf P k (Ca a)=some GB)(x:Dg):
 ∃w',(Instr.mapUpdate t (.map (some b)) (Ca a) (A_ x)).run P w=.ok () w'∧E8 P k Ca A_ b (n+1) (CF Z a x) w'∧w.grownBy w' (some b):=by
 obtain⟨es,clock,J,F,L,h1,M⟩:=h;obtain⟨l,N,O,v,z, -, -,Q⟩:=Maps.fit_store (R:=Df) (R':=Df) A5 I J F (jP L K) (fun _ _ _ _ S=>S) j (val:=A_ x) (yv:=(.held (A_ x),[])) D;refine⟨_,O,⟨l,N,heap_setBlock_same J _,v,?_,?_,?_⟩,⟨D,D,D,by simp[setBlock],fun i _ V=>heap_setBlock_other J _ (fun e=>V (by rw[e]))⟩⟩
 ·have T:l.size=((l.toList.map (rg P k Df)).foldr DataW.insert []).length:=by rw[length_sorted];simp
  rw[T,z];unfold putKey;rw[length_insert];have A:=ln (notKey GB) ((es.toList.map (rg P k Df)).foldr DataW.insert []);rw[length_sorted]at A;simp at A;omega
 ·intro c d
  rcases Q c d with⟨ho,m⟩|⟨U,W⟩
  ·obtain⟨f,o,B,X,Y⟩:=h1 c ho;refine⟨f,o,B,X,?_⟩;unfold CF;rw[if_neg (fun q=>m (by rw[B,q]))];exact Y
  ·exact⟨a,x,U,W,by unfold CF;rw[if_pos D]⟩
 ·intro f o r;have back:∀p:Lit×DataW Value,p∈putKey GB (.held (A_ x)) ((es.toList.map (rg P k Df)).foldr DataW.insert [])→∃c∈l.toList,keyOf P k c.key=some p.1:=by
   intro p C;rw[←z]at C;obtain⟨c,d,rfl⟩:=bI.1 ((sorted_perm _).mem_iff.1 C);obtain⟨y,g⟩:=v.reads c d;rw[rg_of g];exact⟨c,d,rd_key g⟩
  unfold CF at r
  by_cases s:f=a
  ·subst s;obtain⟨c,d,u⟩:=back (GB,.held (A_ x)) (mem_insert_iff.2 (.inl D));exact⟨c,d,A5.inj u j⟩
  ·rw[if_neg s]at r;obtain⟨E,G,H⟩:=M f o r;obtain⟨y,g⟩:=F.reads E G;have m:y.1≠GB:=fun q=>s (inj _ _ (by rw[←H];exact A5.inj (rd_key g) (by rw[q];exact j)));obtain⟨c,d,u⟩:=back y (mem_insert_iff.2 (.inr (kf.2 ⟨(sorted_perm _).mem_iff.2 (bI.2 ⟨E,G,rg_of g⟩),(Maps.notKey_iff (A5.key j)).2 m⟩)));exact⟨c,d,(A5.inj u (rd_key g)).trans H⟩
theorem E8.made(w:World)(P:Program)(k:TypeId)(Ca:Bo→Value)(A_:Dg→Value):E8 P k Ca A_ w.heap.size 0 (fun _=>none) (w.alloc (.map #[] 0)):=
 ⟨#[],0,(MapKept.heap_alloc w _).1,⟨by simp,MapKept.stamped_empty 0,by simp⟩,Br _,by simp,fun a x h=>by cases h⟩
end
def Ap(P:Program)(k:TypeId){Bo Dg:Type}(Ca:Bo→Value)(A_:Dg→Value)(b n:Nat)(f:Bo→Option Dg):Atom:=
 ⟨fun j=>j=b,fun w=>E8 P k Ca A_ b n f w,fun w h j e=>by subst e;exact h.lt,fun w w' h _ e=>h.loc (e b D)⟩
section
variable {P:Program} {ops:Array Oper} {rest:List Oper} {Aa:Exit→Act→World→Prop} {N:Nat} {f:BW} {d:Nat} {ty:TypeId} {pos:String} {An:Array Edge} {dst:Option Tmp} {g:Option (Nat×Bool)} {F:Nat→Prop} {w0 w:World} {H:List Atom} {A5:Act→World→Prop} {R:Act→Prop}
 {k:TypeId} {Bo Dg:Type} {Ca:Bo→Value} {A_:Dg→Value} {b n:Nat} {Z:Bo→Option Dg}
theorem Sat.mp(h:Sat F w0 H w)(i:Nat)(V:H[i]? =some (Ap P k Ca A_ b n Z):=by exact rfl):E8 P k Ca A_ b n Z w:=h.at_ i _ V
theorem GN(i:P.underlying t=some (.map k e))(hm:∀w,Sat F w0 H w→E8 P k Ca A_ b n Z w)(FR:Keyed P k)(inj:∀a c,Ca a=Ca c→a=c){x BI:Operand}{a:Bo}(j:keyOf P k (Ca a)=some GB)(l:Aj f x=some (.map (some b)))(V:Aj f BI=some (Ca a)){z:Value}(m:∀w,(zeroValue e).run P w=.ok z w){v:Value}(o:(match Z a with|some x=>A_ x|none=>z)=v):BR P N f F w0 H ⟨some d,.lookup t x BI false,ty,pos,An,g⟩ v:=fun c w h p=>by
 have:=(hm w p).look false FR inj i (m w) j;show(execOp c.eval _).run P w=_;have e:(match Z a with|some x=>if false=true then Value.tuple #[A_ x,.bool true]else A_ x|none=>if false=true then Value.tuple #[z,.bool false]else z)=v:=by rw[←o];cases Z a<;>rfl
 rw[e]at this;simp[execOp,h.A_ l,h.A_ V,this]
theorem NM(i:P.underlying t=some (.map k e))(hm:∀w,Sat F w0 H w→E8 P k Ca A_ b n Z w)(FR:Keyed P k)(inj:∀a c,Ca a=Ca c→a=c){x BI:Operand}{a:Bo}(j:keyOf P k (Ca a)=some GB)(l:Aj f x=some (.map (some b)))(V:Aj f BI=some (Ca a)){z:Value}(m:∀w,(zeroValue e).run P w=.ok z w){v:Value}(o:(match Z a with|some x=>Value.tuple #[A_ x,.bool true]|none=>Value.tuple #[z,.bool false])=v):BR P N f F w0 H ⟨some d,.lookup t x BI true,ty,pos,An,g⟩ v:=fun c w h p=>by
 have:=(hm w p).look true FR inj i (m w) j;show(execOp c.eval _).run P w=_;have e:(match Z a with|some x=>if true=true then Value.tuple #[A_ x,.bool true]else A_ x|none=>if true=true then Value.tuple #[z,.bool false]else z)=v:=by rw[←o];cases Z a<;>rfl
 rw[e]at this;simp[execOp,h.A_ l,h.A_ V,this]
theorem KS[DecidableEq Bo](i:Nat)(l:P.underlying t=some (.map k e))(hm:H[i]? =some (Ap P k Ca A_ b n Z))(FR:Keyed P k)(inj:∀a c,Ca a=Ca c→a=c){m x y:Operand}{a:Bo}{u:Dg}(o:keyOf P k (Ca a)=some GB)(p:Aj f m=some (.map (some b)))(V:Aj f x=some (Ca a))(q:Aj f y=some (A_ u))(h:AT N f F w0 (H.set i (Ap P k Ca A_ b (n+1) (CF Z a u))) A5)(r:n<maxLen:=by unfold maxLen;omega):D3 P ⟨none,.mapUpdate t m x y,ty,pos,An,g⟩ Aa N f F w0 H A5:=fun c w d j=>by
 obtain⟨W,hr,s,v⟩:=(j.mp i hm).Jb FR inj l r o u;refine Pg (w':=W) d ?_ (fun c z=>h c W z (j.set i hm (C7.grown v) s (fun k e=>.inl e)));simp[execOp,d.A_ p,d.A_ V,d.A_ q,hr]
theorem K5(k:TypeId)(Ca:Bo→Value)(A_:Dg→Value)(h:∀b,AT N (Jb f d (.map (some b))) F w0 (Ap P k Ca A_ b 0 (fun _=>none)::H) A5)(Ad:Nat.blt d N=true:=by exact rfl):D3 P ⟨some d,.makeMap t none,ty,pos,An,g⟩ Aa N f F w0 H A5:=fun a w e i=>by
 refine F8 (v:=.map (some w.heap.size)) (w':=w.alloc (.map #[] 0)) e Ad ?_ (fun j l=>h _ j _ l (i.new (A:=Ap P k Ca A_ w.heap.size 0 (fun _=>none)) ((Cn _ _).grown (World.grownBy_alloc w _ none) (Br _) (fun k c=>by cases c)) (E8.made w P k Ca A_) (fun k c=>Mk c.symm)));simp[execOp,run_makeMap]
end
end Go.Proofs.YtjdboncaegphmaaGreatDoor
namespace Go.Proofs.YtjdboncaegphmaaGreatDoor
open Go.RowKit
set_option maxRecDepth 100000
set_option maxHeartbeats 2000000
theorem ew{l:rG}{i:Nat}(h:i+4≤l.length):G.BD l i=(l.getD i 0).toNat+256*(l.getD (i+1) 0).toNat+65536*(l.getD (i+2) 0).toNat+16777216*(l.getD (i+3) 0).toNat:=by
 have e:∀j,(l.drop i).getD j 0=l.getD (i+j) 0:=fun j=>by rw[Dm,Q1,←Dm]
 unfold G.BD;rw[RO,e,e,e,e,tA];omega
theorem nn(q:Option Addr)(m c:Nat)(l:rG)(i:Nat)(w:World)(a:View w (I q m c) m 1 (bv l))(hl:l.length=m)(hm:i+4≤m∧m≤1048576:=by omega):Calls lp 137 #[I q m c,E i] w (sM w (E (G.BD l i))):=by
 have d:=(l.getD i 0).toNat_lt;have e:=(l.getD (i+1) 0).toNat_lt;have f:=(l.getD (i+2) 0).toNat_lt;have g:=(l.getD (i+3) 0).toNat_lt;refine Cg w lV D 34<|K ?_;refine GR<|zs (AA D)<|zs (AA D)<|zs (Dj A3 i i (Bx a) D D)<|zs (Fj BV i (Bx a) D)<|zs (Gg BV AF D)<|zs (AA D)<|zs (AA D)<|zs (Pc (q:=1) D D)<|zs (Dj A3 (i+1) (i+1) (Bx a) D D)<|zs (Fj BV (i+1) (Bx a) D)<|zs (Gg BV AF D)<|zs (E3 (p:=256) D D)<|zs (Pc D D)<|zs (AA D)<|zs (AA D)<|zs (Pc (q:=2) D D)<|zs (Dj A3 (i+2) (i+2) (Bx a) D D)<|zs (Fj BV (i+2) (Bx a) D)<|zs (Gg BV AF D)<|zs (E3 (p:=65536) D D)<|zs (Pc D D)<|zs (AA D)<|zs (AA D)<|zs (Pc (q:=3) D D)<|zs (Dj A3 (i+3) (i+3) (Bx a) D D)<|zs (Fj BV (i+3) (Bx a) D)<|zs (Gg BV AF D)<|zs (E3 (p:=16777216) D D)<|zs (Pc D D)<|zs (Ck D)<|CS<|A7 ?_;intro W b;rw[ew JY];exact⟨D,b.A0⟩
theorem p4(p c:Nat)(x:Jc)(w:World)(k:p<4294967296)(n:c<4294967296):Calls lp 165 #[E p,E c,rS [bv x.l]] w (sM w (.bool (G.child p c x))):=by
 refine Cg w T1 D 30<|Je<|Jh<|U<|Cv D fun o=>K ?_;refine E2 D D<|Jg<|Jf<|Cz D (fun b=>?_) fun b=>?_
 ·
  refine K ?_;refine Gx D D (fun d=>?_) fun d=>?_
  ·
   refine K ?_;refine Af (BN Nl 0 D D)<|Jj D D D<|Af (S8 [Ak 32])<|Jj D D D<|?_;refine qw (m:=CU.l) D D (fun e=>?_) fun e=>?_
   ·
    refine A7 ?_;exact fun W a=>⟨CT (by rw[←a0];exact(decide_eq_true (by refine⟨?_,?_,?_⟩<;>first|omega|assumption)).symm),a.A0⟩
   refine A7 ?_;exact fun W a=>⟨CT (by rw[←a0];first|exact(decide_eq_false JY).symm|exact(decide_eq_false (fun h=>absurd h.2.2 (by assumption))).symm),a.A0⟩
  refine A7 ?_;exact fun W a=>⟨CT (by rw[←a0];first|exact(decide_eq_false JY).symm|exact(decide_eq_false (fun h=>absurd h.2.2 (by assumption))).symm),a.A0⟩
 refine K ?_;refine Pm D D (fun f=>?_) fun f=>?_
 ·
  refine K ?_;refine GV D D (fun g=>?_) fun g=>?_
  ·
   refine K ?_;refine Kl D D (fun i=>?_) fun i=>?_
   ·
    refine K ?_;refine L6 D D (fun j=>?_) fun j=>?_
    ·
     refine A7 ?_;exact fun W a=>⟨CT (by rw[Oa];exact(decide_eq_true JY).symm),a.A0⟩
    refine A7 ?_;exact fun W a=>⟨CT (by rw[Oa];first|exact(decide_eq_false JY).symm|exact(decide_eq_false (fun h=>absurd h.2.2 (by assumption))).symm),a.A0⟩
   refine A7 ?_;exact fun W a=>⟨CT (by rw[Oa];first|exact(decide_eq_false JY).symm|exact(decide_eq_false (fun h=>absurd h.2.2 (by assumption))).symm),a.A0⟩
  refine A7 ?_;exact fun W a=>⟨CT (by rw[Oa];first|exact(decide_eq_false JY).symm|exact(decide_eq_false (fun h=>absurd h.2.2 (by assumption))).symm),a.A0⟩
 refine A7 ?_;exact fun W a=>⟨CT (by rw[Oa];first|exact(decide_eq_false JY).symm|exact(decide_eq_false (fun h=>absurd h.2.2 (by assumption))).symm),a.A0⟩
theorem G.k2{l r lc rc:Nat}{ls rs:Jc}:G.branch l r lc rc ls rs=decide (G.child l lc ls=true∧G.child r rc rs=true∧¬l=r∧2≤lc+rc∧lc+rc≤4096):=by
 unfold G.branch;simp only[nR,Bool.decide_eq_true,decide_not,VS]
theorem rf(l r lc rc:Nat)(ls rs:Jc)(w:World)(h1:l<4294967296)(b:r<4294967296)(e:lc<4294967296)(f:rc<4294967296):Calls lp 138 #[rS [[E 2],[E l],[E r],[E lc],[E rc],bv ls.l,bv rs.l,bv CU.l,[I none 0 0]]] w (sM w (.bool (G.branch l r lc rc ls rs))):=by
 refine Cg w fv D 102<|Je<|Jh<|U<|Cv D fun HK=>K ?_;refine AG Bv 0 D<|AZ AF 0 0 D D D<|E2 D D<|Jg<|Jf<|CR 10 D (congrArg Value.bool (decide_eq_false JZ))<|K ?_;refine AG Bv 0 D<|AZ AF 0 0 D D D<|Ci JZ D D<|K ?_;refine AG Bv 69 D<|Jj D D D<|Af (DH CI 0 7 1 [bv CU.l] D D)<|Jj D D D<|Af (S8 [Ak 32])<|Jj D D D<|?_;refine sd (l:=CU.l) (m:=CU.l) D D (fun h=>?_) fun h=>?_
 ·
  refine K ?_;refine AG Bv 101 D<|Jj D D D<|AZ B7 0 8 D D D<|Jj D D D<|Cr B7 D<|Jj D D D<|HF JZ D D<|K ?_;refine AG Bv 1 D<|Jj D D D<|AZ AF 0 1 D D D<|Jj D D D<|AG Bv 2 D<|Jj D D D<|AZ AF 0 2 D D D<|Jj D D D<|Gx D D (fun i=>?_) fun i=>?_
  ·
   refine A7 ?_;exact fun W a=>⟨CT (by rw[G.k2];exact(decide_eq_false (fun⟨h1,b,e,f,g⟩=>JY)).symm),a.A0⟩
  refine K ?_;refine AG Bv 1 D<|AZ AF 0 1 D D D<|AG Bv 3 D<|AZ AF 0 3 D D D<|AG Bv 5 D<|Af (DH Nl 0 5 1 [bv ls.l] D D)<|U<|BP T1 D (fun w a=>p4 l lc ls w JY JY)<|K ?_;refine AG Bv 2 D<|AZ AF 0 2 D D D<|AG Bv 4 D<|AZ AF 0 4 D D D<|AG Bv 37 D<|Af (DH Nl 0 6 1 [bv rs.l] D D)<|U<|BP T1 D (fun w a=>p4 r rc rs w JY JY)<|K ?_
  rcases Ln (!(G.child l lc ls))with c|c
  ·
   refine Af (bm (Te D) c)<|A7 ?_;exact fun W a=>⟨CT (by rw[G.k2];exact(decide_eq_false (fun⟨h1,b,e,f,g⟩=>by rw[h1]at c;cases c)).symm),a.A0⟩
  refine Af (bm (Te D) c)<|K ?_
  rcases Ln (!(G.child r rc rs))with d|d
  ·
   refine Af (bm (Te D) d)<|A7 ?_;exact fun W a=>⟨CT (by rw[G.k2];exact(decide_eq_false (fun⟨h1,b,e,f,g⟩=>by rw[b]at d;cases d)).symm),a.A0⟩
  refine Af (bm (Te D) d)<|K ?_;refine AG Bv 3 D<|AZ AF 0 3 D D D<|AG Bv 4 D<|AZ AF 0 4 D D D<|B6 D D<|K ?_;refine Pm D D (fun j=>?_) fun j=>?_
  ·
   refine K ?_;refine L6 D D (fun k=>?_) fun k=>?_
   ·
    refine A7 ?_;exact fun W a=>⟨CT (by rw[G.k2];exact(decide_eq_true ⟨(by revert c;cases G.child l lc ls<;>simp),(by revert d;cases G.child r rc rs<;>simp),JY,JY,JY⟩).symm),a.A0⟩
   refine A7 ?_;exact fun W a=>⟨CT (by rw[G.k2];exact(decide_eq_false (fun⟨h1,b,e,f,g⟩=>JY)).symm),a.A0⟩
  refine A7 ?_;exact fun W a=>⟨CT (by rw[G.k2];exact(decide_eq_false (fun⟨h1,b,e,f,g⟩=>JY)).symm),a.A0⟩
 exact absurd D h
def th(l:rG)(o i:Nat):Jc:=⟨(List.range 32).map fun j=>if j<i then l.getD (o+j) 0 else 0,by rw[MU,Wv]⟩
theorem m1(l:rG)(o:Nat):th l o 0=CU:=Jc.ext D
theorem ng(l:rG)(o i:Nat)(V:i<32:=by omega):(th l o i).l.set i (l.getD (o+i) 0)=(th l o (i+1)).l:=by
 apply cI
 ·rw[Kh,Jc.h,Jc.h]
 ·intro j h1 a;rw[kJ];simp only[th,Mw,cZ]
  by_cases e:i=j
  ·subst e;rw[if_pos D,if_pos JY]
  ·rw[if_neg e]
   by_cases q:j<i
   ·rw[if_pos q,if_pos JY]
   ·rw[if_neg q,if_neg JY]
theorem kS(l:rG)(i:Nat)(V:i<32):(th l 0 i).l.set i (l.getD i 0)=(th l 0 (i+1)).l:=by
 have:=ng l 0 i V
 rwa[IC]at this
theorem mh{l:rG}{o:Nat}(h:o+32≤l.length:=by omega):th l o 32=G.DF l o:=by
 apply Jc.ext;apply Q2;intro j;simp only[th,G.DF,AL.cut,ti,l7,FX,J3,LQ,eg,Q1]
 by_cases hj:j<32
 ·rw[kL hj,Ph,if_pos hj,if_pos JY,if_pos JY,Dm,F3 JY];rfl
 ·rw[S6 (by rw[Wv];omega),if_neg JY,if_neg JY];rfl
theorem oy{l:rG}(h1:32≤l.length)(a:l.length≤160):G.node 1 l=some ⟨1,0,0,0,0,CU,CU,G.DF l 0,l.drop 32⟩:=by
 unfold G.node;rw[if_pos ⟨D,h1⟩,if_pos (by rw[J3];omega)]
theorem r_{l:rG}(h:¬(32≤l.length∧l.length≤160)):G.node 1 l=none:=by
 unfold G.node
 by_cases h1:32≤l.length
 ·rw[if_pos ⟨D,h1⟩,if_neg (by rw[J3];omega)]
 ·rw[if_neg (fun q=>h1 q.2),if_neg JY]
theorem q8{l:rG}(h:l.length=80):G.node 2 l=if G.branch (G.BD l 0) (G.BD l 4) (G.BD l 8) (G.BD l 12) (G.DF l 16) (G.DF l 48)=true then some ⟨2,G.BD l 0,G.BD l 4,G.BD l 8,G.BD l 12,G.DF l 16,G.DF l 48,CU,[]⟩else none:=by
 unfold G.node;rw[if_neg JY,if_pos ⟨D,h⟩]
theorem uu{Bd:Nat}{l:rG}(h1:¬Bd=1)(a:¬(Bd=2∧l.length=80)):G.node Bd l=none:=by
 unfold G.node;rw[if_neg (fun q=>h1 q.1),if_neg a]
theorem jH{l:rG}{o j:Nat}(h:o+j<l.length):(l.drop o).take j++[l.getD (o+j) 0]=(l.drop o).take (j+1):=by
 have e:l.getD (o+j) 0=(l.drop o).getD j 0:=by rw[Dm,Dm,Q1]
 rw[e,RT (by rw[J3];omega)]
attribute [local irreducible] th G.DF G.BD G.branch G.node
theorem cM(Bd:Nat)(q:Option Addr)(m c:Nat)(l:rG)(w:World)(g:View w (I q m c) m 1 (bv l))(hl:l.length=m)(hm:m≤1048576):Calls lp 108 #[E Bd,I q m c] w fun e W=>(∀n,G.node Bd l=some n→∃x:Bf,x.AW=n∧e=.returned (.tuple #[rS (U' x),E 0])∧W.ownsRow w.heap.size 5 1 (I x.s.p x.s.v.length x.s.c) x.s.v.length (bv x.s.v))∧(G.node Bd l=none→e=.returned (.tuple #[rS N3,E 90]))∧Below w.heap.size w W:=by
 have aa:=KU l 0;have ab:=KU l 4;have ad:=KU l 8;have ae:=KU l 12;refine Cg w OX D 97<|Je<|Jh<|U<|Bw VF fun k=>K ?_;refine Af (S8 [[E Bd],[E 0],[E 0],[E 0],[E 0],Ak 32,Ak 32,Ak 32,[I none 0 0]])<|U<|Bw VF fun o=>U<|Bk 0 0 9 D D D<|?_;refine K ?_;refine E2 D D<|Jg<|Jf<|Cz D (fun C=>?_) fun C=>?_
 ·
  obtain rfl:Bd=1:=JY;refine K ?_;refine Cr B7 D<|GV D D (fun F=>?_) fun F=>?_
  ·
   refine K ?_;refine Af (S8 VF)<|U<|Bk 1 0 9 D D D<|?_;refine K ?_;refine Gl Bv 1 D D D fun W b=>?_;have f:G.node 1 l=none:=by exact r_ JY
   exact⟨(fun n h=>by rw[f]at h;cases h),fun _=>rfl,b.A0⟩
  refine K ?_;refine Cr B7 D<|Jj D D D<|Kl D D (fun H=>?_) fun H=>?_
  ·
   refine K ?_;refine Af (S8 VF)<|U<|Bk 1 0 9 D D D<|?_;refine K ?_;refine Gl Bv 1 D D D fun W b=>?_;have f:G.node 1 l=none:=by exact r_ JY
   exact⟨(fun n h=>by rw[f]at h;cases h),fun _=>rfl,b.A0⟩
  refine K ?_;refine FO 0 [[E 1],[E 0],[E 0],[E 0],[E 0],bv CU.l,bv CU.l,bv (th l 0 0).l,[I none 0 0]] D (by rw[m1];rfl)<|DL (fun r a W=>∃i,r=32 - i∧AH 97 a (Jb (Jb (Jb (Jb (Jb (Jb Jk 0 (E 1)) 1 (I q m c)) 4 (S k)) 5 (E 0)) 6 (S o)) 7 (E i))∧Sat C1 w [O o [[E 1],[E 0],[E 0],[E 0],[E 0],bv CU.l,bv CU.l,bv (th l 0 i).l,[I none 0 0]] 138,O k VF 138] W∧i≤32) (fun a W d b=>⟨0,D,AY d,b.pick [0,1],JY⟩) ?_;rintro _ a W ⟨i,rfl,d,b,V⟩;revert a W;refine K ?_;refine Ej D D<|Jg<|Jf<|Cz D (fun J=>?_) fun J=>?_
  ·
   refine K ?_;refine Af (Dj A3 i i (Bx g) D D)<|Af (Fj BV i (Bx g) D)<|AG Bv 69 D<|Af (D9 CI 1 i (69+i) D D)<|U<|eQ 0 7 i (l.getD i 0) D D D fun af L=>Jg<|?_;refine FO 0 [[E 1],[E 0],[E 0],[E 0],[E 0],bv CU.l,bv CU.l,bv (th l 0 (i+1)).l,[I none 0 0]] D (by rw[L,kS _ _ JY];rfl)<|?_;refine K ?_;refine B6 (q:=1) D D<|K ?_;exact fun a W d b=>⟨_,JY,i+1,D,AY d,b.pick [0,1],JY⟩
  refine K ?_;obtain rfl:i=32:=JY;refine Dr 5 1 (bv [])<|DL (fun r a W=>∃j y z,r=m - (32+j)∧AH 97 a (Jb (Jb (Jb (Jb (Jb (Jb Jk 0 (E 1)) 1 (I q m c)) 4 (S k)) 5 (E 0)) 6 (S o)) 8 (E (32+j)))∧Sat C1 w [Ae 5 1 (I y j z) j (bv ((l.drop 32).take j)),O o [[E 1],[E 0],[E 0],[E 0],[E 0],bv CU.l,bv CU.l,bv (th l 0 32).l,[I y j z]] 138,O k VF 138] W∧32+j≤m) (fun a W d b=>⟨0,_,_,D,AY d,b.pick [0,1,2],JY⟩) ?_;rintro _ a W ⟨j,y,z,rfl,d,b,hj⟩;revert a W;refine K ?_;refine Cr B7 D<|Ej D D<|Jg<|Jf<|Cz D (fun M=>?_) fun M=>?_
  ·
   refine K ?_;refine Hj (fun a W=>∃t u,AH 97 a (Jb (Jb (Jb (Jb (Jb (Jb Jk 0 (E 1)) 1 (I q m c)) 4 (S k)) 5 (E 0)) 6 (S o)) 8 (E (32+j)))∧Sat C1 w [Ae 5 1 (I t (j+1) u) (j+1) (bv (((l.drop 32).take j)++([l.getD (32+j) 0]))),O o [[E 1],[E 0],[E 0],[E 0],[E 0],bv CU.l,bv CU.l,bv (th l 0 32).l,[I t (j+1) u]] 138,O k VF 138] W) ?_ ?_
   ·
    refine CQ []<|Ab 0 D (AS Bv 101 D)<|Ab 2 D (AA D)<|Ab 3 D (AA D)<|Ab 4 D (Dj A3 (32+j) (32+j) (Bx g) D D)<|Ab 5 D (Fj BV (32+j) (Bx g) D)<|Gy 1 6 D D ?_ ?_
    ·
     refine IK (Bb B7 1 8 D D D)<|A8 []<|Bh 6 D<|Ey A3 (bv [l.getD (32+j) 0]) D D D fun ag=>A8 []<|Bh 7 D<|DI (m:=1) A3 1 (bv (((l.drop 32).take j)++([l.getD (32+j) 0]))) D D D (BZ 0) (Eo _) (EL (l':=[l.getD (32+j) 0]) D) D fun t u=>A8 []<|Ab 8 D (AS Bv 101 D)<|Bh 9 D<|Cq 2 8 D D D<|?_;refine A8 []<|Cm<|?_;exact fun a W d b=>⟨t,u,AY d,b.pick [1,2,3]⟩
    refine Ey A3 (bv [l.getD (32+j) 0]) D D D fun ah=>A8 []<|Bh 1 D<|IK (Bb B7 2 8 D D D)<|A8 []<|Bh 7 D<|DI (m:=1) A3 1 (bv (((l.drop 32).take j)++([l.getD (32+j) 0]))) D D D (BZ 0) (Eo _) (EL (l':=[l.getD (32+j) 0]) D) D fun N P=>A8 []<|Ab 8 D (AS Bv 101 D)<|Bh 9 D<|Cq 2 8 D D D<|?_;refine A8 []<|Cm<|?_;exact fun a W d b=>⟨N,P,AY d,b.pick [1,2,3]⟩
   rintro a W ⟨t,u,d,b⟩;revert a W;refine Tf 0 (bv (((l.drop 32).take j)++([l.getD (32+j) 0]))) (bv ((l.drop 32).take (j+1))) (by rw[jH JY])<|K ?_;refine B6 (q:=1) D D<|K ?_;exact fun a W d b=>⟨_,JY,j+1,_,_,D,AY d,b.pick [0,1,2],JY⟩
  refine K ?_;refine Af (BN Bv 1 D D)<|U<|Bk 2 0 9 D D D<|?_;refine K ?_;refine Gl Bv 2 D D D fun W b=>?_;obtain rfl:j=m - 32:=JY;have f:=oy (l:=l) JY JY;rw[mh];have A:=b.DQ 0;rw[DV (by rw[J3];omega)]at A;have Q:m - 32=(l.drop 32).length:=by rw[J3,hl]
  rw[Q]at A⊢;exact⟨(fun n h=>by rw[f]at h;cases h;exact⟨⟨1,0,0,0,0,CU,CU,G.DF l 0,⟨y,l.drop 32,z⟩⟩,D,D,A⟩),(fun h=>by rw[f]at h;cases h),b.A0⟩
 refine K ?_;refine Li D D (fun R=>?_) fun R=>?_
 ·
  obtain rfl:Bd=2:=JY;refine K ?_;refine Cr B7 D<|Jj D D D<|Li D D (fun T=>?_) fun T=>?_
  ·
   obtain rfl:m=80:=JY;refine K ?_;refine U<|BP lV D (fun w b=>nn _ _ _ l 0 w ((Bx g) w b) hl)<|AG Bv 1 D<|U<|Cq 0 1 D D D<|?_;refine K ?_;refine U<|BP lV D (fun w b=>nn _ _ _ l 4 w ((Bx g) w b) hl)<|AG Bv 2 D<|U<|Cq 0 2 D D D<|?_;refine K ?_;refine U<|BP lV D (fun w b=>nn _ _ _ l 8 w ((Bx g) w b) hl)<|AG Bv 3 D<|U<|Cq 0 3 D D D<|?_;refine K ?_;refine U<|BP lV D (fun w b=>nn _ _ _ l 12 w ((Bx g) w b) hl)<|AG Bv 4 D<|U<|Cq 0 4 D D D<|?_;refine K ?_;refine FO 0 [[E 2],[E (G.BD l 0)],[E (G.BD l 4)],[E (G.BD l 8)],[E (G.BD l 12)],bv (th l 16 0).l,bv (th l 48 0).l,bv CU.l,[I none 0 0]] D (by rw[m1,m1];rfl)<|DL (fun r a W=>∃i,r=32 - i∧AH 97 a (Jb (Jb (Jb (Jb (Jb Jk 1 (I q 80 c)) 4 (S k)) 5 (E 0)) 6 (S o)) 9 (E i))∧Sat C1 w [O o [[E 2],[E (G.BD l 0)],[E (G.BD l 4)],[E (G.BD l 8)],[E (G.BD l 12)],bv (th l 16 i).l,bv (th l 48 i).l,bv CU.l,[I none 0 0]] 138,O k VF 138] W∧i≤32) (fun a W d b=>⟨0,D,AY d,b.pick [0,1],JY⟩) ?_;rintro _ a W ⟨i,rfl,d,b,V⟩;revert a W;refine K ?_;refine Ej D D<|Jg<|Jf<|Cz D (fun X=>?_) fun X=>?_
   ·
    refine K ?_;refine B6 (p:=16) D D<|Af (Dj A3 (16+i) (16+i) (Bx g) D D)<|Af (Fj BV (16+i) (Bx g) D)<|AG Bv 5 D<|Af (D9 Nl 1 i (5+i) D D)<|U<|eQ 0 5 i (l.getD (16+i) 0) D D D fun ai Y=>Jg<|?_;refine FO 0 [[E 2],[E (G.BD l 0)],[E (G.BD l 4)],[E (G.BD l 8)],[E (G.BD l 12)],bv (th l 16 (i+1)).l,bv (th l 48 i).l,bv CU.l,[I none 0 0]] D (by rw[Y,ng _ _ _];rfl)<|?_;refine K ?_;refine B6 (p:=48) D D<|Af (Dj A3 (48+i) (48+i) (Bx g) D D)<|Af (Fj BV (48+i) (Bx g) D)<|AG Bv 37 D<|Af (D9 Nl 1 i (37+i) D D)<|U<|eQ 0 6 i (l.getD (48+i) 0) D D D fun aj Z=>Jg<|?_;refine FO 0 [[E 2],[E (G.BD l 0)],[E (G.BD l 4)],[E (G.BD l 8)],[E (G.BD l 12)],bv (th l 16 (i+1)).l,bv (th l 48 (i+1)).l,bv CU.l,[I none 0 0]] D (by rw[Z,ng _ _ _];rfl)<|?_;refine K ?_;refine B6 (q:=1) D D<|K ?_;exact fun a W d b=>⟨_,JY,i+1,D,AY d,b.pick [0,1],JY⟩
   obtain rfl:i=32:=JY;refine FO 0 [[E 2],[E (G.BD l 0)],[E (G.BD l 4)],[E (G.BD l 8)],[E (G.BD l 12)],bv (G.DF l 16).l,bv (G.DF l 48).l,bv CU.l,[I none 0 0]] D (by rw[mh,mh])<|K ?_;refine Af (BN Bv 0 D D)<|U<|BP fv D (fun w b=>rf (G.BD l 0) (G.BD l 4) (G.BD l 8) (G.BD l 12) (G.DF l 16) (G.DF l 48) w JY JY JY JY)<|K ?_;refine Af (Te D)<|Jg<|Jf<|J9 D (fun B=>?_) fun B=>?_
   ·
    refine Je<|Jh<|Af (S8 VF)<|U<|Bk 1 0 9 D D D<|?_;refine K ?_;refine Gl Bv 1 D D D fun W b=>?_;have f:G.node 2 l=none:=by rw[q8 hl,if_neg (by revert B;cases G.branch _ _ _ _ _ _<;>simp)]
    exact⟨(fun n h=>by rw[f]at h;cases h),fun _=>rfl,b.A0⟩
   refine K ?_;refine Af (BN Bv 0 D D)<|U<|Bk 1 0 9 D D D<|?_;refine K ?_;refine Gl Bv 1 D D D fun W b=>?_;have f:=q8 hl;rw[if_pos (by revert B;cases G.branch _ _ _ _ _ _<;>simp)]at f;exact⟨(fun n h=>by rw[f]at h;cases h;exact⟨⟨2,_,_,_,_,_,_,CU,NP⟩,D,D,World.ownsRow_nil _ _ _ _⟩),(fun h=>by rw[f]at h;cases h),b.A0⟩
  refine K ?_;refine Af (S8 VF)<|U<|Bk 1 0 9 D D D<|?_;refine K ?_;refine Gl Bv 1 D D D fun W b=>?_;have f:G.node 2 l=none:=by exact uu JY JY
  exact⟨(fun n h=>by rw[f]at h;cases h),fun _=>rfl,b.A0⟩
 refine K ?_;refine Af (S8 VF)<|U<|Bk 1 0 9 D D D<|?_;refine K ?_;refine Gl Bv 1 D D D fun W b=>?_;have f:G.node Bd l=none:=by exact uu JY JY
 exact⟨(fun n h=>by rw[f]at h;cases h),fun _=>rfl,b.A0⟩
