/- Laws and walks on the road to SalvagePlays (part M10). No conditions beyond each law's own. -/
import Derived.DeepKeys
import Derived.Laws.StructEq
import Derived.Test.YtjdboncaegphmaaGreatDoorM09
set_option linter.unusedVariables false
namespace Go.Proofs.YtjdboncaegphmaaGreatDoor
open Go.RowKit
set_option maxRecDepth 100000
set_option maxHeartbeats 2000000
section
variable {P:Program} {w:World} {ops:Array Oper} {rest:List Oper} {o:Oper} {a:Act} {Aa:Exit→Act→World→Prop}
end
def FV(s:Fr.Bu):Value:=.agg #[.int .i64 s.w,.int .i64 s.g,.int .i64 s.m,.int .i64 s.h,.int .i64 s.p]
theorem K0(n:Nat)(w:World):Calls Tryz.prog 104 #[.int .i64 n] w fun e w'=>e=.returned (.bool (decide (2≤n)&&decide (n<4096)))∧w=w':=by
 go_enter Po,Tryz.ntmps104
 go_wp2
 all_goals
  go_ret
  refine⟨?_,D⟩;refine congrArg (fun b=>Ending.returned (Value.bool b)) ?_;rw[tp];simp
  try omega
theorem M9(n:Nat)(w:World):Calls Tryz.prog 105 #[.int .i64 n] w fun e w'=>e=.returned (.bool (decide (1≤n)&&decide (n≤3)))∧w=w':=by
 go_enter Qo,Tryz.ntmps105
 by_cases h1:n=1
 ·subst h1
  go_wp2
  go_ret
  exact⟨D,D⟩
 by_cases a:n=2
 ·subst a
  go_wp2
  go_ret
  exact⟨D,D⟩
 by_cases b:n=3
 ·subst b
  go_wp2
  go_ret
  exact⟨D,D⟩
 have c:((n:Int)=1)=False:=by simp;omega
 have d:((n:Int)=2)=False:=by simp;omega
 have f:((n:Int)=3)=False:=by simp;omega
 have hr:(decide (1≤n)&&decide (n≤3))=false:=by simp;omega
 rw[hr]
 go_wp2
 go_ret
 exact⟨D,D⟩
theorem mapM_some{Bo Dg:Type}{f:Bo→Option Dg}{g:Bo→Dg}:∀ {l:List Bo},(∀a∈l,f a=some (g a))→l.mapM f=some (l.map g)
 |[],_=>rfl
 |a::l,h=>by
  have J:=h a (by simp);have hr:=mapM_some (f:=f) (g:=g) (l:=l) (fun x b=>h x (by simp[b]));simp[List.mapM_cons,J,hr]
theorem YY:Tryz.prog.cellsOf 194=64:=AB
theorem Qa:Tryz.prog.cellsOf 5=1:=AB
theorem WR{Ch:rG}(h:Ch.length=64):Tryz.prog.keyLits 3 194 (bv Ch)=some ((List.range 64).map (fun i=>[Lit.int .u8 ((Ch.getD i 0).toNat:Nat)])).flatten:=by
 have hr:=mapM_some (f:=fun i=>Tryz.prog.keyLits 2 5 (((bv Ch).drop (i*Tryz.prog.cellsOf 5)).take (Tryz.prog.cellsOf 5))) (g:=fun i=>[Lit.int .u8 ((Ch.getD i 0).toNat:Nat)]) (l:=List.range 64) (fun i V=>by
  have a:i<Ch.length:=by rw[h];exact QZ.1 V
  have e:((bv Ch).drop (i*1)).take 1=[.int .u8 (Ch[i].toNat:Nat)]:=by
   rw[Q6,Hk,Ip,RS,To,F3 a];rfl
  have b:Ch.getD i 0=Ch[i]:=by rw[Dm,F3 a];rfl
  have hw:(Lit.int .u8 ((Ch[i].toNat:Nat):Int)).wf=true:=by
   have:=Ch[i].toNat_lt;have h1:IntKind.u8.min=0:=D;have c:IntKind.u8.max=255:=D;simp only[Lit.wf,Kq,decide_eq_true_eq];omega
  rw[Qa,e,b];simp[Program.keyLits,Tryz.underlying5,hw])
 have hl:(bv Ch).length=Tryz.prog.cellsOf 194:=by rw[DG,h,YY]
 unfold Program.keyLits;simp only[Tryz.underlying194];rw[if_pos hl,hr];rfl
theorem NQ{Bo Dg:Type}(f:Bo→Dg):∀l:List Bo,(l.map (fun i=>[f i])).flatten=l.map f
 |[]=>rfl
 |a::l=>by rw[Zv,W1,NQ f l];rfl
theorem sS{l m:rG}(hl:l.length=64)(hm:m.length=64)(h:((List.range 64).map (fun i=>[Lit.int .u8 ((l.getD i 0).toNat:Nat)])).flatten=((List.range 64).map (fun i=>[Lit.int .u8 ((m.getD i 0).toNat:Nat)])).flatten):l=m:=by
 have e:∀Ch:List UInt8,((List.range 64).map (fun i=>[Lit.int .u8 ((Ch.getD i 0).toNat:Nat)])).flatten=(List.range 64).map (fun i=>Lit.int .u8 ((Ch.getD i 0).toNat:Nat)):=by
  intro Ch;exact NQ _ _
 rw[e,e]at h;have a:=o3.1 h;refine cI JY (fun i h1 b=>?_);have:=a i (by simp;omega);rw[Dm,Dm,F3 h1,F3 b]at this;simp only[QW,Lit.int.injEq,true_and]at this;exact M'.1 JY
theorem dM{l m:rG}(hl:l.length=64)(hm:m.length=64)(w:World):(binOp .eql 194 (.agg (bv l).toArray) (.agg (bv m).toArray)).run Tryz.prog w=.ok (.bool (decide (l=m))) w:=by
 have Z:∀ {Ch:rG},Ch.length=64→(Value.agg (bv Ch).toArray).formed Tryz.prog 194=true:=fun h=>by simp[Value.formed,Tryz.underlying194,DG,h,YY]
 have b:Tryz.prog.keyLits 3 194 (Value.agg (bv l).toArray).cells.toList=some _:=WR hl;have c:Tryz.prog.keyLits 3 194 (Value.agg (bv m).toArray).cells.toList=some _:=WR hm;obtain⟨r,hr,a⟩:=run_equalIn_deep (P:=Tryz.prog) 9997 3 194 AB w 3 3 (.agg (bv l).toArray) (.agg (bv m).toArray) _ _ (Z hl) (Z hm) b c;have e:r=decide (l=m):=by
  by_cases he:l=m
  ·subst he;simpa using a.2 D
  ·cases r
   ·simp[he]
   ·exact absurd (sS hl hm (a.1 D)) he
 subst e;have e:binOp .eql 194 (.agg (bv l).toArray) (.agg (bv m).toArray)=(do pure (.bool (←Op.equal 194 (.agg (bv l).toArray) (.agg (bv m).toArray)))):=D;have:(9997+3:Nat)=10000:=D;rw[this]at hr;have d:(Op.equal 194 (.agg (bv l).toArray) (.agg (bv m).toArray)).run Tryz.prog w=_:=hr;rw[e,Sem.run_bind,d,Result.andThen_ok,Sem.run_pure]
theorem gW(a b:Fr.Bu)(w:World):(Op.equalIn 10000 70 (FV a) (FV b)).run Tryz.prog w=.ok (decide (a=b)) w:=by
 obtain⟨c,d,e,f,g⟩:=a;obtain⟨h,i,j,k,l⟩:=b;have s:=AF;have m:Tryz.prog.underlying 70=some (.struct (Tryz.prog.fieldsOf 70)):=AB;have n:Tryz.prog.stoodInHeld 70=false:=AB;rw[show(10000:Nat)=9999+1 from D,FV,FV,run_equalIn_struct w 9999 70 _ _ m n];simp only[Program.fieldsOf,Tryz.underlying70]
 go_simp
 by_cases o:c=h<;>by_cases h1:d=i<;>by_cases p:e=j<;>by_cases q:f=k<;>by_cases r:g=l<;>simp[o,h1,p,q,r]<;>omega
theorem h2(a b:Fr.Bu)(w:World):(binOp .neq 70 (FV a) (FV b)).run Tryz.prog w=.ok (.bool (!decide (a=b))) w:=by
 have e:binOp .neq 70 (FV a) (FV b)=(do pure (.bool (!(←Op.equal 70 (FV a) (FV b))))):=D;have c:(Op.equal 70 (FV a) (FV b)).run Tryz.prog w=_:=gW a b w;rw[e,Sem.run_bind,c,Result.andThen_ok,Sem.run_pure]
