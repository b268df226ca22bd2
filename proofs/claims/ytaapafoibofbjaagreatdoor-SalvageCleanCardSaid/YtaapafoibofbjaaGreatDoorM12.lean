/- Laws and walks on the road to SalvageClean (part M12). No conditions beyond each law's own. -/
import Derived.Laws.Tables
import Derived.Test.YtaapafoibofbjaaGreatDoorM01
import Derived.Test.YtaapafoibofbjaaGreatDoorM10
import Derived.Test.YtaapafoibofbjaaGreatDoorM11
import Derived.Test.YtaapafoibofbjaaGreatDoorM07
set_option linter.unusedVariables false
namespace Go.Proofs.YtaapafoibofbjaaGreatDoor
open Go.RowKit
set_option maxRecDepth 100000
variable {l m:List UInt8}
theorem XA(l:List UInt8):flat [bv l]=(bv l).toArray:=by simp[flat]
theorem NL:Tryz.prog.cellsOf 57=32:=by kernel_rfl
theorem Ug{Ch:List UInt8}(h:Ch.length=32):Tryz.prog.keyLits 3 57 (bv Ch)=some ((List.range 32).map (fun i=>[Lit.int .u8 ((Ch.getD i 0).toNat:Nat)])).flatten:=by
 have hr:=mapM_some (f:=fun i=>Tryz.prog.keyLits 2 5 (((bv Ch).drop (i*Tryz.prog.cellsOf 5)).take (Tryz.prog.cellsOf 5))) (g:=fun i=>[Lit.int .u8 ((Ch.getD i 0).toNat:Nat)]) (l:=List.range 32) (fun i b=>by
  have a:i<Ch.length:=by rw[h];exact List.mem_range.1 b
  have e:((bv Ch).drop (i*1)).take 1=[.int .u8 (Ch[i].toNat:Nat)]:=by
   rw[Nat.mul_one,Hk,Ip,List.take_one,List.head?_drop,List.getElem?_eq_getElem a]
   rfl
  have c:Ch.getD i 0=Ch[i]:=by rw[List.getD_eq_getElem?_getD,List.getElem?_eq_getElem a];rfl
  have hw:(Lit.int .u8 ((Ch[i].toNat:Nat):Int)).wf=true:=by
   have:=Ch[i].toNat_lt
   have h1:IntKind.u8.min=0:=D
   have d:IntKind.u8.max=255:=D
   simp only[Lit.wf,Bool.and_eq_true,decide_eq_true_eq]
   omega
  rw[Qa,e,c]
  simp[Program.keyLits,Tryz.underlying5,hw])
 have hl:(bv Ch).length=Tryz.prog.cellsOf 57:=by rw[DG,h,NL]
 unfold Program.keyLits
 simp only[Tryz.underlying57]
 rw[if_pos hl,hr]
 rfl
theorem iS(hl:l.length=32)(hm:m.length=32)(h:((List.range 32).map (fun i=>[Lit.int .u8 ((l.getD i 0).toNat:Nat)])).flatten=((List.range 32).map (fun i=>[Lit.int .u8 ((m.getD i 0).toNat:Nat)])).flatten):l=m:=by
 have e:∀Ch:List UInt8,((List.range 32).map (fun i=>[Lit.int .u8 ((Ch.getD i 0).toNat:Nat)])).flatten=(List.range 32).map (fun i=>Lit.int .u8 ((Ch.getD i 0).toNat:Nat)):=by
  intro Ch
  exact NQ _ _
 rw[e,e]at h
 have a:=List.map_inj_left.1 h
 refine List.ext_getElem (by omega) (fun i h1 b=>?_)
 have:=a i (by simp;omega)
 rw[List.getD_eq_getElem?_getD,List.getD_eq_getElem?_getD,List.getElem?_eq_getElem h1,List.getElem?_eq_getElem b]at this
 simp only[Option.getD_some,Lit.int.injEq,true_and]at this
 exact UInt8.toNat_inj.1 (by omega)
theorem iY(hl:l.length=32)(hm:m.length=32)(w:World):(binOp .eql 57 (.agg (bv l).toArray) (.agg (bv m).toArray)).run Tryz.prog w=.ok (.bool (decide (l=m))) w:=by
 have Z:∀ {Ch:List UInt8},Ch.length=32→(Value.agg (bv Ch).toArray).formed Tryz.prog 57=true:=fun h=>by simp[Value.formed,Tryz.underlying57,DG,h,NL]
 have b:Tryz.prog.keyLits 3 57 (Value.agg (bv l).toArray).cells.toList=some _:=Ug hl
 have c:Tryz.prog.keyLits 3 57 (Value.agg (bv m).toArray).cells.toList=some _:=Ug hm
 obtain⟨r,hr,a⟩:=run_equalIn_deep (P:=Tryz.prog) 9997 3 57 (by kernel_rfl) w 3 3 (.agg (bv l).toArray) (.agg (bv m).toArray) _ _ (Z hl) (Z hm) b c
 have e:r=decide (l=m):=by
  by_cases he:l=m
  ·subst he
   simpa using a.2 D
  ·cases r
   ·simp[he]
   ·exact absurd (iS hl hm (a.1 D)) he
 subst e
 have e:binOp .eql 57 (.agg (bv l).toArray) (.agg (bv m).toArray)=(do pure (.bool (←Op.equal 57 (.agg (bv l).toArray) (.agg (bv m).toArray)))):=D
 have:(9997+3:Nat)=10000:=D
 rw[this]at hr
 have d:(Op.equal 57 (.agg (bv l).toArray) (.agg (bv m).toArray)).run Tryz.prog w=_:=hr
 rw[e,Sem.run_bind,d,Result.andThen_ok,Sem.run_pure]
theorem ad(op:BinOp)(x y:Operand)(p q:Array Value)(w:World)(h:op=.eql∨op=.neq):(eqGuard op 57 x y (.agg p) (.agg q)).run Tryz.prog w=.ok () w:=by
 rcases h with rfl|rfl<;>kernel_rfl
section
variable {w:World} {a:Act} {N:Nat} {f:BW} {ty:TypeId} {pos:String} {An:Array Edge} {dst:Option Tmp} {g:Option (Nat×Bool)}
theorem dH(d:AH N a f){x y:Operand}{t:TypeId}(hl:l.length=32)(hm:m.length=32)(b:Aj f x=some (.agg (flat [bv l])))(c:Aj f y=some (.agg (flat [bv m])))(r:Bool)(hr:decide (l=m)=r):CD Tryz.prog a w ⟨dst,.binOp .eql 57 x y t,ty,pos,An,g⟩ (.bool r) w:=by
 subst hr
 rw[XA]at b c
 exact ED d b c (ad _ _ _ _ _ _ (.inl D)) (iY hl hm w)
end
theorem PX:Tryz.prog.cellsOf 51=32:=by kernel_rfl
theorem VX{Ch:List UInt8}(h:Ch.length=32):Tryz.prog.keyLits 3 51 (bv Ch)=some ((List.range 32).map (fun i=>[Lit.int .u8 ((Ch.getD i 0).toNat:Nat)])).flatten:=by
 have hr:=mapM_some (f:=fun i=>Tryz.prog.keyLits 2 5 (((bv Ch).drop (i*Tryz.prog.cellsOf 5)).take (Tryz.prog.cellsOf 5))) (g:=fun i=>[Lit.int .u8 ((Ch.getD i 0).toNat:Nat)]) (l:=List.range 32) (fun i b=>by
  have a:i<Ch.length:=by rw[h];exact List.mem_range.1 b
  have e:((bv Ch).drop (i*1)).take 1=[.int .u8 (Ch[i].toNat:Nat)]:=by
   rw[Nat.mul_one,Hk,Ip,List.take_one,List.head?_drop,List.getElem?_eq_getElem a]
   rfl
  have c:Ch.getD i 0=Ch[i]:=by rw[List.getD_eq_getElem?_getD,List.getElem?_eq_getElem a];rfl
  have hw:(Lit.int .u8 ((Ch[i].toNat:Nat):Int)).wf=true:=by
   have:=Ch[i].toNat_lt
   have h1:IntKind.u8.min=0:=D
   have d:IntKind.u8.max=255:=D
   simp only[Lit.wf,Bool.and_eq_true,decide_eq_true_eq]
   omega
  rw[Qa,e,c]
  simp[Program.keyLits,Tryz.underlying5,hw])
 have hl:(bv Ch).length=Tryz.prog.cellsOf 51:=by rw[DG,h,PX]
 unfold Program.keyLits
 simp only[Tryz.underlying51]
 rw[if_pos hl,hr]
 rfl
theorem aP(hl:l.length=32)(hm:m.length=32)(h:((List.range 32).map (fun i=>[Lit.int .u8 ((l.getD i 0).toNat:Nat)])).flatten=((List.range 32).map (fun i=>[Lit.int .u8 ((m.getD i 0).toNat:Nat)])).flatten):l=m:=by
 have e:∀Ch:List UInt8,((List.range 32).map (fun i=>[Lit.int .u8 ((Ch.getD i 0).toNat:Nat)])).flatten=(List.range 32).map (fun i=>Lit.int .u8 ((Ch.getD i 0).toNat:Nat)):=by
  intro Ch
  exact NQ _ _
 rw[e,e]at h
 have a:=List.map_inj_left.1 h
 refine List.ext_getElem (by omega) (fun i h1 b=>?_)
 have:=a i (by simp;omega)
 rw[List.getD_eq_getElem?_getD,List.getD_eq_getElem?_getD,List.getElem?_eq_getElem h1,List.getElem?_eq_getElem b]at this
 simp only[Option.getD_some,Lit.int.injEq,true_and]at this
 exact UInt8.toNat_inj.1 (by omega)
theorem b3(hl:l.length=32)(hm:m.length=32)(w:World):(binOp .eql 51 (.agg (bv l).toArray) (.agg (bv m).toArray)).run Tryz.prog w=.ok (.bool (decide (l=m))) w:=by
 have Z:∀ {Ch:List UInt8},Ch.length=32→(Value.agg (bv Ch).toArray).formed Tryz.prog 51=true:=fun h=>by simp[Value.formed,Tryz.underlying51,DG,h,PX]
 have b:Tryz.prog.keyLits 3 51 (Value.agg (bv l).toArray).cells.toList=some _:=VX hl
 have c:Tryz.prog.keyLits 3 51 (Value.agg (bv m).toArray).cells.toList=some _:=VX hm
 obtain⟨r,hr,a⟩:=run_equalIn_deep (P:=Tryz.prog) 9997 3 51 (by kernel_rfl) w 3 3 (.agg (bv l).toArray) (.agg (bv m).toArray) _ _ (Z hl) (Z hm) b c
 have e:r=decide (l=m):=by
  by_cases he:l=m
  ·subst he
   simpa using a.2 D
  ·cases r
   ·simp[he]
   ·exact absurd (aP hl hm (a.1 D)) he
 subst e
 have e:binOp .eql 51 (.agg (bv l).toArray) (.agg (bv m).toArray)=(do pure (.bool (←Op.equal 51 (.agg (bv l).toArray) (.agg (bv m).toArray)))):=D
 have:(9997+3:Nat)=10000:=D
 rw[this]at hr
 have d:(Op.equal 51 (.agg (bv l).toArray) (.agg (bv m).toArray)).run Tryz.prog w=_:=hr
 rw[e,Sem.run_bind,d,Result.andThen_ok,Sem.run_pure]
theorem cl(op:BinOp)(x y:Operand)(p q:Array Value)(w:World)(h:op=.eql∨op=.neq):(eqGuard op 51 x y (.agg p) (.agg q)).run Tryz.prog w=.ok () w:=by
 rcases h with rfl|rfl<;>kernel_rfl
theorem dR(hl:l.length=32)(hm:m.length=32)(w:World):(binOp .neq 51 (.agg (bv l).toArray) (.agg (bv m).toArray)).run Tryz.prog w=.ok (.bool (!decide (l=m))) w:=by
 have h:=b3 hl hm w
 have a:binOp .eql 51 (.agg (bv l).toArray) (.agg (bv m).toArray)=(do pure (.bool (←Op.equal 51 (.agg (bv l).toArray) (.agg (bv m).toArray)))):=D
 have c:binOp .neq 51 (.agg (bv l).toArray) (.agg (bv m).toArray)=(do pure (.bool (!(←Op.equal 51 (.agg (bv l).toArray) (.agg (bv m).toArray))))):=D
 rw[a,Sem.run_bind]at h
 rw[c,Sem.run_bind]
 cases hr:(Op.equal 51 (.agg (bv l).toArray) (.agg (bv m).toArray)).run Tryz.prog w with
 |ok b w'=>
  rw[hr]at h
  simp only[Result.andThen_ok,Sem.run_pure,Result.ok.injEq,Value.bool.injEq]at h⊢
  exact⟨by rw[h.1],h.2⟩
 |halt r w'=>rw[hr]at h;simp at h
section
variable {w:World} {a:Act} {N:Nat} {f:BW} {ty:TypeId} {pos:String} {An:Array Edge} {dst:Option Tmp} {g:Option (Nat×Bool)}
theorem Qj(d:AH N a f){x y:Operand}{t:TypeId}(hl:l.length=32)(hm:m.length=32)(b:Aj f x=some (.agg (flat [bv l])))(c:Aj f y=some (.agg (flat [bv m])))(r:Bool)(hr:(!decide (l=m))=r):CD Tryz.prog a w ⟨dst,.binOp .neq 51 x y t,ty,pos,An,g⟩ (.bool r) w:=by
 subst hr
 rw[XA]at b c
 exact ED d b c (cl _ _ _ _ _ _ (.inr D)) (dR hl hm w)
end
end Go.Proofs.YtaapafoibofbjaaGreatDoor
namespace Go.Proofs.YtaapafoibofbjaaGreatDoor
open Go.RowKit
variable {W B8:World} {ss:List (List Value)} {x:Operand} {n i size p:Nat} {T t e:TypeId} {v:Value} {l:List UInt8} {o:Oper}
theorem hq(B:List Value):∀(l A a:List Value) (off k:Nat),A.length=off+k→a.length=l.length→
 (l.zipIdx k).foldl (fun(cs:Array Value) (p:Value×Nat)=>cs.setIfInBounds (off+p.2) p.1) (A++a++B).toArray=(A++l++B).toArray:=by
 intro l
 induction l with
 |nil=>
  intro A a off k _ b
  have:a=[]:=List.length_eq_zero_iff.1 b
  subst this
  rfl
 |cons c l d=>
  intro A a off k e b
  cases a with
  |nil=>simp at b
  |cons m a=>
   rw[List.zipIdx_cons,List.foldl_cons]
   have h1:(A++m::a++B).toArray.setIfInBounds (off+k) c=(A++[c]++a++B).toArray:=by
    apply Array.toList_inj.1
    rw[Array.toList_setIfInBounds]
    show(A++m::a++B).set (off+k) c=A++[c]++a++B
    rw[←e,List.append_assoc,List.set_append_right _ _ (Br _),Nat.sub_self]
    simp
   show(l.zipIdx (k+1)).foldl _ ((A++m::a++B).toArray.setIfInBounds (off+k) c)=_
   rw[h1,d (A++[c]) a off (k+1) (by simp;omega) (by simpa using b)]
   simp
theorem B3{place:Nat→Option (Nat×Nat)}{off:Nat}{rest:List (Nat×Value)}(pre mid post ts:List (List Value))(b:place i=some (off,size))(ho:pre.flatten.length=off)(hm:mid.flatten.length=size)(c:ts.flatten.length=size)(V:v.cells=flat ts){r:Array Value}
 (h:Instr.fill place (flat (pre++ts++post)) rest=some r):Instr.fill place (flat (pre++mid++post)) ((i,v)::rest)=some r:=by
 unfold Instr.fill
 rw[b]
 simp only
 have a:v.cells.size=size:=by rw[V,Tk,c]
 have hl:¬(off+v.cells.size>(flat (pre++mid++post)).size):=by
  rw[a,Tk]
  simp only[List.flatten_append,List.length_append,gt_iff_lt,Nat.not_lt]
  omega
 rw[if_neg (by simp only[a,ne_eq,not_true_eq_false,decide_false,Bool.false_or,decide_eq_true_eq];rw[←a];exact hl)]
 have e:v.cells.zipIdx.foldl (fun cs x=>cs.setIfInBounds (off+x.2) x.1) (flat (pre++mid++post))=flat (pre++ts++post):=by
  rw[V,←Array.foldl_toList,Array.toList_zipIdx]
  have:=hq post.flatten ts.flatten pre.flatten mid.flatten off 0 (by omega) (by omega)
  simp only[flat,List.flatten_append]
  exact this
 exact e▸h
section
variable {P:Program} {w w':World} {a:Act} {Aa:Exit→Act→World→Prop} {N:Nat} {f:BW} {d:Nat} {ty:TypeId} {pos:String} {An:Array Edge} {dst:Option Tmp} {g:Option (Nat×Bool)} {K:Act→World→Prop}
theorem E5{b:Array Field}(hu:P.underlying T=some (.struct b))(a:(P.info? T).map (·.zero)=some (some (.agg (flat ss)))){places:List (Nat×Nat)}(d:b.toList.mapM (fun f=>(P.info? f.type).map fun i=>(f.offset,i.size))=some places){parts:List (Nat×Value)}{r:Array Value}(h:Instr.fill (places.toArray[·]?) (flat ss) parts=some r):P.built T parts=some r:=by
 unfold Program.built
 cases c:P.info? T with
 |none=>rw[c]at a;cases a
 |some it=>
  rw[c]at a
  have e:it.zero=some (.agg (flat ss)):=by simpa using a
  rw[hu]
  simp only[e,d]
  exact h
theorem E_(c:AH N a f){b:Array (Nat×Operand)}{BH:List (Nat×Value)}(d:b.toList.map (fun p=>(p.1,Aj f p.2))=BH.map (fun p=>(p.1,some p.2))){r:Array Value}(hr:P.built T BH=some r):CD P a w ⟨dst,.build T b,ty,pos,An,g⟩ (.agg r) w:=
 Cs c d (run_build _ _ _ _ (by simpa using hr))
end
theorem Zm(h:ss.flatten.length=n):(flat ss).size=n:=by rw[Tk];exact h
theorem aQ(h:Jw ss):∀u∈(flat ss).toList,u.oneCell'=true:=by
 intro u hu
 have:u∈ss.flatten:=by simpa[flat]using hu
 obtain⟨s,a,hu⟩:=List.mem_flatten.1 this
 exact h s a u hu
section
variable {P:Program} {w w':World} {ops:Array Oper} {rest:List Oper} {Aa:Exit→Act→World→Prop} {N:Nat} {f:BW} {d:Nat} {ty:TypeId} {pos:String} {An:Array Edge} {g:Option (Nat×Bool)} {dst:Option Tmp} {R:Act→Prop} {K:Act→World→Prop} {a:Act}
theorem cW(h:Jw ss:=by(repeat(first|exact Jw.nil|(apply Jw.one rfl)|(apply Jw.row;(first|assumption|exact Jc.row _|exact Jl _|exact Jx _|exact Ju (by first|assumption|exact List.length_replicate|exact Jc.h _)|exact Jm.row (by first|assumption|exact Jm.zero _|exact Jv)))))):∀u∈(flat ss).toList,u.oneCell'=true:=aQ h
theorem au(c:AH N a f){bytes:Nat}{z:Value}(i:CO P t e size bytes z)(ss:List (List Value))
 (h:∀b W,AH N b (Jb f d (.slice (some ⟨w.heap.size,0,none⟩) 1 1))→W.heap.size=w.heap.size+1→View W (.slice (some ⟨w.heap.size,0,none⟩) 1 1) 1 size (flat ss).toList→Below w.heap.size w W→K b W)
 (j:Aj f x=some (.agg (flat ss)):=by exact rfl)(s1:ss.flatten.length=p:=by(repeat(first|exact Ja.nil|(apply Ja.one)|(apply Ja.row;(first|assumption|exact Jc.row _|exact Jl _|exact Jx _|exact Ju (by first|assumption|exact List.length_replicate|exact Jc.h _)|exact Jm.row (by first|assumption|exact Jm.zero _|exact Jv))))))(k:p=size:=by exact rfl)(l:Nat.ble size 16777216=true:=by exact rfl)(Ad:Nat.blt d N=true:=by exact rfl):Dw P ⟨some d,.buildSlice t 1 #[(0,x)],ty,pos,An,g⟩ a w K Aa:=
 IJ c Ad i j D (Zm (s1.trans k)) (Nat.le_of_ble_eq_true l) h
theorem dv{bytes:Nat}{z:Value}(b:CO P t e size bytes z)(ss:List (List Value))
 (h:∀W,W.heap.size=w.heap.size+1→View W (.slice (some ⟨w.heap.size,0,none⟩) 1 1) 1 size (flat ss).toList→Below w.heap.size w W→B_ P ops Aa N W (Jb f d (.slice (some ⟨w.heap.size,0,none⟩) 1 1)) rest)
 (c:Aj f x=some (.agg (flat ss)):=by exact rfl)(s1:ss.flatten.length=p:=by(repeat(first|exact Ja.nil|(apply Ja.one)|(apply Ja.row;(first|assumption|exact Jc.row _|exact Jl _|exact Jx _|exact Ju (by first|assumption|exact List.length_replicate|exact Jc.h _)|exact Jm.row (by first|assumption|exact Jm.zero _|exact Jv))))))(g:p=size:=by exact rfl)(i:Nat.ble size 16777216=true:=by exact rfl)(Ad:Nat.blt d N=true:=by exact rfl):B_ P ops Aa N w f (⟨some d,.buildSlice t 1 #[(0,x)],ty,pos,An,none⟩::rest):=
 fun a j=>Cp D (fun K k=>au j b ss (fun l W m n o q=>k _ _ (h W n o q l m)) c s1 g i Ad)
theorem hg{b o o' m:Nat}{C:List Value}{pre mid post:List (List Value)}(c:Cells w b o C)(a:C=ss.flatten)(h1:ss.take i=pre)(d:(ss.drop i).take m=mid)(f:ss.drop (i+m)=post)(s1:pre.flatten.length=p)(ho:o+p=o'):Cells w b o' mid.flatten:=by
 subst a
 have e:ss=pre++mid++post:=by rw[←h1,←d,←f,←List.drop_drop,List.append_assoc,List.take_append_drop,List.take_append_drop]
 rw[e]at c
 exact Q0 pre mid post c s1 ho
theorem VG{BB:TypeDesc}(hu:P.underlying T=some BB)(i m:Nat)(mid:List (List Value)){b o o' q:Nat}{C:List Value}{pre post:List (List Value)}(c:Cells w b o C)(a:Aj f x=some (.pointer (some ⟨b,o',none⟩)))(h:FH P ops R N w (Jb f d (.agg (flat mid))) rest)
 (e:C=ss.flatten:=by exact rfl)(h1:ss.take i=pre:=by first|(simp only[List.take_succ_cons,List.take_zero,List.take_nil,List.drop_succ_cons,List.drop_zero,List.drop_nil,List.cons_append,List.nil_append,List.append_nil]<;>rfl)|exact rfl)(g:(ss.drop i).take m=mid:=by first|(simp only[List.take_succ_cons,List.take_zero,List.take_nil,List.drop_succ_cons,List.drop_zero,List.drop_nil,List.cons_append,List.nil_append,List.append_nil]<;>rfl)|exact rfl)(j:ss.drop (i+m)=post:=by first|(simp only[List.take_succ_cons,List.take_zero,List.take_nil,List.drop_succ_cons,List.drop_zero,List.drop_nil,List.cons_append,List.nil_append,List.append_nil]<;>rfl)|exact rfl)(s1:pre.flatten.length=p:=by(repeat(first|exact Ja.nil|(apply Ja.one)|(apply Ja.row;(first|assumption|exact Jc.row _|exact Jl _|exact Jx _|exact Ju (by first|assumption|exact List.length_replicate|exact Jc.h _)|exact Jm.row (by first|assumption|exact Jm.zero _|exact Jv))))))(ho:o+p=o':=by first|rfl|omega)(s2:mid.flatten.length=q:=by(repeat(first|exact Ja.nil|(apply Ja.one)|(apply Ja.row;(first|assumption|exact Jc.row _|exact Jl _|exact Jx _|exact Ju (by first|assumption|exact List.length_replicate|exact Jc.h _)|exact Jm.row (by first|assumption|exact Jm.zero _|exact Jv))))))(k:(P.info? T).map (·.size)=some q:=by kernel_rfl)(hr:BB.isRow=true:=by exact rfl)(Ad:Nat.blt d N=true:=by exact rfl):
 FH P ops R N w f (⟨some d,.load T x,ty,pos,An,none⟩::rest):=Fs (fun _ l=>Wg l a hu hr (hg c e h1 g j s1 ho) (by rw[s2];exact k)) h Ad
end
structure Jc where
 l:List UInt8
 h:l.length=32
theorem Jc.ext{x y:Jc}(h:x.l=y.l):x=y:=by cases x;cases y;cases h;rfl
theorem Jc.row(x:Jc):Row 32 (bv x.l):=Ju x.h
structure DM where
 p:Option Addr
 v:List UInt8
 c:Nat
def DM.val(s:DM):Value:=.slice s.p s.v.length s.c
def DM.ok(W:World)(s:DM):Prop:=View W s.val s.v.length 1 (bv s.v)
def DM.OS(W:World)(s:DM):Prop:=s.v.length≠0→s.ok W
theorem DM.OS.below{s:DM}(h:s.OS W)(a:Below n W B8)(b:n=W.heap.size):s.OS B8:=by
 subst b;exact fun q=>View.below (h q) a
theorem DM.ok.z{s:DM}(h:s.ok W):s.OS W:=fun _=>h
theorem DM.ok.below{s:DM}(h:s.ok W)(a:Below n W B8)(b:n=W.heap.size):s.ok B8:=by
 subst b;exact View.below h a
structure MN where
 k:Jc
 d:Bool
 s:DM
def g6(x:MN):List Value:=List.flatten [bv x.k.l,[.bool x.d],[.slice x.s.p x.s.v.length x.s.c]]
structure Eh where
 k:Jc
 s:DM
def J4(x:Eh):List Value:=List.flatten [bv x.k.l,[.slice x.s.p x.s.v.length x.s.c]]
theorem Pe(x:Eh):(J4 x).length=33:=Ja.row x.k.row (Ja.one Ja.nil)
structure Bf where
 kd:Nat
 l:Nat
 r:Nat
 lc:Nat
 rc:Nat
 ls:Jc
 rs:Jc
 k:Jc
 s:DM
def GI(x:Bf):List Value:=List.flatten [[.int .i64 ((x.kd:Nat):Int)],[.int .i64 ((x.l:Nat):Int)],[.int .i64 ((x.r:Nat):Int)],[.int .i64 ((x.lc:Nat):Int)],[.int .i64 ((x.rc:Nat):Int)],bv x.ls.l,bv x.rs.l,bv x.k.l,[.slice x.s.p x.s.v.length x.s.c]]
theorem QR(x:Bf):(GI x).length=102:=Ja.one (Ja.one (Ja.one (Ja.one (Ja.one (Ja.row x.ls.row (Ja.row x.rs.row (Ja.row x.k.row (Ja.one Ja.nil))))))))
structure B9 where
 v:Nat
 f:Nat
 ju:Nat
 jt:Nat
 r:Nat
 c:Nat
 s:Jc
def Mv(x:B9):List Value:=List.flatten [[.int .i64 ((x.v:Nat):Int)],[.int .i64 ((x.f:Nat):Int)],[.int .i64 ((x.ju:Nat):Int)],[.int .i64 ((x.jt:Nat):Int)],[.int .i64 ((x.r:Nat):Int)],[.int .i64 ((x.c:Nat):Int)],bv x.s.l]
theorem Wh(x:B9):(Mv x).length=38:=Ja.one (Ja.one (Ja.one (Ja.one (Ja.one (Ja.one (Ja.row x.s.row Ja.nil))))))
structure IU where
 b:Nat
 p:Nat
 k:Jc
 s:Jc
def I6(x:IU):List Value:=List.flatten [[.int .i64 ((x.b:Nat):Int)],[.int .i64 ((x.p:Nat):Int)],bv x.k.l,bv x.s.l]
theorem YR(x:IU):(I6 x).length=66:=Ja.one (Ja.one (Ja.row x.k.row (Ja.row x.s.row Ja.nil)))
def EJ(x:Jc):List Value:=List.flatten [bv x.l]
theorem Hh(x:Jc):(EJ x).length=32:=Ja.row x.row Ja.nil
def Bm(x:Nat):List Value:=[.int .i64 ((x:Nat):Int)]
theorem Gj(x:Nat):(Bm x).length=1:=rfl
theorem MQ:CO Tryz.prog 60 59 33 56 (.agg (flat [Ak 32,[.slice none 0 0]])):=CO.mk' HE (by kernel_rfl) D (by decide)
theorem MF:CO Tryz.prog 168 99 102 160 (.agg (flat [[.int .i64 0],[.int .i64 0],[.int .i64 0],[.int .i64 0],[.int .i64 0],Ak 32,Ak 32,Ak 32,[.slice none 0 0]])):=CO.mk' L7 (by kernel_rfl) D (by decide)
theorem TT:CO Tryz.prog 164 101 38 80 (.agg (flat [[.int .i64 0],[.int .i64 0],[.int .i64 0],[.int .i64 0],[.int .i64 0],[.int .i64 0],Ak 32])):=CO.mk' PB (by kernel_rfl) D (by decide)
theorem PN:CO Tryz.prog 165 271 66 80 (.agg (flat [[.int .i64 0],[.int .i64 0],Ak 32,Ak 32])):=CO.mk' QS (by kernel_rfl) D (by decide)
theorem Kt:CO Tryz.prog 95 51 32 32 (.agg (flat [Ak 32])):=CO.mk' IA (by kernel_rfl) D (by decide)
theorem G0:CO Tryz.prog 39 3 1 8 (.int .i64 0):=CO.mk' Gd (by kernel_rfl) D (by decide)
def CU:Jc:=⟨List.replicate 32 0,D⟩
def NP:DM:=⟨none,[],0⟩
theorem NP.isOk(W:World):NP.ok W:=⟨Br _,.inl ⟨D,D,D⟩⟩
theorem HJ{Bo:Type}{enc:Bo→List Value}(h:∀x,∀u∈enc x,u.oneCell'=true)(L:List Bo):∀u∈Aq enc L,u.oneCell'=true:=by
 intro u hu
 obtain⟨s,a,hu⟩:=List.mem_flatten.1 hu
 obtain⟨x,_,rfl⟩:=List.mem_map.1 a
 exact h x u hu
theorem OR(h:Jw ss):∀u∈ss.flatten,u.oneCell'=true:=by
 intro u hu
 obtain⟨s,a,hu⟩:=List.mem_flatten.1 hu
 exact h s a u hu
theorem VQ(x:IU):∀u∈I6 x,u.oneCell'=true:=OR (.one D (.one D (.row x.k.row (.row x.s.row .nil))))
theorem TR(x:Nat):∀u∈Bm x,u.oneCell'=true:=by intro u hu;simp[Bm]at hu;subst hu;rfl
theorem DM.ok.lt{s:DM}(h:s.ok W):∀a,s.p=some a→a.block<W.heap.size:=by
 intro a d
 rcases h.2 with⟨c,_⟩|⟨b,off,cap,c,_,_,_,J,_⟩
 ·simp only[DM.val,Value.slice.injEq]at c
  rw[d]at c
  cases c.1
 ·simp only[DM.val,Value.slice.injEq]at c
  rw[d]at c
  have:=c.1
  simp only[Option.some.injEq]at this
  subst this
  exact J
theorem DM.ok.Vv{s:DM}(h:s.ok W){r:Option Nat}(g:W.grownBy B8 r)(ne:∀a,s.p=some a→r≠some a.block):s.ok B8:=by
 refine⟨h.1,?_⟩
 rcases h.2 with q|⟨b,off,cap,c,h1,d,f,J,i⟩
 ·exact .inl q
 ·refine .inr ⟨b,off,cap,c,h1,d,f,Nat.lt_of_lt_of_le J g.size,?_⟩
  simp only[DM.val,Value.slice.injEq]at c
  exact i.Fm (g.block b J (fun e=>ne _ c.1 e.symm))
theorem DM.ok.grown{s:DM}(h:s.ok W){b:Nat}(g:W.grownBy B8 (some b))(ne:∀a,s.p=some a→a.block≠b):s.ok B8:=
 h.Vv g (fun a c e=>ne a c (by cases e;rfl))
theorem DM.ok.Ny{s:DM}(h:s.ok W){BA:Value}(BO:D0 W B8 v BA)(ne:∀k,v.ownBlock=some k→∀a,s.p=some a→a.block≠k):s.ok B8:=
 h.Vv BO.Bg (fun a b e=>ne _ e a b D)
theorem DM.own{base c:Nat}{p:Option Addr}(h:W.ownsRow base 5 1 (.slice p n c) n (bv l)):DM.ok W ⟨p,l,c⟩:=by
 have hl:=De h
 subst hl
 exact View.own h
def Ea(l:List UInt8)(i:Nat):Nat:=if 255<i then 0 else(l.getD (i/8) 0).toNat/2^(7 - i % 8) % 2
theorem VR(l:List UInt8)(i:Nat):Ea l i<2:=by unfold Ea;split<;>omega
def L4(l m:List UInt8):Nat:=((List.range 256).find? (fun i=>Ea l i !=Ea m i)).getD 256
def FT:List UInt8→List UInt8→Int
 |x::l,y::m=>if x=y then FT l m else if x.toNat<y.toNat then -1 else 1
 |_,_=>0
theorem eJ{P:Program}{x:Code}{Aa:Exit→Act→World→Prop}{a:Act}{w:World}(b:Act→World→Prop)(h:x.wp P (Exit.then b Aa) a w)(c:∀a w,b a w→Aa .normal a w):x.wp P Aa a w:=
 wp_mono h (fun e a w q=>by
  cases e with
  |normal=>exact c a w q
  |_=>exact q)
structure Ls (w:World) (jN:Value) (q:Option Addr) (n c size:Nat) (xs:List Value):Prop where
 v:View w (.slice q n c) n size xs
 ne:∀k,jN.ownBlock=some k→∀a,q=some a→a.block≠k
theorem Ls.below{w:World}{d BA:Value}{q:Option Addr}{c:Nat}{xs:List Value}(h:Ls w d q n c size xs)(BO:D0 w W d BA):View W (.slice q n c) n size xs:=by
 refine⟨h.v.1,?_⟩
 rcases h.v.2 with z|⟨b,off,cap,a,h1,f,g,J,i⟩
 ·exact .inl z
 ·refine .inr ⟨b,off,cap,a,h1,f,g,Nat.lt_of_lt_of_le J BO.Bg.size,?_⟩
  simp only[Value.slice.injEq]at a
  exact i.Fm (BO.Bg.block b J (fun e=>h.ne b e.symm _ a.1 D))
section
variable {P:Program} {w w':World} {ops:Array Oper} {rest:List Oper} {a:Act} {Aa:Exit→Act→World→Prop} {N:Nat} {f:BW} {d:Nat} {ty:TypeId} {pos:String} {An:Array Edge} {dst:Option Tmp} {g:Option (Nat×Bool)} {K:Act→World→Prop}
theorem Ry(i:AH N a f)(Ad:Nat.blt d N=true){bytes:Nat}{z:Value}(c:CO P t e size bytes z)(j:Aj f x=some v){cs:Array Value}(l:v.cells=cs)(V:cs.size=size)(m:size≤16777216)(base:Nat)(J:base≤w.heap.size)
 (h:∀b p W,AH N b (Jb f d (.slice p 1 1))→W.heap.size=w.heap.size+1→W.ownsRow base e size (.slice p 1 1) 1 cs.toList→(∀k,(Value.slice p 1 1).ownBlock=some k→w.heap.size≤k)→Below w.heap.size w W→K b W):Dw P ⟨some d,.buildSlice t 1 #[(0,x)],ty,pos,An,g⟩ a w K Aa:=by
 subst l
 refine F8 (v:=.slice (some ⟨w.heap.size,0,none⟩) 1 1) (w':=w.alloc (.cells v.cells e)) i Ad ?_ (fun b n=>h b _ _ n (by simp) ⟨by simpa using V,.inr ⟨w.heap.size,1,v.cells,D,J,heap_alloc_new w _,Br _,by decide,by simpa using V,?_⟩⟩ (fun k c=>by simp[Value.ownBlock]at c;omega) ((Cn _ _).alloc (Br _) _))
 ·have:(#[(0,x)]:Array (Nat×Operand)).map (fun p=>(p.1,a.eval p.2))=#[(0,v)]:=by simp[i.A_ j]
  simp only[execOp,Sem.run_bind,Sem.run_pure,this,RR c v V m w,Result.andThen_ok]
 ·rw[List.take_of_length_le (by simp[V])]
theorem Lk(k:AH N a f){d:TypeId}{z:Value}(i:CO P t e 1 1 z)(he:P.underlying e=some (.int .u8))(Ad:P.underlying d=some .string){y:Option Addr}{c:Nat}(m:Aj f x=some (.slice y n c))(o:View w (.slice y n c) n 1 (bv l))(hl:l.length=n):
 CD P a w ⟨dst,.convert t d x,ty,pos,An,g⟩ (.string ⟨l.toArray⟩) w:=by
 show(execOp a.eval _).run P w=_
 have hr:(convert t d (.slice y n c)).run P w=.ok (.string ⟨l.toArray⟩) w:=by
  rcases o.2 with⟨h,p,q⟩|⟨b,off,cap,h,p,q,u,v,r⟩
  ·simp only[Value.slice.injEq]at h
   obtain⟨rfl,rfl,rfl⟩:=h
   obtain rfl:l=[]:=List.length_eq_zero_iff.1 hl
   rw[run_convert_bytes_nil w t e i.jq he 0 0 d Ad]
   rfl
  ·simp only[Value.slice.injEq]at h
   obtain⟨rfl, -,rfl⟩:=h
   subst hl
   exact run_convert_bytes_back w t d e ⟨b,off,none⟩ c l i.jq he Ad (fun j hj=>by
    rw[F6]
    exact r j (.int .u8 (l[j].toNat:Nat)) (by simp[bv,hj]))
 simp[execOp,k.A_ m,hr]
theorem ej(t:TypeId)(l m:List UInt8)(w:World):(binOp .eql t (.string ⟨l.toArray⟩) (.string ⟨m.toArray⟩)).run P w=.ok (.bool (decide (l=m))) w:=by
 by_cases e:l=m
 ·subst e;simp[binOp,Op.stringOp]
 ·simp[binOp,Op.stringOp,e]
theorem g_(t:TypeId)(l m:List UInt8)(w:World):(binOp .neq t (.string ⟨l.toArray⟩) (.string ⟨m.toArray⟩)).run P w=.ok (.bool (!decide (l=m))) w:=by
 by_cases e:l=m
 ·subst e;simp[binOp,Op.stringOp]
 ·simp[binOp,Op.stringOp,e]
theorem UU(b:AH N a f){c:TypeId}{y:Operand}{m:List UInt8}(d:Aj f x=some (.string ⟨l.toArray⟩))(e:Aj f y=some (.string ⟨m.toArray⟩))(r:Bool)(hr:decide (l=m)=r):CD P a w ⟨dst,.binOp .eql T x y c,ty,pos,An,g⟩ (.bool r) w:=by
 subst hr
 exact ED b d e (by simp[eqGuard]) (ej _ _ _ _)
theorem SW(b:AH N a f){c:TypeId}{y:Operand}{m:List UInt8}(d:Aj f x=some (.string ⟨l.toArray⟩))(e:Aj f y=some (.string ⟨m.toArray⟩))(r:Bool)(hr:(!decide (l=m))=r:=by simp):CD P a w ⟨dst,.binOp .neq T x y c,ty,pos,An,g⟩ (.bool r) w:=by
 subst hr
 exact ED b d e (by simp[eqGuard]) (g_ _ _ _ _)
theorem UN{j:Nat}{t:Bool}(b:o.guard=some (j,t)){Dk:Oper}(hj:ops[j]? =some Dk){k:Nat}(c:Dk.dst=some k)(d:AH N a f)(V:f k=some (.bool t)):Region.wanted o (yielded ops a.tmps)=true:=by
 have:=L2 (d.h k _ V)
 simp[Region.wanted,b,yielded,hj,c,this]
theorem ic{j:Nat}{t:Bool}(b:o.guard=some (j,!t)){Dk:Oper}(hj:ops[j]? =some Dk){k:Nat}(c:Dk.dst=some k)(d:AH N a f)(V:f k=some (.bool t)):Region.wanted o (yielded ops a.tmps)=false:=by
 have:=L2 (d.h k _ V)
 cases t<;>simp[Region.wanted,b,yielded,hj,c,this]
theorem hM{BK:World→Prop}{op:Op}{fuel Cy:Nat}{listed:Array Bool}(e:AH N a f)(Ad:Nat.blt d N=true)(j:ops[i]? =some ⟨some d,op,ty,pos,An,g⟩)(hw:Region.wanted ⟨some d,op,ty,pos,An,g⟩ (yielded ops a.tmps)=true)(k:Cy=fuel+1)(l:Region.noSelect ops=true)(m:Region.free .any ops listed i=true)(hr:(Region.ready .any ops listed).contains i=true)
 (n:∀c (a:Act) w,Aa (.panic c) (a.put (some d) v) w→Aa (.panic c) a w)(o:∀W,BK W→CD P a W ⟨some d,op,ty,pos,An,g⟩ v W)(p:BK w)
 (h:∀b,AH N b (Jb f d v)→wpAnyH P .any ops Aa BK fuel (listed.setIfInBounds i true) b w):wpAnyH P .any ops Aa BK Cy listed a w:=by
 subst k
 exact wpAnyH_take j l m hr n (.inl ⟨hw,o⟩) p (h _ (e.put Ad v))
theorem bP{BK:World→Prop}{fuel Cy:Nat}{listed:Array Bool}(e:AH N a f)(ho:o.dst=some d)(Ad:Nat.blt d N=true)(g:ops[i]? =some o)(hw:Region.wanted o (yielded ops a.tmps)=false)(j:Cy=fuel+1)(k:Region.noSelect ops=true)(l:Region.free .any ops listed i=true)(hr:(Region.ready .any ops listed).contains i=true)
 (m:∀c (a:Act) w,Aa (.panic c) (a.put (some d) undef) w→Aa (.panic c) a w)(n:BK w)
 (h:∀b,AH N b (Jb f d undef)→wpAnyH P .any ops Aa BK fuel (listed.setIfInBounds i true) b w):wpAnyH P .any ops Aa BK Cy listed a w:=by
 subst j
 refine wpAnyH_take g k l hr (v:=undef) (by rw[ho];exact m) (.inr ⟨hw,D⟩) n ?_
 rw[ho]
 exact h _ (e.put Ad undef)
theorem eP{BK:World→Prop}{fuel Cy:Nat}{listed:Array Bool}(b:ops[i]? =some o)(hw:Region.wanted o (yielded ops a.tmps)=true)(c:Cy=fuel+1)(hr:Region.ready .any ops listed=[i])
 (h:∀K:Act→World→Prop,(∀a w,BK w→wpAnyH P .any ops Aa BK fuel (listed.setIfInBounds i true) a w→K a w)→Dw P o a w K Aa):wpAnyH P .any ops Aa BK Cy listed a w:=by
 subst c
 refine wpAnyH_ready hr (by simp) (AllReadyH.cons b (fun K d=>?_) AllReadyH.nil)
 rw[if_pos hw]
 exact(h K (fun a w e hw=>d.out a w e (fun _=>hw))).out
end
end Go.Proofs.YtaapafoibofbjaaGreatDoor
