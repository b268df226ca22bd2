/- Laws and walks on the road to SalvageClean (part M11). No conditions beyond each law's own. -/
import Derived.Deep.RegionHeld3
import Derived.DeepKeys
import Derived.Laws.StructEq
import Derived.Test.YtaapafoibofbjaaGreatDoorM01
import Derived.Test.YtaapafoibofbjaaGreatDoorM10
set_option linter.unusedVariables false
namespace Go.Proofs.YtaapafoibofbjaaGreatDoor
open Go.RowKit
set_option maxRecDepth 100000
set_option maxHeartbeats 2000000
def Ht(Q:Nat)(Ar:List UInt8)(W:World):Prop:=W.heap[Q]? =some (.cells (bv Ar).toArray 180 (0,0))
theorem Ht.s{Q:Nat}{Ar:List UInt8}{W:World}(h:Ht Q Ar W)(hl:Ar.length=64):W.cell? ⟨Q,4,none⟩=some (.int .u8 (Ar.getD 4 0).toNat)∧Ht Q Ar W:=by
 refine⟨?_,h⟩
 rw[cell_of_row _ _ _ _ _ _ h]
 simp[bv,hl,List.getD_eq_getElem?_getD]
theorem dr{Q g:Nat}{Ar:List UInt8}{W:World}{o:Obj}(h:W.cell? ⟨Q,4,none⟩=some (.int .u8 g)∧Ht Q Ar W):(W.alloc o).cell? ⟨Q,4,none⟩=some (.int .u8 g)∧Ht Q Ar (W.alloc o):=by
 have J:=Below.heap_alloc W o Q (Array.getElem?_eq_some_iff.1 h.2).1
 exact⟨(World.cell?_of_block (a:=⟨Q,4,none⟩) J).trans h.1,J.trans h.2⟩
theorem Z1{Q g:Nat}{Ar:List UInt8}{W:World}(h:W.cell? ⟨Q,4,none⟩=some (.int .u8 g)∧Ht Q Ar W):W.drew.cell? ⟨Q,4,none⟩=some (.int .u8 g)∧Ht Q Ar W.drew:=h
theorem c6(q:Option Addr)(c:Nat)(l Ar:List UInt8)(w:World)(V:View w (.slice q 256 c) 256 1 (bv l))(hl:l.length=256)(af:Ar=l.take 64)(aP:At.C5 Ar 60=0){R:Ending→World→Prop}
 (aQ:(Fr.Hz Ar&&Fr.DE ⟨(Ar.getD 4 0).toNat,Fr.le ((Ar.drop 8).take 7),Fr.le ((Ar.drop 16).take 4),Fr.le ((Ar.drop 20).take 4),Fr.le ((Ar.drop 24).take 4)⟩)=false→∀w',Below w.heap.size w w'→R (.returned (.tuple #[FK,.int .i64 53])) w')
 (aR:(Fr.Hz Ar&&Fr.DE ⟨(Ar.getD 4 0).toNat,Fr.le ((Ar.drop 8).take 7),Fr.le ((Ar.drop 16).take 4),Fr.le ((Ar.drop 20).take 4),Fr.le ((Ar.drop 24).take 4)⟩)=true→∀w',Below w.heap.size w w'→R (.returned (.tuple #[FV ⟨(Ar.getD 4 0).toNat,Fr.le ((Ar.drop 8).take 7),Fr.le ((Ar.drop 16).take 4),Fr.le ((Ar.drop 20).take 4),Fr.le ((Ar.drop 24).take 4)⟩,.int .i64 0])) w'):
 Calls Tryz.prog 36 #[.slice q 256 c] w R:=by
 have bD:=V.cap
 have h:Ar.length=64:=by rw[af];simp;omega
 have aS:View w (.slice q 64 c) 64 1 (bv Ar):=by rw[af];exact V.pre 64 (by omega) (by omega)
 have aT:=IY q 60 c Ar
 have Ad:decide (At.C5 Ar 60=0)=true:=by simpa using aP
 rw[Ad]at aT
 have bE:∀(x:Bool) (w:World),(Op.unary .not (.bool x)).run Tryz.prog w=.ok (.bool (!x)) w:=fun _ _=>rfl
 obtain⟨ib,ag,rfl,a',ba⟩:=aS.some (by decide)
 have bF:=fun w=>T8 (P:=Tryz.prog) Ig (some ⟨ib,ag,none⟩) 64 c (Br _) w
 have bG:=AX af
 have aw:=AX h
 have ax:(bv Ar).length=64:=by rw[DG];exact h
 have bb:=AX ax
 have aU:(bv Ar).toArray.size=64:=by simpa using ax
 have bc:=AX aU
 clear af ax aU
 have W:=AX aQ
 have bd:=AX aR
 clear aQ aR
 clear aP Ad h
 go_enter FW,Tryz.ntmps36
 have aV:Below w.heap.size w w:=Cn _ _
 go_wp2_with (first|go_skip|(with_reducible refine LX 68 ?_))
 refine⟨KE D 68 D (z:=FK) (by kernel_rfl) ?_⟩
 intro ay bf h1 bg
 have bH:w.heap.size+1≤ay.heap.size:=by omega
 clear bf
 simp only[Value.cells,FK]at h1
 have aW:=AX h1
 clear h1
 have az:Below w.heap.size w ay:=aV.trans (bg.mono (by have:=aV.size;omega))
 have bI:=az.size
 obtain⟨f,f1⟩:=live aW.out
 go_wp2_with (with_reducible refine GQ ?_)
 refine⟨IB A3 D (.tmp 10) (.const (.int .i64 64)) D (y:=some ⟨ib,ag,none⟩) (n:=256) (c:=c) D 64 D (by omega) ?_⟩
 go_wp2_with (first|go_skip|(go_at_call 71;with_reducible refine C_ ?_))
 refine⟨(aT ay (aS.below az) aw.out).mono ?_⟩
 rintro bJ a ⟨rfl,aA⟩
 clear f f1
 have bK:=aA.size
 have aX:=AX ((aA.block w.heap.size (by omega)).trans aW.out)
 have ah:Below w.heap.size w a:=az.trans (aA.mono (by omega))
 have bL:=ah.size
 obtain⟨f,f1⟩:=live aX.out
 go_wp2_with (with_reducible refine GQ ?_)
 refine⟨IB A3 D (.tmp 15) (.const (.int .i64 64)) D (y:=some ⟨ib,ag,none⟩) (n:=256) (c:=c) D 64 D (by omega) ?_⟩
 go_wp2_with (first|go_skip|(with_reducible refine Ys 180 ?_))
 have aY:Cells a ib ag (bv Ar):=ba.Fm (ah.block ib a')
 refine⟨TC D 180 (.tmp 17) D D (bv Ar) aY Ig D (by rw[bb.out];kernel_rfl) ?_⟩
 clear aY
 obtain⟨X,S⟩:∃X,X=(bv Ar).toArray:=⟨_,D⟩
 rw[←S]
 have aZ:X.size=64:=by rw[S];exact bc.out
 have a0:X.all (·.oneCell')=true:=by rw[S];exact Array.all_eq_true_iff_forall_mem.2 (fun v V=>Eo Ar v (by simpa using V))
 have bh:=AX S
 have a1:=AX aZ
 have bj:=AX a0
 clear S aZ a0
 go_wp2_with (first|go_skip|(with_reducible refine LX 180 ?_))
 refine⟨KE D 180 D (z:=.agg (Array.replicate 64 (.int .u8 0))) (by kernel_rfl) ?_⟩
 intro aB bk aC a2
 have bN:a.heap.size+1≤aB.heap.size:=by omega
 clear bk
 simp only[Value.cells]at aC
 clear f f1
 have a3:=AX ((a2.block w.heap.size (by omega)).trans aX.out)
 have a4:=AX aC
 clear aC
 have a5:Below w.heap.size w aB:=ah.trans (a2.mono (by have:=ah.size;omega))
 have bO:=a5.size
 obtain⟨f,f1⟩:=live a3.out
 obtain⟨K,f3⟩:=live a4.out
 go_wp2_with (first|go_skip|(with_reducible refine HV 180 ?_))
 refine⟨Kn D 180 (.tmp 4) (.tmp 18) D (b:=a.heap.size) (c':=X) D a4.out D (by rw[a1.out];kernel_rfl) (by rw[a1.out];simp) bj.out ?_⟩
 intro g bl a6 i
 have bP:aB.heap.size≤g.heap.size:=by omega
 clear bl
 clear f f1 K f3
 have u:=AX (Bn i a3.out (by omega))
 have L:=AX a6
 clear a6
 have T:Below w.heap.size w g:=a5.grown i (by omega) (fun k r=>by cases r;omega)
 have bQ:=T.size
 obtain⟨f,f1⟩:=live u.out
 obtain⟨K,f3⟩:=live L.out
 clear f f1 K f3
 have Y:Hid (g.heap[a.heap.size]? =some (.cells (bv Ar).toArray 180 (0,0))):=AX (by rw[←bh.out];exact L.out)
 have h:=aw.out
 have S:∀w,(Instr.sliceAt 180 (.pointer (some ⟨a.heap.size,0,none⟩)) none (some (.int .i64 4)) none).run Tryz.prog w=.ok (.slice (some ⟨a.heap.size,0,none⟩) 4 64) w:=fun w=>Lf Ig (by kernel_rfl) a.heap.size 0 0 4 none _ (by decide) w (cU .i64 64 4 (by decide))
 have bR:∀w,(Instr.sliceAt 180 (.pointer (some ⟨a.heap.size,0,none⟩)) (some (.int .i64 5)) (some (.int .i64 8)) none).run Tryz.prog w=.ok (.slice (some ⟨a.heap.size,5,none⟩) 3 59) w:=fun w=>Lf Ig (by kernel_rfl) a.heap.size 0 5 8 (some (.int .i64 5)) _ (by decide) w (Te .i64 .i64 64 5 8)
 have bS:∀w,(Instr.sliceAt 180 (.pointer (some ⟨a.heap.size,0,none⟩)) (some (.int .i64 28)) (some (.int .i64 60)) none).run Tryz.prog w=.ok (.slice (some ⟨a.heap.size,28,none⟩) 32 36) w:=fun w=>Lf Ig (by kernel_rfl) a.heap.size 0 28 60 (some (.int .i64 28)) _ (by decide) w (Te .i64 .i64 64 28 60)
 have bT:∀w,(Instr.sliceAt 180 (.pointer (some ⟨a.heap.size,0,none⟩)) (some (.int .i64 15)) (some (.int .i64 16)) none).run Tryz.prog w=.ok (.slice (some ⟨a.heap.size,15,none⟩) 1 49) w:=fun w=>Lf Ig (by kernel_rfl) a.heap.size 0 15 16 (some (.int .i64 15)) _ (by decide) w (Te .i64 .i64 64 15 16)
 have bm:View g (.slice (some ⟨a.heap.size,0,none⟩) 4 64) 4 1 (bv (Ar.take 4)):=by simpa using K_ Y.out 0 4 64 (by omega) (by decide) (by omega) (by rw[h];decide)
 have bn:View g (.slice (some ⟨a.heap.size,5,none⟩) 3 59) 3 1 (bv ((Ar.drop 5).take 3)):=K_ Y.out 5 3 59 (by omega) (by decide) (by omega) (by rw[h];decide)
 have a7:((Ar.drop 5).take 3).length=3:=by simp;omega
 have bo:=AX a7
 clear a7
 have bp:View g (.slice (some ⟨a.heap.size,28,none⟩) 32 36) 32 1 (bv ((Ar.drop 28).take 32)):=K_ Y.out 28 32 36 (by omega) (by decide) (by omega) (by rw[h];decide)
 have a8:((Ar.drop 28).take 32).length=32:=by simp;omega
 have bq:=AX a8
 clear a8
 have br:View g (.slice (some ⟨a.heap.size,15,none⟩) 1 49) 1 1 (bv ((Ar.drop 15).take 1)):=K_ Y.out 15 1 49 (by omega) (by decide) (by omega) (by rw[h];decide)
 have a9:((Ar.drop 15).take 1).length=1:=by simp;omega
 have bs:=AX a9
 clear a9
 clear h
 go_wp2_with (first|go_skip|(with_reducible refine bM 22 ?_))
 refine⟨str A3 BV Ho D (.tmp 19) D D bm ?_⟩
 rw[show(Ar.take 4).take 4=Ar.take 4 from List.take_take.trans D]
 go_wp2_with (first|go_skip|(with_reducible refine Mt .neq ?_))
 rcases Bool.eq_false_or_eq_true (decide (Ar.take 4=[76,68,71,49]))with d|d
 rotate_left
 ·have B:=AX d
  clear d
  refine⟨bin rfl .neq _ _ _ _ D (p:=.string ⟨(Ar.take 4).toArray⟩) (q:=.string ⟨([76,68,71,49]:List UInt8).toArray⟩) (v:=.bool true) D D (by simp[eqGuard]) (Yc _ 0 _ _ _ _ B.out) ?_⟩
  obtain⟨M,Jp⟩:=live u.out
  clear M Jp
  go_wp2_with (first|go_skip|(with_reducible refine HV 68 ?_))
  refine⟨Kn D 68 (.tmp 2) (.tmp 37) D (b:=w.heap.size) (c':=#[.int .i64 0,.int .i64 0,.int .i64 0,.int .i64 0,.int .i64 0]) D u.out D (by kernel_rfl) D (by kernel_rfl) ?_⟩
  intro j H m t
  have aD:g.heap.size≤j.heap.size:=by omega
  clear H
  have I:=AX (Bn t L.out (by omega))
  have A:=AX m
  clear m
  have o:Below w.heap.size w j:=T.grown t (by omega) (fun k r=>by cases r;omega)
  have ai:=o.size
  obtain⟨f,f1⟩:=live A.out
  obtain⟨K,f3⟩:=live I.out
  go_wp2
  exact bodyPost_ret (v:=.tuple #[FK,.int .i64 53]) (by simp[results,Tryz.results36,go_sem,f,FK]) D (W.out (by unfold Fr.Hz;rw[B.out];rfl) _ o)
 have B:=AX d
 clear d
 refine⟨bin rfl .neq _ _ _ _ D (p:=.string ⟨(Ar.take 4).toArray⟩) (q:=.string ⟨([76,68,71,49]:List UInt8).toArray⟩) (v:=.bool false) D D (by simp[eqGuard]) (Yc _ 0 _ _ _ _ B.out) ?_⟩
 go_wp2_with (first|go_skip|(go_at_call 72;with_reducible refine C_ ?_))
 refine⟨(LU (some ⟨a.heap.size,5,none⟩) 3 59 _ g bn bo.out).mono ?_⟩
 rintro e w' ⟨rfl,rfl⟩
 rcases Bool.eq_false_or_eq_true (Fr.CN ((Ar.drop 5).take 3))with d|d
 rotate_left
 ·have J:=AX d
  clear d
  rw[J.out]
  obtain⟨M,Jp⟩:=live u.out
  clear M Jp
  go_wp2_with (first|go_skip|(with_reducible refine HV 68 ?_))
  refine⟨Kn D 68 (.tmp 2) (.tmp 37) D (b:=w.heap.size) (c':=#[.int .i64 0,.int .i64 0,.int .i64 0,.int .i64 0,.int .i64 0]) D u.out D (by kernel_rfl) D (by kernel_rfl) ?_⟩
  intro j H m t
  have aD:g.heap.size≤j.heap.size:=by omega
  clear H
  have I:=AX (Bn t L.out (by omega))
  have A:=AX m
  clear m
  have o:Below w.heap.size w j:=T.grown t (by omega) (fun k r=>by cases r;omega)
  have ai:=o.size
  obtain⟨f,f1⟩:=live A.out
  obtain⟨K,f3⟩:=live I.out
  go_wp2
  exact bodyPost_ret (v:=.tuple #[FK,.int .i64 53]) (by simp[results,Tryz.results36,go_sem,f,FK]) D (W.out (by unfold Fr.Hz;rw[B.out,J.out];rfl) _ o)
 have J:=AX d
 clear d
 rw[J.out]
 go_wp2_with (first|go_skip|(go_at_call 72;with_reducible refine C_ ?_))
 refine⟨(LU (some ⟨a.heap.size,28,none⟩) 32 36 _ g bp bq.out).mono ?_⟩
 rintro e w' ⟨rfl,rfl⟩
 rcases Bool.eq_false_or_eq_true (Fr.CN ((Ar.drop 28).take 32))with d|d
 rotate_left
 ·have N:=AX d
  clear d
  rw[N.out]
  obtain⟨M,Jp⟩:=live u.out
  clear M Jp
  go_wp2_with (first|go_skip|(with_reducible refine HV 68 ?_))
  refine⟨Kn D 68 (.tmp 2) (.tmp 37) D (b:=w.heap.size) (c':=#[.int .i64 0,.int .i64 0,.int .i64 0,.int .i64 0,.int .i64 0]) D u.out D (by kernel_rfl) D (by kernel_rfl) ?_⟩
  intro j H m t
  have aD:g.heap.size≤j.heap.size:=by omega
  clear H
  have I:=AX (Bn t L.out (by omega))
  have A:=AX m
  clear m
  have o:Below w.heap.size w j:=T.grown t (by omega) (fun k r=>by cases r;omega)
  have ai:=o.size
  obtain⟨f,f1⟩:=live A.out
  obtain⟨K,f3⟩:=live I.out
  go_wp2
  exact bodyPost_ret (v:=.tuple #[FK,.int .i64 53]) (by simp[results,Tryz.results36,go_sem,f,FK]) D (W.out (by unfold Fr.Hz;rw[B.out,J.out,N.out];rfl) _ o)
 have N:=AX d
 clear d
 rw[N.out]
 go_wp2_with (first|go_skip|(go_at_call 72;with_reducible refine C_ ?_))
 refine⟨(LU (some ⟨a.heap.size,15,none⟩) 1 49 _ g br bs.out).mono ?_⟩
 rintro e w' ⟨rfl,rfl⟩
 rcases Bool.eq_false_or_eq_true (Fr.CN ((Ar.drop 15).take 1))with d|d
 rotate_left
 ·have U:=AX d
  clear d
  rw[U.out]
  obtain⟨M,Jp⟩:=live u.out
  clear M Jp
  go_wp2_with (first|go_skip|(with_reducible refine HV 68 ?_))
  refine⟨Kn D 68 (.tmp 2) (.tmp 37) D (b:=w.heap.size) (c':=#[.int .i64 0,.int .i64 0,.int .i64 0,.int .i64 0,.int .i64 0]) D u.out D (by kernel_rfl) D (by kernel_rfl) ?_⟩
  intro j H m t
  have aD:g.heap.size≤j.heap.size:=by omega
  clear H
  have I:=AX (Bn t L.out (by omega))
  have A:=AX m
  clear m
  have o:Below w.heap.size w j:=T.grown t (by omega) (fun k r=>by cases r;omega)
  have ai:=o.size
  obtain⟨f,f1⟩:=live A.out
  obtain⟨K,f3⟩:=live I.out
  go_wp2
  exact bodyPost_ret (v:=.tuple #[FK,.int .i64 53]) (by simp[results,Tryz.results36,go_sem,f,FK]) D (W.out (by unfold Fr.Hz;rw[B.out,J.out,N.out,U.out];rfl) _ o)
 have U:=AX d
 clear d
 rw[U.out]
 have h:=aw.out
 have bt:=Ht.s (show Ht a.heap.size Ar g from Y.out) h
 obtain⟨i,aj⟩:∃i,i=(Ar.getD 4 0).toNat:=⟨_,D⟩
 rw[←aj]at bt
 have bU:i<256:=by rw[aj];exact(Ar.getD 4 0).toNat_lt
 have aE:=AX aj
 clear aj
 have bV:∀w,(Instr.sliceAt 180 (.pointer (some ⟨a.heap.size,0,none⟩)) (some (.int .i64 8)) none none).run Tryz.prog w=.ok (.slice (some ⟨a.heap.size,8,none⟩) 56 56) w:=fun w=>Lf Ig (by kernel_rfl) a.heap.size 0 8 64 (some (.int .i64 8)) none (by decide) w (PE .i64 64 8)
 obtain⟨C,aF⟩:∃x,x=Fr.le ((Ar.drop 8).take 7):=⟨_,D⟩
 have bW:C<256^7:=by
  have:=Fr.Lt ((Ar.drop 8).take 7)
  rw[←aF,List.length_take,List.length_drop,h]at this
  exact this
 have ak:=AX aF
 clear aF
 have bu:∀B8:World,(B8.cell? ⟨a.heap.size,4,none⟩=some (.int .u8 i)∧Ht a.heap.size Ar B8)→Calls Tryz.prog 73 #[.slice (some ⟨a.heap.size,8,none⟩) 56 56,.int .i64 7] B8 fun e w'=>e=.returned (.int .i64 (C:Nat))∧B8=w':=fun B8 O=>by
  have:=KA (some ⟨a.heap.size,8,none⟩) 56 56 7 ((Ar.drop 8).take 56) B8 (K_ O.2 8 56 56 (by omega) (by decide) (by omega) (by rw[h];decide))
  rw[List.take_take,show min 7 56=7 from D,←ak.out]at this
  exact this
 have bX:∀w,(Instr.sliceAt 180 (.pointer (some ⟨a.heap.size,0,none⟩)) (some (.int .i64 16)) none none).run Tryz.prog w=.ok (.slice (some ⟨a.heap.size,16,none⟩) 48 48) w:=fun w=>Lf Ig (by kernel_rfl) a.heap.size 0 16 64 (some (.int .i64 16)) none (by decide) w (PE .i64 64 16)
 obtain⟨E,aG⟩:∃x,x=Fr.le ((Ar.drop 16).take 4):=⟨_,D⟩
 have bY:E<256^4:=by
  have:=Fr.Lt ((Ar.drop 16).take 4)
  rw[←aG,List.length_take,List.length_drop,h]at this
  exact this
 have al:=AX aG
 clear aG
 have bw:∀B8:World,(B8.cell? ⟨a.heap.size,4,none⟩=some (.int .u8 i)∧Ht a.heap.size Ar B8)→Calls Tryz.prog 73 #[.slice (some ⟨a.heap.size,16,none⟩) 48 48,.int .i64 4] B8 fun e w'=>e=.returned (.int .i64 (E:Nat))∧B8=w':=fun B8 O=>by
  have:=KA (some ⟨a.heap.size,16,none⟩) 48 48 4 ((Ar.drop 16).take 48) B8 (K_ O.2 16 48 48 (by omega) (by decide) (by omega) (by rw[h];decide))
  rw[List.take_take,show min 4 48=4 from D,←al.out]at this
  exact this
 have bZ:∀w,(Instr.sliceAt 180 (.pointer (some ⟨a.heap.size,0,none⟩)) (some (.int .i64 20)) none none).run Tryz.prog w=.ok (.slice (some ⟨a.heap.size,20,none⟩) 44 44) w:=fun w=>Lf Ig (by kernel_rfl) a.heap.size 0 20 64 (some (.int .i64 20)) none (by decide) w (PE .i64 64 20)
 obtain⟨F,aH⟩:∃x,x=Fr.le ((Ar.drop 20).take 4):=⟨_,D⟩
 have b0:F<256^4:=by
  have:=Fr.Lt ((Ar.drop 20).take 4)
  rw[←aH,List.length_take,List.length_drop,h]at this
  exact this
 have an:=AX aH
 clear aH
 have bx:∀B8:World,(B8.cell? ⟨a.heap.size,4,none⟩=some (.int .u8 i)∧Ht a.heap.size Ar B8)→Calls Tryz.prog 73 #[.slice (some ⟨a.heap.size,20,none⟩) 44 44,.int .i64 4] B8 fun e w'=>e=.returned (.int .i64 (F:Nat))∧B8=w':=fun B8 O=>by
  have:=KA (some ⟨a.heap.size,20,none⟩) 44 44 4 ((Ar.drop 20).take 44) B8 (K_ O.2 20 44 44 (by omega) (by decide) (by omega) (by rw[h];decide))
  rw[List.take_take,show min 4 44=4 from D,←an.out]at this
  exact this
 have b1:∀w,(Instr.sliceAt 180 (.pointer (some ⟨a.heap.size,0,none⟩)) (some (.int .i64 24)) none none).run Tryz.prog w=.ok (.slice (some ⟨a.heap.size,24,none⟩) 40 40) w:=fun w=>Lf Ig (by kernel_rfl) a.heap.size 0 24 64 (some (.int .i64 24)) none (by decide) w (PE .i64 64 24)
 obtain⟨G,aI⟩:∃x,x=Fr.le ((Ar.drop 24).take 4):=⟨_,D⟩
 have b2:G<256^4:=by
  have:=Fr.Lt ((Ar.drop 24).take 4)
  rw[←aI,List.length_take,List.length_drop,h]at this
  exact this
 have ao:=AX aI
 clear aI
 have bz:∀B8:World,(B8.cell? ⟨a.heap.size,4,none⟩=some (.int .u8 i)∧Ht a.heap.size Ar B8)→Calls Tryz.prog 73 #[.slice (some ⟨a.heap.size,24,none⟩) 40 40,.int .i64 4] B8 fun e w'=>e=.returned (.int .i64 (G:Nat))∧B8=w':=fun B8 O=>by
  have:=KA (some ⟨a.heap.size,24,none⟩) 40 40 4 ((Ar.drop 24).take 40) B8 (K_ O.2 24 40 40 (by omega) (by decide) (by omega) (by rw[h];decide))
  rw[List.take_take,show min 4 40=4 from D,←ao.out]at this
  exact this
 clear h
 go_wp2
 go_region_held3 (fun w'=>w'.cell? ⟨a.heap.size,4,none⟩=some (.int .u8 i)∧Ht a.heap.size Ar w') (first|assumption|exact Z1 (by assumption)|exact dr (by assumption))
  (first|(go_at_call 73;with_reducible refine(bu _ (by assumption)).mono ?_;rintro e w' ⟨rfl,rfl⟩)|(go_at_call 73;with_reducible refine(bw _ (by assumption)).mono ?_;rintro e w' ⟨rfl,rfl⟩)|(go_at_call 73;with_reducible refine(bx _ (by assumption)).mono ?_;rintro e w' ⟨rfl,rfl⟩)|(go_at_call 73;with_reducible refine(bz _ (by assumption)).mono ?_;rintro e w' ⟨rfl,rfl⟩))
 all_goals
  rw[TF i]
  obtain⟨j,aq⟩:∃j,j=(g.alloc (.cells #[.int .i64 (i:Int),.int .i64 (C:Int),.int .i64 (E:Int),.int .i64 (F:Int),.int .i64 (G:Int)] 68)).drew:=⟨_,D⟩
  rw[←aq]
  have aJ:Below g.heap.size g j:=by rw[aq];exact((Cn _ _).alloc (Br _) _).drew
  have m:j.heap[g.heap.size]? =some (.cells #[.int .i64 (i:Int),.int .i64 (C:Int),.int .i64 (E:Int),.int .i64 (F:Int),.int .i64 (G:Int)] 68 (0,0)):=by rw[aq];exact heap_alloc_new g _
  have H:g.heap.size<j.heap.size:=(Array.getElem?_eq_some_iff.1 m).1
  clear aq
  have A:=AX ((aJ.block w.heap.size (by omega)).trans u.out)
  have I:=AX ((aJ.block a.heap.size (by omega)).trans L.out)
  have a_:=AX m
  clear m
  have o:Below w.heap.size w j:=T.trans (aJ.mono (by omega))
  have ai:=o.size
  obtain⟨f,f1⟩:=live A.out
  obtain⟨Q,f5⟩:=live a_.out
  go_wp2_with (first|go_skip|(go_at_call 74;with_reducible refine C_ ?_))
  refine⟨(UO ⟨i,C,E,F,G⟩ j (by simp only;omega) (by simp only;omega) (by simp only;omega) (by simp only;omega) (by simp only;omega)).mono ?_⟩
  rintro b3 aK ⟨rfl,ar⟩
  clear f f1 Q f5
  have b4:=ar.size
  have au:=AX ((ar.block w.heap.size (by omega)).trans A.out)
  have av:=AX ((ar.block g.heap.size (by omega)).trans a_.out)
  have aL:Below w.heap.size w aK:=o.trans (ar.mono (by omega))
  have b5:=aL.size
  rcases Bool.eq_false_or_eq_true (Fr.DE ⟨i,C,E,F,G⟩)with d|d
  ·have Z:=AX d
   clear d
   rw[Z.out]
   obtain⟨f,f1⟩:=live au.out
   obtain⟨Q,f5⟩:=live av.out
   go_wp2_with (first|go_skip|(with_reducible refine HV 68 ?_))
   refine⟨Kn D 68 (.tmp 2) (.tmp 54) D (b:=w.heap.size) (c':=#[.int .i64 (i:Int),.int .i64 (C:Int),.int .i64 (E:Int),.int .i64 (F:Int),.int .i64 (G:Int)]) D au.out D (by kernel_rfl) D (by kernel_rfl) ?_⟩
   intro aa aM ab ad
   have bA:aK.heap.size≤aa.heap.size:=by omega
   clear aM
   clear f f1 Q f5
   have aN:=AX (Bn ad av.out (by omega))
   have aO:=AX ab
   clear ab
   have ae:Below w.heap.size w aa:=aL.grown ad (by omega) (fun k r=>by cases r;omega)
   have bB:=ae.size
   obtain⟨f,f1⟩:=live aO.out
   obtain⟨Q,f5⟩:=live aN.out
   go_wp2
   have bC:=AX (bd.out (by rw[show Fr.Hz Ar=true from by unfold Fr.Hz;rw[B.out,J.out,N.out,U.out];rfl,←aE.out,←ak.out,←al.out,←an.out,←ao.out,Z.out];rfl) _ ae)
   exact bodyPost_ret (v:=.tuple #[.agg #[.int .i64 (i:Int),.int .i64 (C:Int),.int .i64 (E:Int),.int .i64 (F:Int),.int .i64 (G:Int)],.int .i64 0]) (by simp[results,Tryz.results36,go_sem,f]) D (by have q:=bC.out;rw[show FV _=.agg #[.int .i64 (i:Int),.int .i64 (C:Int),.int .i64 (E:Int),.int .i64 (F:Int),.int .i64 (G:Int)]by unfold FV;simp only;rw[←aE.out,←ak.out,←al.out,←an.out,←ao.out]]at q;exact q)
  ·have Z:=AX d
   clear d
   rw[Z.out]
   obtain⟨f,f1⟩:=live au.out
   obtain⟨Q,f5⟩:=live av.out
   go_wp2_with (first|go_skip|(with_reducible refine HV 68 ?_))
   refine⟨Kn D 68 (.tmp 2) (.tmp 53) D (b:=w.heap.size) (c':=#[.int .i64 0,.int .i64 0,.int .i64 0,.int .i64 0,.int .i64 0]) D au.out D (by kernel_rfl) D (by kernel_rfl) ?_⟩
   intro aa aM ab ad
   have bA:aK.heap.size≤aa.heap.size:=by omega
   clear aM
   clear f f1 Q f5
   have aN:=AX (Bn ad av.out (by omega))
   have aO:=AX ab
   clear ab
   have ae:Below w.heap.size w aa:=aL.grown ad (by omega) (fun k r=>by cases r;omega)
   have bB:=ae.size
   obtain⟨f,f1⟩:=live aO.out
   obtain⟨Q,f5⟩:=live aN.out
   go_wp2
   exact bodyPost_ret (v:=.tuple #[FK,.int .i64 53]) (by simp[results,Tryz.results36,go_sem,f,FK]) D (W.out (by rw[show Fr.Hz Ar=true from by unfold Fr.Hz;rw[B.out,J.out,N.out,U.out];rfl,←aE.out,←ak.out,←al.out,←an.out,←ao.out,Z.out];rfl) _ ae)
end Go.Proofs.YtaapafoibofbjaaGreatDoor
namespace Go.Proofs.YtaapafoibofbjaaGreatDoor
open Go.RowKit
def ja(o:Option Fr.Bu)(v:Value):Prop:=match o with
 |some s=>v=.tuple #[FV s,.int .i64 0]
 |none=>∃x:Int,x≠0∧v=.tuple #[FK,.int .i64 x]
theorem Xz(q:Option Addr)(c:Nat)(l:List UInt8)(w:World)(V:View w (.slice q 256 c) 256 1 (bv l))(hl:l.length=256):
 Calls Tryz.prog 36 #[.slice q 256 c] w fun e w'=>∃v,e=.returned v∧ja (Fr.DP l) v∧Below w.heap.size w w':=by
 by_cases a:At.C5 (l.take 64) 60=0
 ·refine c6 q c l (l.take 64) w V hl D a (fun h w' J=>⟨_,D,?_,J⟩) (fun h w' J=>⟨_,D,?_,J⟩)
  ·unfold Fr.DP
   rw[if_pos a]
   by_cases b:Fr.Hz (l.take 64)=true
   ·rw[b,Bool.true_and]at h
    rw[if_pos b,if_neg (fun q=>by rw[show Fr.DE (Fr.fields (l.take 64))=false from h]at q;cases q)]
    exact⟨53,by decide,D⟩
   ·rw[if_neg b]
    exact⟨53,by decide,D⟩
  ·have h:=Bool.and_eq_true_iff.1 h
   unfold Fr.DP
   rw[if_pos a,if_pos h.1,if_pos (show Fr.DE (Fr.fields (l.take 64))=true from h.2)]
   rfl
 ·refine(ZK q c l w V hl a).mono ?_
  rintro e w' ⟨rfl,J⟩
  refine⟨_,D,?_,J⟩
  unfold Fr.DP
  rw[if_neg a]
  exact⟨52,by decide,D⟩
theorem K0(n:Nat)(w:World):Calls Tryz.prog 80 #[.int .i64 n] w fun e w'=>e=.returned (.bool (decide (2≤n)&&decide (n<4096)))∧w=w':=by
 go_enter Tv,Tryz.ntmps80
 go_wp2
 all_goals
  go_ret
  refine⟨?_,D⟩
  refine congrArg (fun b=>Ending.returned (Value.bool b)) ?_
  rw[Bool.eq_iff_iff]
  simp
  try omega
theorem M9(n:Nat)(w:World):Calls Tryz.prog 81 #[.int .i64 n] w fun e w'=>e=.returned (.bool (decide (1≤n)&&decide (n≤3)))∧w=w':=by
 go_enter Sc,Tryz.ntmps81
 by_cases h1:n=1
 ·subst h1
  go_wp2
  go_ret
  exact⟨D,D⟩
 by_cases a:n=2
 ·subst a
  go_wp2
  go_ret
  exact⟨D,D⟩
 by_cases b:n=3
 ·subst b
  go_wp2
  go_ret
  exact⟨D,D⟩
 have c:((n:Int)=1)=False:=by simp;omega
 have d:((n:Int)=2)=False:=by simp;omega
 have f:((n:Int)=3)=False:=by simp;omega
 have hr:(decide (1≤n)&&decide (n≤3))=false:=by simp;omega
 rw[hr]
 go_wp2
 go_ret
 exact⟨D,D⟩
theorem mapM_some{Bo Dg:Type}{f:Bo→Option Dg}{g:Bo→Dg}:∀ {l:List Bo},(∀a∈l,f a=some (g a))→l.mapM f=some (l.map g)
 |[],_=>rfl
 |a::l,h=>by
  have J:=h a (by simp)
  have hr:=mapM_some (f:=f) (g:=g) (l:=l) (fun x b=>h x (by simp[b]))
  simp[List.mapM_cons,J,hr]
theorem YY:Tryz.prog.cellsOf 180=64:=by kernel_rfl
theorem Qa:Tryz.prog.cellsOf 5=1:=by kernel_rfl
theorem WR{Ch:List UInt8}(h:Ch.length=64):Tryz.prog.keyLits 3 180 (bv Ch)=some ((List.range 64).map (fun i=>[Lit.int .u8 ((Ch.getD i 0).toNat:Nat)])).flatten:=by
 have hr:=mapM_some (f:=fun i=>Tryz.prog.keyLits 2 5 (((bv Ch).drop (i*Tryz.prog.cellsOf 5)).take (Tryz.prog.cellsOf 5))) (g:=fun i=>[Lit.int .u8 ((Ch.getD i 0).toNat:Nat)]) (l:=List.range 64) (fun i b=>by
  have a:i<Ch.length:=by rw[h];exact List.mem_range.1 b
  have e:((bv Ch).drop (i*1)).take 1=[.int .u8 (Ch[i].toNat:Nat)]:=by
   rw[Nat.mul_one,Hk,Ip,List.take_one,List.head?_drop,List.getElem?_eq_getElem a]
   rfl
  have c:Ch.getD i 0=Ch[i]:=by rw[List.getD_eq_getElem?_getD,List.getElem?_eq_getElem a];rfl
  have hw:(Lit.int .u8 ((Ch[i].toNat:Nat):Int)).wf=true:=by
   have:=Ch[i].toNat_lt
   have h1:IntKind.u8.min=0:=D
   have d:IntKind.u8.max=255:=D
   simp only[Lit.wf,Bool.and_eq_true,decide_eq_true_eq]
   omega
  rw[Qa,e,c]
  simp[Program.keyLits,Tryz.underlying5,hw])
 have hl:(bv Ch).length=Tryz.prog.cellsOf 180:=by rw[DG,h,YY]
 unfold Program.keyLits
 simp only[Tryz.underlying180]
 rw[if_pos hl,hr]
 rfl
theorem NQ{Bo Dg:Type}(f:Bo→Dg):∀l:List Bo,(l.map (fun i=>[f i])).flatten=l.map f
 |[]=>rfl
 |a::l=>by rw[List.map_cons,List.flatten_cons,NQ f l];rfl
theorem hF{l m:List UInt8}(hl:l.length=64)(hm:m.length=64)(h:((List.range 64).map (fun i=>[Lit.int .u8 ((l.getD i 0).toNat:Nat)])).flatten=((List.range 64).map (fun i=>[Lit.int .u8 ((m.getD i 0).toNat:Nat)])).flatten):l=m:=by
 have e:∀Ch:List UInt8,((List.range 64).map (fun i=>[Lit.int .u8 ((Ch.getD i 0).toNat:Nat)])).flatten=(List.range 64).map (fun i=>Lit.int .u8 ((Ch.getD i 0).toNat:Nat)):=by
  intro Ch
  exact NQ _ _
 rw[e,e]at h
 have a:=List.map_inj_left.1 h
 refine List.ext_getElem (by omega) (fun i h1 b=>?_)
 have:=a i (by simp;omega)
 rw[List.getD_eq_getElem?_getD,List.getD_eq_getElem?_getD,List.getElem?_eq_getElem h1,List.getElem?_eq_getElem b]at this
 simp only[Option.getD_some,Lit.int.injEq,true_and]at this
 exact UInt8.toNat_inj.1 (by omega)
theorem dM{l m:List UInt8}(hl:l.length=64)(hm:m.length=64)(w:World):(binOp .eql 180 (.agg (bv l).toArray) (.agg (bv m).toArray)).run Tryz.prog w=.ok (.bool (decide (l=m))) w:=by
 have Z:∀ {Ch:List UInt8},Ch.length=64→(Value.agg (bv Ch).toArray).formed Tryz.prog 180=true:=fun h=>by simp[Value.formed,Tryz.underlying180,DG,h,YY]
 have b:Tryz.prog.keyLits 3 180 (Value.agg (bv l).toArray).cells.toList=some _:=WR hl
 have c:Tryz.prog.keyLits 3 180 (Value.agg (bv m).toArray).cells.toList=some _:=WR hm
 obtain⟨r,hr,a⟩:=run_equalIn_deep (P:=Tryz.prog) 9997 3 180 (by kernel_rfl) w 3 3 (.agg (bv l).toArray) (.agg (bv m).toArray) _ _ (Z hl) (Z hm) b c
 have e:r=decide (l=m):=by
  by_cases he:l=m
  ·subst he
   simpa using a.2 D
  ·cases r
   ·simp[he]
   ·exact absurd (hF hl hm (a.1 D)) he
 subst e
 have e:binOp .eql 180 (.agg (bv l).toArray) (.agg (bv m).toArray)=(do pure (.bool (←Op.equal 180 (.agg (bv l).toArray) (.agg (bv m).toArray)))):=D
 have:(9997+3:Nat)=10000:=D
 rw[this]at hr
 have d:(Op.equal 180 (.agg (bv l).toArray) (.agg (bv m).toArray)).run Tryz.prog w=_:=hr
 rw[e,Sem.run_bind,d,Result.andThen_ok,Sem.run_pure]
theorem gW(a b:Fr.Bu)(w:World):(Op.equalIn 10000 68 (FV a) (FV b)).run Tryz.prog w=.ok (decide (a=b)) w:=by
 obtain⟨c,d,e,f,g⟩:=a
 obtain⟨h,i,j,k,l⟩:=b
 have s:=AF
 have m:Tryz.prog.underlying 68=some (.struct (Tryz.prog.fieldsOf 68)):=by kernel_rfl
 have n:Tryz.prog.stoodInHeld 68=false:=by kernel_rfl
 rw[show(10000:Nat)=9999+1 from D,FV,FV,run_equalIn_struct w 9999 68 _ _ m n]
 simp only[Program.fieldsOf,Tryz.underlying68]
 go_simp
 by_cases o:c=h<;>by_cases h1:d=i<;>by_cases p:e=j<;>by_cases q:f=k<;>by_cases r:g=l<;>simp[o,h1,p,q,r]<;>omega
theorem h2(a b:Fr.Bu)(w:World):(binOp .neq 68 (FV a) (FV b)).run Tryz.prog w=.ok (.bool (!decide (a=b))) w:=by
 have e:binOp .neq 68 (FV a) (FV b)=(do pure (.bool (!(←Op.equal 68 (FV a) (FV b))))):=D
 have c:(Op.equal 68 (FV a) (FV b)).run Tryz.prog w=_:=gW a b w
 rw[e,Sem.run_bind,c,Result.andThen_ok,Sem.run_pure]
end Go.Proofs.YtaapafoibofbjaaGreatDoor
