/- Laws and walks on the road to SalvageNever and SalvageHeals (part M02). No conditions beyond each law's own. -/
import Derived.Maps.Own
import Derived.Maps.OwnOps
import Derived.Maps.OwnSet
import Derived.RegionTactic
import Derived.BigRegion
import Derived.StillTailTactics
import Derived.Test.YtcdaflcjhimimaaGreatDoorProg
import Derived.Defers
import Derived.Laws.Pointers
import Derived.Laws.LoneSync
import Derived.RegionCalls
import Derived.ChangeAlike
import Derived.WalkKit
import Derived.Test.YtcdaflcjhimimaaGreatDoorM01
set_option linter.unusedVariables false
namespace Go.Proofs.YtcdaflcjhimimaaGreatDoor
open Go.RowKit
set_option maxHeartbeats 1000000
theorem A0:CN Tryz.prog 28 5 1 1 (.int .u8 0):=CN.mk' Cr (by kernel_rfl) D (by decide)
def LP:Array Value:=(Af.Hq.map fun n:Nat=>Value.int .u32 (n:Int)).toArray
theorem Yd:LP.size=16:=rfl
theorem Qr(i:Nat)(h:i<16):LP[i]? =some (.int .u32 (Af.Hq.getD i 0:Nat)):=by
 have a:i<Af.Hq.length:=h
 unfold LP
 rw[List.getElem?_toArray,List.getElem?_map,List.getElem?_eq_getElem a,List.getD_eq_getElem?_getD,List.getElem?_eq_getElem a]
 rfl
theorem OI(i:Nat)(h:i<16):Af.Hq.getD i 0<4294967296:=by
 have:∀i,i<16→Af.Hq.getD i 0<4294967296:=by decide
 exact this i h
theorem SV(r:Nat)(q:Option Addr)(n c:Nat)(l:List UInt8)(w:World)(ad:r<4294967296)(a:View w (.slice q n c) n 1 (bv l))(ae:l.length=n):
 Calls Tryz.prog 129 #[.int .u32 r,.slice q n c] w fun e w'=>e=.returned (.int .u32 (Af.feed r l:Nat))∧Below w.heap.size w w':=by
 have ar:=a.max
 go_enter Tk,Tryz.ntmps129
 go_wp2_with (with_reducible refine JK 214 ?_)
 refine⟨E9 D 214 D (z:=.agg (Array.replicate 16 (.int .u32 0))) (by kernel_rfl) ?_⟩
 intro au G m b1
 simp only[Value.cells]at m
 go_wp2_with (with_reducible refine Hj 214 ?_)
 refine⟨IK D 214 (.tmp 5) (.tmp 8) D (b:=w.heap.size) (c:=(Array.replicate 16 (.int .u32 0))) (c':=LP) D m D (by kernel_rfl) (by simp[Yd]) (by kernel_rfl) ?_⟩
 intro d av H I
 have J:=Aw H
 have b2:Below w.heap.size w d:=b1.grown I (by omega) (fun k K=>by cases K;exact Be _)
 clear m H b1 I
 go_wp2
 go_loop [0,7,11] (fun af _ i=>∃(k g:Nat),k≤n∧i=.int .i64 k∧af=.int .u32 g∧Hid (g=Af.feed r (l.take k))) (fun _ _ i=>n - (intOf i).toNat)
 case atStart=>exact⟨0,r,by omega,D,D,Aw D⟩
 case round=>
  obtain⟨k,g,K,rfl,rfl,u⟩:=hrel
  have L:g<4294967296:=by rw[u.out];exact Af.K0 _ ad
  by_cases M:k<n
  ·have ag:View d (.slice q n c) n 1 (bv l):=a.below b2
   go_wp2_with (with_reducible refine GX 28 ?_)
   refine⟨idx A0 D (.tmp 9) (.tmp 11) D (y:=q) (n:=n) (c:=c) D ag D k D M ?_⟩
   intro b off N _
   obtain⟨x,A⟩:∃x:UInt8,x=l[k]:=⟨_,D⟩
   have aw:d.cell? ⟨b,off,none⟩=some (.int .u8 x.toNat):=by
    have:=N 0 (.int .u8 x.toNat) (by simp[bv,ae,M,A,List.getElem?_drop])
    simpa using this
   have ax:x.toNat<256:=x.toNat_lt
   have ah:=Aw A
   clear N A
   have B:=Af.VD r l k (by omega)
   rw[←u.out,←ah.out]at B
   have ai:=Aw B
   clear B
   go_wp2_with (with_reducible refine Fx 75 ?_)
   refine⟨JH D D (p:=g) (q:=x.toNat) D D L (by omega) (g^^^x.toNat) D ?_⟩
   obtain⟨y,f⟩:∃y,y=g^^^x.toNat:=⟨_,D⟩
   rw[←f]
   have aj:y<4294967296:=by rw[f];exact Nat.xor_lt_two_pow (n:=32) L (by omega)
   have ak:=Aw f
   clear f
   obtain⟨i1,O⟩:∃i,i=y % 16:=⟨_,D⟩
   have C:i1<16:=by omega
   have P:=Aw O
   clear O
   go_wp2_with (with_reducible refine Fx 75 ?_)
   refine⟨PT D D (p:=y) 4 D D aj (by decide) i1 P.out.symm ?_⟩
   go_wp2_with (with_reducible refine GX 214 ?_)
   refine⟨Lx (size:=1) Qs (by kernel_rfl) D (.tmp 5) (.tmp 20) D D (i:=(i1:Int)) D i1 D C ?_⟩
   rw[show 0+i1*1=i1 by omega]
   obtain⟨t1,h⟩:∃t,t=Af.Hq.getD i1 0:=⟨_,D⟩
   have ay:d.cell? ⟨w.heap.size,i1,none⟩=some (.int .u32 t1):=by rw[h,cell_of_row _ _ _ _ _ _ J.out,Qr _ C]
   have Q:t1<4294967296:=by rw[h];exact OI _ C
   have al:=Aw h
   clear h
   go_wp2_with (first|(with_reducible refine Fx 75 ?_))
   obtain⟨s1,R⟩:∃s,s=y/16:=⟨_,D⟩
   have S:s1<4294967296:=by omega
   have T:=Aw R
   clear R
   refine⟨R9 D D (p:=y) (n:=4) D D (by decide) s1 T.out.symm ?_⟩
   go_wp2_with (first|(with_reducible refine Fx 75 ?_))
   obtain⟨z,E⟩:∃o:Nat,o=t1^^^s1:=⟨_,D⟩
   have G:z<4294967296:=by rw[E];exact Nat.xor_lt_two_pow (n:=32) Q S
   have U:=Aw E
   clear E
   refine⟨JH D D (p:=t1) (q:=s1) D D Q S z U.out.symm ?_⟩
   obtain⟨i2,V⟩:∃i,i=z % 16:=⟨_,D⟩
   have F:i2<16:=by omega
   have W:=Aw V
   clear V
   go_wp2_with (with_reducible refine Fx 75 ?_)
   refine⟨PT D D (p:=z) 4 D D G (by decide) i2 W.out.symm ?_⟩
   go_wp2_with (with_reducible refine GX 214 ?_)
   refine⟨Lx (size:=1) Qs (by kernel_rfl) D (.tmp 5) (.tmp 27) D D (i:=(i2:Int)) D i2 D F ?_⟩
   rw[show 0+i2*1=i2 by omega]
   obtain⟨t2,j⟩:∃t,t=Af.Hq.getD i2 0:=⟨_,D⟩
   have az:d.cell? ⟨w.heap.size,i2,none⟩=some (.int .u32 t2):=by rw[j,cell_of_row _ _ _ _ _ _ J.out,Qr _ F]
   have X:t2<4294967296:=by rw[j];exact OI _ F
   have an:=Aw j
   clear j
   go_wp2_with (first|(with_reducible refine Fx 75 ?_))
   obtain⟨s2,Y⟩:∃s,s=z/16:=⟨_,D⟩
   have Z:s2<4294967296:=by omega
   have aa:=Aw Y
   clear Y
   refine⟨R9 D D (p:=z) (n:=4) D D (by decide) s2 aa.out.symm ?_⟩
   go_wp2_with (first|(with_reducible refine Fx 75 ?_))
   obtain⟨v,a⟩:∃o:Nat,o=t2^^^s2:=⟨_,D⟩
   have v1:v<4294967296:=by rw[a];exact Nat.xor_lt_two_pow (n:=32) X Z
   have ab:=Aw a
   clear a
   refine⟨JH D D (p:=t2) (q:=s2) D D X Z v ab.out.symm ?_⟩
   have ao:Hid (v=Af.feed r (l.take (k+1))):=Aw (by rw[ai.out,←ak.out,ab.out,an.out,aa.out,W.out,U.out,al.out,T.out,P.out];exact Af.YE y)
   go_wp2
   go_round
   case rel=>exact⟨k+1,v,by omega,by go_num,D,ao⟩
   case measure=>simp[intOf];omega
  ·have aq:k=n:=by omega
   go_wp2
   go_ret
   have e:g=Af.feed r l:=by rw[u.out,aq,List.take_of_length_le (by omega)]
   subst e
   exact⟨D,b2⟩
theorem Q9(r:Nat)(q:Option Addr)(n c:Nat)(l:List UInt8)(w:World)(i:r<4294967296)(j:View w (.slice q n c) n 1 (bv l))(k:l.length=n):
 Calls Tryz.prog 103 #[.int .u32 r,.slice q n c] w fun e w'=>e=.returned (.int .u32 (Af.update r l:Nat))∧Below w.heap.size w w':=by
 go_enter Yv,Tryz.ntmps103
 go_wp2_with (with_reducible refine Ov 75 ?_)
 obtain⟨x,b⟩:∃x,x=Af.inv r:=⟨_,D⟩
 have d:x<4294967296:=by rw[b];exact Af.K5 r
 have f:=Aw b
 clear b
 refine⟨Ql D D (p:=r) D i x f.out.symm ?_⟩
 go_wp2_with (first|(with_reducible refine Ov 75 ?_)|(go_at_call 129;with_reducible refine C5 ?_))
 refine⟨(SV x q n c l w d j k).mono ?_⟩
 rintro e t ⟨rfl,m⟩
 obtain⟨y,a⟩:∃y,y=Af.feed x l:=⟨_,D⟩
 have o:y<4294967296:=by rw[a];exact Af.K0 _ d
 rw[←a]
 have s:=Aw a
 clear a
 go_wp2_with (first|(with_reducible refine Ov 75 ?_))
 obtain⟨z,g⟩:∃z,z=Af.inv y:=⟨_,D⟩
 have h:=Aw g
 clear g
 refine⟨Ql D D (p:=y) D o z h.out.symm ?_⟩
 have e:z=Af.update r l:=by rw[h.out,s.out,f.out];rfl
 subst e
 go_wp2
 go_ret
 exact⟨D,m⟩
theorem IN(q:Option Addr)(n c:Nat)(l:List UInt8)(w:World)(a:View w (.slice q n c) n 1 (bv l))(b:l.length=n):
 Calls Tryz.prog 68 #[.slice q n c] w fun e w'=>e=.returned (.int .u32 (Af.sum l:Nat))∧Below w.heap.size w w':=by
 have C:=Q9 0 q n c l w (by decide) a b
 rw[show Af.update 0 l=Af.sum l from D]at C
 go_enter XI,Tryz.ntmps68
 go_wp2_with (first|(go_at_call 103;with_reducible refine C5 ?_))
 refine⟨C.mono ?_⟩
 rintro e f ⟨rfl,d⟩
 go_wp2
 go_ret
 exact⟨D,d⟩
end Go.Proofs.YtcdaflcjhimimaaGreatDoor
namespace Go.Proofs.YtcdaflcjhimimaaGreatDoor
open Go.RowKit Go.Maps
variable {w wr:World} {k AU B2 EE Dl:Nat} {Ea:DataW Unit} {cs:Array Value} {Az:TypeId} {CQ:List Nat}
theorem OA:Keyed Tryz.prog 75:=int_keyed Ev
theorem YV(w:World):(zeroValue 3).run Tryz.prog w=.ok (.int .i64 0) w:=by kernel_rfl
theorem Sb(v:Int)(w:World):(Instr.buildSlice 28 1 #[(0,.int .u8 v)]).run Tryz.prog w=.ok (.slice (some ⟨w.heap.size,0,none⟩) 1 1) (w.alloc (.cells #[.int .u8 v] 5)):=by kernel_rfl
def G5(l:List Nat):Array Value:=(l.map fun v:Nat=>Value.int .u32 (v:Int)).toArray
theorem PF(l:List Nat)(j v:Nat):(G5 l).setIfInBounds j (.int .u32 (v:Int))=G5 (l.set j v):=by
 unfold G5
 simp[List.map_set]
theorem Oq{d:Nat}(h:d<4294967296):(Lit.int .u32 (d:Int)).wf=true:=by
 have a:IntKind.u32.min=0:=D
 have b:IntKind.u32.max=4294967295:=D
 simp only[Lit.wf,Bool.and_eq_true,decide_eq_true_eq]
 omega
theorem OZ{d:Int}(a: -9223372036854775808≤d)(h:d≤9223372036854775807):(Lit.int .i64 d).wf=true:=by
 have b:IntKind.i64.min= -9223372036854775808:=D
 have c:IntKind.i64.max=9223372036854775807:=D
 simp only[Lit.wf,Bool.and_eq_true,decide_eq_true_eq]
 omega
theorem Ti(n k v:Nat)(f:Nat→Nat):((List.range n).map f).set k v=(List.range n).map fun j=>if j=k then v else f j:=by
 apply List.ext_getElem?
 intro i
 rw[List.getElem?_set,List.getElem?_map,List.getElem?_map]
 by_cases e:k=i
 ·subst e
  by_cases h:k<n<;>simp[h]
 ·rw[if_neg e]
  by_cases h:i<n
  ·simp[h,Ne.symm e]
  ·simp[h]
theorem RJ(n k v:Nat)(f g:Nat→Nat)(a:v=g k):(((List.range n).map fun j=>if j<k then g j else f j).set k v)=(List.range n).map fun j=>if j<k+1 then g j else f j:=by
 rw[Ti]
 apply List.map_congr_left
 intro j _
 by_cases e:j=k
 ·subst e;simp[a]
 ·rw[if_neg e]
  by_cases h:j<k
  ·rw[if_pos h,if_pos (by omega)]
  ·rw[if_neg h,if_neg (by omega)]
theorem MI{a b:World}{row:Option Nat}(h:w.grownBy a row)(g:a.grownBy b (some k))(f:w.heap.size≤k):w.grownBy b row:=
 ⟨g.os.trans h.os,g.tape.trans h.tape,g.output.trans h.output,Bs h.size g.size,fun i c d=>(g.block i (by have:=h.size;omega) (fun e=>by cases e;omega)).trans (h.block i c d)⟩
theorem Hy{a b:World}{row:Option Nat}(h:w.grownBy a row)(g:Below a.heap.size a b):w.grownBy b row:=
 ⟨g.os.trans h.os,g.tape.trans h.tape,g.output.trans h.output,Bs h.size g.size,fun i c d=>(g.block i (by have:=h.size;omega)).trans (h.block i c d)⟩
theorem Iv{w':World}{b n:Nat}{R:Value→Option (DataW Unit×List MemPlace)}{P:Program}{k:TypeId}(h:w.ownsMap P k R b n Ea)(a:w'.heap[b]? =w.heap[b]?):w'.ownsMap P k R b n Ea:=by
 obtain⟨es,clock,c,d⟩:=h
 exact⟨es,clock,a.trans c,d⟩
structure Fg (w wr:World) (AU B2 EE Dl:Nat) (cs:Array Value) (Az:TypeId) (k:Nat) (Ea:DataW Unit) (CQ:List Nat):Prop where
 g:w.grownBy wr (some AU)
 bj:wr.heap[AU]? =some (.cells cs Az (0,0))
 m:wr.ownsMap Tryz.prog 75 (plainElem (H:=Unit) Tryz.prog 3) B2 k Ea
 z:wr.heap[EE]? =some (.cells #[.int .u8 0] 5 (0,0))
 d:wr.heap[Dl]? =some (.cells (G5 CQ) 181 (0,0))
 aM:AU<w.heap.size
 aA:w.heap.size≤B2
 aB:B2<EE
 aK:EE<Dl
 aU:Dl<wr.heap.size
theorem Fg.below{W:World}(h:Fg w wr AU B2 EE Dl cs Az k Ea CQ)(b:Below wr.heap.size wr W):Fg w W AU B2 EE Dl cs Az k Ea CQ:=by
 have a:=h.aM
 have c:=h.aA
 have e:=h.aB
 have f:=h.aK
 have o:=h.aU
 exact⟨Hy h.g b,(b.block AU (by omega)).trans h.bj,Iv h.m (b.block B2 (by omega)),(b.block EE (by omega)).trans h.z,(b.block Dl (by omega)).trans h.d,a,c,e,f,by have:=b.size;omega⟩
theorem Fg.RI{W:World}{a:List Nat}(h:Fg w wr AU B2 EE Dl cs Az k Ea CQ)(g:wr.grownBy W (some Dl))(Ab:W.heap[Dl]? =some (.cells (G5 a) 181 (0,0))):Fg w W AU B2 EE Dl cs Az k Ea a:=by
 have b:=h.aM
 have c:=h.aA
 have d:=h.aB
 have e:=h.aK
 have n:=h.aU
 exact⟨MI h.g g (by omega),Ag g h.bj (by omega),Iv h.m (g.block B2 (by omega) (by simp;omega)),Ag g h.z (by omega),Ab,b,c,d,e,by have:=g.size;omega⟩
theorem Fg.put{W:World}{k':Nat}{a:DataW Unit}(h:Fg w wr AU B2 EE Dl cs Az k Ea CQ)(g:wr.grownBy W (some B2))(Ab:W.ownsMap Tryz.prog 75 (plainElem (H:=Unit) Tryz.prog 3) B2 k' a):Fg w W AU B2 EE Dl cs Az k' a CQ:=by
 have b:=h.aM
 have c:=h.aA
 have e:=h.aB
 have f:=h.aK
 have n:=h.aU
 exact⟨MI h.g g (by omega),Ag g h.bj (by omega),Ab,Ag g h.z (by omega),Ag g h.d (by omega),b,c,e,f,by have:=g.size;omega⟩
theorem Fg.zero(h:Fg w wr AU B2 EE Dl cs Az k Ea CQ):View wr (.slice (some ⟨EE,0,none⟩) 1 1) 1 1 (bv [0]):=by
 have b:=h.aK
 have d:=h.aU
 refine⟨by simp[bv],.inr ⟨EE,0,1,D,by simp[bv],Be _,by decide,by omega,fun j u a=>?_⟩⟩
 rw[cell_of_row _ _ _ _ _ _ h.z]
 simpa[bv]using a
theorem Fg.drew(h:Fg w wr AU B2 EE Dl cs Az k Ea CQ):Fg w wr.drew AU B2 EE Dl cs Az k Ea CQ:=
 ⟨⟨h.g.os,h.g.tape,h.g.output,h.g.size,h.g.block⟩,h.bj,h.m,h.z,h.d,h.aM,h.aA,h.aB,h.aK,h.aU⟩
theorem Fg.old(h:Fg w wr AU B2 EE Dl cs Az k Ea CQ){b:Nat}{o:Obj}(a:w.heap[b]? =some o)(c:b≠AU):wr.heap[b]? =some o:=
 (h.g.block b (Array.getElem?_eq_some_iff.1 a).1 (by simpa using c)).trans a
theorem S9(b:UInt8):Af.sum [b]^^^Af.sum [0]=Af.steps 8 b.toNat:=by
 rw[Af.K',Af.K',Af.Hn,Af.L7,Af.Hn,Af.L7,Af.Jr,Af.Jr]
 have e:Af.steps 8 (0:UInt8).toNat=0:=by rw[show(0:UInt8).toNat=0 from D,Af.RB]
 rw[e,Nat.xor_zero,Nat.xor_comm (Af.steps 8 4294967295),Nat.xor_assoc,Nat.xor_assoc]
 rw[←Nat.xor_assoc 4294967295,Nat.xor_comm 4294967295 (Af.steps 8 4294967295),Nat.xor_assoc (Af.steps 8 4294967295),Nat.xor_self,Nat.xor_zero,Nat.xor_self,Nat.xor_zero]
theorem YM(d:Nat)(h:d<4294967296):Af.update d [0]^^^Af.sum [0]=Af.steps 8 d:=by
 unfold Af.update
 rw[Af.KS (Af.K0 _ (Af.K5 _)),Af.KS h,Af.K',Af.Hn,Af.L7,Af.Hn,Af.L7]
 have e:(0:UInt8).toNat=0:=D
 rw[e,Nat.xor_zero,Nat.xor_zero,Af.Jr]
 rw[Nat.xor_assoc,Nat.xor_assoc,Nat.xor_comm 4294967295 (Af.steps 8 4294967295^^^4294967295),Nat.xor_assoc (Af.steps 8 4294967295),Nat.xor_self,Nat.xor_zero,Nat.xor_self,Nat.xor_zero]
end Go.Proofs.YtcdaflcjhimimaaGreatDoor
namespace Go.Proofs.YtcdaflcjhimimaaGreatDoor
open Go.RowKit Go.Maps
set_option maxRecDepth 100000
set_option maxHeartbeats 1000000
theorem XB(C E AU Bc n:Nat)(cs:Array Value)(Az:TypeId)(w:World)
 (hn:w.heap[C]? =some (.cells #[.int .i64 n] 3 (0,0)))(W:w.heap[E]? =some (.cells #[.pointer (some ⟨AU,Bc,none⟩)] 155 (0,0)))
 (s:w.heap[AU]? =some (.cells cs Az (0,0)))(aa:Bc+3<cs.size)(aq:C≠AU)(ar:E≠AU)(t:1≤n)(bb:n≤4096):
 Calls Tryz.prog 102 #[.pointer (some ⟨C,0,none⟩),.pointer (some ⟨E,0,none⟩)] w fun e w'=>∃B2,e=.returned (.tuple #[])∧w.grownBy w' (some AU)∧w.heap.size≤B2∧
  w'.heap[AU]? =some (.cells (cs.setIfInBounds (Bc+3) (.map (some B2))) Az (0,0))∧w'.ownsMap Tryz.prog 75 (plainElem (H:=Unit) Tryz.prog 3) B2 (8*n+32) (Af.Fa (Af.Eb n) (.map [])):=by
 have bc:∀(k:Int) (w:World),(Instr.makeMap 84 (some (.int .i64 k))).run Tryz.prog w=.ok (.map (some w.heap.size)) (w.alloc (.map #[] 0)):=fun _ _=>rfl
 have au:=Aw hn
 have av:=Aw W
 have aX:=Aw s
 have bd:C<w.heap.size:=(Array.getElem?_eq_some_iff.1 hn).1
 have lt:E<w.heap.size:=(Array.getElem?_eq_some_iff.1 W).1
 have bf:AU<w.heap.size:=(Array.getElem?_eq_some_iff.1 s).1
 have As:=HU (j:=0) hn D
 have A7:=HU (j:=0) W D
 have J:=HU (j:=Bc+3) (v:=cs[Bc+3]) s (by simp[aa])
 have aY:=UL (j:=Bc+3) s
 clear hn W s
 go_enter YQ,Tryz.ntmps102
 go_wp2
 go_region
 obtain⟨a,F⟩:∃a,a=((w.setCell ⟨AU,Bc+3,none⟩ (.map (some w.heap.size))).alloc (.map #[] 0)).drew:=⟨_,D⟩
 rw[←F]
 have aw:a.heap.size=w.heap.size+1:=by rw[F];simp[World.drew]
 have ax:w.grownBy a (some AU):=by
  rw[F]
  have:=Ij (IF w AU (Bc+3) (.map (some w.heap.size))) (World.grownBy_alloc _ (.map #[] 0) _)
  exact⟨this.os,this.tape,this.output,this.size,this.block⟩
 have ay:Hid (a.heap[AU]? =some (.cells (cs.setIfInBounds (Bc+3) (.map (some w.heap.size))) Az (0,0))):=Aw (by
  rw[F]
  exact(Below.heap_alloc _ _ _ (by simp;omega)).trans (IX aX.out _))
 have az:a.ownsMap Tryz.prog 75 (plainElem (H:=Unit) Tryz.prog 3) w.heap.size 0 (.map []):=by
  have:=World.ownsMap_made (w.setCell ⟨AU,Bc+3,none⟩ (.map (some w.heap.size))) Tryz.prog 75 (plainElem (H:=Unit) Tryz.prog 3)
  rw[World.size_setCell]at this
  rw[F]
  exact this.drew
 clear F As A7 J aY
 have bg:=Aw aw
 have aZ:w.heap.size+1≤a.heap.size:=by omega
 clear aw
 go_wp2_with (first|go_skip|(with_reducible refine Pc 28 ?_))
 refine⟨E_ D D (v:=.int .u8 0) D (Sb _ _) ?_⟩
 intro aA ab t b1
 have K:View aA (.slice (some ⟨a.heap.size,0,none⟩) 1 1) 1 1 (bv [0]):=by
  refine⟨by simp[bv],.inr ⟨a.heap.size,0,1,D,by simp[bv],Be _,by decide,by omega,fun j u L=>?_⟩⟩
  rw[cell_of_row _ _ _ _ _ _ t]
  simpa[bv]using L
 have H1:=Aw t
 have aB:=Aw ((b1.block AU (by omega)).trans ay.out)
 have aC:=Iv az (b1.block w.heap.size (by omega))
 have aD:=Hy ax b1
 clear t
 go_wp2_with (first|go_skip|(go_at_call 68;with_reducible refine C5 ?_))
 refine⟨(IN _ 1 1 [0] aA K D).mono ?_⟩
 rintro e a0 ⟨rfl,b2⟩
 obtain⟨no,X⟩:∃no,no=Af.sum [0]:=⟨_,D⟩
 rw[←X]
 have aE:no<4294967296:=by rw[X];exact Af.GP _
 have aF:=Aw X
 clear X
 have aG:=Aw ((b2.block a.heap.size (by omega)).trans H1.out)
 have aH:=Aw ((b2.block AU (by omega)).trans aB.out)
 have M2:=Iv aC (b2.block w.heap.size (by omega))
 have aI:=Hy aD b2
 have a1:=b2.size
 go_wp2_with (first|go_skip|(with_reducible refine JK 181 ?_))
 refine⟨E9 D 181 D (z:=.agg (G5 (List.replicate 8 0))) (by kernel_rfl) ?_⟩
 intro a2 M f N
 simp only[Value.cells]at f
 obtain⟨EE,Y⟩:∃EE,EE=a.heap.size:=⟨_,D⟩
 obtain⟨Dl,Z⟩:∃Dl,Dl=a0.heap.size:=⟨_,D⟩
 obtain⟨l,ad⟩:∃l,l=cs.setIfInBounds (Bc+3) (.map (some w.heap.size)):=⟨_,D⟩
 have O:Fg w a2 AU w.heap.size EE Dl l Az 0 (.map []) (List.replicate 8 0):=by
  subst Y
  subst Z
  subst ad
  exact⟨Hy aI N,(N.block AU (by omega)).trans aH.out,Iv M2 (N.block _ (by omega)),(N.block a.heap.size (by omega)).trans aG.out,f,by omega,by omega,by omega,by omega,by omega⟩
 rw[←Y,←Z]
 clear f N M aI M2 aH aG a1 b2 aD aC aB H1 K b1 ab ax az ay aZ
 have bh:=Aw Y
 have bj:=Aw Z
 have ae:=Aw ad
 clear Y Z ad
 go_wp2
 go_loopw [20] (fun i wr=>∃k:Nat,k≤8∧i=.int .i64 k∧Fg w wr AU w.heap.size EE Dl l Az 0 (.map []) ((List.range 8).map fun j=>if j<k then Af.made 0 j else 0)) (fun i _=>8 - (intOf i).toNat)
 case atStart=>exact⟨0,by omega,D,O⟩
 case round=>
  obtain⟨k,af,rfl,A4⟩:=hrel
  by_cases P:k<8
  ·go_wp2_with (first|go_skip|(with_reducible refine Fx 5 ?_))
   obtain⟨p,aJ⟩:∃p,p=2^k:=⟨_,D⟩
   have bk:p<256:=by
    have:2^k≤2^7:=Nat.pow_le_pow_right (by decide) (by omega)
    omega
   have aK:=Aw aJ
   clear aJ
   refine⟨VF D D (k:=k) D D P p aK.out.symm ?_⟩
   go_wp2_with (first|go_skip|(with_reducible refine Pc 28 ?_))
   refine⟨E_ D D (v:=.int .u8 (p:Int)) D (Sb _ _) ?_⟩
   intro A ab t b1
   have K:View A (.slice (some ⟨wr.heap.size,0,none⟩) 1 1) 1 1 (bv [UInt8.ofNat p]):=by
    refine⟨by simp[bv],.inr ⟨wr.heap.size,0,1,D,by simp[bv],Be _,by decide,by omega,fun j u L=>?_⟩⟩
    rw[cell_of_row _ _ _ _ _ _ t]
    have e:(UInt8.ofNat p).toNat=p:=by simp;omega
    simpa[bv,e]using L
   have h:=A4.below b1
   clear t b1 ab
   go_wp2_with (first|go_skip|(go_at_call 68;with_reducible refine C5 ?_))
   refine⟨(IN _ 1 1 [UInt8.ofNat p] A K D).mono ?_⟩
   rintro e a3 ⟨rfl,b2⟩
   have o:=h.below b2
   clear b2 K h
   obtain⟨x,r⟩:∃x,x=Af.sum [UInt8.ofNat p]:=⟨_,D⟩
   rw[←r]
   have ag:x<4294967296:=by rw[r];exact Af.GP _
   obtain⟨y,B⟩:∃y,y=x^^^no:=⟨_,D⟩
   have ah:Hid (y=Af.made 0 k):=Aw (by
    rw[B,r,aF.out,S9]
    have e:(UInt8.ofNat p).toNat=p:=by simp;omega
    rw[e,aK.out]
    rfl)
   have ai:=Aw B
   clear r B
   go_wp2_with (first|go_skip|(with_reducible refine Fx 75 ?_))
   refine⟨JH D D (p:=x) (q:=no) D D ag aE y ai.out.symm ?_⟩
   go_wp2_with (first|go_skip|(with_reducible refine GX 181 ?_))
   refine⟨Lx (size:=1) FF (by kernel_rfl) D (.tmp 4) (.tmp 23) D D (i:=(k:Int)) D k D P ?_⟩
   rw[show 0+k*1=k by omega]
   go_wp2_with (first|go_skip|(with_reducible refine Hj 75 ?_))
   refine⟨L' D 75 (.tmp 30) (.tmp 29) D (b:=Dl) (off:=k) (v:=.int .u32 (y:Int)) D o.d D D (by kernel_rfl) (by simp[G5];omega) ?_⟩
   intro a4 M f Q
   rw[PF,RJ 8 k y _ _ ah.out]at f
   have O:=o.RI Q f
   clear f Q M o A4
   go_wp2
   go_roundw
   case rel=>exact⟨k+1,by omega,by go_num,O⟩
   case measure=>simp[intOf];omega
  ·have R:k=8:=by omega
   subst R
   have aL:Fg w wr AU w.heap.size EE Dl l Az 0 (.map []) ((List.range 8).map (Af.made 0)):=A4
   clear A4 P af
   have As:wr.cell? ⟨C,0,none⟩=some (.int .i64 n):=HU (j:=0) (aL.old au.out aq) D
   go_wp2
   obtain⟨aM,rfl⟩:∃aM:World,aM=wr:=⟨_,D⟩
   clear As
   go_loopw [6] (fun i wr=>∃(c:Nat) (v:Int),c≤n∧i=.int .i64 v∧Hid (v=(n:Int) - 1 - c)∧Fg w wr AU w.heap.size EE Dl l Az (8*c) (Af.Fa (Af.rows n c) (.map [])) ((List.range 8).map (Af.made c))) (fun i _=>(intOf i+1).toNat)
   case atStart=>exact⟨0,_,by omega,D,Aw (by simp),aL⟩
   case round=>
    obtain⟨c,v,s,rfl,G,A4⟩:=hrel
    by_cases P:c<n
    ·have v0:0≤v:=by have:=G.out;omega
     have v1:v≤4096:=by have:=G.out;omega
     obtain⟨aN,rfl⟩:∃aN:World,aN=wr:=⟨_,D⟩
     obtain⟨S,aj⟩:∃S,S=((List.range 8).map (Af.made c)).map fun v:Nat=>Value.int .u32 (v:Int):=⟨_,D⟩
     have ak:S.length=8:=by rw[aj];simp
     have aO:=Aw aj
     clear aj
     go_wp2_with (first|go_skip|(with_reducible refine Px 181 ?_))
     refine⟨Nm D 181 (.tmp 4) D (b:=Dl) (off:=0) D S (fun j u L=>by
      rw[cell_of_row _ _ _ _ _ _ A4.d,Nat.zero_add]
      unfold G5
      rw[List.getElem?_toArray,←aO.out]
      exact L) FF D (by rw[ak];kernel_rfl) ?_⟩
     have bl:=Aw ak
     clear ak
     go_wp2
     go_loopw [39] (fun i wr=>∃k:Nat,k≤8∧i=.int .i64 k∧Fg w wr AU w.heap.size EE Dl l Az (8*c+k) (Af.Fa (Af.rows n c++Af.rowOf n c k) (.map [])) ((List.range 8).map fun j=>if j<k then Af.made (c+1) j else Af.made c j)) (fun i _=>8 - (intOf i).toNat)
     case atStart=>exact⟨0,by omega,D,by simpa[Af.rowOf]using A4⟩
     case round=>
      obtain⟨k,af,rfl,A4⟩:=hrel
      by_cases T:k<8
      ·obtain⟨d,Ab⟩:∃d,d=Af.made c k:=⟨_,D⟩
       have d1:d<4294967296:=by rw[Ab];exact Af.Tc c k T
       have al:S.toArray[k]? =some (.int .u32 (d:Int)):=by
        rw[List.getElem?_toArray,aO.out,Ab]
        simp[T]
       have aP:=Aw Ab
       clear Ab
       go_wp2_with (first|go_skip|(with_reducible refine Up 181 ?_))
       refine⟨US FF (by kernel_rfl) (by kernel_rfl) D (.tmp 38) (.tmp 39) D D (i:=(k:Int)) D k D T (.int .u32 (d:Int)) al ?_⟩
       have A7:wr.cell? ⟨E,0,none⟩=some (.pointer (some ⟨AU,Bc,none⟩)):=HU (j:=0) (A4.old av.out ar) D
       have J:wr.cell? ⟨AU,Bc+3,none⟩=some (.map (some w.heap.size)):=by
        rw[cell_of_row _ _ _ _ _ _ A4.bj,ae.out]
        simp[aa]
       have bm:=Aw al
       clear al
       go_wp2_with (first|go_skip|(with_reducible refine Y7 ?_))
       have aR:8*v+(k:Int)=((8*(n - 1 - c)+k:Nat):Int):=by have:=G.out;omega
       have a5:=Aw aR
       clear aR
       refine⟨wpList_mapUpdate_own wr D (.tmp 46) (.tmp 47) (.tmp 51) 84 D 75 3 OA MM (plainElem (H:=Unit) Tryz.prog 3) w.heap.size (8*c+k) _ D A4.m (by unfold maxLen;omega)
        (.int .u32 (d:Int)) (.int .i64 (8*v+(k:Int))) (.int .u32 (d:Int)) D D (keyOf_int_mk Ev (Oq d1)) (.lit (.int .i64 (8*v+(k:Int)))) [] (plainElem_int AH (OZ (by omega) (by omega))) ?_⟩
       intro A I U
       have V:A.ownsMap Tryz.prog 75 (plainElem (H:=Unit) Tryz.prog 3) w.heap.size (8*c+(k+1)) (Af.Fa (Af.rows n c++Af.rowOf n c (k+1)) (.map [])):=by
        rw[Af.TR,←List.append_assoc,Af.Rn,←a5.out,←aP.out]
        exact I
       have h:=A4.put U V
       clear I V U A7 J A4
       go_wp2_with (first|go_skip|(go_at_call 103;with_reducible refine C5 ?_))
       refine⟨(Q9 d _ 1 1 [0] A d1 h.zero D).mono ?_⟩
       rintro e a3 ⟨rfl,b2⟩
       have o:=h.below b2
       clear b2 h
       obtain⟨x,r⟩:∃x,x=Af.update d [0]:=⟨_,D⟩
       rw[←r]
       have ag:x<4294967296:=by rw[r];exact Af.K5 _
       obtain⟨y,B⟩:∃y,y=x^^^no:=⟨_,D⟩
       have ah:Hid (y=Af.made (c+1) k):=Aw (by rw[B,r,aF.out,YM _ d1,aP.out,Af.WT])
       have ai:=Aw B
       clear r B
       go_wp2_with (first|go_skip|(with_reducible refine Fx 75 ?_))
       refine⟨JH D D (p:=x) (q:=no) D D ag aE y ai.out.symm ?_⟩
       go_wp2_with (first|go_skip|(with_reducible refine GX 181 ?_))
       refine⟨Lx (size:=1) FF (by kernel_rfl) D (.tmp 4) (.tmp 52) D D (i:=(k:Int)) D k D T ?_⟩
       rw[show 0+k*1=k by omega]
       go_wp2_with (first|go_skip|(with_reducible refine Hj 75 ?_))
       refine⟨L' D 75 (.tmp 58) (.tmp 57) D (b:=Dl) (off:=k) (v:=.int .u32 (y:Int)) D o.d D D (by kernel_rfl) (by simp[G5];omega) ?_⟩
       intro a4 M f Q
       rw[PF,RJ 8 k y _ _ ah.out]at f
       have O:=o.RI Q f
       clear f Q M o
       go_wp2
       go_roundw
       case rel=>exact⟨k+1,by omega,by go_num,O⟩
       case measure=>simp[intOf];omega
      ·have R:k=8:=by omega
       subst R
       have a6:Fg w wr AU w.heap.size EE Dl l Az (8*(c+1)) (Af.Fa (Af.rows n (c+1)) (.map [])) ((List.range 8).map (Af.made (c+1))):=A4
       clear A4
       go_wp2
       go_roundw
       case rel=>
        have a7:Hid (v - 1=(n:Int) - 1 - ((c+1:Nat):Int)):=Aw (by have:=G.out;omega)
        have a8:c+1≤n:=by omega
        (repeat apply Exists.intro);exact⟨⟨c+1,v - 1,a8,D,a7,a6⟩,D⟩
       case measure=>simp[intOf];omega
    ·have aS:c=n:=by omega
     have v0:v<0:=by have:=G.out;omega
     have bn:decide (0≤v)=false:=by simpa using v0
     rw[aS]at A4
     clear G s P aS
     go_wp2
     obtain⟨aT,rfl⟩:∃aT:World,aT=wr:=⟨_,D⟩
     go_loopw [60] (fun i wr=>∃k:Nat,k≤32∧i=.int .i64 k∧Fg w wr AU w.heap.size EE Dl l Az (8*n+k) (Af.Fa (Af.rows n n++Af.tail n k) (.map [])) ((List.range 8).map (Af.made n))) (fun i _=>32 - (intOf i).toNat)
     case atStart=>exact⟨0,by omega,D,by simpa[Af.tail]using A4⟩
     case round=>
      obtain⟨k,af,rfl,A4⟩:=hrel
      by_cases T:k<32
      ·have A7:wr.cell? ⟨E,0,none⟩=some (.pointer (some ⟨AU,Bc,none⟩)):=HU (j:=0) (A4.old av.out ar) D
       have J:wr.cell? ⟨AU,Bc+3,none⟩=some (.map (some w.heap.size)):=by
        rw[cell_of_row _ _ _ _ _ _ A4.bj,ae.out]
        simp[aa]
       have As:wr.cell? ⟨C,0,none⟩=some (.int .i64 n):=HU (j:=0) (A4.old au.out aq) D
       go_wp2
       go_still_tail 10,(by kernel_rfl)
       have h:=A4.drew
       change wpList _ _ _ _ _ wr.drew
       generalize wr.drew=a9 at h⊢
       have an:IntKind.u32.wrap ((2:Int)^k)=((2^k:Nat):Int):=by
        have a_:2^k≤2^31:=Nat.pow_le_pow_right (by decide) (by omega)
        have aU:∀q:Nat,q≤2^31→IntKind.u32.wrap (q:Int)=q:=fun q aU=>by rw[IntKind.wrap_u32'];omega
        rw[show((2:Int)^k)=((2^k:Nat):Int)by simp]
        exact aU _ a_
       have aV:IntKind.i64.wrap (8*(n:Int))=8*(n:Int):=IntWalk.i64_in _ (by omega)
       have ao:IntKind.i64.wrap (IntKind.i64.wrap (8*(n:Int))+(k:Int))=((8*n+k:Nat):Int):=by
        rw[aV,IntWalk.i64_in _ (by omega)]
        omega
       have aW:2^k<4294967296:=by
        have:2^k≤2^31:=Nat.pow_le_pow_right (by decide) (by omega)
        omega
       refine wpList_mapUpdate_own a9 D (.tmp 66) (.tmp 68) (.tmp 72) 84 D 75 3 OA MM (plainElem (H:=Unit) Tryz.prog 3) w.heap.size (8*n+k) _ D h.m (by unfold maxLen;omega)
        (.int .u32 (IntKind.u32.wrap ((2:Int)^k))) (.int .i64 (IntKind.i64.wrap (IntKind.i64.wrap (8*(n:Int))+(k:Int)))) (.int .u32 (IntKind.u32.wrap ((2:Int)^k))) D D (keyOf_int_mk Tryz.underlying75 (by rw[an];exact Oq aW)) (.lit (.int .i64 (IntKind.i64.wrap (IntKind.i64.wrap (8*(n:Int))+(k:Int))))) [] (plainElem_int Tryz.underlying3 (by rw[ao];exact OZ (by omega) (by omega))) ?_
       intro A I U
       have V:A.ownsMap Tryz.prog 75 (plainElem (H:=Unit) Tryz.prog 3) w.heap.size (8*n+(k+1)) (Af.Fa (Af.rows n n++Af.tail n (k+1)) (.map [])):=by
        rw[Af.Tj,←List.append_assoc,Af.Rn]
        rw[an,ao]at I
        exact I
       have o:=h.put U V
       clear I V U A7 J As A4 h aV an ao aW
       go_wp2
       go_roundw
       case rel=>
        have a':k+1≤32:=by omega
        have ba:Value.int .i64 ((k:Int)+1)=.int .i64 ((k+1:Nat):Int):=by go_num
        (repeat apply Exists.intro);exact⟨⟨k+1,a',ba,o⟩,D⟩
       case measure=>simp[intOf];omega
      ·have R:k=32:=by omega
       subst R
       go_wp2
       go_end0
       exact⟨w.heap.size,D,A4.g,Be _,by rw[←ae.out];exact A4.bj,A4.m⟩
end Go.Proofs.YtcdaflcjhimimaaGreatDoor
namespace Go.Proofs.YtcdaflcjhimimaaGreatDoor
open Go.RowKit
set_option maxRecDepth 100000
set_option maxHeartbeats 1600000
theorem OS(w:World):(callFunc 143 #[]).run Tryz.prog w=.ok (.value (.tuple #[])) w:=run_call_mark0 VC (by kernel_rfl) (by kernel_rfl) (by kernel_rfl) .disable (by kernel_rfl) w
theorem Qd(w:World):(callFunc 145 #[]).run Tryz.prog w=.ok (.value (.tuple #[])) w:=run_call_mark0 W7 (by kernel_rfl) (by kernel_rfl) (by kernel_rfl) .enable (by kernel_rfl) w
theorem YL(a:Addr)(w:World):(callFunc 146 #[.pointer (some a)]).run Tryz.prog w=.ok (.value (.tuple #[])) w:=run_call_marked UA (by kernel_rfl) (by kernel_rfl) (by kernel_rfl) .acquire (by kernel_rfl) a w
theorem U8(a:Addr)(w:World):(callFunc 148 #[.pointer (some a)]).run Tryz.prog w=.ok (.value (.tuple #[])) w:=run_call_marked XO (by kernel_rfl) (by kernel_rfl) (by kernel_rfl) .releaseMerge (by kernel_rfl) a w
theorem Ym(a:Addr)(x:Value)(u:FrameMode)(w:World)(d:w.cell? a=some x)(f:w.frozen? a=false):
 CallsD Tryz.prog 138 #[.pointer (some a),.bool true] u w fun e G2 w'=>G2=u∧(e=.returned (.tuple #[])∧w'=w.drew.setCell a (.int .u32 1)):=by
 have b:w.drew.cell? a=some x:=by go_simp
 have c:w.drew.frozen? a=false:=by go_simp
 have g:=run_call_store (P:=Tryz.prog) Vo (by kernel_rfl) (by kernel_rfl) (by kernel_rfl) (by kernel_rfl) (k:=.u32) (y:=1) b c
 go_enter_d Xw,Tryz.ntmps138
 go_wp2
 go_region_calls
 all_goals(go_end0;exact⟨D,D⟩)

theorem X0(a:Addr)(u:FrameMode)(w:World)(b:w.cell? a=some (.int .i32 1))(c:w.frozen? a=false):
 CallsD Tryz.prog 137 #[.pointer (some a)] u w fun e G2 w'=>G2=u∧(e=.returned (.tuple #[])∧w'=w.setCell a (.int .i32 0)):=by
 have Ab:=OS
 have he:=Qd
 have d:=U8
 have f:=run_call_add (P:=Tryz.prog) T5 (by kernel_rfl) (by kernel_rfl) (by kernel_rfl) .i32 (by kernel_rfl) (y:= -1) (s:=0) b c (by simp[go_sem];rfl)
 have g:=run_convert_to_unsafe (P:=Tryz.prog) (src:=218) (dst:=222) Sa QK (by kernel_rfl) b
 go_enter_d Ui,Tryz.ntmps137
 go_wp2
 go_end0
 go_wp2
 go_end0
 exact⟨D,D⟩

theorem S3(a:Addr)(w:World)(b:w.cell? a=some (.int .i32 0))(c:w.frozen? a=false):
 Calls Tryz.prog 136 #[.pointer (some a)] w fun e w'=>e=.returned (.tuple #[])∧w'=w.setCell a (.int .i32 1):=by
 have Ab:=OS
 have he:=Qd
 have f:=YL
 have g:=run_call_cas_hit (P:=Tryz.prog) Yh (by kernel_rfl) (by kernel_rfl) (by kernel_rfl) .i32 (by kernel_rfl) (y:=1) b c
 have d:(w.setCell a (.int .i32 1)).cell? a=some (.int .i32 1):=World.cell?_setCell_same w a _ b
 have h:=run_convert_to_unsafe (P:=Tryz.prog) (src:=218) (dst:=222) Sa QK (by kernel_rfl) d
 go_enter UZ,Tryz.ntmps136
 go_wp2
 first|go_end0|(simp only[Exit.inBlock,Exit.then];refine bodyPost_ret (results_none D _ _ _) D ?_)|refine bodyPost_ret (results_none D _ _ _) D ?_
 go_wp2
 go_end0
 exact⟨D,D⟩
end Go.Proofs.YtcdaflcjhimimaaGreatDoor
namespace Go.Proofs.YtcdaflcjhimimaaGreatDoor
open Go.RowKit Go.Maps
set_option maxRecDepth 100000
set_option maxHeartbeats 1600000
variable {n AU Bc:Nat} {w W:World} {cs:Array Value}
def Hw(cs:Array Value)(Bc B2:Nat):Array Value:=(((cs.setIfInBounds (Bc+1) (.int .i32 1)).setIfInBounds (Bc+3) (.map (some B2))).setIfInBounds Bc (.int .u32 1)).setIfInBounds (Bc+1) (.int .i32 0)
theorem SD(cs:Array Value)(Bc B2:Nat):(Hw cs Bc B2).size=cs.size:=by simp[Hw]
theorem SP(cs:Array Value)(Bc B2:Nat)(h:Bc+3<cs.size):(Hw cs Bc B2)[Bc]? =some (.int .u32 1):=by
 simp[Hw,show Bc<cs.size by omega]
theorem Zc(cs:Array Value)(Bc B2:Nat)(h:Bc+3<cs.size):(Hw cs Bc B2)[Bc+3]? =some (.map (some B2)):=by
 simp[Hw,h]
theorem XV(cs:Array Value)(Bc B2 j:Nat)(a:j≠Bc)(b:j≠Bc+1)(c:j≠Bc+3):(Hw cs Bc B2)[j]? =cs[j]? :=by
 simp[Hw,Ne.symm a,Ne.symm b,Ne.symm c]
theorem S2(g h AU Bc n:Nat)(cs:Array Value)(Az:TypeId)(w:World)
 (hn:w.heap[g]? =some (.cells #[.int .i64 n] 3 (0,0)))(k:w.heap[h]? =some (.cells #[.pointer (some ⟨AU,Bc,none⟩)] 155 (0,0)))
 (c:w.heap[AU]? =some (.cells cs Az (0,0)))(t:Bc+3<cs.size)(p:g≠AU)(q:h≠AU)(u:1≤n)(v:n≤4096)
 (l:cs[Bc]? =some (.int .u32 0))(y:cs[Bc+1]? =some (.int .i32 0)):
 Calls Tryz.prog 128 #[.pointer (some ⟨AU,Bc,none⟩),.func (.func 102) #[] #[.pointer (some ⟨g,0,none⟩),.pointer (some ⟨h,0,none⟩)]] w fun e w'=>∃B2,e=.returned (.tuple #[])∧w.grownBy w' (some AU)∧w.heap.size≤B2∧
  w'.heap[AU]? =some (.cells (Hw cs Bc B2) Az (0,0))∧w'.ownsMap Tryz.prog 75 (plainElem (H:=Unit) Tryz.prog 3) B2 (8*n+32) (Af.Fa (Af.Eb n) (.map [])):=by
 have M:g<w.heap.size:=(Array.getElem?_eq_some_iff.1 hn).1
 have lt:h<w.heap.size:=(Array.getElem?_eq_some_iff.1 k).1
 have N:AU<w.heap.size:=(Array.getElem?_eq_some_iff.1 c).1
 have O:w.cell? ⟨AU,Bc,none⟩=some (.int .u32 0):=by rw[cell_of_row _ _ _ _ _ _ c];exact l
 have a1:w.cell? ⟨AU,Bc+1,none⟩=some (.int .i32 0):=by rw[cell_of_row _ _ _ _ _ _ c];exact y
 have f1:w.frozen? ⟨AU,Bc+1,none⟩=false:=frozen_of_row _ _ _ _ _ c
 obtain⟨d,j⟩:∃d,d=w.setCell ⟨AU,Bc+1,none⟩ (.int .i32 1):=⟨_,D⟩
 have r:d.heap[AU]? =some (.cells (cs.setIfInBounds (Bc+1) (.int .i32 1)) Az (0,0)):=by rw[j];exact IX c _
 have i:w.grownBy d (some AU):=by rw[j];exact IF _ _ _ _
 have z:d.cell? ⟨AU,Bc,none⟩=some (.int .u32 0):=by rw[cell_of_row _ _ _ _ _ _ r];simp[l]
 have Q:=run_call_load (P:=Tryz.prog) Nl (by kernel_rfl) (by kernel_rfl) (by kernel_rfl) .u32 (by kernel_rfl) (w:=d) (a:=⟨AU,Bc,none⟩) (x:=0) z
 have C:=XB g h AU Bc n (cs.setIfInBounds (Bc+1) (.int .i32 1)) Az d (Ag i hn p) (Ag i k q) r (by simpa using t) p q u v
 have A:=Aw j
 have R:=Aw c
 clear j c hn k
 have S:∀(x:Bool) (w:World),(Op.unary .not (.bool x)).run Tryz.prog w=.ok (.bool (!x)) w:=fun _ _=>rfl
 go_enter_defers YZ,Tryz.ntmps128
 go_wp2_with (go_at_call 136;with_reducible refine C5 ?_)
 refine⟨(S3 ⟨AU,Bc+1,none⟩ w a1 f1).mono ?_⟩
 rintro e w' ⟨rfl,rfl⟩
 rw[←A.out]
 go_wp2_with (first|(go_at_call 127;go_in)|(go_at_call 102;with_reducible refine C5 ?_))
 refine⟨C.mono ?_⟩
 rintro e b ⟨B2,rfl,B,T,m,E⟩
 go_wp2
 refine leaves_cons (f:=138) (args:=#[.pointer (some ⟨AU,Bc,none⟩),.bool true]) (by simp) (by simp[go_sem]) ?_
 have F:b.cell? ⟨AU,Bc,none⟩=some (.int .u32 0):=by rw[cell_of_row _ _ _ _ _ _ m];simp[l]
 have f2:b.frozen? ⟨AU,Bc,none⟩=false:=frozen_of_row _ _ _ _ _ m
 refine(Ym ⟨AU,Bc,none⟩ (.int .u32 0) .returning b F f2).mono ?_
 rintro e G2 U ⟨rfl,rfl,rfl⟩
 refine leaves_cons (f:=137) (args:=#[.pointer (some ⟨AU,Bc+1,none⟩)]) (by simp[settle]) (by simp[go_sem]) ?_
 have o:(b.drew.setCell ⟨AU,Bc,none⟩ (.int .u32 1)).heap[AU]? =some (.cells (((cs.setIfInBounds (Bc+1) (.int .i32 1)).setIfInBounds (Bc+3) (.map (some B2))).setIfInBounds Bc (.int .u32 1)) Az (0,0)):=IX (w:=b.drew) m _
 have G:(b.drew.setCell ⟨AU,Bc,none⟩ (.int .u32 1)).cell? ⟨AU,Bc+1,none⟩=some (.int .i32 1):=by rw[cell_of_row _ _ _ _ _ _ o];simp[show Bc+1<cs.size by omega]
 have f3:(b.drew.setCell ⟨AU,Bc,none⟩ (.int .u32 1)).frozen? ⟨AU,Bc+1,none⟩=false:=frozen_of_row _ _ _ _ _ o
 refine(X0 ⟨AU,Bc+1,none⟩ _ _ G f3).mono ?_
 rintro e G2 V ⟨rfl,rfl,rfl⟩
 have I:b.drew.grownBy (b.drew.setCell ⟨AU,Bc,none⟩ (.int .u32 1)) (some AU):=IF _ _ _ _
 have J:=IF (b.drew.setCell ⟨AU,Bc,none⟩ (.int .u32 1)) AU (Bc+1) (.int .i32 0)
 have K:b.grownBy b.drew (some AU):=⟨D,D,D,Be _,fun _ _ _=>rfl⟩
 have s:B2≠AU:=by have:=i.size;omega
 have P:∃B2,w.grownBy ((b.drew.setCell ⟨AU,Bc,none⟩ (.int .u32 1)).setCell ⟨AU,Bc+1,none⟩ (.int .i32 0)) (some AU)∧w.heap.size≤B2∧
  ((b.drew.setCell ⟨AU,Bc,none⟩ (.int .u32 1)).setCell ⟨AU,Bc+1,none⟩ (.int .i32 0)).heap[AU]? =some (.cells (Hw cs Bc B2) Az (0,0))∧((b.drew.setCell ⟨AU,Bc,none⟩ (.int .u32 1)).setCell ⟨AU,Bc+1,none⟩ (.int .i32 0)).ownsMap Tryz.prog 75 (plainElem (H:=Unit) Tryz.prog 3) B2 (8*n+32) (Af.Fa (Af.Eb n) (.map [])):=
  ⟨B2,Ij (Ij (Ij (Ij i B) K) I) J,by have:=i.size;omega,IX o _,Iv E ((Below.heap_setCell _ _ _ _ s).trans (Below.heap_setCell _ _ _ _ s))⟩
 obtain⟨L,r1,r2,Ig,Hp⟩:=P
 exact⟨_,results_none D _ _ _,L,D,r1,r2,Ig,Hp⟩
def TabIs(w:World)(AU Bc n:Nat)(cs:Array Value):Prop:=
 Bc+3<cs.size∧((cs[Bc]? =some (.int .u32 0)∧cs[Bc+1]? =some (.int .i32 0))∨
  ∃B2,cs[Bc]? =some (.int .u32 1)∧cs[Bc+3]? =some (.map (some B2))∧w.ownsMap Tryz.prog 75 (plainElem (H:=Unit) Tryz.prog 3) B2 (8*n+32) (Af.Fa (Af.Eb n) (.map [])))
theorem VR(b c AU Bc n:Nat)(cs:Array Value)(Az:TypeId)(w:World)
 (hn:w.heap[b]? =some (.cells #[.int .i64 n] 3 (0,0)))(f:w.heap[c]? =some (.cells #[.pointer (some ⟨AU,Bc,none⟩)] 155 (0,0)))
 (d:w.heap[AU]? =some (.cells cs Az (0,0)))(h:Bc+3<cs.size)(i:b≠AU)(j:c≠AU)(k:1≤n)(l:n≤4096)
 (g:cs[Bc]? =some (.int .u32 0))(m:cs[Bc+1]? =some (.int .i32 0)):
 Calls Tryz.prog 101 #[.pointer (some ⟨AU,Bc,none⟩),.func (.func 102) #[] #[.pointer (some ⟨b,0,none⟩),.pointer (some ⟨c,0,none⟩)]] w fun e w'=>∃B2,e=.returned (.tuple #[])∧w.grownBy w' (some AU)∧w.heap.size≤B2∧
  w'.heap[AU]? =some (.cells (Hw cs Bc B2) Az (0,0))∧w'.ownsMap Tryz.prog 75 (plainElem (H:=Unit) Tryz.prog 3) B2 (8*n+32) (Af.Fa (Af.Eb n) (.map [])):=by
 have o:w.cell? ⟨AU,Bc,none⟩=some (.int .u32 0):=by rw[cell_of_row _ _ _ _ _ _ d];exact g
 have t:=run_call_load (P:=Tryz.prog) Nl (by kernel_rfl) (by kernel_rfl) (by kernel_rfl) .u32 (by kernel_rfl) (w:=w) (a:=⟨AU,Bc,none⟩) (x:=0) o
 have C:=S2 b c AU Bc n cs Az w hn f d h i j k l g m
 clear hn f d
 have u:∀(x:Bool) (w:World),(Op.unary .not (.bool x)).run Tryz.prog w=.ok (.bool (!x)) w:=fun _ _=>rfl
 go_enter Rt,Tryz.ntmps101
 go_wp2_with (first|(go_at_call 127;go_in)|(go_at_call 128;with_reducible refine C5 ?_))
 refine⟨C.mono ?_⟩
 rintro e v ⟨B2,rfl,p,q,r,s⟩
 go_wp2
 go_end0
 exact⟨B2,D,p,q,r,s⟩
theorem SF(AU Bc:Nat)(b:Value)(w:World)(c:w.cell? ⟨AU,Bc,none⟩=some (.int .u32 1)):
 Calls Tryz.prog 101 #[.pointer (some ⟨AU,Bc,none⟩),b] w fun e w'=>e=.returned (.tuple #[])∧w'=w:=by
 have d:=run_call_load (P:=Tryz.prog) Nl (by kernel_rfl) (by kernel_rfl) (by kernel_rfl) .u32 (by kernel_rfl) (w:=w) (a:=⟨AU,Bc,none⟩) (x:=1) c
 have f:∀(x:Bool) (w:World),(Op.unary .not (.bool x)).run Tryz.prog w=.ok (.bool (!x)) w:=fun _ _=>rfl
 go_enter Rt,Tryz.ntmps101
 go_wp2
 go_end0
 exact⟨D,D⟩
def GN(w w':World)(AU Bc n:Nat)(cs:Array Value)(Az:TypeId):Prop:=
 ∃a,w.grownBy w' (some AU)∧w'.heap[AU]? =some (.cells a Az (0,0))∧TabIs w' AU Bc n a∧a.size=cs.size∧∀j,j<Bc∨Bc+3<j→a[j]? =cs[j]?
theorem TabIs.kept(h:TabIs w AU Bc n cs)(d:∀k,k<w.heap.size→(∃es c,w.heap[k]? =some (.map es c))→W.heap[k]? =w.heap[k]?):TabIs W AU Bc n cs:=by
 refine⟨h.1,?_⟩
 rcases h.2 with a|⟨B2,a,e,b⟩
 ·exact .inl a
 ·have f:=b.lt
  have g:=b
  obtain⟨es,c,q,_⟩:=g
  exact .inr ⟨B2,a,e,Iv b (d B2 f ⟨es,c,q⟩)⟩
theorem TabIs.below(h:TabIs w AU Bc n cs)(b:Below w.heap.size w W):TabIs W AU Bc n cs:=h.kept fun k a _=>b.block k a
theorem GN.size{w':World}{Az:TypeId}(h:GN w w' AU Bc n cs Az):w.heap.size≤w'.heap.size:=by
 obtain⟨a,g,_⟩:=h
 exact g.size
theorem GN.below{w':World}{Az:TypeId}(h:GN w w' AU Bc n cs Az)(f:AU<w.heap.size)(b:Below w'.heap.size w' W):GN w W AU Bc n cs Az:=by
 obtain⟨a,g,c,d,e⟩:=h
 exact⟨a,Hy g b,(b.block AU (by have:=g.size;omega)).trans c,d.below b,e⟩
theorem GN.other{w':World}{k:Nat}{Az:TypeId}(h:GN w w' AU Bc n cs Az)(g:w'.grownBy W (some k))(a:w.heap.size≤k)(b:AU≠k)(d:∃c t,w'.heap[k]? =some (.cells c t (0,0))):GN w W AU Bc n cs Az:=by
 obtain⟨f,i,l,m,o⟩:=h
 obtain⟨c,t,p⟩:=d
 refine⟨f,MI i g a,Ag g l b,m.kept fun j q ⟨es,r,hm⟩=>g.block j q ?_,o⟩
 intro e
 cases e
 rw[p]at hm
 cases hm
def Ju(n d:Nat):Value:=match Af.last (Af.Eb n) d with|some j=>.tuple #[.int .i64 (j:Int),.bool true]|none=>.tuple #[.int .i64 0,.bool false]
theorem Wt{d B2:Nat}{c:Int}(a:(Af.Fa (Af.Eb n) (.map []:DataW Unit)).atKey (.int .u32 (d:Int)) (.lit (.int .i64 0))=.lit (.int .i64 c)):
 Value.tuple #[.int .i64 c,.bool (Maps.has (Af.Fa (Af.Eb n) (.map []:DataW Unit)) (.int .u32 (d:Int)))]=Ju n d:=by
 obtain⟨g,h⟩:=Af.look (H:=Unit) (Af.Eb n) d
 rw[h]at a
 rw[g]
 unfold Ju
 cases f:Af.last (Af.Eb n) d with
 |none=>
  rw[f]at a
  simp only at a
  injection a with e
  injection e with i b
  rw[b]
  rfl
 |some j=>
  rw[f]at a
  simp only at a
  injection a with e
  injection e with i b
  rw[←b]
  rfl
theorem find_spec(AU Bc n d:Nat)(cs:Array Value)(Az:TypeId)(w:World)(p:w.heap[AU]? =some (.cells cs Az (0,0)))(I:TabIs w AU Bc n cs)(J:1≤n)(K:n≤4096)(Ab:d<4294967296):
 Calls Tryz.prog 67 #[.pointer (some ⟨AU,Bc,none⟩),.int .i64 n,.int .u32 d] w fun e w'=>e=.returned (Ju n d)∧GN w w' AU Bc n cs Az:=by
 have R:AU<w.heap.size:=(Array.getElem?_eq_some_iff.1 p).1
 have S:∀(fn:Fn) (first cap:Array Value) (w:World),(Instr.makeFunc fn first cap).run Tryz.prog w=.ok (.func fn first cap) w:=fun _ _ _ _=>rfl
 have L:=Aw p
 clear p
 go_enter Wc,Tryz.ntmps67
 go_wp2_with (with_reducible refine KF 155 ?_)
 refine⟨KM D 155 (.tmp 0) D D ?_⟩
 intro i M r b1
 simp only[Value.cells]at r
 have y:=Aw r
 have T:w.heap.size+1≤i.heap.size:=by omega
 clear r M
 go_wp2_with (with_reducible refine KF 3 ?_)
 refine⟨KM D 3 (.tmp 1) D D ?_⟩
 intro a N s b2
 simp only[Value.cells]at s
 have z:=Aw s
 have k:Hid (a.heap[w.heap.size]? =some (.cells #[.pointer (some ⟨AU,Bc,none⟩)] 155 (0,0))):=Aw ((b2.block _ (by omega)).trans y.out)
 have l:Hid (a.heap[AU]? =some (.cells cs Az (0,0))):=Aw ((b2.block _ (by omega)).trans ((b1.block _ (by omega)).trans L.out))
 have A:w.grownBy a (some AU):=Hy (Hy (Ki w (some AU)) b1) b2
 have U:i.heap.size+1≤a.heap.size:=by omega
 clear s N
 have A7:a.cell? ⟨w.heap.size,0,none⟩=some (.pointer (some ⟨AU,Bc,none⟩)):=HU (j:=0) k.out D
 obtain⟨t,B⟩:=I
 have Ea:Calls Tryz.prog 101 #[.pointer (some ⟨AU,Bc,none⟩),.func (.func 102) #[] #[.pointer (some ⟨i.heap.size,0,none⟩),.pointer (some ⟨w.heap.size,0,none⟩)]] a fun e w'=>∃B2 b,e=.returned (.tuple #[])∧a.grownBy w' (some AU)∧
  w'.heap[AU]? =some (.cells b Az (0,0))∧b[Bc]? =some (.int .u32 1)∧b[Bc+3]? =some (.map (some B2))∧b.size=cs.size∧(∀j,j<Bc∨Bc+3<j→b[j]? =cs[j]?)∧w'.ownsMap Tryz.prog 75 (plainElem (H:=Unit) Tryz.prog 3) B2 (8*n+32) (Af.Fa (Af.Eb n) (.map [])):=by
  rcases B with⟨f,O⟩|⟨B2,f,h,m⟩
  ·refine(VR i.heap.size w.heap.size AU Bc n cs Az a z.out k.out l.out t (by omega) (by omega) J K f O).mono ?_
   rintro e w' ⟨B2,rfl,g,_,q,m⟩
   exact⟨B2,Hw cs Bc B2,D,g,q,SP _ _ _ t,Zc _ _ _ t,SD _ _ _,fun j V=>XV _ _ _ _ (by omega) (by omega) (by omega),m⟩
  ·refine(SF AU Bc _ a (by rw[cell_of_row _ _ _ _ _ _ l.out];exact f)).mono ?_
   rintro e w' ⟨rfl,rfl⟩
   have lm:=m.lt
   exact⟨B2,cs,D,Ki _ _,l.out,f,h,D,fun _ _=>rfl,Iv m ((b2.block _ (by omega)).trans (b1.block _ lm))⟩
 clear B
 go_wp2_with (first|(go_at_call 101;with_reducible refine C5 ?_))
 refine⟨Ea.mono ?_⟩
 rintro e o ⟨B2,b,rfl,u,v,f,h,C,E,F⟩
 clear A7
 have A7:o.cell? ⟨w.heap.size,0,none⟩=some (.pointer (some ⟨AU,Bc,none⟩)):=HU (j:=0) (Ag u k.out (by omega)) D
 have W:o.cell? ⟨AU,Bc+3,none⟩=some (.map (some B2)):=by rw[cell_of_row _ _ _ _ _ _ v];exact h
 have P:GN w o AU Bc n cs Az:=⟨b,Ij A u,v,⟨by omega,.inr ⟨B2,f,h,F⟩⟩,C,E⟩
 clear v f h C E u A l k z y
 go_wp2_with (first|go_skip|(with_reducible refine VO ?_))
 refine⟨wpList_lookup_own_ok_int (H:=Unit) o D (.tmp 19) (.tmp 20) 84 D 75 3 .i64 OA MM AH (YV _) B2 (8*n+32) _ D F (.int .u32 (d:Int)) (.int .u32 (d:Int)) D (keyOf_int_mk Ev (Oq Ab)) ?_⟩
 intro c G X
 have x:=Wt (B2:=B2) G
 clear G
 generalize Maps.has (Af.Fa (Af.Eb n) (.map []:DataW Unit)) (.int .u32 (d:Int))=A6 at x⊢
 have Q:=Aw x
 clear x
 go_wp2
 go_ret2
 exact⟨congrArg Ending.returned Q.out,P⟩
end Go.Proofs.YtcdaflcjhimimaaGreatDoor
namespace Go.Proofs.YtcdaflcjhimimaaGreatDoor
open Go.RowKit
set_option maxRecDepth 100000
set_option maxHeartbeats 1000000
theorem Ga{w:World}{b off n:Nat}{l:List UInt8}(h:Cells w b off (((bv l).drop (n*1)).take 1))(hn:n<l.length:=by omega):w.cell? ⟨b,off,none⟩=some (.int .u8 (l.getD n 0).toNat):=by
 have:=h 0 (.int .u8 (l.getD n 0).toNat) (by simp[bv,List.getElem?_drop,hn,List.getD_eq_getElem?_getD])
 simpa using this
theorem View.pre{w:World}{q:Option Addr}{n c:Nat}{l:List UInt8}(a:View w (.slice q n c) n 1 (bv l))(m:Nat)(hm:m≤n)(b:n≤l.length):View w (.slice q m c) m 1 (bv (l.take m)):=by
 have d:=a.cap
 have:=(a.PY m c (by omega) (Be _) (by simp[D_];omega)).trim
 rwa[List.take_take,Nat.mul_one,Nat.mul_one,Nat.min_eq_left (by omega),Hf]at this
theorem UQ(q:Option Addr)(m c:Nat)(l:List UInt8)(w:World)(a:View w (.slice q (m+4) c) (m+4) 1 (bv l))(h:l.length=m+4)
 (b:(l.getD (m+0) 0).toNat≠Af.sum (l.take m)/1 % 256):
 Calls Tryz.prog 63 #[.slice q (m+4) c] w fun e w'=>e=.returned (.bool false)∧Below w.heap.size w w':=by
 have hcap:=a.cap
 have B:=a.max
 have C:IntKind.i64.wrap (((m+4:Nat):Int) - 4)=(m:Int):=by
  rw[show((m+4:Nat):Int) - 4=(m:Int)by omega]
  exact IntWalk.i64_in _ (by omega)
 obtain⟨s,d⟩:∃s,s=Af.sum (l.take m):=⟨_,D⟩
 have s1:s<4294967296:=by rw[d];exact Af.GP _
 rw[←d]at b
 obtain⟨k,f⟩:∃g,g=(l.getD (m+0) 0).toNat:=⟨_,D⟩
 rw[←f]at b
 have o:=Aw f
 clear f
 have p:=Aw b
 clear b
 have r:=Aw d
 clear d
 have E:decide (((m:Nat):Int)<0)=false:=by simp
 have t:View w (.slice q m c) m 1 (bv (l.take m)):=a.pre m (by omega) (by omega)
 have u:=Aw h
 have F:m+4≤l.length:=by omega
 clear h
 go_enter Lf,Tryz.ntmps63
 go_wp2_with (with_reducible refine Gr ?_)
 refine⟨HK A0 D (.tmp 10) (.tmp 11) D (y:=q) (n:=m+4) (c:=c) D m D (by omega) ?_⟩
 go_wp2_with (first|(go_at_call 68;with_reducible refine C5 ?_))
 refine⟨(IN q m c (l.take m) w t (by rw[List.length_take,u.out];omega)).mono ?_⟩
 rintro e v ⟨rfl,i⟩
 rw[←r.out]
 have x:=a.below i
 go_wp2_with (first|go_skip|(with_reducible refine GX 28 ?_))
 refine⟨idx A0 D (.tmp 14) (.tmp 15) D (y:=q) (n:=m+4) (c:=c) D x D (m+0) (by simp) (by omega) ?_⟩
 intro z A j _
 have G:v.cell? ⟨z,A,none⟩=some (.int .u8 k):=by rw[o.out];exact Ga j
 clear j
 go_wp2_with (first|go_skip|(with_reducible refine Fx 5 ?_))
 refine⟨GZ D D D D false (by have:=p.out;simp;omega) ?_⟩
 go_wp2
 go_ret
 exact⟨D,i⟩
theorem XX(q:Option Addr)(m c:Nat)(l:List UInt8)(w:World)(a:View w (.slice q (m+4) c) (m+4) 1 (bv l))(j:l.length=m+4)
 (b:(l.getD (m+0) 0).toNat=Af.sum (l.take m)/1 % 256)(d:(l.getD (m+1) 0).toNat≠Af.sum (l.take m)/256 % 256):
 Calls Tryz.prog 63 #[.slice q (m+4) c] w fun e w'=>e=.returned (.bool false)∧Below w.heap.size w w':=by
 have hcap:=a.cap
 have J:=a.max
 have K:IntKind.i64.wrap (((m+4:Nat):Int) - 4)=(m:Int):=by
  rw[show((m+4:Nat):Int) - 4=(m:Int)by omega]
  exact IntWalk.i64_in _ (by omega)
 obtain⟨s,f⟩:∃s,s=Af.sum (l.take m):=⟨_,D⟩
 have s1:s<4294967296:=by rw[f];exact Af.GP _
 rw[←f]at b d
 obtain⟨u,h⟩:∃g,g=(l.getD (m+0) 0).toNat:=⟨_,D⟩
 rw[←h]at b
 have v:=Aw h
 clear h
 have x:=Aw b
 clear b
 obtain⟨z,i⟩:∃g,g=(l.getD (m+1) 0).toNat:=⟨_,D⟩
 rw[←i]at d
 have A:=Aw i
 clear i
 have B:=Aw d
 clear d
 have C:=Aw f
 clear f
 have L:decide (((m:Nat):Int)<0)=false:=by simp
 have E:View w (.slice q m c) m 1 (bv (l.take m)):=a.pre m (by omega) (by omega)
 have F:=Aw j
 have M:m+4≤l.length:=by omega
 clear j
 go_enter Lf,Tryz.ntmps63
 go_wp2_with (with_reducible refine Gr ?_)
 refine⟨HK A0 D (.tmp 10) (.tmp 11) D (y:=q) (n:=m+4) (c:=c) D m D (by omega) ?_⟩
 go_wp2_with (first|(go_at_call 68;with_reducible refine C5 ?_))
 refine⟨(IN q m c (l.take m) w E (by rw[List.length_take,F.out];omega)).mono ?_⟩
 rintro e k ⟨rfl,o⟩
 rw[←C.out]
 have p:=a.below o
 go_wp2_with (first|go_skip|(with_reducible refine GX 28 ?_))
 refine⟨idx A0 D (.tmp 14) (.tmp 15) D (y:=q) (n:=m+4) (c:=c) D p D (m+0) (by simp) (by omega) ?_⟩
 intro G H r _
 have N:k.cell? ⟨G,H,none⟩=some (.int .u8 u):=by rw[v.out];exact Ga r
 clear r
 go_wp2_with (first|go_skip|(with_reducible refine Fx 5 ?_))
 refine⟨GZ D D D D true (by have:=x.out;simp;omega) ?_⟩
 go_wp2_with (first|go_skip|(with_reducible refine IC 28 ?_))
 refine⟨idx A0 D (.tmp 22) (.tmp 24) D (y:=q) (n:=m+4) (c:=c) D p D (m+1) (by simp) (by omega) ?_⟩
 intro b1 I t _
 have O:k.cell? ⟨b1,I,none⟩=some (.int .u8 z):=by rw[A.out];exact Ga t
 clear t
 go_wp2_with (first|go_skip|(with_reducible refine IL 5 ?_))
 refine⟨GZ D D D D false (by have:=B.out;simp;omega) ?_⟩
 go_wp2
 go_ret
 exact⟨D,o⟩
theorem Yn(q:Option Addr)(m c:Nat)(l:List UInt8)(w:World)(a:View w (.slice q (m+4) c) (m+4) 1 (bv l))(r:l.length=m+4)
 (b:(l.getD (m+0) 0).toNat=Af.sum (l.take m)/1 % 256)(d:(l.getD (m+1) 0).toNat=Af.sum (l.take m)/256 % 256)(f:(l.getD (m+2) 0).toNat≠Af.sum (l.take m)/65536 % 256):
 Calls Tryz.prog 63 #[.slice q (m+4) c] w fun e w'=>e=.returned (.bool false)∧Below w.heap.size w w':=by
 have hcap:=a.cap
 have Q:=a.max
 have R:IntKind.i64.wrap (((m+4:Nat):Int) - 4)=(m:Int):=by
  rw[show((m+4:Nat):Int) - 4=(m:Int)by omega]
  exact IntWalk.i64_in _ (by omega)
 obtain⟨s,h⟩:∃s,s=Af.sum (l.take m):=⟨_,D⟩
 have s1:s<4294967296:=by rw[h];exact Af.GP _
 rw[←h]at b d f
 obtain⟨z,i⟩:∃g,g=(l.getD (m+0) 0).toNat:=⟨_,D⟩
 rw[←i]at b
 have A:=Aw i
 clear i
 have B:=Aw b
 clear b
 obtain⟨C,j⟩:∃g,g=(l.getD (m+1) 0).toNat:=⟨_,D⟩
 rw[←j]at d
 have E:=Aw j
 clear j
 have F:=Aw d
 clear d
 obtain⟨G,k⟩:∃g,g=(l.getD (m+2) 0).toNat:=⟨_,D⟩
 rw[←k]at f
 have H:=Aw k
 clear k
 have I:=Aw f
 clear f
 have J:=Aw h
 clear h
 have S:decide (((m:Nat):Int)<0)=false:=by simp
 have K:View w (.slice q m c) m 1 (bv (l.take m)):=a.pre m (by omega) (by omega)
 have L:=Aw r
 have T:m+4≤l.length:=by omega
 clear r
 go_enter Lf,Tryz.ntmps63
 go_wp2_with (with_reducible refine Gr ?_)
 refine⟨HK A0 D (.tmp 10) (.tmp 11) D (y:=q) (n:=m+4) (c:=c) D m D (by omega) ?_⟩
 go_wp2_with (first|(go_at_call 68;with_reducible refine C5 ?_))
 refine⟨(IN q m c (l.take m) w K (by rw[List.length_take,L.out];omega)).mono ?_⟩
 rintro e o ⟨rfl,t⟩
 rw[←J.out]
 have p:=a.below t
 go_wp2_with (first|go_skip|(with_reducible refine GX 28 ?_))
 refine⟨idx A0 D (.tmp 14) (.tmp 15) D (y:=q) (n:=m+4) (c:=c) D p D (m+0) (by simp) (by omega) ?_⟩
 intro M N u _
 have U:o.cell? ⟨M,N,none⟩=some (.int .u8 z):=by rw[A.out];exact Ga u
 clear u
 go_wp2_with (first|go_skip|(with_reducible refine Fx 5 ?_))
 refine⟨GZ D D D D true (by have:=B.out;simp;omega) ?_⟩
 go_wp2_with (first|go_skip|(with_reducible refine IC 28 ?_))
 refine⟨idx A0 D (.tmp 22) (.tmp 24) D (y:=q) (n:=m+4) (c:=c) D p D (m+1) (by simp) (by omega) ?_⟩
 intro b1 O v _
 have V:o.cell? ⟨b1,O,none⟩=some (.int .u8 C):=by rw[E.out];exact Ga v
 clear v
 go_wp2_with (first|go_skip|(with_reducible refine IL 5 ?_))
 refine⟨GZ D D D D true (by have:=F.out;simp;omega) ?_⟩
 go_wp2_with (first|go_skip|(with_reducible refine IC 28 ?_))
 refine⟨idx A0 D (.tmp 33) (.tmp 35) D (y:=q) (n:=m+4) (c:=c) D p D (m+2) (by simp) (by omega) ?_⟩
 intro b2 P x _
 have W:o.cell? ⟨b2,P,none⟩=some (.int .u8 G):=by rw[H.out];exact Ga x
 clear x
 go_wp2_with (first|go_skip|(with_reducible refine IL 5 ?_))
 refine⟨GZ D D D D false (by have:=I.out;simp;omega) ?_⟩
 go_wp2
 go_ret
 exact⟨D,t⟩
theorem TO(q:Option Addr)(m c:Nat)(l:List UInt8)(w:World)(a:View w (.slice q (m+4) c) (m+4) 1 (bv l))(u:l.length=m+4)
 (b:(l.getD (m+0) 0).toNat=Af.sum (l.take m)/1 % 256)(d:(l.getD (m+1) 0).toNat=Af.sum (l.take m)/256 % 256)(f:(l.getD (m+2) 0).toNat=Af.sum (l.take m)/65536 % 256)(h:(l.getD (m+3) 0).toNat≠Af.sum (l.take m)/16777216 % 256):
 Calls Tryz.prog 63 #[.slice q (m+4) c] w fun e w'=>e=.returned (.bool false)∧Below w.heap.size w w':=by
 have hcap:=a.cap
 have Y:=a.max
 have Z:IntKind.i64.wrap (((m+4:Nat):Int) - 4)=(m:Int):=by
  rw[show((m+4:Nat):Int) - 4=(m:Int)by omega]
  exact IntWalk.i64_in _ (by omega)
 obtain⟨s,i⟩:∃s,s=Af.sum (l.take m):=⟨_,D⟩
 have s1:s<4294967296:=by rw[i];exact Af.GP _
 rw[←i]at b d f h
 obtain⟨C,o⟩:∃g,g=(l.getD (m+0) 0).toNat:=⟨_,D⟩
 rw[←o]at b
 have E:=Aw o
 clear o
 have F:=Aw b
 clear b
 obtain⟨G,p⟩:∃g,g=(l.getD (m+1) 0).toNat:=⟨_,D⟩
 rw[←p]at d
 have H:=Aw p
 clear p
 have I:=Aw d
 clear d
 obtain⟨J,r⟩:∃g,g=(l.getD (m+2) 0).toNat:=⟨_,D⟩
 rw[←r]at f
 have K:=Aw r
 clear r
 have L:=Aw f
 clear f
 obtain⟨M,t⟩:∃g,g=(l.getD (m+3) 0).toNat:=⟨_,D⟩
 rw[←t]at h
 have N:=Aw t
 clear t
 have O:=Aw h
 clear h
 have P:=Aw i
 clear i
 have aa:decide (((m:Nat):Int)<0)=false:=by simp
 have Q:View w (.slice q m c) m 1 (bv (l.take m)):=a.pre m (by omega) (by omega)
 have R:=Aw u
 have ab:m+4≤l.length:=by omega
 clear u
 go_enter Lf,Tryz.ntmps63
 go_wp2_with (with_reducible refine Gr ?_)
 refine⟨HK A0 D (.tmp 10) (.tmp 11) D (y:=q) (n:=m+4) (c:=c) D m D (by omega) ?_⟩
 go_wp2_with (first|(go_at_call 68;with_reducible refine C5 ?_))
 refine⟨(IN q m c (l.take m) w Q (by rw[List.length_take,R.out];omega)).mono ?_⟩
 rintro e j ⟨rfl,v⟩
 rw[←P.out]
 have k:=a.below v
 go_wp2_with (first|go_skip|(with_reducible refine GX 28 ?_))
 refine⟨idx A0 D (.tmp 14) (.tmp 15) D (y:=q) (n:=m+4) (c:=c) D k D (m+0) (by simp) (by omega) ?_⟩
 intro S T x _
 have ad:j.cell? ⟨S,T,none⟩=some (.int .u8 C):=by rw[E.out];exact Ga x
 clear x
 go_wp2_with (first|go_skip|(with_reducible refine Fx 5 ?_))
 refine⟨GZ D D D D true (by have:=F.out;simp;omega) ?_⟩
 go_wp2_with (first|go_skip|(with_reducible refine IC 28 ?_))
 refine⟨idx A0 D (.tmp 22) (.tmp 24) D (y:=q) (n:=m+4) (c:=c) D k D (m+1) (by simp) (by omega) ?_⟩
 intro b1 U z _
 have ae:j.cell? ⟨b1,U,none⟩=some (.int .u8 G):=by rw[H.out];exact Ga z
 clear z
 go_wp2_with (first|go_skip|(with_reducible refine IL 5 ?_))
 refine⟨GZ D D D D true (by have:=I.out;simp;omega) ?_⟩
 go_wp2_with (first|go_skip|(with_reducible refine IC 28 ?_))
 refine⟨idx A0 D (.tmp 33) (.tmp 35) D (y:=q) (n:=m+4) (c:=c) D k D (m+2) (by simp) (by omega) ?_⟩
 intro b2 V A _
 have af:j.cell? ⟨b2,V,none⟩=some (.int .u8 J):=by rw[K.out];exact Ga A
 clear A
 go_wp2_with (first|go_skip|(with_reducible refine IL 5 ?_))
 refine⟨GZ D D D D true (by have:=L.out;simp;omega) ?_⟩
 go_wp2_with (first|go_skip|(with_reducible refine IC 28 ?_))
 refine⟨idx A0 D (.tmp 44) (.tmp 46) D (y:=q) (n:=m+4) (c:=c) D k D (m+3) (by simp) (by omega) ?_⟩
 intro W X B _
 have ag:j.cell? ⟨W,X,none⟩=some (.int .u8 M):=by rw[N.out];exact Ga B
 clear B
 go_wp2_with (first|go_skip|(with_reducible refine IL 5 ?_))
 refine⟨GZ D D D D false (by have:=O.out;simp;omega) ?_⟩
 go_wp2
 go_ret
 exact⟨D,v⟩
theorem V0(q:Option Addr)(m c:Nat)(l:List UInt8)(w:World)(a:View w (.slice q (m+4) c) (m+4) 1 (bv l))(u:l.length=m+4)
 (b:(l.getD (m+0) 0).toNat=Af.sum (l.take m)/1 % 256)(d:(l.getD (m+1) 0).toNat=Af.sum (l.take m)/256 % 256)(f:(l.getD (m+2) 0).toNat=Af.sum (l.take m)/65536 % 256)(h:(l.getD (m+3) 0).toNat=Af.sum (l.take m)/16777216 % 256):
 Calls Tryz.prog 63 #[.slice q (m+4) c] w fun e w'=>e=.returned (.bool true)∧Below w.heap.size w w':=by
 have hcap:=a.cap
 have Y:=a.max
 have Z:IntKind.i64.wrap (((m+4:Nat):Int) - 4)=(m:Int):=by
  rw[show((m+4:Nat):Int) - 4=(m:Int)by omega]
  exact IntWalk.i64_in _ (by omega)
 obtain⟨s,i⟩:∃s,s=Af.sum (l.take m):=⟨_,D⟩
 have s1:s<4294967296:=by rw[i];exact Af.GP _
 rw[←i]at b d f h
 obtain⟨C,o⟩:∃g,g=(l.getD (m+0) 0).toNat:=⟨_,D⟩
 rw[←o]at b
 have E:=Aw o
 clear o
 have F:=Aw b
 clear b
 obtain⟨G,p⟩:∃g,g=(l.getD (m+1) 0).toNat:=⟨_,D⟩
 rw[←p]at d
 have H:=Aw p
 clear p
 have I:=Aw d
 clear d
 obtain⟨J,r⟩:∃g,g=(l.getD (m+2) 0).toNat:=⟨_,D⟩
 rw[←r]at f
 have K:=Aw r
 clear r
 have L:=Aw f
 clear f
 obtain⟨M,t⟩:∃g,g=(l.getD (m+3) 0).toNat:=⟨_,D⟩
 rw[←t]at h
 have N:=Aw t
 clear t
 have O:=Aw h
 clear h
 have P:=Aw i
 clear i
 have aa:decide (((m:Nat):Int)<0)=false:=by simp
 have Q:View w (.slice q m c) m 1 (bv (l.take m)):=a.pre m (by omega) (by omega)
 have R:=Aw u
 have ab:m+4≤l.length:=by omega
 clear u
 go_enter Lf,Tryz.ntmps63
 go_wp2_with (with_reducible refine Gr ?_)
 refine⟨HK A0 D (.tmp 10) (.tmp 11) D (y:=q) (n:=m+4) (c:=c) D m D (by omega) ?_⟩
 go_wp2_with (first|(go_at_call 68;with_reducible refine C5 ?_))
 refine⟨(IN q m c (l.take m) w Q (by rw[List.length_take,R.out];omega)).mono ?_⟩
 rintro e j ⟨rfl,v⟩
 rw[←P.out]
 have k:=a.below v
 go_wp2_with (first|go_skip|(with_reducible refine GX 28 ?_))
 refine⟨idx A0 D (.tmp 14) (.tmp 15) D (y:=q) (n:=m+4) (c:=c) D k D (m+0) (by simp) (by omega) ?_⟩
 intro S T x _
 have ad:j.cell? ⟨S,T,none⟩=some (.int .u8 C):=by rw[E.out];exact Ga x
 clear x
 go_wp2_with (first|go_skip|(with_reducible refine Fx 5 ?_))
 refine⟨GZ D D D D true (by have:=F.out;simp;omega) ?_⟩
 go_wp2_with (first|go_skip|(with_reducible refine IC 28 ?_))
 refine⟨idx A0 D (.tmp 22) (.tmp 24) D (y:=q) (n:=m+4) (c:=c) D k D (m+1) (by simp) (by omega) ?_⟩
 intro b1 U z _
 have ae:j.cell? ⟨b1,U,none⟩=some (.int .u8 G):=by rw[H.out];exact Ga z
 clear z
 go_wp2_with (first|go_skip|(with_reducible refine IL 5 ?_))
 refine⟨GZ D D D D true (by have:=I.out;simp;omega) ?_⟩
 go_wp2_with (first|go_skip|(with_reducible refine IC 28 ?_))
 refine⟨idx A0 D (.tmp 33) (.tmp 35) D (y:=q) (n:=m+4) (c:=c) D k D (m+2) (by simp) (by omega) ?_⟩
 intro b2 V A _
 have af:j.cell? ⟨b2,V,none⟩=some (.int .u8 J):=by rw[K.out];exact Ga A
 clear A
 go_wp2_with (first|go_skip|(with_reducible refine IL 5 ?_))
 refine⟨GZ D D D D true (by have:=L.out;simp;omega) ?_⟩
 go_wp2_with (first|go_skip|(with_reducible refine IC 28 ?_))
 refine⟨idx A0 D (.tmp 44) (.tmp 46) D (y:=q) (n:=m+4) (c:=c) D k D (m+3) (by simp) (by omega) ?_⟩
 intro W X B _
 have ag:j.cell? ⟨W,X,none⟩=some (.int .u8 M):=by rw[N.out];exact Ga B
 clear B
 go_wp2_with (first|go_skip|(with_reducible refine IL 5 ?_))
 refine⟨GZ D D D D true (by have:=O.out;simp;omega) ?_⟩
 go_wp2
 go_ret
 exact⟨D,v⟩
theorem Jt(q:Option Addr)(m c:Nat)(l:List UInt8)(w:World)(b:View w (.slice q (m+4) c) (m+4) 1 (bv l))(d:l.length=m+4):
 Calls Tryz.prog 63 #[.slice q (m+4) c] w fun e w'=>e=.returned (.bool (decide (Af.Cj l m=0)))∧Below w.heap.size w w':=by
 have i:=Af.GP (l.take m)
 have j:=(l.getD m 0).toNat_lt
 have k:=(l.getD (m+1) 0).toNat_lt
 have n:=(l.getD (m+2) 0).toNat_lt
 have o:=(l.getD (m+3) 0).toNat_lt
 have key:Af.Cj l m=0↔Af.sum (l.take m)=(l.getD m 0).toNat+(l.getD (m+1) 0).toNat*256+(l.getD (m+2) 0).toNat*65536+(l.getD (m+3) 0).toNat*16777216:=by rw[Af.OL,Af.Na]
 by_cases a:(l.getD (m+0) 0).toNat=Af.sum (l.take m)/1 % 256
 ·by_cases f:(l.getD (m+1) 0).toNat=Af.sum (l.take m)/256 % 256
  ·by_cases g:(l.getD (m+2) 0).toNat=Af.sum (l.take m)/65536 % 256
   ·by_cases h:(l.getD (m+3) 0).toNat=Af.sum (l.take m)/16777216 % 256
    ·have:decide (Af.Cj l m=0)=true:=by simp only[decide_eq_true_eq,key];simp only[Nat.add_zero]at a;omega
     rw[this]
     exact V0 q m c l w b d a f g h
    ·have:decide (Af.Cj l m=0)=false:=by simp only[decide_eq_false_iff_not,key];omega
     rw[this]
     exact TO q m c l w b d a f g h
   ·have:decide (Af.Cj l m=0)=false:=by simp only[decide_eq_false_iff_not,key];omega
    rw[this]
    exact Yn q m c l w b d a f g
  ·have:decide (Af.Cj l m=0)=false:=by simp only[decide_eq_false_iff_not,key];omega
   rw[this]
   exact XX q m c l w b d a f
 ·have:decide (Af.Cj l m=0)=false:=by simp only[decide_eq_false_iff_not,key];simp only[Nat.add_zero]at a;omega
  rw[this]
  exact UQ q m c l w b d a
end Go.Proofs.YtcdaflcjhimimaaGreatDoor
