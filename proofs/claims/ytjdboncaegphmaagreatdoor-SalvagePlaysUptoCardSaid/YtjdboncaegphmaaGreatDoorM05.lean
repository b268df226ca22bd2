/- Laws and walks on the road to SalvagePlays (part M05). No conditions beyond each law's own. -/
import Derived.Maps.OwnOps
import Derived.RegionTactic
import Derived.BigRegion
import Derived.StillTailTactics
import Derived.Defers
import Derived.Laws.Pointers
import Derived.Laws.LoneSync
import Derived.RegionCalls
import Derived.ChangeAlike
import Derived.Test.YtjdboncaegphmaaGreatDoorM04
set_option linter.unusedVariables false
namespace Go.Proofs.YtjdboncaegphmaaGreatDoor
open Go.RowKit Go.Maps
set_option maxRecDepth 100000
set_option maxHeartbeats 2000000
variable {w wr:World} {k tb Al EI Ag:Nat} {Au:DataW Unit} {cs:Array Value} {T:TypeId} {CV:List Nat}
theorem Sq:Keyed Tryz.prog 105:=int_keyed Wz
theorem dO(w:World):(zeroValue 3).run Tryz.prog w=.ok (.int .i64 0) w:=AB
theorem X'(v:Int)(w:World):(Instr.buildSlice 29 1 #[(0,.int .u8 v)]).run Tryz.prog w=.ok (.slice (some ⟨w.heap.size,0,none⟩) 1 1) (w.alloc (.cells #[.int .u8 v] 5)):=AB
def Hr(l:List Nat):Array Value:=(l.map fun v:Nat=>Value.int .u32 (v:Int)).toArray
theorem V8(l:List Nat)(j v:Nat):(Hr l).setIfInBounds j (.int .u32 (v:Int))=Hr (l.set j v):=by
 unfold Hr;simp[List.map_set]
theorem Sr{d:Nat}(h:d<4294967296):(Lit.int .u32 (d:Int)).wf=true:=by
 have h1:IntKind.u32.min=0:=D;have a:IntKind.u32.max=4294967295:=D;simp only[Lit.wf,Kq,decide_eq_true_eq];omega
theorem Y3{d:Int}(a: -9223372036854775808≤d)(h:d≤9223372036854775807):(Lit.int .i64 d).wf=true:=by
 have h1:IntKind.i64.min= -9223372036854775808:=D;have b:IntKind.i64.max=9223372036854775807:=D;simp only[Lit.wf,Kq,decide_eq_true_eq];omega
theorem gk(n k v:Nat)(f:Nat→Nat):((List.range n).map f).set k v=(List.range n).map fun j=>if j=k then v else f j:=by
 apply Q2;intro i;rw[jz,ti,ti]
 by_cases e:k=i
 ·subst e
  by_cases h:k<n<;>simp[h]
 ·rw[if_neg e]
  by_cases h:i<n
  ·simp[h,Ne.symm e]
  ·simp[h]
theorem YH(n k v:Nat)(f g:Nat→Nat)(a:v=g k):(((List.range n).map fun j=>if j<k then g j else f j).set k v)=(List.range n).map fun j=>if j<k+1 then g j else f j:=by
 rw[gk];apply nv;intro j _
 by_cases e:j=k
 ·subst e;simp[a]
 ·rw[if_neg e]
  by_cases h:j<k
  ·rw[if_pos h,if_pos JY]
  ·rw[if_neg h,if_neg JY]
theorem Sk{a b:World}{row:Option Nat}(h:w.grownBy a row)(g:a.grownBy b (some k))(d:w.heap.size≤k):w.grownBy b row:=
 ⟨g.os.trans h.os,g.tape.trans h.tape,g.output.trans h.output,Eg h.size g.size,fun i V c=>(g.block i (by have:=h.size;omega) (fun e=>by cases e;omega)).trans (h.block i V c)⟩
theorem H_{a b:World}{row:Option Nat}(h:w.grownBy a row)(g:Below a.heap.size a b):w.grownBy b row:=
 ⟨g.os.trans h.os,g.tape.trans h.tape,g.output.trans h.output,Eg h.size g.size,fun i V c=>(g.block i (by have:=h.size;omega)).trans (h.block i V c)⟩
theorem Kb{w':World}{b n:Nat}{R:Value→Option (DataW Unit×List MemPlace)}{P:Program}{k:TypeId}(h:w.ownsMap P k R b n Au)(J:w'.heap[b]? =w.heap[b]?):w'.ownsMap P k R b n Au:=by
 obtain⟨es,clock,h1,a⟩:=h;exact⟨es,clock,J.trans h1,a⟩
structure Fk (w wr:World) (tb Al EI Ag:Nat) (cs:Array Value) (T:TypeId) (k:Nat) (Au:DataW Unit) (CV:List Nat):Prop where
 g:w.grownBy wr (some tb)
 J:wr.heap[tb]? =some (.cells cs T (0,0))
 m:wr.ownsMap Tryz.prog 105 (plainElem (H:=Unit) Tryz.prog 3) Al k Au
 z:wr.heap[EI]? =some (.cells #[.int .u8 0] 5 (0,0))
 d:wr.heap[Ag]? =some (.cells (Hr CV) 234 (0,0))
 u':tb<w.heap.size
 u3:w.heap.size≤Al
 u6:Al<EI
 vq:EI<Ag
 vM:Ag<wr.heap.size
theorem Fk.below{W:World}(h:Fk w wr tb Al EI Ag cs T k Au CV)(b:Below wr.heap.size wr W):Fk w W tb Al EI Ag cs T k Au CV:=by
 have a:=h.u';have h1:=h.u3;have c:=h.u6;have e:=h.vq;have n:=h.vM;exact⟨H_ h.g b,(b.block tb JY).trans h.J,Kb h.m (b.block Al JY),(b.block EI JY).trans h.z,(b.block Ag JY).trans h.d,a,h1,c,e,by have:=b.size;omega⟩
theorem Fk.VU{W:World}{a:List Nat}(h:Fk w wr tb Al EI Ag cs T k Au CV)(g:wr.grownBy W (some Ag))(Ad:W.heap[Ag]? =some (.cells (Hr a) 234 (0,0))):Fk w W tb Al EI Ag cs T k Au a:=by
 have b:=h.u';have h1:=h.u3;have c:=h.u6;have d:=h.vq;have l:=h.vM;exact⟨Sk h.g g JY,Bn g h.J JY,Kb h.m (g.block Al JY (by simp;omega)),Bn g h.z JY,Ad,b,h1,c,d,by have:=g.size;omega⟩
theorem Fk.put{W:World}{k':Nat}{a:DataW Unit}(h:Fk w wr tb Al EI Ag cs T k Au CV)(g:wr.grownBy W (some Al))(Ad:W.ownsMap Tryz.prog 105 (plainElem (H:=Unit) Tryz.prog 3) Al k' a):Fk w W tb Al EI Ag cs T k' a CV:=by
 have b:=h.u';have h1:=h.u3;have c:=h.u6;have e:=h.vq;have m:=h.vM;exact⟨Sk h.g g JY,Bn g h.J JY,Ad,Bn g h.z JY,Bn g h.d JY,b,h1,c,e,by have:=g.size;omega⟩
theorem Fk.zero(h:Fk w wr tb Al EI Ag cs T k Au CV):View wr (.slice (some ⟨EI,0,none⟩) 1 1) 1 1 (bv [0]):=by
 have a:=h.vq;have c:=h.vM;refine⟨by simp[bv],.inr ⟨EI,0,1,D,by simp[bv],Br _,JZ,JY,fun j u hj=>?_⟩⟩;rw[cell_of_row _ _ _ _ _ _ h.z];simpa[bv]using hj
theorem Fk.drew(h:Fk w wr tb Al EI Ag cs T k Au CV):Fk w wr.drew tb Al EI Ag cs T k Au CV:=
 ⟨⟨h.g.os,h.g.tape,h.g.output,h.g.size,h.g.block⟩,h.J,h.m,h.z,h.d,h.u',h.u3,h.u6,h.vq,h.vM⟩
theorem Fk.DB(h:Fk w wr tb Al EI Ag cs T k Au CV){b:Nat}{o:Obj}(J:w.heap[b]? =some o)(a:b≠tb):wr.heap[b]? =some o:=
 (h.g.block b (SR.1 J).1 (by simpa using a)).trans J
theorem dV(b:UInt8):At.sum [b]^^^At.sum [0]=At.steps 8 b.toNat:=by
 rw[At.TV,At.TV,At.MR,At.PG,At.MR,At.PG,At.N1,At.N1];have e:At.steps 8 (0:UInt8).toNat=0:=by rw[show(0:UInt8).toNat=0 from D,At.aC]
 rw[e,b',cA (At.steps 8 4294967295),au,au];rw[←au 4294967295,cA 4294967295 (At.steps 8 4294967295),au (At.steps 8 4294967295),j5,b',j5,b']
theorem gw(d:Nat)(h:d<4294967296):At.update d [0]^^^At.sum [0]=At.steps 8 d:=by
 unfold At.update;rw[At.ON (At.OI _ (At.O3 _)),At.ON h,At.TV,At.MR,At.PG,At.MR,At.PG];have e:(0:UInt8).toNat=0:=D;rw[e,b',b',At.N1];rw[au,au,cA 4294967295 (At.steps 8 4294967295^^^4294967295),au (At.steps 8 4294967295),j5,b',j5,b']
theorem fz(AW C tb Bi n:Nat)(cs:Array Value)(T:TypeId)(w:World)
 (W:w.heap[AW]? =some (.cells #[.int .i64 n] 3 (0,0)))(X:w.heap[C]? =some (.cells #[.pointer (some ⟨tb,Bi,none⟩)] 196 (0,0)))
 (t:w.heap[tb]? =some (.cells cs T (0,0)))(ab:Bi+3<cs.size)(ar:AW≠tb)(au:C≠tb)(h1:1≤n)(ba:n≤4096):
 Calls Tryz.prog 133 #[.pointer (some ⟨AW,0,none⟩),.pointer (some ⟨C,0,none⟩)] w fun e w'=>∃Al,e=.returned (.tuple #[])∧w.grownBy w' (some tb)∧w.heap.size≤Al∧
  w'.heap[tb]? =some (.cells (cs.setIfInBounds (Bi+3) (.map (some Al))) T (0,0))∧w'.ownsMap Tryz.prog 105 (plainElem (H:=Unit) Tryz.prog 3) Al (8*n+32) (At.Fa (At.EG n) (.map [])):=by
 have bb:∀(k:Int) (w:World),(Instr.makeMap 114 (some (.int .i64 k))).run Tryz.prog w=.ok (.map (some w.heap.size)) (w.alloc (.map #[] 0)):=fun _ _=>rfl;have Gm:=AX W;have av:=AX X;have aW:=AX t;have bc:AW<w.heap.size:=(SR.1 W).1;have lt:C<w.heap.size:=(SR.1 X).1;have bd:tb<w.heap.size:=(SR.1 t).1;have I:=IM (j:=0) W D;have Kk:=IM (j:=0) X D;have K:=IM (j:=Bi+3) (v:=cs[Bi+3]) t (by simp[ab]);have aX:=eM (j:=Bi+3) t;clear W X t
 go_enter Vj,Tryz.ntmps133
 go_wp2
 go_region
 obtain⟨a,E⟩:∃a,a=((w.setCell ⟨tb,Bi+3,none⟩ (.map (some w.heap.size))).alloc (.map #[] 0)).drew:=⟨_,D⟩
 rw[←E];have aw:a.heap.size=w.heap.size+1:=by rw[E];simp[World.drew]
 have ax:w.grownBy a (some tb):=by
  rw[E];have:=I2 (Ka w tb (Bi+3) (.map (some w.heap.size))) (World.grownBy_alloc _ (.map #[] 0) _);exact⟨this.os,this.tape,this.output,this.size,this.block⟩
 have ay:Hid (a.heap[tb]? =some (.cells (cs.setIfInBounds (Bi+3) (.map (some w.heap.size))) T (0,0))):=AX (by
  rw[E];exact(Below.heap_alloc _ _ _ (by simp;omega)).trans (K' aW.out _))
 have az:a.ownsMap Tryz.prog 105 (plainElem (H:=Unit) Tryz.prog 3) w.heap.size 0 (.map []):=by
  have:=World.ownsMap_made (w.setCell ⟨tb,Bi+3,none⟩ (.map (some w.heap.size))) Tryz.prog 105 (plainElem (H:=Unit) Tryz.prog 3);rw[World.size_setCell]at this;rw[E];exact this.drew
 clear E I Kk K aX;have bf:=AX aw;have s6:w.heap.size+1≤a.heap.size:=JY;clear aw
 go_wp2_with (first|go_skip|(with_reducible refine V2 29 ?_))
 refine⟨HK D D (v:=.int .u8 0) D (X' _ _) ?_⟩;intro aA ad h1 A;have L:View aA (.slice (some ⟨a.heap.size,0,none⟩) 1 1) 1 1 (bv [0]):=by
  refine⟨by simp[bv],.inr ⟨a.heap.size,0,1,D,by simp[bv],Br _,JZ,JY,fun j u hj=>?_⟩⟩;rw[cell_of_row _ _ _ _ _ _ h1];simpa[bv]using hj
 have H1:=AX h1;have aB:=AX ((A.block tb JY).trans ay.out);have aC:=Kb az (A.block w.heap.size JY);have aD:=H_ ax A;clear h1
 go_wp2_with (first|go_skip|(go_at_call 102;with_reducible refine C_ ?_))
 refine⟨(I4 _ 1 1 [0] aA L D).mono ?_⟩;rintro e aZ ⟨rfl,f⟩;obtain⟨no,Y⟩:∃no,no=At.sum [0]:=⟨_,D⟩
 rw[←Y];have aE:no<4294967296:=by rw[Y];exact At.G7 _
 have aF:=AX Y;clear Y;have H2:=AX ((f.block a.heap.size JY).trans H1.out);have aG:=AX ((f.block tb JY).trans aB.out);have M2:=Kb aC (f.block w.heap.size JY);have aH:=H_ aD f;have a0:=f.size
 go_wp2_with (first|go_skip|(with_reducible refine LX 234 ?_))
 refine⟨KE D 234 D (z:=.agg (Hr (List.replicate 8 0))) AB ?_⟩;intro a1 M h N;simp only[Value.cells]at h;obtain⟨EI,Z⟩:∃EI,EI=a.heap.size:=⟨_,D⟩
 obtain⟨Ag,aa⟩:∃Ag,Ag=aZ.heap.size:=⟨_,D⟩
 obtain⟨o,ae⟩:∃o,o=cs.setIfInBounds (Bi+3) (.map (some w.heap.size)):=⟨_,D⟩
 have BX:Fk w a1 tb w.heap.size EI Ag o T 0 (.map []) (List.replicate 8 0):=by
  subst Z;subst aa;subst ae;exact⟨H_ aH N,(N.block tb JY).trans aG.out,Kb M2 (N.block _ JY),(N.block a.heap.size JY).trans H2.out,h,JY,JY,JY,JY,JY⟩
 rw[←Z,←aa];clear h N M aH M2 aG H2 a0 f aD aC aB H1 L A ad ax az ay s6;have bg:=AX Z;have bh:=AX aa;have af:=AX ae;clear Z aa ae
 go_wp2
 go_loopw [20] (fun i wr=>∃k:Nat,k≤8∧i=.int .i64 k∧Fk w wr tb w.heap.size EI Ag o T 0 (.map []) ((List.range 8).map fun j=>if j<k then At.made 0 j else 0)) (fun i _=>8 - (intOf i).toNat)
 case atStart=>exact⟨0,JY,D,BX⟩
 case round=>
  obtain⟨k,ag,rfl,BK⟩:=hrel
  by_cases O:k<8
  ·go_wp2_with (first|go_skip|(with_reducible refine FM 5 ?_))
   obtain⟨p,aJ⟩:∃p,p=2^k:=⟨_,D⟩
   have bj:p<256:=by
    have:2^k≤2^7:=aI JZ JY;omega
   have aK:=AX aJ;clear aJ;refine⟨ZN D D (k:=k) D D O p aK.out.symm ?_⟩
   go_wp2_with (first|go_skip|(with_reducible refine V2 29 ?_))
   refine⟨HK D D (v:=.int .u8 (p:Int)) D (X' _ _) ?_⟩;intro Cd ad h1 A;have L:View Cd (.slice (some ⟨wr.heap.size,0,none⟩) 1 1) 1 1 (bv [UInt8.ofNat p]):=by
    refine⟨by simp[bv],.inr ⟨wr.heap.size,0,1,D,by simp[bv],Br _,JZ,JY,fun j u hj=>?_⟩⟩;rw[cell_of_row _ _ _ _ _ _ h1];have e:(UInt8.ofNat p).toNat=p:=by simp;omega
    simpa[bv,e]using hj
   have l:=BK.below A;clear h1 A ad
   go_wp2_with (first|go_skip|(go_at_call 102;with_reducible refine C_ ?_))
   refine⟨(I4 _ 1 1 [UInt8.ofNat p] Cd L D).mono ?_⟩;rintro e a2 ⟨rfl,f⟩;have r:=l.below f;clear f L l;obtain⟨x,s⟩:∃x,x=At.sum [UInt8.ofNat p]:=⟨_,D⟩
   rw[←s];have ah:x<4294967296:=by rw[s];exact At.G7 _
   obtain⟨y,B⟩:∃y,y=x^^^no:=⟨_,D⟩
   have ai:Hid (y=At.made 0 k):=AX (by
    rw[B,s,aF.out,dV];have e:(UInt8.ofNat p).toNat=p:=by simp;omega
    rw[e,aK.out];rfl)
   have aj:=AX B;clear s B
   go_wp2_with (first|go_skip|(with_reducible refine FM 105 ?_))
   refine⟨LW D D (p:=x) (q:=no) D D ah aE y aj.out.symm ?_⟩
   go_wp2_with (first|go_skip|(with_reducible refine HD 234 ?_))
   refine⟨Ri (size:=1) Il AB D (.tmp 4) (.tmp 23) D D (i:=(k:Int)) D k D O ?_⟩;rw[show 0+k*1=k by omega]
   go_wp2_with (first|go_skip|(with_reducible refine HV 105 ?_))
   refine⟨PS D 105 (.tmp 30) (.tmp 29) D (b:=Ag) (off:=k) (v:=.int .u32 (y:Int)) D r.d D D AB (by simp[Hr];omega) ?_⟩;intro a3 M h P;rw[V8,YH 8 k y _ _ ai.out]at h;have BX:=r.VU P h;clear h P M r BK
   go_wp2
   go_roundw
   case rel=>exact⟨k+1,JY,by go_num,BX⟩
   case measure=>simp[intOf];omega
  ·have Q:k=8:=JY;subst Q;have aL:Fk w wr tb w.heap.size EI Ag o T 0 (.map []) ((List.range 8).map (At.made 0)):=BK;clear BK O ag;have I:wr.cell? ⟨AW,0,none⟩=some (.int .i64 n):=IM (j:=0) (aL.DB Gm.out ar) D
   go_wp2
   obtain⟨aM,rfl⟩:∃aM:World,aM=wr:=⟨_,D⟩
   clear I
   go_loopw [6] (fun i wr=>∃(c:Nat) (v:Int),c≤n∧i=.int .i64 v∧Hid (v=(n:Int) - 1 - c)∧Fk w wr tb w.heap.size EI Ag o T (8*c) (At.Fa (At.rows n c) (.map [])) ((List.range 8).map (At.made c))) (fun i _=>(intOf i+1).toNat)
   case atStart=>exact⟨0,_,JY,D,AX (by simp),aL⟩
   case round=>
    obtain⟨c,v,t,rfl,F,BK⟩:=hrel
    by_cases O:c<n
    ·have v0:0≤v:=by have:=F.out;omega
     have v1:v≤4096:=by have:=F.out;omega
     obtain⟨aN,rfl⟩:∃aN:World,aN=wr:=⟨_,D⟩
     obtain⟨R,ak⟩:∃R,R=((List.range 8).map (At.made c)).map fun v:Nat=>Value.int .u32 (v:Int):=⟨_,D⟩
     have al:R.length=8:=by rw[ak];simp
     have aO:=AX ak;clear ak
     go_wp2_with (first|go_skip|(with_reducible refine Ys 234 ?_))
     refine⟨TC D 234 (.tmp 4) D (b:=Ag) (off:=0) D R (fun j u hj=>by
      rw[cell_of_row _ _ _ _ _ _ BK.d,IC];unfold Hr;rw[mT,←aO.out];exact hj) Il D (by rw[al];kernel_rfl) ?_⟩
     have bk:=AX al;clear al
     go_wp2
     go_loopw [39] (fun i wr=>∃k:Nat,k≤8∧i=.int .i64 k∧Fk w wr tb w.heap.size EI Ag o T (8*c+k) (At.Fa (At.rows n c++At.rowOf n c k) (.map [])) ((List.range 8).map fun j=>if j<k then At.made (c+1) j else At.made c j)) (fun i _=>8 - (intOf i).toNat)
     case atStart=>exact⟨0,JY,D,by simpa[At.rowOf]using BK⟩
     case round=>
      obtain⟨k,ag,rfl,BK⟩:=hrel
      by_cases S:k<8
      ·obtain⟨d,Ad⟩:∃d,d=At.made c k:=⟨_,D⟩
       have d1:d<4294967296:=by rw[Ad];exact At.h9 c k S
       have an:R.toArray[k]? =some (.int .u32 (d:Int)):=by
        rw[mT,aO.out,Ad];simp[S]
       have aP:=AX Ad;clear Ad
       go_wp2_with (first|go_skip|(with_reducible refine eH 234 ?_))
       refine⟨f' Il AB AB D (.tmp 38) (.tmp 39) D D (i:=(k:Int)) D k D S (.int .u32 (d:Int)) an ?_⟩;have Kk:wr.cell? ⟨C,0,none⟩=some (.pointer (some ⟨tb,Bi,none⟩)):=IM (j:=0) (BK.DB av.out au) D;have K:wr.cell? ⟨tb,Bi+3,none⟩=some (.map (some w.heap.size)):=by
        rw[cell_of_row _ _ _ _ _ _ BK.J,af.out];simp[ab]
       have bl:=AX an;clear an
       go_wp2_with (first|go_skip|(with_reducible refine aY ?_))
       have aQ:8*v+(k:Int)=((8*(n - 1 - c)+k:Nat):Int):=by have:=F.out;omega
       have a4:=AX aQ;clear aQ;refine⟨wpList_mapUpdate_own wr D (.tmp 46) (.tmp 47) (.tmp 51) 114 D 105 3 Sq oz (plainElem (H:=Unit) Tryz.prog 3) w.heap.size (8*c+k) _ D BK.m (by unfold maxLen;omega)
        (.int .u32 (d:Int)) (.int .i64 (8*v+(k:Int))) (.int .u32 (d:Int)) D D (keyOf_int_mk Wz (Sr d1)) (.lit (.int .i64 (8*v+(k:Int)))) [] (plainElem_int AF (Y3 JY JY)) ?_⟩
       intro Cd G U;have V:Cd.ownsMap Tryz.prog 105 (plainElem (H:=Unit) Tryz.prog 3) w.heap.size (8*c+(k+1)) (At.Fa (At.rows n c++At.rowOf n c (k+1)) (.map [])):=by
        rw[At.cY,←C9,At.XG,←a4.out,←aP.out];exact G
       have l:=BK.put U V;clear G V U Kk K BK
       go_wp2_with (first|go_skip|(go_at_call 134;with_reducible refine C_ ?_))
       refine⟨(V1 d _ 1 1 [0] Cd d1 l.zero D).mono ?_⟩;rintro e a2 ⟨rfl,f⟩;have r:=l.below f;clear f l;obtain⟨x,s⟩:∃x,x=At.update d [0]:=⟨_,D⟩
       rw[←s];have ah:x<4294967296:=by rw[s];exact At.O3 _
       obtain⟨y,B⟩:∃y,y=x^^^no:=⟨_,D⟩
       have ai:Hid (y=At.made (c+1) k):=AX (by rw[B,s,aF.out,gw _ d1,aP.out,At.gY]);have aj:=AX B;clear s B
       go_wp2_with (first|go_skip|(with_reducible refine FM 105 ?_))
       refine⟨LW D D (p:=x) (q:=no) D D ah aE y aj.out.symm ?_⟩
       go_wp2_with (first|go_skip|(with_reducible refine HD 234 ?_))
       refine⟨Ri (size:=1) Il AB D (.tmp 4) (.tmp 52) D D (i:=(k:Int)) D k D S ?_⟩;rw[show 0+k*1=k by omega]
       go_wp2_with (first|go_skip|(with_reducible refine HV 105 ?_))
       refine⟨PS D 105 (.tmp 58) (.tmp 57) D (b:=Ag) (off:=k) (v:=.int .u32 (y:Int)) D r.d D D AB (by simp[Hr];omega) ?_⟩;intro a3 M h P;rw[V8,YH 8 k y _ _ ai.out]at h;have BX:=r.VU P h;clear h P M r
       go_wp2
       go_roundw
       case rel=>exact⟨k+1,JY,by go_num,BX⟩
       case measure=>simp[intOf];omega
      ·have Q:k=8:=JY;subst Q;have a5:Fk w wr tb w.heap.size EI Ag o T (8*(c+1)) (At.Fa (At.rows n (c+1)) (.map [])) ((List.range 8).map (At.made (c+1))):=BK;clear BK
       go_wp2
       go_roundw
       case rel=>
        have a6:Hid (v - 1=(n:Int) - 1 - ((c+1:Nat):Int)):=AX (by have:=F.out;omega);have a7:c+1≤n:=JY
        (repeat apply Exists.intro);exact⟨⟨c+1,v - 1,a7,D,a6,a5⟩,D⟩
       case measure=>simp[intOf];omega
    ·have aR:c=n:=JY;have v0:v<0:=by have:=F.out;omega
     have bm:decide (0≤v)=false:=by simpa using v0
     rw[aR]at BK;clear F t O aR
     go_wp2
     obtain⟨aS,rfl⟩:∃aS:World,aS=wr:=⟨_,D⟩
     go_loopw [60] (fun i wr=>∃k:Nat,k≤32∧i=.int .i64 k∧Fk w wr tb w.heap.size EI Ag o T (8*n+k) (At.Fa (At.rows n n++At.tail n k) (.map [])) ((List.range 8).map (At.made n))) (fun i _=>32 - (intOf i).toNat)
     case atStart=>exact⟨0,JY,D,by simpa[At.tail]using BK⟩
     case round=>
      obtain⟨k,ag,rfl,BK⟩:=hrel
      by_cases S:k<32
      ·have Kk:wr.cell? ⟨C,0,none⟩=some (.pointer (some ⟨tb,Bi,none⟩)):=IM (j:=0) (BK.DB av.out au) D;have K:wr.cell? ⟨tb,Bi+3,none⟩=some (.map (some w.heap.size)):=by
        rw[cell_of_row _ _ _ _ _ _ BK.J,af.out];simp[ab]
       have I:wr.cell? ⟨AW,0,none⟩=some (.int .i64 n):=IM (j:=0) (BK.DB Gm.out ar) D
       go_wp2
       go_still_tail 10,AB
       have l:=BK.drew;change wpList _ _ _ _ _ wr.drew;generalize wr.drew=a8 at l⊢;have ao:IntKind.u32.wrap ((2:Int)^k)=((2^k:Nat):Int):=by
        have a9:2^k≤2^31:=aI JZ JY;have aT:∀q:Nat,q≤2^31→IntKind.u32.wrap (q:Int)=q:=fun q aT=>by rw[IntKind.wrap_u32'];omega
        rw[show((2:Int)^k)=((2^k:Nat):Int)by simp];exact aT _ a9
       have aU:IntKind.i64.wrap (8*(n:Int))=8*(n:Int):=IntWalk.i64_in _ JY;have aq:IntKind.i64.wrap (IntKind.i64.wrap (8*(n:Int))+(k:Int))=((8*n+k:Nat):Int):=by
        rw[aU,IntWalk.i64_in _ JY];omega
       have aV:2^k<4294967296:=by
        have:2^k≤2^31:=aI JZ JY;omega
       refine wpList_mapUpdate_own a8 D (.tmp 66) (.tmp 68) (.tmp 72) 114 D 105 3 Sq oz (plainElem (H:=Unit) Tryz.prog 3) w.heap.size (8*n+k) _ D l.m (by unfold maxLen;omega)
        (.int .u32 (IntKind.u32.wrap ((2:Int)^k))) (.int .i64 (IntKind.i64.wrap (IntKind.i64.wrap (8*(n:Int))+(k:Int)))) (.int .u32 (IntKind.u32.wrap ((2:Int)^k))) D D (keyOf_int_mk Tryz.underlying105 (by rw[ao];exact Sr aV)) (.lit (.int .i64 (IntKind.i64.wrap (IntKind.i64.wrap (8*(n:Int))+(k:Int))))) [] (plainElem_int Tryz.underlying3 (by rw[aq];exact Y3 JY JY)) ?_
       intro Cd G U;have V:Cd.ownsMap Tryz.prog 105 (plainElem (H:=Unit) Tryz.prog 3) w.heap.size (8*n+(k+1)) (At.Fa (At.rows n n++At.tail n (k+1)) (.map [])):=by
        rw[At.cE,←C9,At.XG];rw[ao,aq]at G;exact G
       have r:=l.put U V;clear G V U Kk K I BK l aU ao aq aV
       go_wp2
       go_roundw
       case rel=>
        have a_:k+1≤32:=JY;have a':Value.int .i64 ((k:Int)+1)=.int .i64 ((k+1:Nat):Int):=by go_num
        (repeat apply Exists.intro);exact⟨⟨k+1,a_,a',r⟩,D⟩
       case measure=>simp[intOf];omega
      ·have Q:k=32:=JY;subst Q
       go_wp2
       go_end0
       exact⟨w.heap.size,D,BK.g,Br _,by rw[←af.out];exact BK.J,BK.m⟩
end Go.Proofs.YtjdboncaegphmaaGreatDoor
namespace Go.Proofs.YtjdboncaegphmaaGreatDoor
open Go.RowKit
set_option maxRecDepth 100000
set_option maxHeartbeats 2000000
theorem Xk(w:World):(callFunc 195 #[]).run Tryz.prog w=.ok (.value (.tuple #[])) w:=run_call_mark0 Sw AB AB AB .disable AB w
theorem Y1(w:World):(callFunc 197 #[]).run Tryz.prog w=.ok (.value (.tuple #[])) w:=run_call_mark0 UE AB AB AB .enable AB w
theorem dy(a:Addr)(w:World):(callFunc 198 #[.pointer (some a)]).run Tryz.prog w=.ok (.value (.tuple #[])) w:=run_call_marked IN AB AB AB .acquire AB a w
theorem iv(a:Addr)(w:World):(callFunc 200 #[.pointer (some a)]).run Tryz.prog w=.ok (.value (.tuple #[])) w:=run_call_marked lE AB AB AB .releaseMerge AB a w
theorem fJ(a:Addr)(x:Value)(u:FrameMode)(w:World)(d:w.cell? a=some x)(f:w.frozen? a=false):
 CallsD Tryz.prog 176 #[.pointer (some a),.bool true] u w fun e H8 w'=>H8=u∧(e=.returned (.tuple #[])∧w'=w.drew.setCell a (.int .u32 1)):=by
 have b:w.drew.cell? a=some x:=by go_simp
 have c:w.drew.frozen? a=false:=by go_simp
 have g:=run_call_store (P:=Tryz.prog) RP AB AB AB AB (k:=.u32) (y:=1) b c
 go_enter_d Qn,Tryz.ntmps176
 go_wp2
 go_region_calls
 all_goals(go_end0;exact⟨D,D⟩)

theorem U3(a:Addr)(u:FrameMode)(w:World)(b:w.cell? a=some (.int .i32 1))(c:w.frozen? a=false):
 CallsD Tryz.prog 175 #[.pointer (some a)] u w fun e H8 w'=>H8=u∧(e=.returned (.tuple #[])∧w'=w.setCell a (.int .i32 0)):=by
 have Ad:=Xk;have he:=Y1;have hr:=iv;have d:=run_call_add (P:=Tryz.prog) kD AB AB AB .i32 AB (y:= -1) (s:=0) b c (by simp[go_sem];rfl);have f:=run_convert_to_unsafe (P:=Tryz.prog) (src:=287) (dst:=291) bn rE AB b
 go_enter_d ZL,Tryz.ntmps175
 go_wp2
 go_end0
 go_wp2
 go_end0
 exact⟨D,D⟩

theorem V9(a:Addr)(w:World)(b:w.cell? a=some (.int .i32 0))(c:w.frozen? a=false):
 Calls Tryz.prog 174 #[.pointer (some a)] w fun e w'=>e=.returned (.tuple #[])∧w'=w.setCell a (.int .i32 1):=by
 have Ad:=Xk;have he:=Y1;have f:=dy;have g:=run_call_cas_hit (P:=Tryz.prog) Ui AB AB AB .i32 AB (y:=1) b c;have d:(w.setCell a (.int .i32 1)).cell? a=some (.int .i32 1):=World.cell?_setCell_same w a _ b;have h:=run_convert_to_unsafe (P:=Tryz.prog) (src:=287) (dst:=291) bn rE AB d
 go_enter Sg,Tryz.ntmps174
 go_wp2
 first|go_end0|(simp only[Exit.inBlock,Exit.then];refine bodyPost_ret (results_none D _ _ _) D ?_)|refine bodyPost_ret (results_none D _ _ _) D ?_
 go_wp2
 go_end0
 exact⟨D,D⟩
end Go.Proofs.YtjdboncaegphmaaGreatDoor
namespace Go.Proofs.YtjdboncaegphmaaGreatDoor
open Go.RowKit Go.Maps
set_option maxRecDepth 100000
set_option maxHeartbeats 2000000
variable {n tb Bi:Nat} {w W:World} {cs:Array Value}
def H9(cs:Array Value)(Bi Al:Nat):Array Value:=(((cs.setIfInBounds (Bi+1) (.int .i32 1)).setIfInBounds (Bi+3) (.map (some Al))).setIfInBounds Bi (.int .u32 1)).setIfInBounds (Bi+1) (.int .i32 0)
theorem fZ(cs:Array Value)(Bi Al:Nat):(H9 cs Bi Al).size=cs.size:=by simp[H9]
theorem fI(cs:Array Value)(Bi Al:Nat)(h:Bi+3<cs.size):(H9 cs Bi Al)[Bi]? =some (.int .u32 1):=by
 simp[H9,show Bi<cs.size by omega]
theorem hv(cs:Array Value)(Bi Al:Nat)(h:Bi+3<cs.size):(H9 cs Bi Al)[Bi+3]? =some (.map (some Al)):=by
 simp[H9,h]
theorem aJ(cs:Array Value)(Bi Al j:Nat)(a:j≠Bi)(h1:j≠Bi+1)(b:j≠Bi+3):(H9 cs Bi Al)[j]? =cs[j]? :=by
 simp[H9,Ne.symm a,Ne.symm h1,Ne.symm b]
theorem fb(AW g tb Bi n:Nat)(cs:Array Value)(T:TypeId)(w:World)
 (j:w.heap[AW]? =some (.cells #[.int .i64 n] 3 (0,0)))(k:w.heap[g]? =some (.cells #[.pointer (some ⟨tb,Bi,none⟩)] 196 (0,0)))
 (c:w.heap[tb]? =some (.cells cs T (0,0)))(t:Bi+3<cs.size)(p:AW≠tb)(q:g≠tb)(h1:1≤n)(u:n≤4096)
 (l:cs[Bi]? =some (.int .u32 0))(v:cs[Bi+1]? =some (.int .i32 0)):
 Calls Tryz.prog 161 #[.pointer (some ⟨tb,Bi,none⟩),.func (.func 133) #[] #[.pointer (some ⟨AW,0,none⟩),.pointer (some ⟨g,0,none⟩)]] w fun e w'=>∃Al,e=.returned (.tuple #[])∧w.grownBy w' (some tb)∧w.heap.size≤Al∧
  w'.heap[tb]? =some (.cells (H9 cs Bi Al) T (0,0))∧w'.ownsMap Tryz.prog 105 (plainElem (H:=Unit) Tryz.prog 3) Al (8*n+32) (At.Fa (At.EG n) (.map [])):=by
 have L:AW<w.heap.size:=(SR.1 j).1;have lt:g<w.heap.size:=(SR.1 k).1;have M:tb<w.heap.size:=(SR.1 c).1;have N:w.cell? ⟨tb,Bi,none⟩=some (.int .u32 0):=by rw[cell_of_row _ _ _ _ _ _ c];exact l
 have y:w.cell? ⟨tb,Bi+1,none⟩=some (.int .i32 0):=by rw[cell_of_row _ _ _ _ _ _ c];exact v
 have f1:w.frozen? ⟨tb,Bi+1,none⟩=false:=frozen_of_row _ _ _ _ _ c;obtain⟨d,i⟩:∃d,d=w.setCell ⟨tb,Bi+1,none⟩ (.int .i32 1):=⟨_,D⟩
 have r:d.heap[tb]? =some (.cells (cs.setIfInBounds (Bi+1) (.int .i32 1)) T (0,0)):=by rw[i];exact K' c _
 have h:w.grownBy d (some tb):=by rw[i];exact Ka _ _ _ _
 have z:d.cell? ⟨tb,Bi,none⟩=some (.int .u32 0):=by rw[cell_of_row _ _ _ _ _ _ r];simp[l]
 have hl:=run_call_load (P:=Tryz.prog) Yq AB AB AB .u32 AB (w:=d) (a:=⟨tb,Bi,none⟩) (x:=0) z;have C:=fz AW g tb Bi n (cs.setIfInBounds (Bi+1) (.int .i32 1)) T d (Bn h j p) (Bn h k q) r (by simpa using t) p q h1 u;have A:=AX i;have O:=AX c;clear i c j k;have Q:∀(x:Bool) (w:World),(Op.unary .not (.bool x)).run Tryz.prog w=.ok (.bool (!x)) w:=fun _ _=>rfl
 go_enter_defers WW,Tryz.ntmps161
 go_wp2_with (go_at_call 174;with_reducible refine C_ ?_)
 refine⟨(V9 ⟨tb,Bi+1,none⟩ w y f1).mono ?_⟩;rintro e w' ⟨rfl,rfl⟩;rw[←A.out]
 go_wp2_with (first|(go_at_call 160;go_in)|(go_at_call 133;with_reducible refine C_ ?_))
 refine⟨C.mono ?_⟩;rintro e b ⟨Al,rfl,B,R,m,E⟩
 go_wp2
 refine leaves_cons (f:=176) (args:=#[.pointer (some ⟨tb,Bi,none⟩),.bool true]) (by simp) (by simp[go_sem]) ?_;have c2:b.cell? ⟨tb,Bi,none⟩=some (.int .u32 0):=by rw[cell_of_row _ _ _ _ _ _ m];simp[l]
 have f2:b.frozen? ⟨tb,Bi,none⟩=false:=frozen_of_row _ _ _ _ _ m;refine(fJ ⟨tb,Bi,none⟩ (.int .u32 0) .returning b c2 f2).mono ?_;rintro e H8 S ⟨rfl,rfl,rfl⟩;refine leaves_cons (f:=175) (args:=#[.pointer (some ⟨tb,Bi+1,none⟩)]) (by simp[settle]) (by simp[go_sem]) ?_;have o:(b.drew.setCell ⟨tb,Bi,none⟩ (.int .u32 1)).heap[tb]? =some (.cells (((cs.setIfInBounds (Bi+1) (.int .i32 1)).setIfInBounds (Bi+3) (.map (some Al))).setIfInBounds Bi (.int .u32 1)) T (0,0)):=K' (w:=b.drew) m _;have F:(b.drew.setCell ⟨tb,Bi,none⟩ (.int .u32 1)).cell? ⟨tb,Bi+1,none⟩=some (.int .i32 1):=by rw[cell_of_row _ _ _ _ _ _ o];simp[show Bi+1<cs.size by omega]
 have f3:(b.drew.setCell ⟨tb,Bi,none⟩ (.int .u32 1)).frozen? ⟨tb,Bi+1,none⟩=false:=frozen_of_row _ _ _ _ _ o;refine(U3 ⟨tb,Bi+1,none⟩ _ _ F f3).mono ?_;rintro e H8 U ⟨rfl,rfl,rfl⟩;have G:b.drew.grownBy (b.drew.setCell ⟨tb,Bi,none⟩ (.int .u32 1)) (some tb):=Ka _ _ _ _;have I:=Ka (b.drew.setCell ⟨tb,Bi,none⟩ (.int .u32 1)) tb (Bi+1) (.int .i32 0);have J:b.grownBy b.drew (some tb):=⟨D,D,D,Br _,fun _ _ _=>rfl⟩
 have s:Al≠tb:=by have:=h.size;omega
 have P:∃Al,w.grownBy ((b.drew.setCell ⟨tb,Bi,none⟩ (.int .u32 1)).setCell ⟨tb,Bi+1,none⟩ (.int .i32 0)) (some tb)∧w.heap.size≤Al∧
  ((b.drew.setCell ⟨tb,Bi,none⟩ (.int .u32 1)).setCell ⟨tb,Bi+1,none⟩ (.int .i32 0)).heap[tb]? =some (.cells (H9 cs Bi Al) T (0,0))∧((b.drew.setCell ⟨tb,Bi,none⟩ (.int .u32 1)).setCell ⟨tb,Bi+1,none⟩ (.int .i32 0)).ownsMap Tryz.prog 105 (plainElem (H:=Unit) Tryz.prog 3) Al (8*n+32) (At.Fa (At.EG n) (.map [])):=
  ⟨Al,I2 (I2 (I2 (I2 h B) J) G) I,by have:=h.size;omega,K' o _,Kb E ((Below.heap_setCell _ _ _ _ s).trans (Below.heap_setCell _ _ _ _ s))⟩
 obtain⟨K,EF,Ev,Kw,HQ⟩:=P;exact⟨_,results_none D _ _ _,K,D,EF,Ev,Kw,HQ⟩
def TabIs(w:World)(tb Bi n:Nat)(cs:Array Value):Prop:=
 Bi+3<cs.size∧((cs[Bi]? =some (.int .u32 0)∧cs[Bi+1]? =some (.int .i32 0))∨
  ∃Al,cs[Bi]? =some (.int .u32 1)∧cs[Bi+3]? =some (.map (some Al))∧w.ownsMap Tryz.prog 105 (plainElem (H:=Unit) Tryz.prog 3) Al (8*n+32) (At.Fa (At.EG n) (.map [])))
theorem db(AW b tb Bi n:Nat)(cs:Array Value)(T:TypeId)(w:World)
 (d:w.heap[AW]? =some (.cells #[.int .i64 n] 3 (0,0)))(f:w.heap[b]? =some (.cells #[.pointer (some ⟨tb,Bi,none⟩)] 196 (0,0)))
 (c:w.heap[tb]? =some (.cells cs T (0,0)))(h:Bi+3<cs.size)(i:AW≠tb)(j:b≠tb)(h1:1≤n)(k:n≤4096)
 (g:cs[Bi]? =some (.int .u32 0))(l:cs[Bi+1]? =some (.int .i32 0)):
 Calls Tryz.prog 132 #[.pointer (some ⟨tb,Bi,none⟩),.func (.func 133) #[] #[.pointer (some ⟨AW,0,none⟩),.pointer (some ⟨b,0,none⟩)]] w fun e w'=>∃Al,e=.returned (.tuple #[])∧w.grownBy w' (some tb)∧w.heap.size≤Al∧
  w'.heap[tb]? =some (.cells (H9 cs Bi Al) T (0,0))∧w'.ownsMap Tryz.prog 105 (plainElem (H:=Unit) Tryz.prog 3) Al (8*n+32) (At.Fa (At.EG n) (.map [])):=by
 have m:w.cell? ⟨tb,Bi,none⟩=some (.int .u32 0):=by rw[cell_of_row _ _ _ _ _ _ c];exact g
 have hl:=run_call_load (P:=Tryz.prog) Yq AB AB AB .u32 AB (w:=w) (a:=⟨tb,Bi,none⟩) (x:=0) m;have C:=fb AW b tb Bi n cs T w d f c h i j h1 k g l;clear d f c;have s:∀(x:Bool) (w:World),(Op.unary .not (.bool x)).run Tryz.prog w=.ok (.bool (!x)) w:=fun _ _=>rfl
 go_enter uB,Tryz.ntmps132
 go_wp2_with (first|(go_at_call 160;go_in)|(go_at_call 161;with_reducible refine C_ ?_))
 refine⟨C.mono ?_⟩;rintro e t ⟨Al,rfl,o,p,q,r⟩
 go_wp2
 go_end0
 exact⟨Al,D,o,p,q,r⟩
theorem eO(tb Bi:Nat)(b:Value)(w:World)(c:w.cell? ⟨tb,Bi,none⟩=some (.int .u32 1)):
 Calls Tryz.prog 132 #[.pointer (some ⟨tb,Bi,none⟩),b] w fun e w'=>e=.returned (.tuple #[])∧w'=w:=by
 have hl:=run_call_load (P:=Tryz.prog) Yq AB AB AB .u32 AB (w:=w) (a:=⟨tb,Bi,none⟩) (x:=1) c;have d:∀(x:Bool) (w:World),(Op.unary .not (.bool x)).run Tryz.prog w=.ok (.bool (!x)) w:=fun _ _=>rfl
 go_enter uB,Tryz.ntmps132
 go_wp2
 go_end0
 exact⟨D,D⟩
def Hm(w w':World)(tb Bi n:Nat)(cs:Array Value)(T:TypeId):Prop:=
 ∃a,w.grownBy w' (some tb)∧w'.heap[tb]? =some (.cells a T (0,0))∧TabIs w' tb Bi n a∧a.size=cs.size∧∀j,j<Bi∨Bi+3<j→a[j]? =cs[j]?
theorem TabIs.kept(h:TabIs w tb Bi n cs)(J:∀k,k<w.heap.size→(∃es c,w.heap[k]? =some (.map es c))→W.heap[k]? =w.heap[k]?):TabIs W tb Bi n cs:=by
 refine⟨h.1,?_⟩
 rcases h.2 with h1|⟨Al,h1,b,a⟩
 ·exact .inl h1
 ·have hl:=a.lt;have d:=a;obtain⟨es,c,q,_⟩:=d;exact .inr ⟨Al,h1,b,Kb a (J Al hl ⟨es,c,q⟩)⟩
theorem TabIs.below(h:TabIs w tb Bi n cs)(b:Below w.heap.size w W):TabIs W tb Bi n cs:=h.kept fun k a _=>b.block k a
theorem Hm.size{w':World}{T:TypeId}(h:Hm w w' tb Bi n cs T):w.heap.size≤w'.heap.size:=by
 obtain⟨a,g,_⟩:=h;exact g.size
theorem Hm.below{w':World}{T:TypeId}(h:Hm w w' tb Bi n cs T)(hl:tb<w.heap.size)(b:Below w'.heap.size w' W):Hm w W tb Bi n cs T:=by
 obtain⟨a,g,h1,c,d⟩:=h;exact⟨a,H_ g b,(b.block tb (by have:=g.size;omega)).trans h1,c.below b,d⟩
theorem Hm.other{w':World}{k:Nat}{T:TypeId}(h:Hm w w' tb Bi n cs T)(g:w'.grownBy W (some k))(a:w.heap.size≤k)(b:tb≠k)(d:∃c t,w'.heap[k]? =some (.cells c t (0,0))):Hm w W tb Bi n cs T:=by
 obtain⟨f,i,h1,l,m⟩:=h;obtain⟨c,t,hr⟩:=d;refine⟨f,Sk i g a,Bn g h1 b,l.kept fun j hj ⟨es,As,hm⟩=>g.block j hj ?_,m⟩;intro e;cases e;rw[hr]at hm;cases hm
def Mc(n d:Nat):Value:=match At.last (At.EG n) d with|some j=>.tuple #[.int .i64 (j:Int),.bool true]|none=>.tuple #[.int .i64 0,.bool false]
theorem a_{d Al:Nat}{c:Int}(a:(At.Fa (At.EG n) (.map []:DataW Unit)).atKey (.int .u32 (d:Int)) (.lit (.int .i64 0))=.lit (.int .i64 c)):
 Value.tuple #[.int .i64 c,.bool (Maps.has (At.Fa (At.EG n) (.map []:DataW Unit)) (.int .u32 (d:Int)))]=Mc n d:=by
 obtain⟨h1,f⟩:=At.look (H:=Unit) (At.EG n) d;rw[f]at a;rw[h1];unfold Mc;cases hl:At.last (At.EG n) d with
 |none=>
  rw[hl]at a;simp only at a;injection a with e
  injection e with g b
  rw[b];rfl
 |some j=>
  rw[hl]at a;simp only at a;injection a with e
  injection e with g b
  rw[←b];rfl
theorem find_spec(tb Bi n d:Nat)(cs:Array Value)(T:TypeId)(w:World)(r:w.heap[tb]? =some (.cells cs T (0,0)))(K:TabIs w tb Bi n cs)(h1:1≤n)(L:n≤4096)(Ad:d<4294967296):
 Calls Tryz.prog 101 #[.pointer (some ⟨tb,Bi,none⟩),.int .i64 n,.int .u32 d] w fun e w'=>e=.returned (Mc n d)∧Hm w w' tb Bi n cs T:=by
 have S:tb<w.heap.size:=(SR.1 r).1;have U:∀(fn:Fn) (first cap:Array Value) (w:World),(Instr.makeFunc fn first cap).run Tryz.prog w=.ok (.func fn first cap) w:=fun _ _ _ _=>rfl;have M:=AX r;clear r
 go_enter g3,Tryz.ntmps101
 go_wp2_with (with_reducible refine OP 196 ?_)
 refine⟨Ob D 196 (.tmp 0) D D ?_⟩;intro i N s t;simp only[Value.cells]at s;have z:=AX s;have V:w.heap.size+1≤i.heap.size:=JY;clear s N
 go_wp2_with (with_reducible refine OP 3 ?_)
 refine⟨Ob D 3 (.tmp 1) D D ?_⟩;intro a O u k;simp only[Value.cells]at u;have A:=AX u;have l:Hid (a.heap[w.heap.size]? =some (.cells #[.pointer (some ⟨tb,Bi,none⟩)] 196 (0,0))):=AX ((k.block _ JY).trans z.out);have o:Hid (a.heap[tb]? =some (.cells cs T (0,0))):=AX ((k.block _ JY).trans ((t.block _ JY).trans M.out));have B:w.grownBy a (some tb):=H_ (H_ (NG w (some tb)) t) k;have W:i.heap.size+1≤a.heap.size:=JY;clear u O;have Kk:a.cell? ⟨w.heap.size,0,none⟩=some (.pointer (some ⟨tb,Bi,none⟩)):=IM (j:=0) l.out D;obtain⟨v,C⟩:=K;have Au:Calls Tryz.prog 132 #[.pointer (some ⟨tb,Bi,none⟩),.func (.func 133) #[] #[.pointer (some ⟨i.heap.size,0,none⟩),.pointer (some ⟨w.heap.size,0,none⟩)]] a fun e w'=>∃Al b,e=.returned (.tuple #[])∧a.grownBy w' (some tb)∧
  w'.heap[tb]? =some (.cells b T (0,0))∧b[Bi]? =some (.int .u32 1)∧b[Bi+3]? =some (.map (some Al))∧b.size=cs.size∧(∀j,j<Bi∨Bi+3<j→b[j]? =cs[j]?)∧w'.ownsMap Tryz.prog 105 (plainElem (H:=Unit) Tryz.prog 3) Al (8*n+32) (At.Fa (At.EG n) (.map [])):=by
  rcases C with⟨f,P⟩|⟨Al,f,h,m⟩
  ·refine(db i.heap.size w.heap.size tb Bi n cs T a A.out l.out o.out v JY JY h1 L f P).mono ?_;rintro e w' ⟨Al,rfl,g,_,q,m⟩;exact⟨Al,H9 cs Bi Al,D,g,q,fI _ _ _ v,hv _ _ _ v,fZ _ _ _,fun j hj=>aJ _ _ _ _ JY JY JY,m⟩
  ·refine(eO tb Bi _ a (by rw[cell_of_row _ _ _ _ _ _ o.out];exact f)).mono ?_;rintro e w' ⟨rfl,rfl⟩;have lm:=m.lt;exact⟨Al,cs,D,NG _ _,o.out,f,h,D,fun _ _=>rfl,Kb m ((k.block _ JY).trans (t.block _ lm))⟩
 clear C
 go_wp2_with (first|(go_at_call 132;with_reducible refine C_ ?_))
 refine⟨Au.mono ?_⟩;rintro e p ⟨Al,b,rfl,x,y,f,h,E,G,I⟩;clear Kk;have Kk:p.cell? ⟨w.heap.size,0,none⟩=some (.pointer (some ⟨tb,Bi,none⟩)):=IM (j:=0) (Bn x l.out JY) D;have X:p.cell? ⟨tb,Bi+3,none⟩=some (.map (some Al)):=by rw[cell_of_row _ _ _ _ _ _ y];exact h
 have Q:Hm w p tb Bi n cs T:=⟨b,I2 B x,y,⟨JY,.inr ⟨Al,f,h,I⟩⟩,E,G⟩
 clear y f h E G x B o l A z
 go_wp2_with (first|go_skip|(with_reducible refine gy ?_))
 refine⟨wpList_lookup_own_ok_int (H:=Unit) p D (.tmp 19) (.tmp 20) 114 D 105 3 .i64 Sq oz AF (dO _) Al (8*n+32) _ D I (.int .u32 (d:Int)) (.int .u32 (d:Int)) D (keyOf_int_mk Wz (Sr Ad)) ?_⟩;intro c J Y;have F:=a_ (Al:=Al) J;clear J;generalize Maps.has (At.Fa (At.EG n) (.map []:DataW Unit)) (.int .u32 (d:Int))=AK at F⊢;have R:=AX F;clear F
 go_wp2
 go_ret2
 exact⟨congrArg Ending.returned R.out,Q⟩
