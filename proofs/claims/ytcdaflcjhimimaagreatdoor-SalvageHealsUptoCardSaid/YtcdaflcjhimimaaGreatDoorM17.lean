/- Laws and walks on the road to SalvageNever and SalvageHeals (part M17). No conditions beyond each law's own. -/
import Derived.Test.YtcdaflcjhimimaaGreatDoorM01
import Derived.Test.YtcdaflcjhimimaaGreatDoorM16
import Derived.Test.YtcdaflcjhimimaaGreatDoorM04
import Derived.Test.YtcdaflcjhimimaaGreatDoorM07
import Derived.Test.YtcdaflcjhimimaaGreatDoorM05
import Derived.Test.YtcdaflcjhimimaaGreatDoorM14
set_option linter.unusedVariables false
namespace Go.Proofs.YtcdaflcjhimimaaGreatDoor
open Go.RowKit
set_option maxRecDepth 100000
set_option maxHeartbeats 1000000
theorem Qi(l:List UInt8)(k:Nat):l++List.replicate k 0++[0]=l++List.replicate (k+1) 0:=by rw[List.append_assoc,←List.replicate_succ']
theorem YB{wd first Ak:Nat}{q:Option Addr}{n c:Nat}{DQ:List EN}{w:World}(aU:CT w)(bc:first≤4294967296)(hn:n≤100000000)(ck:Ak≤1000000000)(aX:View w (.slice q n c) n 1 (Al IP DQ))(bd:DQ.length=n)(bf:∀x∈DQ,EN.ok w x)(bg:Ii (DQ.map (fun x=>A7 x.L))):
 Calls Tryz.prog 14 #[E wd,E first,F q n c,E Ak] w fun e w'=>(∃L:List UInt8,∃mark:Nat,mark=(Dm (DQ.map (fun x=>A7 x.L))).2.2∧2≤mark∧((¬(mark≤Ak∧3≤Ak∧Ak≤4096)∧e=.returned (.slice none 0 0))∨((mark≤Ak∧3≤Ak∧Ak≤4096)∧HR L mark∧∃p k,e=.returned (.slice p (256*Ak) k)∧w'.ownsRow w.heap.size 5 1 (.slice p (256*Ak) k) (256*Ak) (bv (GK wd (1+n) mark (Dm ((DQ.map (fun x=>A7 x.L)).take (n - 1))).2.2 Ak L++List.replicate (256*(Ak - mark)) 0)))))∧Below w.heap.size w w':=by
 have d:Below w.heap.size w w:=Bu _ _
 refine Bx MS D 100 ?_
 refine K<|N<|O D<|M<|G<|K<|N<|I D<|I D<|I D<|AS Oj D (O8 (DQ:=DQ) aU bc (by omega) aX bd (fun x aY=>(bf x aY).below d) bg) ?_
 rintro _ bK ⟨r,s,b,z,rfl,f,bh,aC,cl,bL⟩
 refine⟨_,D,?_⟩
 have aD:w.heap.size≤w.heap.size:=d.size
 have d:=Ah d bL
 have f:=CB f aD
 refine I D<|BC D D<|BC D D<|O D<|O D<|M<|G<|K<|K<|N<|I D<|I D<|?_
 by_cases bj:((Ak:Nat):Int)<((b:Nat):Int)
 ·
  refine Gp bj D D<|I D<|Ae D D D D<|Ae D D D D<|Bn D D<|I D<|Ae D D D D<|Ae D D D D<|Bn D D<|M<|G<|BS D<|K<|N<|O D<|M<|G<|AA<|AX<|AZ D<|?_
  exact⟨⟨z,b,aC,by omega,.inl ⟨by omega,D⟩⟩,d⟩
 ·
  refine FV bj D D<|I D<|Ad D D D<|I D<|?_
  by_cases bk:((Ak:Nat):Int)<((3:Nat):Int)
  ·
   refine Ad D D D<|D8 bk D D<|Ba D D<|I D<|Ae D D D D<|Ae D D D D<|Bn D D<|M<|G<|BS D<|K<|N<|O D<|M<|G<|AA<|AX<|AZ D<|?_
   exact⟨⟨z,b,aC,by omega,.inl ⟨by omega,D⟩⟩,d⟩
  ·
   refine Ad D D D<|DO bk D D<|Ba D D<|I D<|Ad D D D<|I D<|?_
   by_cases bl:((4096:Nat):Int)<((Ak:Nat):Int)
   ·
    refine Ad D D D<|Gp bl D D<|Ba D D<|M<|G<|BS D<|K<|N<|O D<|M<|G<|AA<|AX<|AZ D<|?_
    exact⟨⟨z,b,aC,by omega,.inl ⟨by omega,D⟩⟩,d⟩
   ·
    refine Ad D D D<|FV bl D D<|Ba D D<|M<|G<|BE D<|AE<|G<|K<|N<|O (v:=(E 2)) D<|M<|G<|?_
    intro a m
    refine ES (fun a W=>∃Dt,Ao 100 a (Ja (Ja (Ja (Ja (Ja (Ja (Ja (Ja Je 0 (E wd)) 1 (E first)) 2 (F q n c)) 3 (E Ak)) 8 (F none 0 0)) 9 (F r (256*(b - 2)) s)) 10 (E b)) 11 (E Dt))∧Dt=(Dm ((DQ.map (fun x=>A7 x.L)).take (n - 1))).2.2∧Below w.heap.size w W∧W.ownsRow w.heap.size 5 1 (.slice r (256*(b - 2)) s) (256*(b - 2)) (bv z)) ?_ ?_
    ·
     revert a
     refine K<|N<|I D<|BY HT D<|Ip (q:=(0:Nat)) D D<|M<|G<|Bl D (fun bM=>?_) fun bM=>?_
     ·
      refine N<|I D<|I D<|I D<|I D<|BY HT D<|E' (q:=1) D D<|?_
      have hcap:=(aX.below d).cap
      have bm:=Kl aX (n - 1)
      rw[KQ Kn]at bm
      have bN:(DQ.take (n - 1)).length=n - 1:=by have:=bd;simp only[List.length_take];omega
      refine AT (fun _ m=>IW m I3 D (n - 1) (k:=.i64) D)<|AS Oj D (O8 (DQ:=(DQ.take (n - 1))) (aU.below d (Be _)) bc (by omega) (bm.below d) bN (fun x aY=>(bf x (List.mem_of_mem_take aY)).below d) (by rw[List.map_take];exact bg.take _)) ?_
      rintro _ cm ⟨bO,bP,bQ,cn,rfl,bR,cp,bS,cq,bn⟩
      refine⟨_,D,?_⟩
      have aM:=f.lt
      have aD:w.heap.size≤bK.heap.size:=d.size
      have f:=V f bn
      have d:=Ah d bn
      have cr:Ap (F bO (256*(bQ - 2)) bP) (F r (256*(b - 2)) s):=fun k g e=>by have:=(bR.lt k g).1;have:=(aM k e).2;omega
      refine I D<|BC D D<|BC D D<|O D<|M<|G<|?_
      intro a m
      exact⟨_,At m,by rw[bS,List.map_take],d,f⟩
     ·
      refine AE<|G<|?_
      intro a m
      exact⟨_,At m,by rw[show n - 1=0 by omega];rfl,d,f⟩
    ·
     rintro a ct ⟨Dt,m,aV,d,f⟩
     revert a
     refine K<|N<|I D<|BY HT D<|A_ (p:=1) D D<|O D<|M<|G<|K<|?_
     have cu:Dt≤b:=by rw[aV,aC];exact QI _ _
     have cv:2≤Dt:=by rw[aV];exact M8 _
     refine N<|I D<|I D<|I D<|I D<|AT (fun _ m=>CE m (Bf:=[(0,(E wd)),(1,(E (1+n))),(2,(E b)),(4,(E Ak))]) D (v:=Value.agg (flat [[E wd],[E (1+n)],[E b],[E 0],[E Ak]])) (run_build _ _ _ _ (by kernel_rfl)))<|BQ [[E 0],[E 0],[E 0],[E 0],[E 0]] ?_
     intro t cw aE an bT u
     have cx:=Bg d aE
     have Y:=BM f aE
     have f:=V f u
     have d:=Ah d u
     refine Bi 0 5 bT D D ?_
     intro cy an h bo
     have f:=Ax f bo Y
     have d:=A1 d bo
     refine M<|G<|K<|N<|I D<|I D<|E' (q:=1) D D<|I D<|I D<|AT (fun _ m=>CE m (Bf:=[(0,(E wd)),(1,(E ((1+n) - 1))),(2,(E Dt)),(4,(E Ak))]) D (v:=Value.agg (flat [[E wd],[E ((1+n) - 1)],[E Dt],[E 0],[E Ak]])) (run_build _ _ _ _ (by kernel_rfl)))<|BQ [[E 0],[E 0],[E 0],[E 0],[E 0]] ?_
     intro y cz aE an i u
     have cA:=Bg d aE
     have aa:=BM f aE
     have cB:=AP h aE
     have f:=V f u
     have h:=Q h u
     have d:=Ah d u
     refine Bi 0 5 i D D ?_
     intro cC an bU aZ
     have f:=Ax f aZ aa
     have h:=Ag aZ h (by omega)
     have d:=A1 d aZ
     have i:=bU
     refine M<|G<|?_
     intro a m
     refine ES (fun a W=>∃J,Ao 100 a (Ja (Ja (Ja (Ja (Ja (Ja (Ja (Ja Je 3 (E Ak)) 8 (F none 0 0)) 9 (F r (256*(b - 2)) s)) 10 (E b)) 11 (E Dt)) 12 (E (1+n))) 13 (AB t)) 14 (AB y))∧J=GA b∧J≤b∧Below w.heap.size w W∧W.ownsRow w.heap.size 5 1 (.slice r (256*(b - 2)) s) (256*(b - 2)) (bv z)∧Z (F r (256*(b - 2)) s) t∧Ai W t [[E wd],[E (1+n)],[E b],[E J],[E Ak]] 59∧Z (F r (256*(b - 2)) s) y∧Ai W y [[E wd],[E ((1+n) - 1)],[E Dt],[E 0],[E Ak]] 59) ?_ ?_
     ·
      revert a
      refine K<|N<|I D<|Ip (q:=(2:Nat)) D D<|M<|G<|Bl D (fun bV=>?_) fun bV=>?_
      ·
       refine N<|I D<|E' (q:=1) D D<|Am Bw 3 D<|C_ 3 h D D ?_
       intro cD an bW a0
       have f:=Ax f a0 Y
       have i:=Ag a0 i (by omega)
       have d:=A1 d a0
       refine M<|G<|?_
       intro a m
       exact⟨_,At m,(by unfold GA;split<;>omega),by omega,d,f,T Y,bW,T aa,i⟩
      ·
       refine AE<|G<|?_
       intro a m
       exact⟨_,At m,(by unfold GA;split<;>omega),by omega,d,f,T Y,h,T aa,i⟩
     ·
      rintro a cE ⟨J,m,bp,cF,d,f,Y,h,aa,i⟩
      refine ES (fun a W=>∃S,Ao 100 a (Ja (Ja (Ja (Ja (Ja (Ja (Ja Je 3 (E Ak)) 8 (F none 0 0)) 9 (F r (256*(b - 2)) s)) 11 (E Dt)) 12 (E (1+n))) 13 (AB t)) 14 (AB y))∧S=GA Dt∧S≤Dt∧Below w.heap.size w W∧W.ownsRow w.heap.size 5 1 (.slice r (256*(b - 2)) s) (256*(b - 2)) (bv z)∧Z (F r (256*(b - 2)) s) t∧Ai W t [[E wd],[E (1+n)],[E b],[E J],[E Ak]] 59∧Z (F r (256*(b - 2)) s) y∧Ai W y [[E wd],[E ((1+n) - 1)],[E Dt],[E S],[E Ak]] 59) ?_ ?_
      ·
       revert a
       refine K<|N<|I D<|Ip (q:=(2:Nat)) D D<|M<|G<|Bl D (fun bX=>?_) fun bX=>?_
       ·
        refine N<|I D<|E' (q:=1) D D<|Am Bw 3 D<|C_ 3 i D D ?_
        intro cG an bY a1
        have f:=Ax f a1 aa
        have h:=Ag a1 h (by omega)
        have d:=A1 d a1
        refine M<|G<|?_
        intro a m
        exact⟨_,At m,(by unfold GA;split<;>omega),by omega,d,f,T Y,h,T aa,bY⟩
       ·
        refine AE<|G<|?_
        intro a m
        exact⟨_,At m,(by unfold GA;split<;>omega),by omega,d,f,T Y,h,T aa,i⟩
      ·
       rintro a a2 ⟨S,m,bq,cH,d,f,Y,h,aa,i⟩
       revert a
       refine K<|N<|BP Bw h D<|AS Oa D (RF ⟨wd,1+n,b,J,Ak⟩ _ (aU.below d (Be _)) (by dsimp only;omega) (by dsimp only;omega) (by dsimp only;omega) (by dsimp only;omega)) ?_
       rintro _ a3 ⟨A,B,rfl,l,aW⟩
       refine⟨_,D,?_⟩
       have aM:=f.lt
       have aD:w.heap.size≤a2.heap.size:=d.size
       have bZ:t<a2.heap.size:=Ar h
       have b0:y<a2.heap.size:=Ar i
       have f:=V f aW
       have h:=Q h aW
       have i:=Q i aW
       have d:=Ah d aW
       have aF:Z (F A 256 B) t:=D2 l
       have aG:Z (F A 256 B) y:=D2 l
       have aH:Ap (F A 256 B) (F r (256*(b - 2)) s):=fun k g e=>by have:=(l.lt k g).1;have:=(aM k e).2;omega
       have l:=CB l aD
       refine O D<|M<|G<|K<|N<|BP Bw i D<|AS Oa D (RF ⟨wd,(1+n) - 1,Dt,S,Ak⟩ _ (aU.below d (Be _)) (by dsimp only;omega) (by dsimp only;omega) (by dsimp only;omega) (by dsimp only;omega)) ?_
       rintro _ br ⟨C,H,rfl,o,aN⟩
       refine⟨_,D,?_⟩
       have aM:=f.lt
       have b1:=l.lt
       have aD:w.heap.size≤a3.heap.size:=d.size
       have bZ:t<a3.heap.size:=Ar h
       have b0:y<a3.heap.size:=Ar i
       have f:=V f aN
       have h:=Q h aN
       have i:=Q i aN
       have l:=V l aN
       have d:=Ah d aN
       have aI:Z (F C 256 H) t:=D2 o
       have aJ:Z (F C 256 H) y:=D2 o
       have aK:Ap (F C 256 H) (F r (256*(b - 2)) s):=fun k g e=>by have:=(o.lt k g).1;have:=(aM k e).2;omega
       have aL:Ap (F C 256 H) (F A 256 B):=fun k g e=>by have:=(o.lt k g).1;have:=(b1 k e).2;omega
       have o:=CB o aD
       refine O D<|M<|G<|K<|K<|N<|I D<|EM (q:=2) D D<|Dk (q:=(1:Nat)) D D<|M<|G<|Bl D (fun b2=>?_) fun b2=>?_
       ·
        refine N<|I D<|I D<|O D<|O D<|M<|G<|K<|N<|I D<|?_
        have aO:br.ownsRow w.heap.size 5 1 (.slice none 0 0) 0 (bv []):=World.ownsRow_nil _ _ _ _
        have aP:Ap (.slice none 0 0) (F r (256*(b - 2)) s):=fun k g=>by cases g
        have aQ:Ap (.slice none 0 0) (F A 256 B):=fun k g=>by cases g
        have aR:Ap (.slice none 0 0) (F C 256 H):=fun k g=>by cases g
        have aS:Z (F none 0 0) t:=FL
        have aT:Z (F none 0 0) y:=FL
        intro ao U
        refine Bj D (fun Aa X=>BK U A0 aO (View.own o) (G4 _) d.size (0+256) (zs:=bv ([]++(Ref.D0 ⟨wd,(1+n) - 1,Dt,S,Ak⟩))) (by rw[Nat.mul_one,List.take_of_length_le (by rw[D_];exact Nat.le_of_eq (CS o))];exact(Hv _ _).symm) ?_)
        intro a cI cJ cK m bs ae
        have bt:=aP.BR ae (fun k g=>(f.lt k g).2)
        have bu:=aQ.BR ae (fun k g=>(l.lt k g).2)
        have bw:=aR.BR ae (fun k g=>(o.lt k g).2)
        have bx:=A9 ae aS (Ar h)
        have bz:=A9 ae aT (Ar i)
        have f:=Bm f ae aP.symm
        have h:=A' h ae aS
        have i:=A' i ae aT
        have l:=Bm l ae aQ.symm
        have o:=Bm o ae aR.symm
        have d:=Cm d ae aO
        refine X _ _ ?_;revert a
        refine O D<|M<|G<|K<|N<|I D<|I D<|?_
        intro ao U
        refine Bj D (fun Aa X=>BK U A0 bs (View.own l) (G4 _) d.size ((0+256)+256) (zs:=bv ([]++(Ref.D0 ⟨wd,(1+n) - 1,Dt,S,Ak⟩)++(Ref.D0 ⟨wd,1+n,b,J,Ak⟩))) (by rw[Nat.mul_one,List.take_of_length_le (by rw[D_];exact Nat.le_of_eq (CS l))];exact(Hv _ _).symm) ?_)
        intro a cL cM cN m ab af
        have aq:=bt.BR af (fun k g=>(f.lt k g).2)
        have ar:=bu.BR af (fun k g=>(l.lt k g).2)
        have au:=bw.BR af (fun k g=>(o.lt k g).2)
        have av:=A9 af bx (Ar h)
        have aw:=A9 af bz (Ar i)
        have f:=Bm f af bt.symm
        have h:=A' h af bx
        have i:=A' i af bz
        have l:=Bm l af bu.symm
        have o:=Bm o af bw.symm
        have d:=Cm d af bs
        refine X _ _ ?_;revert a
        refine O D<|M<|G<|K<|N<|I D<|I D<|?_
        intro ao U
        refine Bj D (fun Aa X=>BK U A0 ab (View.own f) (G4 _) d.size (((0+256)+256)+256*(b - 2)) (zs:=bv ([]++(Ref.D0 ⟨wd,(1+n) - 1,Dt,S,Ak⟩)++(Ref.D0 ⟨wd,1+n,b,J,Ak⟩)++z)) (by rw[Nat.mul_one,List.take_of_length_le (by rw[D_];exact Nat.le_of_eq (CS f))];exact(Hv _ _).symm) ?_)
        intro a bA bB cO m a4 ag
        have a5:=aq.BR ag (fun k g=>(f.lt k g).2)
        have a6:=ar.BR ag (fun k g=>(l.lt k g).2)
        have a7:=au.BR ag (fun k g=>(o.lt k g).2)
        have a8:=A9 ag av (Ar h)
        have a9:=A9 ag aw (Ar i)
        have f:=Bm f ag aq.symm
        have h:=A' h ag av
        have i:=A' i ag aw
        have l:=Bm l ag ar.symm
        have o:=Bm o ag au.symm
        have av:=a8
        have aw:=a9
        have aq:=a5
        have ar:=a6
        have au:=a7
        have d:=Cm d ag ab
        have ab:=a4
        refine X _ _ ?_;revert a
        have a_:[]++(Ref.D0 ⟨wd,(1+n) - 1,Dt,S,Ak⟩)++(Ref.D0 ⟨wd,1+n,b,J,Ak⟩)++z=GK wd (1+n) b Dt Ak z:=by unfold GK;rw[if_pos (by omega),←bp,←bq];simp
        rw[a_]at ab
        refine O D<|M<|G<|K<|A2<|?_
        intro a m
        replace m:=m.HN 17 D (show(F bA (((0+256)+256)+256*(b - 2)) bB)=Value.slice bA (256*b+0) bB from by rw[show((0+256)+256)+256*(b - 2)=256*b+0 by omega])
        refine Cb (fun a' a W=>∃j P R,a'=256*Ak - (256*b+j)∧Ao 100 a (Ja (Ja (Ja Je 3 (E Ak)) 8 (F none 0 0)) 17 (F P (256*b+j) R))∧256*b+j≤256*Ak∧W.ownsRow w.heap.size 5 1 (.slice P (256*b+j) R) (256*b+j) (bv (GK wd (1+n) b Dt Ak z++List.replicate j 0))∧Below w.heap.size w W∧W.ownsRow w.heap.size 5 1 (.slice r (256*(b - 2)) s) (256*(b - 2)) (bv z)∧Z (F r (256*(b - 2)) s) t∧Ai W t [[E wd],[E (1+n)],[E b],[E J],[E Ak]] 59∧Z (F r (256*(b - 2)) s) y∧Ai W y [[E wd],[E ((1+n) - 1)],[E Dt],[E S],[E Ak]] 59∧W.ownsRow w.heap.size 5 1 (.slice A 256 B) 256 (bv (Ref.D0 ⟨wd,1+n,b,J,Ak⟩))∧Z (F A 256 B) t∧Z (F A 256 B) y∧Ap (F A 256 B) (F r (256*(b - 2)) s)∧W.ownsRow w.heap.size 5 1 (.slice C 256 H) 256 (bv (Ref.D0 ⟨wd,(1+n) - 1,Dt,S,Ak⟩))∧Z (F C 256 H) t∧Z (F C 256 H) y∧Ap (F C 256 H) (F r (256*(b - 2)) s)∧Ap (F C 256 H) (F A 256 B)∧Ap (F P (256*b+j) R) (F r (256*(b - 2)) s)∧Ap (F P (256*b+j) R) (F A 256 B)∧Ap (F P (256*b+j) R) (F C 256 H)∧Z (F P (256*b+j) R) t∧Z (F P (256*b+j) R) y) _ ⟨0,_,_,D,At m,by omega,HO (show((0+256)+256)+256*(b - 2)=256*b+0 by omega) (by simpa using ab),d,f,T Y,h,T aa,i,l,T aF,T aG,AI aH,o,T aI,T aJ,AI aK,AI aL,AI aq,AI ar,AI au,T av,T aw⟩ ?_
        rintro _ a cP ⟨j,P,R,rfl,m,b3,ab,d,f,Y,h,aa,i,l,aF,aG,aH,o,aI,aJ,aK,aL,aq,ar,au,av,aw⟩
        revert a
        refine K<|K<|N<|I D<|BY Cr D<|I D<|FT (p:=256) D D<|B5 D D<|M<|G<|Bl D (fun b4=>?_) fun b4=>?_
        ·
         refine AE<|G<|A2<|N<|I D<|D6 A0 D (cs:=#[Value.int .u8 (((0:Nat):Int):Int)]) D D ?_
         intro cQ an b5 u
         have ab:=V ab u
         have f:=V f u
         have h:=Q h u
         have i:=Q i u
         have l:=V l u
         have o:=V o u
         have d:=Ah d u
         intro ao U
         refine Bj D (fun Aa X=>BK U A0 ab b5 (by simp[Value.oneCell']) d.size ((256*b+j)+1) (zs:=bv (GK wd (1+n) b Dt Ak z++List.replicate j 0++[0])) (by simp[bv]) ?_)
         intro a cR cS cT m b6 ah
         have b7:=aq.BR ah (fun k g=>(f.lt k g).2)
         have b8:=ar.BR ah (fun k g=>(l.lt k g).2)
         have b9:=au.BR ah (fun k g=>(o.lt k g).2)
         have b_:=A9 ah av (Ar h)
         have b':=A9 ah aw (Ar i)
         have f:=Bm f ah aq.symm
         have h:=A' h ah av
         have i:=A' i ah aw
         have l:=Bm l ah ar.symm
         have o:=Bm o ah au.symm
         have d:=Cm d ah ab
         refine X _ _ ?_;revert a
         refine O D<|M<|Bq<|G<|?_
         intro a m
         exact⟨_,by omega,j+1,_,_,D,At m,by omega,by rw[←Qi];exact b6,d,f,T Y,h,T aa,i,l,T aF,T aG,AI aH,o,T aI,T aJ,AI aK,AI aL,AI b7,AI b8,AI b9,T b_,T b'⟩
        ·
         refine BO<|AW<|AW<|BN<|G<|K<|N<|I D<|O D<|M<|G<|AA<|AZ D<|?_
         have ba:j=256*(Ak - b):=by omega
         have bb:256*b+j=256*Ak:=by omega
         rw[ba,aV]at ab
         exact⟨⟨z,b,aC,by omega,.inr ⟨by omega,bh,_,_,by rw[bb],HO (by omega) ab⟩⟩,d⟩
       ·
        refine AE<|G<|K<|N<|I D<|?_
        have aO:br.ownsRow w.heap.size 5 1 (.slice none 0 0) 0 (bv []):=World.ownsRow_nil _ _ _ _
        have aP:Ap (.slice none 0 0) (F r (256*(b - 2)) s):=fun k g=>by cases g
        have aQ:Ap (.slice none 0 0) (F A 256 B):=fun k g=>by cases g
        have aR:Ap (.slice none 0 0) (F C 256 H):=fun k g=>by cases g
        have aS:Z (F none 0 0) t:=FL
        have aT:Z (F none 0 0) y:=FL
        intro ao U
        refine Bj D (fun Aa X=>BK U A0 aO (View.own l) (G4 _) d.size (0+256) (zs:=bv ([]++(Ref.D0 ⟨wd,1+n,b,J,Ak⟩))) (by rw[Nat.mul_one,List.take_of_length_le (by rw[D_];exact Nat.le_of_eq (CS l))];exact(Hv _ _).symm) ?_)
        intro a cU cV cW m bC ai
        have bD:=aP.BR ai (fun k g=>(f.lt k g).2)
        have bE:=aQ.BR ai (fun k g=>(l.lt k g).2)
        have bF:=aR.BR ai (fun k g=>(o.lt k g).2)
        have bG:=A9 ai aS (Ar h)
        have bH:=A9 ai aT (Ar i)
        have f:=Bm f ai aP.symm
        have h:=A' h ai aS
        have i:=A' i ai aT
        have l:=Bm l ai aQ.symm
        have o:=Bm o ai aR.symm
        have d:=Cm d ai aO
        refine X _ _ ?_;revert a
        refine O D<|M<|G<|K<|N<|I D<|I D<|?_
        intro ao U
        refine Bj D (fun Aa X=>BK U A0 bC (View.own o) (G4 _) d.size ((0+256)+256) (zs:=bv ([]++(Ref.D0 ⟨wd,1+n,b,J,Ak⟩)++(Ref.D0 ⟨wd,(1+n) - 1,Dt,S,Ak⟩))) (by rw[Nat.mul_one,List.take_of_length_le (by rw[D_];exact Nat.le_of_eq (CS o))];exact(Hv _ _).symm) ?_)
        intro a cX cY cZ m ad aj
        have ax:=bD.BR aj (fun k g=>(f.lt k g).2)
        have ay:=bE.BR aj (fun k g=>(l.lt k g).2)
        have az:=bF.BR aj (fun k g=>(o.lt k g).2)
        have aA:=A9 aj bG (Ar h)
        have aB:=A9 aj bH (Ar i)
        have f:=Bm f aj bD.symm
        have h:=A' h aj bG
        have i:=A' i aj bH
        have l:=Bm l aj bE.symm
        have o:=Bm o aj bF.symm
        have d:=Cm d aj bC
        refine X _ _ ?_;revert a
        refine O D<|M<|G<|K<|N<|I D<|I D<|?_
        intro ao U
        refine Bj D (fun Aa X=>BK U A0 ad (View.own f) (G4 _) d.size (((0+256)+256)+256*(b - 2)) (zs:=bv ([]++(Ref.D0 ⟨wd,1+n,b,J,Ak⟩)++(Ref.D0 ⟨wd,(1+n) - 1,Dt,S,Ak⟩)++z)) (by rw[Nat.mul_one,List.take_of_length_le (by rw[D_];exact Nat.le_of_eq (CS f))];exact(Hv _ _).symm) ?_)
        intro a bI bJ c0 m a4 ak
        have a5:=ax.BR ak (fun k g=>(f.lt k g).2)
        have a6:=ay.BR ak (fun k g=>(l.lt k g).2)
        have a7:=az.BR ak (fun k g=>(o.lt k g).2)
        have a8:=A9 ak aA (Ar h)
        have a9:=A9 ak aB (Ar i)
        have f:=Bm f ak ax.symm
        have h:=A' h ak aA
        have i:=A' i ak aB
        have l:=Bm l ak ay.symm
        have o:=Bm o ak az.symm
        have aA:=a8
        have aB:=a9
        have ax:=a5
        have ay:=a6
        have az:=a7
        have d:=Cm d ak ad
        have ad:=a4
        refine X _ _ ?_;revert a
        have a_:[]++(Ref.D0 ⟨wd,1+n,b,J,Ak⟩)++(Ref.D0 ⟨wd,(1+n) - 1,Dt,S,Ak⟩)++z=GK wd (1+n) b Dt Ak z:=by unfold GK;rw[if_neg (by omega),←bp,←bq];simp
        rw[a_]at ad
        refine O D<|M<|G<|K<|A2<|?_
        intro a m
        replace m:=m.HN 17 D (show(F bI (((0+256)+256)+256*(b - 2)) bJ)=Value.slice bI (256*b+0) bJ from by rw[show((0+256)+256)+256*(b - 2)=256*b+0 by omega])
        refine Cb (fun a' a W=>∃j P R,a'=256*Ak - (256*b+j)∧Ao 100 a (Ja (Ja (Ja Je 3 (E Ak)) 8 (F none 0 0)) 17 (F P (256*b+j) R))∧256*b+j≤256*Ak∧W.ownsRow w.heap.size 5 1 (.slice P (256*b+j) R) (256*b+j) (bv (GK wd (1+n) b Dt Ak z++List.replicate j 0))∧Below w.heap.size w W∧W.ownsRow w.heap.size 5 1 (.slice r (256*(b - 2)) s) (256*(b - 2)) (bv z)∧Z (F r (256*(b - 2)) s) t∧Ai W t [[E wd],[E (1+n)],[E b],[E J],[E Ak]] 59∧Z (F r (256*(b - 2)) s) y∧Ai W y [[E wd],[E ((1+n) - 1)],[E Dt],[E S],[E Ak]] 59∧W.ownsRow w.heap.size 5 1 (.slice A 256 B) 256 (bv (Ref.D0 ⟨wd,1+n,b,J,Ak⟩))∧Z (F A 256 B) t∧Z (F A 256 B) y∧Ap (F A 256 B) (F r (256*(b - 2)) s)∧W.ownsRow w.heap.size 5 1 (.slice C 256 H) 256 (bv (Ref.D0 ⟨wd,(1+n) - 1,Dt,S,Ak⟩))∧Z (F C 256 H) t∧Z (F C 256 H) y∧Ap (F C 256 H) (F r (256*(b - 2)) s)∧Ap (F C 256 H) (F A 256 B)∧Ap (F P (256*b+j) R) (F r (256*(b - 2)) s)∧Ap (F P (256*b+j) R) (F A 256 B)∧Ap (F P (256*b+j) R) (F C 256 H)∧Z (F P (256*b+j) R) t∧Z (F P (256*b+j) R) y) _ ⟨0,_,_,D,At m,by omega,HO (show((0+256)+256)+256*(b - 2)=256*b+0 by omega) (by simpa using ad),d,f,T Y,h,T aa,i,l,T aF,T aG,AI aH,o,T aI,T aJ,AI aK,AI aL,AI ax,AI ay,AI az,T aA,T aB⟩ ?_
        rintro _ a c1 ⟨j,P,R,rfl,m,b3,ad,d,f,Y,h,aa,i,l,aF,aG,aH,o,aI,aJ,aK,aL,ax,ay,az,aA,aB⟩
        revert a
        refine K<|K<|N<|I D<|BY Cr D<|I D<|FT (p:=256) D D<|B5 D D<|M<|G<|Bl D (fun ca=>?_) fun ca=>?_
        ·
         refine AE<|G<|A2<|N<|I D<|D6 A0 D (cs:=#[Value.int .u8 (((0:Nat):Int):Int)]) D D ?_
         intro c2 an cb u
         have ad:=V ad u
         have f:=V f u
         have h:=Q h u
         have i:=Q i u
         have l:=V l u
         have o:=V o u
         have d:=Ah d u
         intro ao U
         refine Bj D (fun Aa X=>BK U A0 ad cb (by simp[Value.oneCell']) d.size ((256*b+j)+1) (zs:=bv (GK wd (1+n) b Dt Ak z++List.replicate j 0++[0])) (by simp[bv]) ?_)
         intro a c3 c4 c5 m cc al
         have cd:=ax.BR al (fun k g=>(f.lt k g).2)
         have cf:=ay.BR al (fun k g=>(l.lt k g).2)
         have cg:=az.BR al (fun k g=>(o.lt k g).2)
         have ch:=A9 al aA (Ar h)
         have cj:=A9 al aB (Ar i)
         have f:=Bm f al ax.symm
         have h:=A' h al aA
         have i:=A' i al aB
         have l:=Bm l al ay.symm
         have o:=Bm o al az.symm
         have d:=Cm d al ad
         refine X _ _ ?_;revert a
         refine O D<|M<|Bq<|G<|?_
         intro a m
         exact⟨_,by omega,j+1,_,_,D,At m,by omega,by rw[←Qi];exact cc,d,f,T Y,h,T aa,i,l,T aF,T aG,AI aH,o,T aI,T aJ,AI aK,AI aL,AI cd,AI cf,AI cg,T ch,T cj⟩
        ·
         refine BO<|AW<|AW<|BN<|G<|K<|N<|I D<|O D<|M<|G<|AA<|AZ D<|?_
         have ba:j=256*(Ak - b):=by omega
         have bb:256*b+j=256*Ak:=by omega
         rw[ba,aV]at ad
         exact⟨⟨z,b,aC,by omega,.inr ⟨by omega,bh,_,_,by rw[bb],HO (by omega) ad⟩⟩,d⟩
end Go.Proofs.YtcdaflcjhimimaaGreatDoor
namespace Go.Proofs.YtcdaflcjhimimaaGreatDoor
open Go.RowKit
variable {X Y:Nat→Prop} {w W BT:World} {v BL u G2 v0 IU:Value} {b sb k n m:Nat}
structure Cd (B x:Nat) (w W:World):Prop where
 os:W.os=w.os
 tape:W.tape=w.tape
 output:W.output=w.output
 size:w.heap.size≤W.heap.size
 block:∀k,k<B→k≠x→W.heap[k]? =w.heap[k]?
section
variable {B x size c:Nat} {q:Option Addr} {xs:List Value} {s:B8}
theorem Cd.refl(B x:Nat)(w:World):Cd B x w w:=⟨D,D,D,Be _,fun _ _ _=>rfl⟩
theorem Cd.trans(h:Cd B x w W)(k:Below B W BT):Cd B x w BT:=⟨k.os.trans h.os,k.tape.trans h.tape,k.output.trans h.output,Bs h.size k.size,fun i a b=>(k.block i a).trans (h.block i a b)⟩
theorem Cd.G3(h:Cd B x w W)(k:Cd B x W BT):Cd B x w BT:=⟨k.os.trans h.os,k.tape.trans h.tape,k.output.trans h.output,Bs h.size k.size,fun i a b=>(k.block i a b).trans (h.block i a b)⟩
theorem Cd.grown{row:Option Nat}(h:Cd B x w W)(a:W.grownBy BT row)(f:B≤W.heap.size)(c:∀k,row=some k→B≤k∨k=x):Cd B x w BT:=
 ⟨a.os.trans h.os,a.tape.trans h.tape,a.output.trans h.output,Bs h.size a.size,fun i d b=>(a.block i (by omega) (fun e=>(c i e.symm).elim (fun q=>by omega) (fun q=>b q))).trans (h.block i d b)⟩
theorem Cd.of(h:Below B w W):Cd B x w W:=⟨h.os,h.tape,h.output,h.size,fun i a _=>h.block i a⟩
structure CR (B x:Nat) (w:World) (q:Option Addr) (n c size:Nat) (xs:List Value):Prop where
 v:View w (.slice q n c) n size xs
 lt:∀a,q=some a→a.block<B∧a.block≠x
theorem CR.below(h:CR B x w q n c size xs)(d:Cd B x w W):View W (.slice q n c) n size xs:=by
 refine⟨h.v.1,?_⟩
 rcases h.v.2 with z|⟨b,off,cap,a,e,f,g,i,j⟩
 ·exact .inl z
 ·simp only[Value.slice.injEq]at a
  exact .inr ⟨b,off,cap,by simp[a],e,f,g,Nat.lt_of_lt_of_le i d.size,j.FR (d.block b (h.lt _ a.1).1 (h.lt _ a.1).2)⟩
theorem CR.move(h:CR B x w q n c size xs)(a:Cd B x w W):CR B x W q n c size xs:=⟨h.below a,h.lt⟩
theorem CR.of{f:Option Addr}{g c' i:Nat}(h:View w (.slice q n c) n size xs)(d:B=w.heap.size)(e:∀a,q=some a→a.block≠x):CR B x w q n c size xs:=⟨h,fun a b=>⟨by rw[d];exact(Dv.of h).lt a b,e a b⟩⟩
structure G9 (B x:Nat) (w:World) (s:B8):Prop where
 ok:s.ok w
 lt:∀a,s.p=some a→a.block<B∧a.block≠x
theorem G9.Lk(h:G9 B x w s):CR B x w s.p s.v.length s.c 1 (bv s.v):=⟨h.ok,h.lt⟩
theorem G9.below(h:G9 B x w s)(a:Cd B x w W):s.ok W:=h.Lk.below a
theorem G9.move(h:G9 B x w s)(a:Cd B x w W):G9 B x W s:=⟨h.below a,h.lt⟩
end
structure Hi (B x:Nat) (w:World):Prop where
 g:CT w
 aA:0<B∧0≠x
 aB:2<B∧2≠x
 aK:1<B∧1≠x
theorem Hi.below{B x:Nat}(h:Hi B x w)(a:Cd B x w W):CT W:=
 ⟨h.g.first.FR (a.block _ h.aA.1 h.aA.2),Nat.lt_of_lt_of_le h.g.aQ a.size,h.g.consts.FR (a.block _ h.aB.1 h.aB.2),Nat.lt_of_lt_of_le h.g.aT a.size,h.g.div.FR (a.block _ h.aK.1 h.aK.2),Nat.lt_of_lt_of_le h.g.aR a.size⟩
theorem Hi.move{B x:Nat}(h:Hi B x w)(a:Cd B x w W):Hi B x W:=⟨h.below a,h.aA,h.aB,h.aK⟩
def F2(b sb:Nat)(v u:Value)(k:Nat):Prop:=k=sb∨EZ b v u k
theorem Im(a:k≠sb)(c:k≠b)(d:∀j,v.ownBlock=some j→j≠k)(e:∀j,u.ownBlock=some j→j≠k):¬F2 b sb v u k:=by
 rintro(h|h)
 ·exact a h
 ·exact EX c d e h
theorem IQ(a:AtR n v v0)(c:AtR n u IU):∀k,F2 b sb v u k→k<n→F2 b sb v0 IU k:=by
 rintro k (h|h) d
 ·exact .inl h
 ·exact .inr (Jp a c k h d)
theorem Bd.JF{B x:Nat}(h:Bd X w W)(c:B≤w.heap.size)(a:∀k,X k→B≤k∨k=x):Cd B x w W:=
 ⟨h.os,h.tape,h.output,h.size,fun k d b=>h.block k (by omega) (fun q=>(a k q).elim (fun r=>by omega) b)⟩
theorem Ap.at(h:Ap v u)(a:AtR n BL v)(hu:∀k,u.ownBlock=some k→k<n):Ap BL u:=
 fun k b e=>(a k b).elim (fun q=>h k q e) (fun q=>by have:=hu k e;omega)
structure Fd where
 p:Nat
 w:Int
def Em(x:Fd):List Value:=List.flatten [[.int .i64 ((x.p:Nat):Int)],[.int .i64 x.w]]
theorem TK(x:Fd):(Em x).length=2:=rfl
theorem QF:CN Tryz.prog 63 173 2 16 (.agg (flat [[.int .i64 0],[.int .i64 0]])):=CN.mk' Jo (by kernel_rfl) D (by decide)
structure Ed where
 p:Option Addr
 L:List Co
 c:Nat
def EP(x:Ed):List Value:=[.slice x.p x.L.length x.c]
theorem K8(x:Ed):(EP x).length=1:=rfl
theorem Ix:CN Tryz.prog 62 119 1 24 (.slice none 0 0):=CN.mk' KC (by kernel_rfl) D (by decide)
structure EC where
 wd:Nat
 ge:Nat
 AD:Nat
 Ab:Nat
 Ak:Nat
 Bp:Option Addr
 AY:Nat
 AV:List Nat
 Bv:Option Addr
 As:Nat
 Ay:List DD
 qr:Option Addr
 AR:Nat
 AM:List Ef
 By:Option Addr
 AG:Nat
 AN:List Nat
 AO:Option Addr
 AJ:Nat
 Aq:List Ed
 AQ:Option Addr
 ce:Nat
 Cp:List Jd
def EC.HD(z:EC)(DU:Value):List (List Value):=[[.int .i64 ((z.wd:Nat):Int)],[.int .i64 ((z.ge:Nat):Int)],[.int .i64 ((z.AD:Nat):Int)],[.int .i64 ((z.Ab:Nat):Int)],[.int .i64 ((z.Ak:Nat):Int)],[.slice z.Bp z.AV.length z.AY],[.slice z.Bv z.Ay.length z.As],[.slice z.qr z.AM.length z.AR],[.slice z.By z.AN.length z.AG],[.slice z.AO z.Aq.length z.AJ],[DU],[.slice z.AQ 257 z.ce]]
structure Fl (x:DD):Prop where
 z:x.ZI≠2→x.l=0∧x.r=0
 b:x.l<4294967296∧x.r<4294967296∧x.lc<4294967296∧x.rc<4294967296
 n:x.s.v.length≤128
structure GH (B x:Nat) (w:World) (z:EC):Prop where
 k:CR B x w z.Bp z.AV.length z.AY 1 (Al Ct z.AV)
 n:CR B x w z.Bv z.Ay.length z.As 102 (Al Dd z.Ay)
 r:CR B x w z.qr z.AM.length z.AR 38 (Al DY z.AM)
 a:CR B x w z.By z.AN.length z.AG 1 (Al Ct z.AN)
 t:CR B x w z.AO z.Aq.length z.AJ 1 (Al EP z.Aq)
 e:CR B x w z.AQ 257 z.ce 32 (Al Ex z.Cp)
 el:z.Cp.length=257
 ar:z.AV.length=z.AD
 nl:z.Ay.length=z.AD
 aG:z.AM.length=z.AD
 E9:∀p∈z.AN,p<z.AD
 m:z.AD≤4096
 ZL:∀y∈z.Ay,Fl y
 ZM:∀y∈z.Ay,G9 B x w y.s
 ZK:∀y∈z.AM,y.v<4294967296∧y.f<4294967296∧y.ZG<4294967296∧y.ZZ<4294967296∧y.r<4294967296∧y.c<4294967296
theorem GH.move{B x:Nat}{z:EC}(h:GH B x w z)(b:Cd B x w W):GH B x W z:=
 ⟨h.k.move b,h.n.move b,h.r.move b,h.a.move b,h.t.move b,h.e.move b,h.el,h.ar,h.nl,h.aG,h.E9,h.m,h.ZL,fun y c=>(h.ZM y c).move b,h.ZK⟩
structure Jq (B b sb:Nat) (W:World) (z:EC) (fresh next:Nat) (CU:Option Addr) (B4:Nat) (Bz:List Co) (ZC:Option Addr) (Zy ZD:Nat) (Jb:List Fd) (Z4:Option Addr) (ZY Z5:Nat) (Ey:List Co) (Fj:Bool):Prop where
 Z7:B≤b
 Z2:sb<B
 bk:W.heap[sb]? =some (.cells (flat (z.HD (.slice ZC Zy ZD))) 66 (0,0))
 Zx:W.heap[b]? =some (.cells (flat [[.pointer (some ⟨sb,0,none⟩)],[.int .i64 ((fresh:Nat):Int)],[.int .i64 ((next:Nat):Int)],[.slice CU Bz.length B4],[.slice Z4 ZY Z5],[.bool Fj]]) 148 (0,0))
 bm:W.ownsRow B 173 2 (.slice ZC Zy ZD) Zy (Al Em Jb)
 ZA:W.ownsRow B 190 66 (.slice Z4 ZY Z5) ZY (Al CA Ey)
 Z0:∀k,(Value.slice ZC Zy ZD).ownBlock=some k→k≠b
 Z1:∀k,(Value.slice Z4 ZY Z5).ownBlock=some k→k≠b
 ZV:Ap (.slice ZC Zy ZD) (.slice Z4 ZY Z5)
theorem Eg{B size:Nat}{e:TypeId}{xs:List Value}(h:W.ownsRow B e size v n xs)(b:sb<B):∀k,v.ownBlock=some k→k≠sb:=fun k a=>by have:=(h.lt k a).1;omega
def Gk(L:List Co)(k:Jd)(n:Nat):Nat:=(ET L k n).length
theorem TU{x k k':Jd}{n:Nat}(hn:n<256)(h:Cu k.l n≠Cu k'.l n)(c:n+1≤Da x.l k.l):¬n+1≤Da x.l k'.l:=by
 intro d
 have a:=(G1).1 c n (by omega)
 have b:=(G1).1 d n (by omega)
 exact h (a.symm.trans b)
theorem Wa{L:List Co}{k k':Jd}{n:Nat}(hn:n<256)(c:Cu k.l n≠Cu k'.l n)(d:∀i,i<n→Cu k'.l i=Cu k.l i):Gk L k (n+1)+Gk L k' (n+1)≤Gk L k n:=by
 unfold Gk ET
 induction L with
 |nil=>simp
 |cons x L e=>
  have f:FM k (n+1) x=true→FM k n x=true:=by
   unfold FM;simp only[Bool.and_eq_true,decide_eq_true_eq];omega
  have g:FM k' (n+1) x=true→FM k n x=true:=by
   unfold FM;simp only[Bool.and_eq_true,decide_eq_true_eq]
   intro h
   refine⟨by omega,?_⟩
   rw[G1]
   intro i j
   rw[←d i j]
   exact(G1).1 h.2 i (by omega)
  have m:¬(FM k (n+1) x=true∧FM k' (n+1) x=true):=by
   unfold FM;simp only[Bool.and_eq_true,decide_eq_true_eq]
   rintro⟨o,p⟩
   exact TU hn c o.2 p.2
  simp only[List.filter_cons]
  by_cases b:FM k (n+1) x=true
  ·have a:¬FM k' (n+1) x=true:=fun q=>m ⟨b,q⟩
   rw[if_pos b,if_neg a,if_pos (f b),List.length_cons,List.length_cons]
   omega
  ·rw[if_neg b]
   by_cases a:FM k' (n+1) x=true
   ·rw[if_pos a,if_pos (g a),List.length_cons,List.length_cons];omega
   ·rw[if_neg a]
    split
    ·rw[List.length_cons];omega
    ·exact e
theorem LW(L:List Co)(k:Jd)(n:Nat):Gk L k n≤L.length:=List.length_filter_le _ _
theorem Yu(L:List Co)(k:Jd)(n:Nat):Gk L k (n+1)≤Gk L k n:=by
 unfold Gk ET
 induction L with
 |nil=>simp
 |cons x L b=>
  have c:FM k (n+1) x=true→FM k n x=true:=by
   unfold FM;simp only[Bool.and_eq_true,decide_eq_true_eq];omega
  simp only[List.filter_cons]
  by_cases a:FM k (n+1) x=true
  ·rw[if_pos a,if_pos (c a),List.length_cons,List.length_cons];omega
  ·rw[if_neg a]
   split
   ·rw[List.length_cons];omega
   ·exact b
end Go.Proofs.YtcdaflcjhimimaaGreatDoor
namespace Go.Proofs.YtcdaflcjhimimaaGreatDoor
open Go.RowKit
variable {x B:Nat} {a b c:World}
theorem H2{k:Nat}(h:Cd B x a b)(g:b.grownBy c (some k))(d:B≤a.heap.size)(f:B≤k∨k=x:=by omega):Cd B x a c:=h.grown g (Bs d h.size) (fun _ e=>by cases e;exact f)
theorem E5(h:Cd B x a b)(k:Below b.heap.size b c)(d:B≤a.heap.size):Cd B x a c:=h.trans (k.mono (Bs d h.size))
theorem F0{c:Nat}(h:Cd B x a b)(e:b.heap.size=c):a.heap.size≤c:=e▸h.size
theorem Fo(h:Cd a.heap.size x a b)(k:Below b.heap.size b c):Cd a.heap.size x a c:=h.trans (k.mono h.size)
theorem Et{k:Nat}(h:Cd a.heap.size x a b)(g:b.grownBy c (some k))(d:a.heap.size≤k∨k=x:=by omega):Cd a.heap.size x a c:=h.grown g h.size (fun _ e=>by cases e;exact d)
theorem Kv{v BL:Value}{e:TypeId}{size n:Nat}{xs:List Value}(h:Cd B x a b)(d:C' b c v BL)(o:b.ownsRow B e size v n xs)(f:B≤a.heap.size):Cd B x a c:=h.trans (d.below (Bs f h.size) (fun k g=>(o.lt k g).1))
end Go.Proofs.YtcdaflcjhimimaaGreatDoor
