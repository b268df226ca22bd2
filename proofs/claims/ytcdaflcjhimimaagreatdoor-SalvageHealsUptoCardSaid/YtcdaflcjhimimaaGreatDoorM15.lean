/- Laws and walks on the road to SalvageNever and SalvageHeals (part M15). No conditions beyond each law's own. -/
import Derived.Test.YtcdaflcjhimimaaGreatDoorM01
import Derived.Test.YtcdaflcjhimimaaGreatDoorM14
import Derived.Test.YtcdaflcjhimimaaGreatDoorM04
import Derived.Test.YtcdaflcjhimimaaGreatDoorM07
import Derived.Test.YtcdaflcjhimimaaGreatDoorM05
set_option linter.unusedVariables false
namespace Go.Proofs.YtcdaflcjhimimaaGreatDoor
open Go.RowKit
set_option maxRecDepth 100000
set_option maxHeartbeats 1000000
theorem WA:∀(f:Nat),∀(n:Nat) {Aj b wd next root:Nat} {AQ:Option Addr} {ce:Nat} {CJ:Option Addr} {no co:Nat} {Bf:Option Addr} {B6 cos:Nat} {ai:Option Addr} {ab As:Nat} {Ay:List DD} {aK:Option Addr} {aL cs:Nat} {DV:List Co} {D':List Jd} {C4:List Co} {a9:List B7} {bh:Option Addr} {a7 a_:Nat} {aM:List B7} {AO:Option Addr} {aN AJ:Nat} {BX bO:List B7} {w:World} {r:Nat×Nat×Dz},n+f=257→n≤256→Aj≤w.heap.size→HV Aj w→IZ Aj b w wd next (F AQ 257 ce) root (F CJ no co) (F Bf B6 cos) ai ab As Ay aK aL cs DV→Dv Aj w AQ 257 ce 32 (Al Ex D')→D'.length=257→Dv Aj w CJ no co 33 (Al FJ a9)→a9.length=no→Dv Aj w Bf B6 cos 66 (Al CA C4)→C4.length=B6→Dv Aj w bh a7 a_ 33 (Al FJ aM)→aM.length=a7→Dv Aj w AO aN AJ 33 (Al FJ BX)→BX.length=aN→(∀x∈a9,GD Aj w x.s)→(∀x∈aM,GD Aj w x.s)→(∀x∈BX,GD Aj w x.s)→a9.Pairwise Ez→EA BX n→(∀x∈BX,x.s.v.length≤128)→(∀x∈BX,x∈bO)→(∀x∈Ay,IM bO x)→(∀x∈C4,x.p≤next)→(∀x∈DV,x.p≤next)→no≤100000000→B6≤100000000000→a7≤100000000→aN≤100000000→r=DT f (C4.map CK) (A7 a9) (A7 aM) (A7 BX) n next (DV.map CK)→r.2.2.length≤900000000000→ab+r.2.1≤next+800000000000→r.2.1≤1152921504606846976→
 Calls Tryz.prog 79 #[AB b,F bh a7 a_,F AO aN AJ,E n] w fun e w'=>∃dU dC dV dW dX dY dZ d_,∃d:Jd,e=.returned (.tuple #[.int .i64 ((r.1:Nat):Int),.agg (flat [bv d.l])])∧dC+next=ab+r.2.1∧d_.map CK=r.2.2∧(∀x∈dW,IM bO x)∧IZ Aj b w' wd r.2.1 (F AQ 257 ce) root (F CJ no co) (F Bf B6 cos) dU dC dV dW dX dY dZ d_∧AtR w.heap.size (.slice dU dC dV) (F ai ab As)∧AtR w.heap.size (.slice dX dY dZ) (F aK aL cs)∧Bd (EZ b (F ai ab As) (F aK aL cs)) w w'∧Below Aj w w':=by
 intro f
 induction f with
 |zero=>intro n Aj b wd next root AQ ce CJ no co Bf B6 cos ai ab As Ay aK aL cs DV D' C4 a9 bh a7 a_ aM AO aN AJ BX bO w r hY hZ;omega
 |succ f c1=>
 intro n Aj b wd next root AQ ce CJ no co Bf B6 cos ai ab As Ay aK aL cs DV D' C4 a9 bh a7 a_ aM AO aN AJ BX bO w r h0 hn An bI eJ he bJ cC cD b1 b2 hm c2 bc bK cE cF bP cn b3 b4 cG b5 b6 eK c3 c4 h1 h2 cH h3 h4 h5
 obtain⟨bm,H,u,A,aj,ak,al⟩:=eJ
 have ag:AtR w.heap.size (F ai ab As) (F ai ab As):=AtR.refl _ _
 have aa:AtR w.heap.size (F aK aL cs) (F aK aL cs):=AtR.refl _ _
 have S:Bd (EZ b (F ai ab As) (F aK aL cs)) w w:=Bd.refl _ _
 have h:Below Aj w w:=Bu _ _
 have h6:=DF D3 (by decide) A
 have eL:next≤r.2.1∧(DV.map CK).length≤r.2.2.length:=by rw[cH];exact JO _ _ _ _ _ _ _ _
 rw[List.length_map]at eL
 refine Bx KB D 217 ?_
 refine K<|N<|O (v:=(E 0)) D<|BQ [Av 32] ?_
 intro an h7 R au i t
 have h8:=Bg h R
 have h9:=AP H R
 have aB:=BM u R
 have av:=BM A R
 have S:=S.below t
 have H:=Q H t
 have u:=V u t
 have A:=V A t
 have h:=BH h t An
 rw[Du]at i
 refine M<|G<|K<|K<|N<|I D<|BY FB D<|Dk (q:=(0:Nat)) D D<|M<|G<|Bl D (fun eM=>?_) fun eM=>?_
 ·
  refine K<|?_
  intro a B
  refine EJ 9 ?_
  intro h_ au t
  have S:=S.below t
  have H:=Q H t
  have u:=V u t
  have A:=V A t
  have i:=Q i t
  have h:=BH h t An
  revert a
  refine A3 D<|Ee D<|Cx DR 2 D<|Dx ID 2 H D D<|A3 D<|HI (p:=256) D D<|?_
  obtain⟨h',d',rfl⟩:=Ca (he.below h)
  obtain⟨ea,eN⟩:=getD_some (L:=D') (j:=256 - n) bJ (by omega)
  have eO:=BJ G8 (he.below h) eN (o:=d'+(256 - n)*32)
  refine C0 HF (256 - n) (d'+(256 - n)*32) D D<|FG BZ 0 1 [bv ea.l] eO D<|Ff (v:=(E 0)) D<|?_
  intro a B;refine EG ?_;revert a
  refine Bi 0 1 i D D ?_
  intro ia au eP cI
  have S:=S.B1 cI
  have H:=Ag cI H (by omega)
  have u:=Ax u cI aB
  have A:=Ax A cI av
  have h:=CG h cI An
  refine M<|G<|AA<|AX<|?_
  intro a B
  refine Ky B D D D eP BZ D (Cf 32) ?_
  have bj:=cH.trans (Qm f _ _ _ (by rw[It];omega) n next _)
  subst bj
  exact⟨_,_,_,_,_,_,_,_,ea,D,D,D,b5,⟨bm,H,u,A,aj,ak,al⟩,ag,aa,S,h⟩
 ·
  refine AE<|G<|K<|N<|I D<|?_
  obtain⟨bn,aW,rfl⟩:=Ca (bc.below h)
  obtain⟨x,af⟩:=getD_some (L:=BX) (j:=0) bK (by omega)
  have eQ:=BJ Ep (bc.below h) af (o:=aW+0*33)
  refine Cn DH 0 (aW+0*33) D D<|Am FE (aW+0*33) D<|D9 Ce 0 1 [bv x.k.l] eQ D<|BQ [Av 32] ?_
  intro ao ib R au m t
  have ic:=Bg h R
  have ie:=AP H R
  have aD:=BM u R
  have aw:=BM A R
  have ig:=AP i R
  have S:=S.below t
  have H:=Q H t
  have u:=V u t
  have A:=V A t
  have i:=Q i t
  have h:=BH h t An
  rw[Du]at m
  refine Bi 0 1 m D D ?_
  intro ih au aS cp
  have S:=S.B1 cp
  have H:=Ag cp H (by omega)
  have u:=Ax u cp aD
  have A:=Ax A cp aw
  have i:=Ag cp i (by omega)
  have h:=CG h cp An
  have m:=aS
  refine M<|G<|?_
  intro a B
  refine ES (fun a W=>∃az aA aq,∃bd:List Co,Ao 217 a (Ja (Ja (Ja (Ja (Ja (Ja Je 0 (AB b)) 1 (F bh a7 a_)) 2 (F (some ⟨bn,aW,none⟩) aN AJ)) 3 (E n)) 9 (AB an)) 10 (AB ao))∧(bd.map CK=if A7 aM=A7 BX then DV.map CK++F3 (C4.map CK) x.k.l n else DV.map CK)∧(¬(A7 aM=A7 BX∧FH (C4.map CK) x.k.l n≠0))∧W.ownsRow Aj 190 66 (.slice az aq aA) aq (Al CA bd)∧Below Aj w W∧Ai W b [[E wd],[E next],[F AQ 257 ce],[E root],[F CJ no co],[F Bf B6 cos],[F ai ab As],[F az aq aA]] 164∧W.ownsRow Aj 127 102 (.slice ai ab As) ab (Al Dd Ay)∧Z (F ai ab As) b∧Z (F az aq aA) b∧Ap (F ai ab As) (F az aq aA)∧AtR w.heap.size (F ai ab As) (F ai ab As)∧AtR w.heap.size (F az aq aA) (F aK aL cs)∧Bd (EZ b (F ai ab As) (F aK aL cs)) w W∧Ai W an [bv (List.replicate 32 0)] 125∧Z (F ai ab As) an∧Z (F az aq aA) an∧Z (F ai ab As) ao∧Z (F az aq aA) ao∧Ai W ao [bv x.k.l] 51) ?_ ?_
  ·
   revert a
   refine K<|N<|I D<|I D<|AS QA D (TN _ _ _ _ _ _ _ _ _ (by omega) (hm.below h) c2 (bc.below h) bK (fun x af=>(cF x af).below h) (fun x af=>(bP x af).below h)) ?_
   rintro _ ij ⟨rfl,b7⟩
   refine⟨_,D,?_⟩
   have S:=S.below b7
   have H:=Q H b7
   have u:=V u b7
   have A:=V A b7
   have i:=Q i b7
   have m:=Q m b7
   have h:=BH h b7 An
   refine M<|G<|Bl D (fun cJ=>?_) fun cJ=>?_
   ·
    refine K<|N<|I D<|BP Ce m D<|I D<|AS OH D (Yq (w:=_) (k:=x.k) (n:=n) (C4:=C4) (An:=Bs An h.size) (hcap:=by omega) (b1.move h) b2 ⟨bm,H,u,A,aj,ak,al⟩) ?_
    rintro _ ik ⟨il,im,iq,rfl,ir,⟨_,eR,eS,eT,eU,eV,eW⟩,dD,dE,dF,eX⟩
    refine⟨_,D,?_⟩
    have eb:=Cq aB dD (Ar i)
    have ec:=Cq av dE (Ar i)
    have eY:=Cq aD dD (Ar m)
    have eZ:=Cq aw dE (Ar m)
    have i:=dF.Ag i (EX (by omega) aB av)
    have m:=dF.Ag m (EX (by omega) aD aw)
    have S:=S.trans dF (Jp ag aa)
    have ag:=ag.trans dD h.size;have aa:=aa.trans dE h.size
    have h:=h.trans eX
    have H:=eR;have u:=eS;have A:=eT;have aj:=eU;have ak:=eV;have al:=eW
    refine M<|G<|K<|N<|I D<|BP Ce m D<|I D<|AS Sk D (W_ (w:=_) (k:=x.k) (n:=n) (D':=D') (C4:=C4) (NV:=by omega) (hn:=by omega) H (he.below h) bJ (b1.below h) b2) ?_
    rintro _ iu ⟨d40,rfl,b8⟩
    refine⟨_,D,?_⟩
    have S:=S.below b8
    have H:=Q H b8
    have u:=V u b8
    have A:=V A b8
    have i:=Q i b8
    have m:=Q m b8
    have h:=BH h b8 An
    refine I D<|BC D D<|BC D D<|BQ [Av 32] ?_
    intro iv iw R au cq t
    have ix:=Bg h R
    have iy:=AP H R
    have e0:=BM u R
    have e1:=BM A R
    have iz:=AP i R
    have iA:=AP m R
    have S:=S.below t
    have H:=Q H t
    have u:=V u t
    have A:=V A t
    have i:=Q i t
    have m:=Q m t
    have h:=BH h t An
    rw[Du]at cq
    refine O D<|Bi 0 1 cq D D ?_
    intro iB au aS b9
    have S:=S.B1 b9
    have H:=Ag b9 H (by omega)
    have u:=Ax u b9 e0
    have A:=Ax A b9 e1
    have i:=Ag b9 i (by omega)
    have m:=Ag b9 m (by omega)
    have h:=CG h b9 An
    have cq:=aS
    refine M<|G<|K<|N<|I D<|Fi (q:=(0:Nat)) D D<|M<|G<|E7 D (fun e2=>?_) fun e2=>?_
    ·
     refine K<|?_
     intro a B
     refine EJ 3 ?_
     intro iC au t
     have S:=S.below t
     have H:=Q H t
     have u:=V u t
     have A:=V A t
     have i:=Q i t
     have cq:=Q cq t
     have h:=BH h t An
     revert a
     refine A3 D<|Ht BZ cq D<|Ff D<|?_
     intro a B;refine EG ?_;revert a
     refine Bi 0 1 i D D ?_
     intro iD au e3 cK
     have S:=S.B1 cK
     have H:=Ag cK H (by omega)
     have u:=Ax u cK eb
     have A:=Ax A cK ec
     have h:=CG h cK An
     refine M<|G<|AA<|AX<|?_
     intro a B
     refine Ky B D D D e3 BZ D (Cf 32) ?_
     have bj:=cH.trans (RO af cJ (by omega))
     subst bj
     exact⟨_,_,_,Ay,_,_,_,DV++ET C4 x.k n,d40,D,D,by rw[List.map_append,Pl],b5,⟨bm,H,u,A,aj,ak,al⟩,ag,aa,S,h⟩
    ·
     refine AE<|G<|?_
     intro a B
     exact⟨_,_,_,_,At B,by rw[if_pos cJ,List.map_append,Pl],fun q=>q.2 (by omega),A,h,H,u,T aj,T ak,al,ag,aa,S,i,T eb,T ec,T eY,T eZ,m⟩
   ·
    refine AE<|G<|?_
    intro a B
    exact⟨_,_,_,_,At B,by rw[if_neg cJ],fun q=>cJ q.1,A,h,H,u,T aj,T ak,al,ag,aa,S,i,T aB,T av,T aD,T aw,m⟩
  ·
   rintro a iE ⟨az,aA,aq,bd,B,dG,ed,A,h,H,u,aj,ak,al,ag,aa,S,i,aB,av,aD,aw,m⟩
   revert a
   refine K<|K<|N<|?_
   have iF:=DF D3 (by decide) A
   refine I D<|BY FB D<|Dk (q:=(1:Nat)) D D<|M<|G<|Bl D (fun e4=>?_) fun e4=>?_
   ·
    have bj:=cH.trans (PN af dG ed (by rw[bK];omega))
    have e5:r.2.2.length=bd.length+1:=by rw[bj];simp
    refine K<|?_
    intro a B
    refine FX (fun a W=>∃aO,∃d54:Jd,Ao 217 a (Ja (Ja (Ja (Ja (Ja (Ja (Ja Je 0 (AB b)) 1 (F bh a7 a_)) 2 (F (some ⟨bn,aW,none⟩) aN AJ)) 3 (E n)) 9 (AB an)) 10 (AB ao)) 13 (AB aO))∧W.ownsRow Aj 190 66 (.slice az aq aA) aq (Al CA bd)∧Below Aj w W∧Ai W b [[E wd],[E next],[F AQ 257 ce],[E root],[F CJ no co],[F Bf B6 cos],[F ai ab As],[F az aq aA]] 164∧W.ownsRow Aj 127 102 (.slice ai ab As) ab (Al Dd Ay)∧Z (F ai ab As) b∧Z (F az aq aA) b∧Ap (F ai ab As) (F az aq aA)∧AtR w.heap.size (F ai ab As) (F ai ab As)∧AtR w.heap.size (F az aq aA) (F aK aL cs)∧Bd (EZ b (F ai ab As) (F aK aL cs)) w W∧Ai W an [bv (List.replicate 32 0)] 125∧Z (F ai ab As) an∧Z (F az aq aA) an∧Z (F ai ab As) ao∧Z (F az aq aA) ao∧Ai W ao [bv x.k.l] 51∧w.heap.size≤aO∧Z (F az aq aA) aO∧Z (F ai ab As) aO∧b<aO∧an<aO∧ao<aO∧Ai W aO [bv d54.l] 125) ?_ ?_
    ·
     refine C7 (fun W=>Below Aj w W∧Ai W b [[E wd],[E next],[F AQ 257 ce],[E root],[F CJ no co],[F Bf B6 cos],[F ai ab As],[F az aq aA]] 164∧Ai W an [bv (List.replicate 32 0)] 125∧Ai W ao [bv x.k.l] 51) ?_
     intro iG au t
     have S:=S.below t
     have A:=V A t
     have H:=Q H t
     have u:=V u t
     have i:=Q i t
     have m:=Q m t
     have h:=BH h t An
     revert a
     refine Bk 0 D D ⟨h,H,i,m⟩<|CF 1 D D ⟨h,H,i,m⟩<|BW 2 D DR 0 D ⟨h,H,i,m⟩<|A5 3 D (fun W aF a B=>by obtain⟨h,H,i,m⟩:=aF;exact Cl B D AH D [] (E wd) [[E next],[F AQ 257 ce],[E root],[F CJ no co],[F Bf B6 cos],[F ai ab As],[F az aq aA]] H D) ⟨h,H,i,m⟩<|Bk 4 D D ⟨h,H,i,m⟩<|CF 5 D D ⟨h,H,i,m⟩<|BW 6 D DR 2 D ⟨h,H,i,m⟩<|A5 7 D (fun W aF a B=>by obtain⟨h,H,i,m⟩:=aF;exact Cl B D ID D [[E wd],[E next]] (F AQ 257 ce) [[E root],[F CJ no co],[F Bf B6 cos],[F ai ab As],[F az aq aA]] H D) ⟨h,H,i,m⟩<|Bk 8 D D ⟨h,H,i,m⟩<|Bk 9 D D ⟨h,H,i,m⟩<|?_
     intro aE Y
     refine EW 10 11 2 D D D D ?_ ?_
     ·
      intro Aa X
      refine B0 Y #[E wd,F AQ 257 ce,F (some ⟨bn,aW,none⟩) aN AJ,E n] Ks (NL (257 - n) n ((wd:Nat):Int) _ _ _ _ _ _ _ _ (by omega) (by omega) (by omega) (bI.below h) (he.below h) bJ (bc.below h) bK (fun x af=>(bP x af).below h) b3 b4) ?_
      rintro _ iH ⟨d54,rfl,b_⟩
      refine⟨_,D,?_⟩
      intro a B
      have S:=S.below b_
      have A:=V A b_
      have H:=Q H b_
      have u:=V u b_
      have i:=Q i b_
      have m:=Q m b_
      have h:=BH h b_ An
      refine X _ _ ⟨h,H,i,m⟩ ?_;revert a
      intro aE Y
      refine A8 11 1 D D ?_
      intro Aa X
      refine Fq Y D (z:=(Value.agg (flat [Av 32]))) (by kernel_rfl) (ss:=[Av 32]) D ?_
      intro a aO iI R B au P t
      have c5:=Bg h R
      have a4:=BM A R
      have c6:=AP H R
      have a8:=BM u R
      have c7:=AP i R
      have c8:=AP m R
      have S:=S.below t
      have A:=V A t
      have H:=Q H t
      have u:=V u t
      have i:=Q i t
      have m:=Q m t
      have h:=BH h t An
      rw[Du]at P
      refine X _ _ ⟨h,H,i,m⟩ ?_;revert a
      intro aE Y
      refine A8 12 0 D D ?_
      intro Aa X
      refine Gs Y D [] [bv (List.replicate 32 0)] [] [bv d54.l] P D D (Eq.trans (Jb.row (Jh List.length_replicate) Jb.nil) (Eq.symm (Jb.row d54.row Jb.nil))) (Cf 32) (Jc.row d54.row Jc.nil) ?_
      intro a e6 B au aS b'
      have S:=S.B1 b'
      have A:=Ax A b' a4
      have H:=Ag b' H (by omega)
      have u:=Ax u b' a8
      have i:=Ag b' i (by omega)
      have m:=Ag b' m (by omega)
      have h:=CG h b' An
      have P:Ai e6 aO [bv d54.l] 125:=aS
      refine X _ _ ⟨h,H,i,m⟩ ?_;revert a
      refine B_<|G<|?_
      intro a B
      exact⟨aO,d54,At B,A,h,H,u,aj,ak,al,ag,aa,S,i,aB,av,aD,aw,m,c5,a4,a8,c6,c7,c8,P⟩
     ·
      intro Aa X
      refine Fq Y D (z:=(Value.agg (flat [Av 32]))) (by kernel_rfl) (ss:=[Av 32]) D ?_
      intro a aO iJ R B au P t
      have c5:=Bg h R
      have ee:=BM A R
      have c6:=AP H R
      have ef:=BM u R
      have c7:=AP i R
      have c8:=AP m R
      have S:=S.below t
      have A:=V A t
      have H:=Q H t
      have u:=V u t
      have i:=Q i t
      have m:=Q m t
      have h:=BH h t An
      rw[Du]at P
      refine X _ _ ⟨h,H,i,m⟩ ?_;revert a
      intro aE Y
      refine A8 10 1 D D ?_
      intro Aa X
      refine B0 Y #[E wd,F AQ 257 ce,F (some ⟨bn,aW,none⟩) aN AJ,E n] Ks (NL (257 - n) n ((wd:Nat):Int) _ _ _ _ _ _ _ _ (by omega) (by omega) (by omega) (bI.below h) (he.below h) bJ (bc.below h) bK (fun x af=>(bP x af).below h) b3 b4) ?_
      rintro _ iK ⟨d65,rfl,bQ⟩
      refine⟨_,D,?_⟩
      intro a B
      have S:=S.below bQ
      have A:=V A bQ
      have H:=Q H bQ
      have u:=V u bQ
      have i:=Q i bQ
      have m:=Q m bQ
      have P:=Q P bQ
      have h:=BH h bQ An
      refine X _ _ ⟨h,H,i,m⟩ ?_;revert a
      intro aE Y
      refine A8 12 0 D D ?_
      intro Aa X
      refine Gs Y D [] [bv (List.replicate 32 0)] [] [bv d65.l] P D D (Eq.trans (Jb.row (Jh List.length_replicate) Jb.nil) (Eq.symm (Jb.row d65.row Jb.nil))) (Cf 32) (Jc.row d65.row Jc.nil) ?_
      intro a e7 B au aS ca
      have S:=S.B1 ca
      have A:=Ax A ca ee
      have H:=Ag ca H (by omega)
      have u:=Ax u ca ef
      have i:=Ag ca i (by omega)
      have m:=Ag ca m (by omega)
      have h:=CG h ca An
      have P:Ai e7 aO [bv d65.l] 125:=aS
      refine X _ _ ⟨h,H,i,m⟩ ?_;revert a
      refine B_<|G<|?_
      intro a B
      exact⟨aO,d65,At B,A,h,H,u,aj,ak,al,ag,aa,S,i,aB,av,aD,aw,m,c5,ee,ef,c6,c7,c8,P⟩
    ·
     rintro a iL ⟨aO,d54,B,A,h,H,u,aj,ak,al,ag,aa,S,i,aB,av,aD,aw,m,c5,a4,a8,c6,c7,c8,P⟩
     revert a
     refine G<|K<|?_
     intro a B
     refine C7 (fun W=>Below Aj w W∧Ai W b [[E wd],[E next],[F AQ 257 ce],[E root],[F CJ no co],[F Bf B6 cos],[F ai ab As],[F az aq aA]] 164∧Ai W an [bv (List.replicate 32 0)] 125∧Ai W ao [bv x.k.l] 51∧Ai W aO [bv d54.l] 125) ?_
     intro iM au t
     have S:=S.below t
     have A:=V A t
     have H:=Q H t
     have u:=V u t
     have i:=Q i t
     have m:=Q m t
     have P:=Q P t
     have h:=BH h t An
     revert a
     refine Bk 0 D D ⟨h,H,i,m,P⟩<|CF 1 D D ⟨h,H,i,m,P⟩<|BW 2 D DR 3 D ⟨h,H,i,m,P⟩<|BW 3 D Gx 4 D ⟨h,H,i,m,P⟩<|A5 4 D (fun W aF a B=>by obtain⟨h,H,i,m,P⟩:=aF;exact Cl B D FB D [[E wd],[E next],[F AQ 257 ce],[E root]] (F CJ no co) [[F Bf B6 cos],[F ai ab As],[F az aq aA]] H D) ⟨h,H,i,m,P⟩<|A5 5 D (fun W aF a B=>by obtain⟨h,H,i,m,P⟩:=aF;exact EO B D Ce D [] [bv x.k.l] [] m D (Cf 32)) ⟨h,H,i,m,P⟩<|?_
     intro aE Y
     refine A8 6 5 D D ?_
     intro Aa X
     refine B0 Y #[F CJ no co,Value.agg (flat [bv x.k.l])] Qk (Ur _ _ _ a9 x.k _ (by omega) (cC.below h) cD cn) ?_
     rintro _ iN ⟨cr,t74,rfl,e8,e9,bR⟩
     refine⟨_,D,?_⟩
     intro a B
     have S:=S.below bR
     have A:=V A bR
     have H:=Q H bR
     have u:=V u bR
     have i:=Q i bR
     have m:=Q m bR
     have P:=Q P bR
     have h:=BH h bR An
     refine X _ _ ⟨h,H,i,m,P⟩ ?_;revert a
     refine Bk 7 D D ⟨h,H,i,m,P⟩<|F5 8 D D D ⟨h,H,i,m,P⟩<|F5 9 D D D ⟨h,H,i,m,P⟩<|EY 10 D D ⟨h,H,i,m,P⟩<|EY 11 D D ⟨h,H,i,m,P⟩<|B_<|G<|K<|N<|O (v:=(E 0)) D<|M<|G<|?_
     intro a B
     refine ES (fun a W=>∃Ak bS,∃BU:Jd,∃aZ a0 aU cL,Ao 217 a (Ja (Ja (Ja (Ja (Ja (Ja (Ja (Ja (Ja (Ja Je 0 (AB b)) 1 (F bh a7 a_)) 2 (F (some ⟨bn,aW,none⟩) aN AJ)) 3 (E n)) 9 (AB an)) 10 (AB ao)) 13 (AB aO)) 14 (F cr.p cr.v.length cr.c)) 15 (Br t74)) 16 (E Ak))∧(Ak=if Fb (A7 a9) x.k.l x.s.v then(Gj (C4.map CK) x.k.l).2 else next)∧(bS=if Fb (A7 a9) x.k.l x.s.v then next else next+1)∧aU+next=ab+bS∧(∀y∈cL,IM bO y)∧W.ownsRow Aj 127 102 (.slice aZ aU a0) aU (Al Dd cL)∧W.ownsRow Aj 190 66 (.slice az aq aA) aq (Al CA bd)∧Below Aj w W∧Ai W b [[E wd],[E bS],[F AQ 257 ce],[E root],[F CJ no co],[F Bf B6 cos],[F aZ aU a0],[F az aq aA]] 164∧Z (F aZ aU a0) b∧Z (F az aq aA) b∧Ap (F aZ aU a0) (F az aq aA)∧AtR w.heap.size (F aZ aU a0) (F ai ab As)∧AtR w.heap.size (F az aq aA) (F aK aL cs)∧Bd (EZ b (F ai ab As) (F aK aL cs)) w W∧Ai W an [bv (List.replicate 32 0)] 125∧Z (F aZ aU a0) an∧Z (F az aq aA) an∧Z (F aZ aU a0) ao∧Z (F az aq aA) ao∧Ai W ao [bv x.k.l] 51∧Z (F az aq aA) aO∧Z (F aZ aU a0) aO∧Ai W aO [bv BU.l] 125) ?_ ?_
     ·
      refine ES (fun a W=>Ao 217 a (Ja (Ja (Ja (Ja (Ja (Ja (Ja (Ja (Ja (Ja (Ja Je 0 (AB b)) 1 (F bh a7 a_)) 2 (F (some ⟨bn,aW,none⟩) aN AJ)) 3 (E n)) 9 (AB an)) 10 (AB ao)) 13 (AB aO)) 14 (F cr.p cr.v.length cr.c)) 15 (Br t74)) 16 (E 0)) 92 (Br (Fb (A7 a9) x.k.l x.s.v)))∧W.ownsRow Aj 190 66 (.slice az aq aA) aq (Al CA bd)∧Below Aj w W∧Ai W b [[E wd],[E next],[F AQ 257 ce],[E root],[F CJ no co],[F Bf B6 cos],[F ai ab As],[F az aq aA]] 164∧W.ownsRow Aj 127 102 (.slice ai ab As) ab (Al Dd Ay)∧Z (F ai ab As) b∧Z (F az aq aA) b∧Ap (F ai ab As) (F az aq aA)∧AtR w.heap.size (F ai ab As) (F ai ab As)∧AtR w.heap.size (F az aq aA) (F aK aL cs)∧Bd (EZ b (F ai ab As) (F aK aL cs)) w W∧Ai W an [bv (List.replicate 32 0)] 125∧Z (F ai ab As) an∧Z (F az aq aA) an∧Z (F ai ab As) ao∧Z (F az aq aA) ao∧Ai W ao [bv x.k.l] 51∧Z (F az aq aA) aO∧Z (F ai ab As) aO∧Ai W aO [bv d54.l] 125) ?_ ?_
      ·
       revert a
       refine N<|?_
       rcases Bool.eq_false_or_eq_true t74 with cM|cM
       ·
        obtain⟨bA,dH,eg,rfl⟩:=e8 cM
        have e_:=cE bA dH
        refine AT (fun _ B=>Fk (Ew B (v:=(Br t74)) D) (congrArg Value.bool cM))<|I D<|Ad D D D<|I D<|Ad D D D<|I D<|?_
        have e':=BJ Ep (bc.below h) af (o:=aW+0*33)
        refine Ad D D D<|Cn DH 0 (aW+0*33) D D<|Ad D D D<|Am FE (aW+0*33+32) D<|Ad D D D<|Cg Cr (Dh [bv x.k.l] (F x.s.p x.s.v.length x.s.c) [] e' (Jb.row x.k.row Jb.nil)) D<|?_
        intro aE Y
        have fa:Dv Aj w bA.s.p bA.s.v.length bA.s.c 1 (bv bA.s.v):=(e_).Lk
        have fb:Dv Aj w x.s.p x.s.v.length x.s.c 1 (bv x.s.v):=(bP x (List.mem_of_getElem? af)).Lk
        refine Re D D D Y D (fun Aa X=>B0 Y #[F bA.s.p bA.s.v.length bA.s.c,F x.s.p x.s.v.length x.s.c] Nz (Pn _ _ _ _ _ _ _ _ _ (fa.below h) D (fb.below h) D) ?_)
        rintro _ iO ⟨rfl,bT⟩
        refine⟨_,D,?_⟩
        intro a B
        have S:=S.below bT
        have A:=V A bT
        have H:=Q H bT
        have u:=V u bT
        have i:=Q i bT
        have m:=Q m bT
        have P:=Q P bT
        have h:=BH h bT An
        refine X _ _ ?_;revert a
        refine Bn D D<|M<|G<|?_
        intro a B
        replace B:=B.HN 92 D (congrArg Value.bool (show decide (bA.s.v=x.s.v)=Fb (A7 a9) x.k.l x.s.v from by
         by_cases q:bA.s.v=x.s.v
         ·rw[decide_eq_true q,Yj dH eg q]
         ·rw[decide_eq_false q,Yf cn dH eg q]))
        exact⟨At B,A,h,H,u,T aj,T ak,al,ag,aa,S,i,T aB,T av,T aD,T aw,m,T a4,T a8,P⟩
       ·
        refine AT (fun _ B=>Fk (Ew B (v:=(Br t74)) D) (congrArg Value.bool cM))<|I D<|Ae D D D D<|Ae D D D D<|Ae D D D D<|Ae D D D D<|Ae D D D D<|Ae D D D D<|Ba D D<|M<|G<|?_
        intro a B
        replace B:=B.HN 92 D (congrArg Value.bool (Ty (v:=x.s.v) (e9 cM)).symm)
        exact⟨At B,A,h,H,u,T aj,T ak,al,ag,aa,S,i,T aB,T av,T aD,T aw,m,T a4,T a8,P⟩
      ·
       rintro a iP ⟨B,A,h,H,u,aj,ak,al,ag,aa,S,i,aB,av,aD,aw,m,a4,a8,P⟩
       revert a
       refine Ej D (fun cb=>?_) fun cb=>?_
       ·
        refine K<|N<|I D<|BP Ce m D<|AS P4 D (T7 (w:=_) (k:=x.k) (C4:=C4) (NV:=by omega) H (b1.below h) b2) ?_
        rintro _ iQ ⟨iR,d90,rfl,bU⟩
        refine⟨_,D,?_⟩
        have S:=S.below bU
        have A:=V A bU
        have H:=Q H bU
        have u:=V u bU
        have i:=Q i bU
        have m:=Q m bU
        have P:=Q P bU
        have h:=BH h bU An
        refine BQ [[E 0],[E 0],Av 32,Av 32] ?_
        intro iS iT R au bV t
        have iU:=Bg h R
        have fc:=BM A R
        have iV:=AP H R
        have fe:=BM u R
        have iW:=AP i R
        have iX:=AP m R
        have iY:=AP P R
        have S:=S.below t
        have A:=V A t
        have H:=Q H t
        have u:=V u t
        have i:=Q i t
        have m:=Q m t
        have P:=Q P t
        have h:=BH h t An
        refine Bi 0 4 bV D D ?_
        intro iZ au aS bW
        have S:=S.B1 bW
        have A:=Ax A bW fc
        have H:=Ag bW H (by omega)
        have u:=Ax u bW fe
        have i:=Ag bW i (by omega)
        have m:=Ag bW m (by omega)
        have P:=Ag bW P (by omega)
        have h:=CG h bW An
        have bV:=aS
        refine M<|G<|K<|N<|Am DE 1 D<|AK AH 1 bV D D<|O D<|M<|G<|K<|N<|Am DE 0 D<|AK AH 0 bV D D<|I D<|Ip D D<|M<|G<|Bl D (fun ff=>?_) fun ff=>?_
        ·
         intro a B
         refine EJ 16 ?_
         intro i_ au t
         have S:=S.below t
         have A:=V A t
         have H:=Q H t
         have u:=V u t
         have i:=Q i t
         have m:=Q m t
         have P:=Q P t
         have bV:=Q bV t
         have h:=BH h t An
         revert a
         refine A3 D<|Ee D<|Cx DR 2 D<|Dx ID 2 H D D<|A3 D<|Ee D<|Cx DR 0 D<|Dx AH 0 H D D<|Ht Ce m D<|Cx DE 0 D<|Dx AH 0 bV D D<|Cz (fun _ B=>LY B (k:=.i64) (p:=((256:Nat):Int)) (q:=((Gj (C4.map CK) x.k.l).1:Int)) D D D)<|Cx DE 34 D<|Nj BZ 3 1 [bv d90.l] bV D<|A3 D<|HI (p:=256) D D<|?_
         intro a B;refine EG ?_;revert a
         refine AS Lo D (LS _ _ D' ((wd:Nat):Int) x.k (IntKind.i64.wrap (((256:Nat):Int) - ((Gj (C4.map CK) x.k.l).1:Int)):Int) d90 ((256 - n:Nat):Int) _ (bI.below h) (he.below h) bJ) ?_
         rintro _ i' ⟨d98,rfl,bX⟩
         refine⟨_,D,?_⟩
         have S:=S.below bX
         have A:=V A bX
         have H:=Q H bX
         have u:=V u bX
         have i:=Q i bX
         have m:=Q m bX
         have P:=Q P bX
         have h:=BH h bX An
         refine Bi 0 1 P D D ?_
         intro ja au fg cc
         have S:=S.B1 cc
         have A:=Ax A cc a4
         have H:=Ag cc H (by omega)
         have u:=Ax u cc a8
         have i:=Ag cc i (by omega)
         have m:=Ag cc m (by omega)
         have h:=CG h cc An
         refine M<|G<|?_
         intro a B
         exact⟨_,_,_,_,_,_,_,At B,by rw[cb];rfl,by rw[cb];rfl,by omega,b5,u,A,h,H,T aj,T ak,al,ag,aa,S,i,T aB,T av,T aD,T aw,m,T a4,T a8,fg⟩
        ·
         refine AE<|G<|?_
         intro a B
         exact⟨_,_,_,_,_,_,_,At B,by rw[cb];rfl,by rw[cb];rfl,by omega,b5,u,A,h,H,T aj,T ak,al,ag,aa,S,i,T aB,T av,T aD,T aw,m,T a4,T a8,P⟩
       ·
        intro a B
        refine EJ 7 ?_
        intro jb au t
        have S:=S.below t
        have A:=V A t
        have H:=Q H t
        have u:=V u t
        have i:=Q i t
        have m:=Q m t
        have P:=Q P t
        have h:=BH h t An
        revert a
        refine A3 D<|Ht Ce m D<|A3 D<|?_
        have fh:=BJ Ep (bc.below h) af (o:=aW+0*33)
        refine C0 DH 0 (aW+0*33) D D<|Cx FE (aW+0*33+32) D<|Dw Cr (Dh [bv x.k.l] (F x.s.p x.s.v.length x.s.c) [] fh (Jb.row x.k.row Jb.nil)) D<|Cz (fun _ B=>GG B (Bf:=[(0,(E 1)),(7,(Value.agg (flat [bv x.k.l]))),(8,(F x.s.p x.s.v.length x.s.c))]) D (r:=flat [[E 1],[E 0],[E 0],[E 0],[E 0],Av 32,Av 32,bv x.k.l,[F x.s.p x.s.v.length x.s.c]]) (GI BD (ss:=[[E 0],[E 0],[E 0],[E 0],[E 0],Av 32,Av 32,Av 32,[F none 0 0]]) (by kernel_rfl) (places:=[(0,1),(1,1),(2,1),(3,1),(4,1),(5,32),(37,32),(69,32),(101,1)]) (by kernel_rfl) (C2 [] [[E 0]] [[E 0],[E 0],[E 0],[E 0],Av 32,Av 32,Av 32,[F none 0 0]] [[E 1]] D Jb.nil (Jb.one Jb.nil) (Jb.one Jb.nil) D (C2 [[E 1],[E 0],[E 0],[E 0],[E 0],Av 32,Av 32] [Av 32] [[F none 0 0]] [bv x.k.l] D (Jb.one (Jb.one (Jb.one (Jb.one (Jb.one (Jb.row (Jg 32) (Jb.row (Jg 32) Jb.nil))))))) (Jb.row (Jg 32) Jb.nil) (Jb.row x.k.row Jb.nil) D (C2 [[E 1],[E 0],[E 0],[E 0],[E 0],Av 32,Av 32,bv x.k.l] [[F none 0 0]] [] [[F x.s.p x.s.v.length x.s.c]] D (Jb.one (Jb.one (Jb.one (Jb.one (Jb.one (Jb.row (Jg 32) (Jb.row (Jg 32) (Jb.row x.k.row Jb.nil)))))))) (Jb.one Jb.nil) (Jb.one Jb.nil) D D)))))<|?_
        intro a B;refine EG ?_;revert a
        refine AS M0 D (RR (w:=_) (x:=(⟨1,0,0,0,0,Bh,Bh,x.k,x.s⟩:DD)) (An:=Bs An h.size) (hcap:=by omega) (Gb:=by omega) ⟨bm,H,u,A,aj,ak,al⟩) ?_
        rintro _ jc ⟨jd,je,rfl,⟨_,fi,fj,fk,fl,fm,fo⟩,c9,c_,c',fp⟩
        refine⟨_,D,?_⟩
        have fq:=Cq aB c9 (Ar i)
        have fr:=Cq av c_ (Ar i)
        have fs:=Cq aD c9 (Ar m)
        have ft:=Cq aw c_ (Ar m)
        have fu:=Cq a4 c_ (Ar P)
        have fv:=Cq a8 c9 (Ar P)
        have i:=c'.Ag i (EX (by omega) aB av)
        have m:=c'.Ag m (EX (by omega) aD aw)
        have P:=c'.Ag P (EX (by omega) a8 a4)
        have S:=S.trans c' (Jp ag aa)
        have ag:=ag.trans c9 h.size;have aa:=aa.trans c_ h.size
        have h:=h.trans fp
        have H:=fi;have u:=fj;have A:=fk;have aj:=fl;have ak:=fm;have al:=fo
        refine O D<|M<|G<|?_
        intro a B
        exact⟨_,_,_,_,_,_,_,At B,by rw[cb];rfl,by rw[cb];rfl,by omega,Gn b5 ⟨.inl D,.inr ⟨x,cG x (List.mem_of_getElem? af),D⟩,b4 x (List.mem_of_getElem? af),by simp⟩,u,A,h,H,T aj,T ak,al,ag,aa,S,i,T fq,T fr,T fs,T ft,m,T fu,T fv,P⟩
     ·
      rintro a jf ⟨Ak,bS,BU,aZ,a0,aU,cL,B,eh,fw,jg,fx,u,A,h,H,aj,ak,al,ag,aa,S,i,aB,av,aD,aw,m,a4,a8,P⟩
      revert a
      refine K<|?_
      intro a B
      refine FX (fun a W=>∃bo bp,Ao 217 a (Ja (Ja (Ja (Ja (Ja (Ja (Ja (Ja Je 0 (AB b)) 1 (F bh a7 a_)) 2 (F (some ⟨bn,aW,none⟩) aN AJ)) 3 (E n)) 9 (AB an)) 10 (AB ao)) 13 (AB aO)) 16 (E Ak))∧W.ownsRow Aj 127 102 (.slice aZ aU a0) aU (Al Dd cL)∧Below Aj w W∧Z (F aZ aU a0) b∧Z (F bo (aq+1) bp) b∧Ap (F aZ aU a0) (F bo (aq+1) bp)∧AtR w.heap.size (F aZ aU a0) (F ai ab As)∧AtR w.heap.size (F bo (aq+1) bp) (F aK aL cs)∧Bd (EZ b (F ai ab As) (F aK aL cs)) w W∧Ai W an [bv (List.replicate 32 0)] 125∧Z (F aZ aU a0) an∧Z (F bo (aq+1) bp) an∧Z (F aZ aU a0) ao∧Z (F bo (aq+1) bp) ao∧Ai W ao [bv x.k.l] 51∧Z (F bo (aq+1) bp) aO∧Z (F aZ aU a0) aO∧Ai W aO [bv BU.l] 125∧W.ownsRow Aj 190 66 (.slice bo (aq+1) bp) (aq+1) (Al CA (bd++[(⟨n,Ak,x.k,BU⟩:Co)]))∧Ai W b [[E wd],[E bS],[F AQ 257 ce],[E root],[F CJ no co],[F Bf B6 cos],[F aZ aU a0],[F bo (aq+1) bp]] 164) ?_ ?_
      ·
       refine C7 (fun W=>Below Aj w W∧Ai W an [bv (List.replicate 32 0)] 125∧Ai W ao [bv x.k.l] 51∧Ai W aO [bv BU.l] 125) ?_
       intro jh au t
       have S:=S.below t
       have u:=V u t
       have A:=V A t
       have H:=Q H t
       have i:=Q i t
       have m:=Q m t
       have P:=Q P t
       have h:=BH h t An
       revert a
       refine Bk 0 D D ⟨h,i,m,P⟩<|Bk 1 D D ⟨h,i,m,P⟩<|CF 2 D D ⟨h,i,m,P⟩<|BW 3 D DR 7 D ⟨h,i,m,P⟩<|Bk 5 D D ⟨h,i,m,P⟩<|Bk 6 D D ⟨h,i,m,P⟩<|A5 7 D (fun W aF a B=>by obtain⟨h,i,m,P⟩:=aF;exact EO B D Ce D [] [bv x.k.l] [] m D (Cf 32)) ⟨h,i,m,P⟩<|A5 8 D (fun W aF a B=>by obtain⟨h,i,m,P⟩:=aF;exact EO B D BZ D [] [bv BU.l] [] P D (Cf 32)) ⟨h,i,m,P⟩<|A5 9 D (fun W aF a B=>by obtain⟨h,i,m,P⟩:=aF;exact GG B (Bf:=[(0,(E n)),(1,(E Ak)),(2,(Value.agg (flat [bv x.k.l]))),(3,(Value.agg (flat [bv BU.l])))]) D (r:=flat [[E n],[E Ak],bv x.k.l,bv BU.l]) (GI DE (ss:=[[E 0],[E 0],Av 32,Av 32]) (by kernel_rfl) (places:=[(0,1),(1,1),(2,32),(34,32)]) (by kernel_rfl) (C2 [] [[E 0]] [[E 0],Av 32,Av 32] [[E n]] D Jb.nil (Jb.one Jb.nil) (Jb.one Jb.nil) D (C2 [[E n]] [[E 0]] [Av 32,Av 32] [[E Ak]] D (Jb.one Jb.nil) (Jb.one Jb.nil) (Jb.one Jb.nil) D (C2 [[E n],[E Ak]] [Av 32] [Av 32] [bv x.k.l] D (Jb.one (Jb.one Jb.nil)) (Jb.row (Jg 32) Jb.nil) (Jb.row x.k.row Jb.nil) D (C2 [[E n],[E Ak],bv x.k.l] [Av 32] [] [bv BU.l] D (Jb.one (Jb.one (Jb.row x.k.row Jb.nil))) (Jb.row (Jg 32) Jb.nil) (Jb.row BU.row Jb.nil) D D)))))) ⟨h,i,m,P⟩<|?_
       intro aE Y
       refine EW 4 10 5 D D D D ?_ ?_
       ·
        intro Aa X
        refine DI Y D (Cl Y D Ds D [[E wd],[E bS],[F AQ 257 ce],[E root],[F CJ no co],[F Bf B6 cos],[F aZ aU a0]] (F az aq aA) [] H D) ?_
        intro a B
        refine X _ _ ⟨h,i,m,P⟩ ?_;revert a
        intro aE Y
        refine A8 10 4 D D ?_
        intro Aa X
        refine EK Y DW [[E n],[E Ak],bv x.k.l,bv BU.l] ?_
        intro a ji B au fy t
        have S:=S.below t
        have u:=V u t
        have A:=V A t
        have H:=Q H t
        have i:=Q i t
        have m:=Q m t
        have P:=Q P t
        have h:=BH h t An
        refine X _ _ ⟨h,i,m,P⟩ ?_;revert a
        intro aE Y
        refine A8 11 3 D D ?_
        intro Aa X
        refine BK Y DW A fy C8 (Bs An h.size) (aq+1) (CC bd (⟨n,Ak,x.k,BU⟩:Co) D (D3 _)) ?_
        intro a bo bp jj B dI bf
        have fz:=al.Df bf (fun k cd=>(u.lt k cd).2)
        have ei:=A9 bf ak (Ar H)
        have fA:=A9 bf av (Ar i)
        have fB:=A9 bf aw (Ar m)
        have fC:=A9 bf a4 (Ar P)
        have S:=S.DB bf aa (fun _ q=>Or.inr (Or.inr q))
        have u:=Bm u bf al
        have H:=A' H bf ak
        have i:=A' i bf av
        have m:=A' m bf aw
        have P:=A' P bf a4
        have aa:=aa.C9 bf h.size
        have h:=EI h bf A An
        refine X _ _ ⟨h,i,m,P⟩ ?_;revert a
        refine CF 12 D D ⟨h,i,m,P⟩<|BW 13 D DR 7 D ⟨h,i,m,P⟩<|?_
        intro aE Y
        refine A8 14 0 D D ?_
        intro Aa X
        refine DM Y 7 H D D ?_
        intro a jk B au fD cf
        have S:=S.B1 cf
        have u:=Ax u cf aj
        have i:=Ag cf i (by omega)
        have m:=Ag cf m (by omega)
        have P:=Ag cf P (by omega)
        have dI:=Ax dI cf ei
        have h:=CG h cf An
        refine X _ _ ⟨h,i,m,P⟩ ?_;revert a
        refine B_<|G<|?_
        intro a B
        exact⟨bo,bp,At B,u,h,aj,ei,fz,ag,aa,S,i,aB,fA,aD,fB,m,fC,a8,P,dI,fD⟩
       ·
        intro Aa X
        refine EK Y DW [[E n],[E Ak],bv x.k.l,bv BU.l] ?_
        intro a jl B au fE t
        have S:=S.below t
        have u:=V u t
        have A:=V A t
        have H:=Q H t
        have i:=Q i t
        have m:=Q m t
        have P:=Q P t
        have h:=BH h t An
        refine X _ _ ⟨h,i,m,P⟩ ?_;revert a
        intro aE Y
        refine A8 4 4 D D ?_
        intro Aa X
        refine DI Y D (Cl Y D Ds D [[E wd],[E bS],[F AQ 257 ce],[E root],[F CJ no co],[F Bf B6 cos],[F aZ aU a0]] (F az aq aA) [] H D) ?_
        intro a B
        refine X _ _ ⟨h,i,m,P⟩ ?_;revert a
        intro aE Y
        refine A8 11 3 D D ?_
        intro Aa X
        refine BK Y DW A fE C8 (Bs An h.size) (aq+1) (CC bd (⟨n,Ak,x.k,BU⟩:Co) D (D3 _)) ?_
        intro a fF fG jm B dJ bg
        have fH:=al.Df bg (fun k cd=>(u.lt k cd).2)
        have ej:=A9 bg ak (Ar H)
        have fI:=A9 bg av (Ar i)
        have fJ:=A9 bg aw (Ar m)
        have fK:=A9 bg a4 (Ar P)
        have S:=S.DB bg aa (fun _ q=>Or.inr (Or.inr q))
        have u:=Bm u bg al
        have H:=A' H bg ak
        have i:=A' i bg av
        have m:=A' m bg aw
        have P:=A' P bg a4
        have aa:=aa.C9 bg h.size
        have h:=EI h bg A An
        refine X _ _ ⟨h,i,m,P⟩ ?_;revert a
        refine CF 12 D D ⟨h,i,m,P⟩<|BW 13 D DR 7 D ⟨h,i,m,P⟩<|?_
        intro aE Y
        refine A8 14 0 D D ?_
        intro Aa X
        refine DM Y 7 H D D ?_
        intro a jn B au fL cg
        have S:=S.B1 cg
        have u:=Ax u cg aj
        have i:=Ag cg i (by omega)
        have m:=Ag cg m (by omega)
        have P:=Ag cg P (by omega)
        have dJ:=Ax dJ cg ej
        have h:=CG h cg An
        refine X _ _ ⟨h,i,m,P⟩ ?_;revert a
        refine B_<|G<|?_
        intro a B
        exact⟨fF,fG,At B,u,h,aj,ej,fH,ag,aa,S,i,aB,fI,aD,fJ,m,fK,a8,P,dJ,fL⟩
      ·
       rintro a jo ⟨bo,bp,B,u,h,aj,ak,al,ag,aa,S,i,aB,av,aD,aw,m,a4,a8,P,A,H⟩
       revert a
       refine G<|K<|?_
       intro a B
       refine EJ 3 ?_
       intro jq au t
       have S:=S.below t
       have u:=V u t
       have i:=Q i t
       have P:=Q P t
       have A:=V A t
       have H:=Q H t
       have h:=BH h t An
       revert a
       refine A3 D<|Ht BZ P D<|Ff D<|?_
       intro a B;refine EG ?_;revert a
       refine Bi 0 1 i D D ?_
       intro jr au fM cN
       have S:=S.B1 cN
       have u:=Ax u cN aB
       have A:=Ax A cN av
       have H:=Ag cN H (by omega)
       have h:=CG h cN An
       refine M<|G<|AA<|AX<|?_
       intro a B
       refine Ky B D D D fM BZ D (Cf 32) ?_
       have fN:r.1=Ak:=by rw[bj,eh]
       have fO:r.2.1=bS:=by rw[bj,fw]
       exact⟨_,_,_,cL,_,_,_,bd++[(⟨n,Ak,x.k,BU⟩:Co)],BU,by rw[fN],by omega,by rw[bj,List.map_append,←eh];rfl,fx,by rw[fO];exact⟨bm,H,u,A,aj,ak,al⟩,ag,aa,S,h⟩
   ·
    refine AE<|G<|K<|N<|?_
    have da:n<256:=b3.lt hn (by omega)
    have js:=N4 aM n
    have jt:=N4 BX n
    have dK:=YF dG eK b6
    obtain⟨aH,cO⟩:∃g,g=DT f (C4.map CK) (A7 a9) (A7 (aM.take (BF aM n))) (A7 (BX.take (BF BX n))) (n+1) next (bd.map CK):=⟨_,D⟩
    obtain⟨ar,cP⟩:∃g,g=DT f (C4.map CK) (A7 a9) (A7 (aM.drop (BF aM n))) (A7 (BX.drop (BF BX n))) (n+1) aH.2.1 aH.2.2:=⟨_,D⟩
    have db:next≤aH.2.1∧(bd.map CK).length≤aH.2.2.length:=by rw[cO];exact JO _ _ _ _ _ _ _ _
    have ju:aH.2.1≤ar.2.1∧aH.2.2.length≤ar.2.2.length:=by rw[cP];exact JO _ _ _ _ _ _ _ _
    have dL:aH.1≤aH.2.1∧∀x∈aH.2.2,x.2.1≤aH.2.1:=by rw[cO];exact OF _ _ _ _ _ _ _ _ (LX b6) (LX dK)
    have jv:ar.1≤ar.2.1∧∀x∈ar.2.2,x.2.1≤ar.2.1:=by rw[cP];exact OF _ _ _ _ _ _ _ _ (fun x af=>Bs (LX b6 x af) db.1) dL.2
    have bj:r=(ar.2.1,ar.2.1+1,ar.2.2++[(n,ar.2.1,x.k.l)]):=cH.trans (Su (r1:=aH) (r2:=ar) af dG ed (by rw[bK];omega) (by rw[cO,J4,J4,I9,I9]) (by rw[cP,Ku,Ku,I9,I9]))
    have jw:r.2.1=ar.2.1+1:=by rw[bj]
    have e5:r.2.2.length=ar.2.2.length+1:=by rw[bj];simp
    rw[List.length_map]at db
    refine I D<|I D<|AS Mw D (MH _ _ _ _ n _ (by omega) (by omega) (hm.below h) c2) ?_
    rintro _ jx ⟨rfl,ch⟩
    refine⟨_,D,?_⟩
    have S:=S.below ch
    have A:=V A ch
    have H:=Q H ch
    have u:=V u ch
    have i:=Q i ch
    have m:=Q m ch
    have h:=BH h ch An
    refine O D<|M<|G<|K<|N<|I D<|I D<|AS Mw D (MH _ _ _ _ n _ (by omega) (by omega) (bc.below h) bK) ?_
    rintro _ jy ⟨rfl,cj⟩
    refine⟨_,D,?_⟩
    have S:=S.below cj
    have A:=V A cj
    have H:=Q H cj
    have u:=V u cj
    have i:=Q i cj
    have m:=Q m cj
    have h:=BH h cj An
    refine O D<|M<|G<|K<|?_
    intro a B
    refine FX (fun a W=>∃aC bq bk br,∃cQ:List Co,∃bs a' bt cR,∃d160:Jd,Ao 217 a (Ja (Ja (Ja (Ja (Ja (Ja (Ja (Ja (Ja (Ja Je 0 (AB b)) 1 (F bh a7 a_)) 2 (F (some ⟨bn,aW,none⟩) aN AJ)) 3 (E n)) 9 (AB an)) 10 (AB ao)) 18 (E (BF aM n))) 19 (E (BF BX n))) 21 (AB aC)) 20 (E aH.1))∧W.ownsRow Aj 190 66 (.slice bq bk br) bk (Al CA cQ)∧Below Aj w W∧Ai W b [[E wd],[E aH.2.1],[F AQ 257 ce],[E root],[F CJ no co],[F Bf B6 cos],[F bs a' bt],[F bq bk br]] 164∧W.ownsRow Aj 127 102 (.slice bs a' bt) a' (Al Dd cR)∧Z (F bs a' bt) b∧Z (F bq bk br) b∧Ap (F bs a' bt) (F bq bk br)∧AtR w.heap.size (F bs a' bt) (F ai ab As)∧AtR w.heap.size (F bq bk br) (F aK aL cs)∧Bd (EZ b (F ai ab As) (F aK aL cs)) w W∧Ai W an [bv (List.replicate 32 0)] 125∧Z (F bs a' bt) an∧Z (F bq bk br) an∧Z (F bs a' bt) ao∧Z (F bq bk br) ao∧Ai W ao [bv x.k.l] 51∧a'+next=ab+aH.2.1∧cQ.map CK=aH.2.2∧(∀x∈cR,IM bO x)∧w.heap.size≤aC∧Z (F bq bk br) aC∧Z (F bs a' bt) aC∧b<aC∧an<aC∧ao<aC∧Ai W aC [bv d160.l] 125) ?_ ?_
    ·
     refine C7 (fun W=>Below Aj w W∧Ai W an [bv (List.replicate 32 0)] 125∧Ai W ao [bv x.k.l] 51) ?_
     intro jz au t
     have S:=S.below t
     have A:=V A t
     have H:=Q H t
     have u:=V u t
     have i:=Q i t
     have m:=Q m t
     have h:=BH h t An
     revert a
     refine Bk 0 D D ⟨h,i,m⟩<|Bk 1 D D ⟨h,i,m⟩<|Bk 2 D D ⟨h,i,m⟩<|?_
     have hcap:=(hm.below h).cap
     have dM:=Dv.front hm (BF aM n) (by omega)
     rw[KQ Ep]at dM
     have ek:(aM.take (BF aM n)).length=(BF aM n):=by have:=c2;simp only[List.length_take];omega
     refine A5 3 D (fun W aF a B=>by obtain⟨h,i,m⟩:=aF;exact IW B DH D (BF aM n) (k:=.i64) D) ⟨h,i,m⟩<|Bk 4 D D ⟨h,i,m⟩<|Bk 5 D D ⟨h,i,m⟩<|?_
     have hcap:=(bc.below h).cap
     have dN:=Dv.front bc (BF BX n) (by omega)
     rw[KQ Ep]at dN
     have en:(BX.take (BF BX n)).length=(BF BX n):=by have:=bK;simp only[List.length_take];omega
     refine A5 6 D (fun W aF a B=>by obtain⟨h,i,m⟩:=aF;exact IW B DH D (BF BX n) (k:=.i64) D) ⟨h,i,m⟩<|Bk 7 D D ⟨h,i,m⟩<|KL 8 D (q:=1) D D ⟨h,i,m⟩<|?_
     intro aE Y
     refine EW 9 13 6 D D D D ?_ ?_
     ·
      intro Aa X
      refine B0 Y #[AB b,F bh (BF aM n) a_,F (some ⟨bn,aW,none⟩) (BF BX n) AJ,E (n+1)] KB (c1 (n+1) (r:=aH) (by omega) (by omega) (Bs An h.size) (bI.move h) ⟨bm,H,u,A,aj,ak,al⟩ (he.move h) bJ (cC.move h) cD (b1.move h) b2 (dM.move h) ek (dN.move h) en (fun x af=>(cE x af).move h) (fun x af=>(cF x (List.mem_of_mem_take af)).move h) (fun x af=>(bP x (List.mem_of_mem_take af)).move h) cn (b3.left da) (fun x af=>b4 x (List.mem_of_mem_take af)) (fun x af=>cG x (List.mem_of_mem_take af)) b5 b6 dK c3 c4 (by omega) (by omega) cO (by omega) (by omega) (by omega)) ?_
      rintro _ jA ⟨bs,a',bt,cR,bq,bk,br,cQ,d160,rfl,eo,ct,dc,⟨_,fP,fQ,fR,fS,fT,fU⟩,dO,dP,dQ,fV⟩
      refine⟨_,D,?_⟩
      intro a B
      have fW:=Cq aB dO (Ar i)
      have fX:=Cq av dP (Ar i)
      have fY:=Cq aD dO (Ar m)
      have fZ:=Cq aw dP (Ar m)
      have i:=dQ.Ag i (EX (by omega) aB av)
      have m:=dQ.Ag m (EX (by omega) aD aw)
      have S:=S.trans dQ (Jp ag aa)
      have ag:=ag.trans dO h.size;have aa:=aa.trans dP h.size
      have h:=h.trans fV
      have H:=fP;have u:=fQ;have A:=fR;have aj:=fS;have ak:=fT;have al:=fU
      refine X _ _ ⟨h,i,m⟩ ?_;revert a
      refine Bk 10 D D ⟨h,i,m⟩<|F5 11 D D D ⟨h,i,m⟩<|F5 12 D D D ⟨h,i,m⟩<|?_
      intro aE Y
      refine A8 13 2 D D ?_
      intro Aa X
      refine Fq Y D (z:=(Value.agg (flat [Av 32]))) (by kernel_rfl) (ss:=[Av 32]) D ?_
      intro a aC jB R B au C t
      have dd:=Bg h R
      have aR:=BM A R
      have de:=AP H R
      have a6:=BM u R
      have df:=AP i R
      have dg:=AP m R
      have S:=S.below t
      have A:=V A t
      have H:=Q H t
      have u:=V u t
      have i:=Q i t
      have m:=Q m t
      have h:=BH h t An
      rw[Du]at C
      refine X _ _ ⟨h,i,m⟩ ?_;revert a
      refine EY 14 D D ⟨h,i,m⟩<|?_
      intro aE Y
      refine A8 15 0 D D ?_
      intro Aa X
      refine Gs Y D [] [bv (List.replicate 32 0)] [] [bv d160.l] C D D (Eq.trans (Jb.row (Jh List.length_replicate) Jb.nil) (Eq.symm (Jb.row d160.row Jb.nil))) (Cf 32) (Jc.row d160.row Jc.nil) ?_
      intro a f_ B au aS ck
      have S:=S.B1 ck
      have A:=Ax A ck aR
      have H:=Ag ck H (by omega)
      have u:=Ax u ck a6
      have i:=Ag ck i (by omega)
      have m:=Ag ck m (by omega)
      have h:=CG h ck An
      have C:Ai f_ aC [bv d160.l] 125:=aS
      refine X _ _ ⟨h,i,m⟩ ?_;revert a
      refine B_<|G<|?_
      intro a B
      exact⟨aC,bq,bk,br,cQ,bs,a',bt,cR,d160,At B,A,h,H,u,aj,ak,al,ag,aa,S,i,fW,fX,fY,fZ,m,eo,ct,dc,dd,aR,a6,de,df,dg,C⟩
     ·
      intro Aa X
      refine Fq Y D (z:=(Value.agg (flat [Av 32]))) (by kernel_rfl) (ss:=[Av 32]) D ?_
      intro a aC jC R B au C t
      have dd:=Bg h R
      have ep:=BM A R
      have de:=AP H R
      have er:=BM u R
      have df:=AP i R
      have dg:=AP m R
      have S:=S.below t
      have A:=V A t
      have H:=Q H t
      have u:=V u t
      have i:=Q i t
      have m:=Q m t
      have h:=BH h t An
      rw[Du]at C
      refine X _ _ ⟨h,i,m⟩ ?_;revert a
      intro aE Y
      refine A8 9 5 D D ?_
      intro Aa X
      refine B0 Y #[AB b,F bh (BF aM n) a_,F (some ⟨bn,aW,none⟩) (BF BX n) AJ,E (n+1)] KB (c1 (n+1) (r:=aH) (by omega) (by omega) (Bs An h.size) (bI.move h) ⟨bm,H,u,A,aj,ak,al⟩ (he.move h) bJ (cC.move h) cD (b1.move h) b2 (dM.move h) ek (dN.move h) en (fun x af=>(cE x af).move h) (fun x af=>(cF x (List.mem_of_mem_take af)).move h) (fun x af=>(bP x (List.mem_of_mem_take af)).move h) cn (b3.left da) (fun x af=>b4 x (List.mem_of_mem_take af)) (fun x af=>cG x (List.mem_of_mem_take af)) b5 b6 dK c3 c4 (by omega) (by omega) cO (by omega) (by omega) (by omega)) ?_
      rintro _ jD ⟨f',ga,gb,gd,gf,gg,gh,gi,cS,rfl,gj,gk,gl,⟨_,gm,gn,gp,gq,gr,gu⟩,dh,di,dj,gv⟩
      refine⟨_,D,?_⟩
      intro a B
      have gw:=Cq aB dh (Ar i)
      have gx:=Cq av di (Ar i)
      have gy:=Cq aD dh (Ar m)
      have gz:=Cq aw di (Ar m)
      have et:=Cq ep di (Ar C)
      have eu:=Cq er dh (Ar C)
      have i:=dj.Ag i (EX (by omega) aB av)
      have m:=dj.Ag m (EX (by omega) aD aw)
      have C:=dj.Ag C (EX (by omega) er ep)
      have S:=S.trans dj (Jp ag aa)
      have ag:=ag.trans dh h.size;have aa:=aa.trans di h.size
      have h:=h.trans gv
      have H:=gm;have u:=gn;have A:=gp;have aj:=gq;have ak:=gr;have al:=gu
      refine X _ _ ⟨h,i,m⟩ ?_;revert a
      refine Bk 10 D D ⟨h,i,m⟩<|F5 11 D D D ⟨h,i,m⟩<|F5 12 D D D ⟨h,i,m⟩<|EY 14 D D ⟨h,i,m⟩<|?_
      intro aE Y
      refine A8 15 0 D D ?_
      intro Aa X
      refine Gs Y D [] [bv (List.replicate 32 0)] [] [bv cS.l] C D D (Eq.trans (Jb.row (Jh List.length_replicate) Jb.nil) (Eq.symm (Jb.row cS.row Jb.nil))) (Cf 32) (Jc.row cS.row Jc.nil) ?_
      intro a gA B au aS cl
      have S:=S.B1 cl
      have A:=Ax A cl et
      have H:=Ag cl H (by omega)
      have u:=Ax u cl eu
      have i:=Ag cl i (by omega)
      have m:=Ag cl m (by omega)
      have h:=CG h cl An
      have C:Ai gA aC [bv cS.l] 125:=aS
      refine X _ _ ⟨h,i,m⟩ ?_;revert a
      refine B_<|G<|?_
      intro a B
      exact⟨aC,gf,gg,gh,gi,f',ga,gb,gd,cS,At B,A,h,H,u,aj,ak,al,ag,aa,S,i,gw,gx,gy,gz,m,gj,gk,gl,dd,et,eu,de,df,dg,C⟩
    ·
     rintro a jE ⟨aC,bq,bk,br,cQ,bs,a',bt,cR,d160,B,A,h,H,u,aj,ak,al,ag,aa,S,i,aB,av,aD,aw,m,eo,ct,dc,dd,aR,a6,de,df,dg,C⟩
     revert a
     refine G<|K<|?_
     intro a B
     refine FX (fun a W=>∃aG ax ad ay,∃bl:List Co,∃aI ae aJ bB,∃a1:Jd,Ao 217 a (Ja (Ja (Ja (Ja (Ja (Ja (Ja (Ja (Ja (Ja Je 0 (AB b)) 2 (F (some ⟨bn,aW,none⟩) aN AJ)) 3 (E n)) 9 (AB an)) 10 (AB ao)) 19 (E (BF BX n))) 21 (AB aC)) 20 (E aH.1)) 23 (AB aG)) 22 (E ar.1))∧W.ownsRow Aj 190 66 (.slice ax ad ay) ad (Al CA bl)∧Below Aj w W∧Ai W b [[E wd],[E ar.2.1],[F AQ 257 ce],[E root],[F CJ no co],[F Bf B6 cos],[F aI ae aJ],[F ax ad ay]] 164∧W.ownsRow Aj 127 102 (.slice aI ae aJ) ae (Al Dd bB)∧Z (F aI ae aJ) b∧Z (F ax ad ay) b∧Ap (F aI ae aJ) (F ax ad ay)∧AtR w.heap.size (F aI ae aJ) (F ai ab As)∧AtR w.heap.size (F ax ad ay) (F aK aL cs)∧Bd (EZ b (F ai ab As) (F aK aL cs)) w W∧Ai W an [bv (List.replicate 32 0)] 125∧Z (F aI ae aJ) an∧Z (F ax ad ay) an∧Z (F aI ae aJ) ao∧Z (F ax ad ay) ao∧Ai W ao [bv x.k.l] 51∧Z (F ax ad ay) aC∧Z (F aI ae aJ) aC∧Ai W aC [bv d160.l] 125∧ae+aH.2.1=a'+ar.2.1∧bl.map CK=ar.2.2∧(∀x∈bB,IM bO x)∧w.heap.size≤aG∧Z (F ax ad ay) aG∧Z (F aI ae aJ) aG∧b<aG∧an<aG∧ao<aG∧aC<aG∧Ai W aG [bv a1.l] 125) ?_ ?_
     ·
      refine C7 (fun W=>Below Aj w W∧Ai W an [bv (List.replicate 32 0)] 125∧Ai W ao [bv x.k.l] 51∧Ai W aC [bv d160.l] 125) ?_
      intro jF au t
      have S:=S.below t
      have A:=V A t
      have H:=Q H t
      have u:=V u t
      have i:=Q i t
      have m:=Q m t
      have C:=Q C t
      have h:=BH h t An
      revert a
      refine Bk 0 D D ⟨h,i,m,C⟩<|Bk 1 D D ⟨h,i,m,C⟩<|Bk 2 D D ⟨h,i,m,C⟩<|?_
      obtain⟨ev,gB,cT,gC⟩:=JY DH hm.v (BF aM n)
      have cT:=Dv.sub hm (cT _ hm.v) gC
      rw[Lj Ep]at cT
      have ew:(aM.drop (BF aM n)).length=a7 - (BF aM n):=by have:=c2;simp only[List.length_drop];omega
      refine A5 3 D (fun W aF a B=>by obtain⟨h,i,m,C⟩:=aF;exact I_ B D (BF aM n) (k:=.i64) D gB) ⟨h,i,m,C⟩<|Bk 4 D D ⟨h,i,m,C⟩<|Bk 5 D D ⟨h,i,m,C⟩<|?_
      obtain⟨ey,gD,cU,gE⟩:=JY DH bc.v (BF BX n)
      have cU:=Dv.sub bc (cU _ bc.v) gE
      rw[Lj Ep]at cU
      have ez:(BX.drop (BF BX n)).length=aN - (BF BX n):=by have:=bK;simp only[List.length_drop];omega
      refine A5 6 D (fun W aF a B=>by obtain⟨h,i,m,C⟩:=aF;exact I_ B D (BF BX n) (k:=.i64) D gD) ⟨h,i,m,C⟩<|Bk 7 D D ⟨h,i,m,C⟩<|KL 8 D (q:=1) D D ⟨h,i,m,C⟩<|?_
      intro aE Y
      refine EW 9 13 6 D D D D ?_ ?_
      ·
       intro Aa X
       refine B0 Y #[AB b,F ev (a7 - (BF aM n)) (a_ - (BF aM n)),F ey (aN - (BF BX n)) (AJ - (BF BX n)),E (n+1)] KB (c1 (n+1) (r:=ar) (by omega) (by omega) (Bs An h.size) (bI.move h) ⟨bm,H,u,A,aj,ak,al⟩ (he.move h) bJ (cC.move h) cD (b1.move h) b2 (cT.move h) ew (cU.move h) ez (fun x af=>(cE x af).move h) (fun x af=>(cF x (List.mem_of_mem_drop af)).move h) (fun x af=>(bP x (List.mem_of_mem_drop af)).move h) cn (b3.right da) (fun x af=>b4 x (List.mem_of_mem_drop af)) (fun x af=>cG x (List.mem_of_mem_drop af)) dc (fun x af=>Bs (b6 x af) db.1) (MJ ct dL.2) c3 c4 (by omega) (by omega) (by rw[ct];exact cP) (by omega) (by omega) (by omega)) ?_
       rintro _ jG ⟨aI,ae,aJ,bB,ax,ad,ay,bl,a1,rfl,eA,dk,dR,⟨_,gF,gG,gH,gI,gJ,gK⟩,dm,dn,dp,gL⟩
       refine⟨_,D,?_⟩
       intro a B
       have gM:=Cq aB dm (Ar i)
       have gN:=Cq av dn (Ar i)
       have gO:=Cq aD dm (Ar m)
       have gP:=Cq aw dn (Ar m)
       have gQ:=Cq aR dn (Ar C)
       have gR:=Cq a6 dm (Ar C)
       have i:=dp.Ag i (EX (by omega) aB av)
       have m:=dp.Ag m (EX (by omega) aD aw)
       have C:=dp.Ag C (EX (by omega) a6 aR)
       have S:=S.trans dp (Jp ag aa)
       have ag:=ag.trans dm h.size;have aa:=aa.trans dn h.size
       have h:=h.trans gL
       have H:=gF;have u:=gG;have A:=gH;have aj:=gI;have ak:=gJ;have al:=gK
       refine X _ _ ⟨h,i,m,C⟩ ?_;revert a
       refine Bk 10 D D ⟨h,i,m,C⟩<|F5 11 D D D ⟨h,i,m,C⟩<|F5 12 D D D ⟨h,i,m,C⟩<|?_
       intro aE Y
       refine A8 13 2 D D ?_
       intro Aa X
       refine Fq Y D (z:=(Value.agg (flat [Av 32]))) (by kernel_rfl) (ss:=[Av 32]) D ?_
       intro a aG jH R B au J t
       have dq:=Bg h R
       have aX:=BM A R
       have dr:=AP H R
       have bu:=BM u R
       have ds:=AP i R
       have dt:=AP m R
       have du:=AP C R
       have S:=S.below t
       have A:=V A t
       have H:=Q H t
       have u:=V u t
       have i:=Q i t
       have m:=Q m t
       have C:=Q C t
       have h:=BH h t An
       rw[Du]at J
       refine X _ _ ⟨h,i,m,C⟩ ?_;revert a
       refine EY 14 D D ⟨h,i,m,C⟩<|?_
       intro aE Y
       refine A8 15 0 D D ?_
       intro Aa X
       refine Gs Y D [] [bv (List.replicate 32 0)] [] [bv a1.l] J D D (Eq.trans (Jb.row (Jh List.length_replicate) Jb.nil) (Eq.symm (Jb.row a1.row Jb.nil))) (Cf 32) (Jc.row a1.row Jc.nil) ?_
       intro a gS B au aS bY
       have S:=S.B1 bY
       have A:=Ax A bY aX
       have H:=Ag bY H (by omega)
       have u:=Ax u bY bu
       have i:=Ag bY i (by omega)
       have m:=Ag bY m (by omega)
       have C:=Ag bY C (by omega)
       have h:=CG h bY An
       have J:Ai gS aG [bv a1.l] 125:=aS
       refine X _ _ ⟨h,i,m,C⟩ ?_;revert a
       refine B_<|G<|?_
       intro a B
       exact⟨aG,ax,ad,ay,bl,aI,ae,aJ,bB,a1,At B,A,h,H,u,aj,ak,al,ag,aa,S,i,gM,gN,gO,gP,m,gQ,gR,C,eA,dk,dR,dq,aX,bu,dr,ds,dt,du,J⟩
      ·
       intro Aa X
       refine Fq Y D (z:=(Value.agg (flat [Av 32]))) (by kernel_rfl) (ss:=[Av 32]) D ?_
       intro a aG jI R B au J t
       have dq:=Bg h R
       have eB:=BM A R
       have dr:=AP H R
       have eC:=BM u R
       have ds:=AP i R
       have dt:=AP m R
       have du:=AP C R
       have S:=S.below t
       have A:=V A t
       have H:=Q H t
       have u:=V u t
       have i:=Q i t
       have m:=Q m t
       have C:=Q C t
       have h:=BH h t An
       rw[Du]at J
       refine X _ _ ⟨h,i,m,C⟩ ?_;revert a
       intro aE Y
       refine A8 9 5 D D ?_
       intro Aa X
       refine B0 Y #[AB b,F ev (a7 - (BF aM n)) (a_ - (BF aM n)),F ey (aN - (BF BX n)) (AJ - (BF BX n)),E (n+1)] KB (c1 (n+1) (r:=ar) (by omega) (by omega) (Bs An h.size) (bI.move h) ⟨bm,H,u,A,aj,ak,al⟩ (he.move h) bJ (cC.move h) cD (b1.move h) b2 (cT.move h) ew (cU.move h) ez (fun x af=>(cE x af).move h) (fun x af=>(cF x (List.mem_of_mem_drop af)).move h) (fun x af=>(bP x (List.mem_of_mem_drop af)).move h) cn (b3.right da) (fun x af=>b4 x (List.mem_of_mem_drop af)) (fun x af=>cG x (List.mem_of_mem_drop af)) dc (fun x af=>Bs (b6 x af) db.1) (MJ ct dL.2) c3 c4 (by omega) (by omega) (by rw[ct];exact cP) (by omega) (by omega) (by omega)) ?_
       rintro _ jJ ⟨gT,gU,gV,gW,gX,gY,gZ,g0,cV,rfl,g1,g2,g3,⟨_,g4,g5,g6,g7,g8,g9⟩,cW,cX,cY,g_⟩
       refine⟨_,D,?_⟩
       intro a B
       have g':=Cq aB cW (Ar i)
       have ha:=Cq av cX (Ar i)
       have hb:=Cq aD cW (Ar m)
       have hc:=Cq aw cX (Ar m)
       have hd:=Cq aR cX (Ar C)
       have hf:=Cq a6 cW (Ar C)
       have eD:=Cq eB cX (Ar J)
       have eE:=Cq eC cW (Ar J)
       have i:=cY.Ag i (EX (by omega) aB av)
       have m:=cY.Ag m (EX (by omega) aD aw)
       have C:=cY.Ag C (EX (by omega) a6 aR)
       have J:=cY.Ag J (EX (by omega) eC eB)
       have S:=S.trans cY (Jp ag aa)
       have ag:=ag.trans cW h.size;have aa:=aa.trans cX h.size
       have h:=h.trans g_
       have H:=g4;have u:=g5;have A:=g6;have aj:=g7;have ak:=g8;have al:=g9
       refine X _ _ ⟨h,i,m,C⟩ ?_;revert a
       refine Bk 10 D D ⟨h,i,m,C⟩<|F5 11 D D D ⟨h,i,m,C⟩<|F5 12 D D D ⟨h,i,m,C⟩<|EY 14 D D ⟨h,i,m,C⟩<|?_
       intro aE Y
       refine A8 15 0 D D ?_
       intro Aa X
       refine Gs Y D [] [bv (List.replicate 32 0)] [] [bv cV.l] J D D (Eq.trans (Jb.row (Jh List.length_replicate) Jb.nil) (Eq.symm (Jb.row cV.row Jb.nil))) (Cf 32) (Jc.row cV.row Jc.nil) ?_
       intro a hg B au aS bZ
       have S:=S.B1 bZ
       have A:=Ax A bZ eD
       have H:=Ag bZ H (by omega)
       have u:=Ax u bZ eE
       have i:=Ag bZ i (by omega)
       have m:=Ag bZ m (by omega)
       have C:=Ag bZ C (by omega)
       have h:=CG h bZ An
       have J:Ai hg aG [bv cV.l] 125:=aS
       refine X _ _ ⟨h,i,m,C⟩ ?_;revert a
       refine B_<|G<|?_
       intro a B
       exact⟨aG,gX,gY,gZ,g0,gT,gU,gV,gW,cV,At B,A,h,H,u,aj,ak,al,ag,aa,S,i,g',ha,hb,hc,m,hd,hf,C,g1,g2,g3,dq,eD,eE,dr,ds,dt,du,J⟩
     ·
      rintro a jK ⟨aG,ax,ad,ay,bl,aI,ae,aJ,bB,a1,B,A,h,H,u,aj,ak,al,ag,aa,S,i,aB,av,aD,aw,m,aR,a6,C,eA,dk,dR,dq,aX,bu,dr,ds,dt,du,J⟩
      revert a
      refine G<|K<|N<|I D<|I D<|I D<|I D<|BY FB D<|I D<|E' D D<|AT (fun _ B=>CE B (Bf:=[(0,(E 2)),(1,(E aH.1)),(2,(E ar.1)),(3,(E (BF BX n))),(4,(E (aN - (BF BX n))))]) D (v:=Value.agg (flat [[E 2],[E aH.1],[E ar.1],[E (BF BX n)],[E (aN - (BF BX n))],Av 32,Av 32,Av 32,[F none 0 0]])) (run_build _ _ _ _ (by kernel_rfl)))<|BQ [[E 0],[E 0],[E 0],[E 0],[E 0],Av 32,Av 32,Av 32,[F none 0 0]] ?_
      intro a5 jL R au U t
      have jM:=Bg h R
      have aY:=BM A R
      have jN:=AP H R
      have bw:=BM u R
      have jO:=AP i R
      have jP:=AP m R
      have jQ:=AP C R
      have jR:=AP J R
      have S:=S.below t
      have A:=V A t
      have H:=Q H t
      have u:=V u t
      have i:=Q i t
      have m:=Q m t
      have C:=Q C t
      have J:=Q J t
      have h:=BH h t An
      refine Bi 0 9 U D D ?_
      intro jS au aS bL
      have S:=S.B1 bL
      have A:=Ax A bL aY
      have H:=Ag bL H (by omega)
      have u:=Ax u bL bw
      have i:=Ag bL i (by omega)
      have m:=Ag bL m (by omega)
      have C:=Ag bL C (by omega)
      have J:=Ag bL J (by omega)
      have h:=CG h bL An
      have U:=aS
      refine M<|G<|?_
      simp only[show Av 32=bv Bh.l from Du _]at U
      intro a B
      refine ES (fun a W=>∃bx:Jd,Ao 217 a (Ja (Ja (Ja (Ja (Ja (Ja (Ja (Ja (Ja Je 0 (AB b)) 3 (E n)) 9 (AB an)) 10 (AB ao)) 21 (AB aC)) 20 (E aH.1)) 23 (AB aG)) 22 (E ar.1)) 24 (AB a5))∧W.ownsRow Aj 190 66 (.slice ax ad ay) ad (Al CA bl)∧Below Aj w W∧Ai W b [[E wd],[E ar.2.1],[F AQ 257 ce],[E root],[F CJ no co],[F Bf B6 cos],[F aI ae aJ],[F ax ad ay]] 164∧W.ownsRow Aj 127 102 (.slice aI ae aJ) ae (Al Dd bB)∧Z (F aI ae aJ) b∧Z (F ax ad ay) b∧Ap (F aI ae aJ) (F ax ad ay)∧AtR w.heap.size (F aI ae aJ) (F ai ab As)∧AtR w.heap.size (F ax ad ay) (F aK aL cs)∧Bd (EZ b (F ai ab As) (F aK aL cs)) w W∧Ai W an [bv (List.replicate 32 0)] 125∧Z (F aI ae aJ) an∧Z (F ax ad ay) an∧Z (F aI ae aJ) ao∧Z (F ax ad ay) ao∧Ai W ao [bv x.k.l] 51∧Z (F ax ad ay) aC∧Z (F aI ae aJ) aC∧Ai W aC [bv d160.l] 125∧Z (F ax ad ay) aG∧Z (F aI ae aJ) aG∧Ai W aG [bv a1.l] 125∧Z (F ax ad ay) a5∧Z (F aI ae aJ) a5∧Ai W a5 [[E 2],[E aH.1],[E ar.1],[E (BF BX n)],[E (aN - (BF BX n))],bv bx.l,bv Bh.l,bv Bh.l,[F none 0 0]] 127) ?_ ?_
      ·
       revert a
       refine K<|N<|I D<|Fi (q:=(0:Nat)) D D<|M<|G<|E7 D (fun hh=>?_) fun hh=>?_
       ·
        refine N<|BP BZ C D<|Am BD 5 D<|Bi 5 1 U D D ?_
        intro jT au hi bM
        have S:=S.B1 bM
        have A:=Ax A bM aY
        have H:=Ag bM H (by omega)
        have u:=Ax u bM bw
        have i:=Ag bM i (by omega)
        have m:=Ag bM m (by omega)
        have C:=Ag bM C (by omega)
        have J:=Ag bM J (by omega)
        have h:=CG h bM An
        refine M<|G<|?_
        intro a B
        exact⟨_,At B,A,h,H,u,T aj,T ak,al,ag,aa,S,i,T aB,T av,T aD,T aw,m,T aR,T a6,C,T aX,T bu,J,T aY,T bw,hi⟩
       ·
        refine AE<|G<|?_
        intro a B
        exact⟨_,At B,A,h,H,u,T aj,T ak,al,ag,aa,S,i,T aB,T av,T aD,T aw,m,T aR,T a6,C,T aX,T bu,J,T aY,T bw,U⟩
      ·
       rintro a jU ⟨bx,B,A,h,H,u,aj,ak,al,ag,aa,S,i,aB,av,aD,aw,m,aR,a6,C,aX,bu,J,aY,bw,U⟩
       refine ES (fun a W=>∃bC:Jd,Ao 217 a (Ja (Ja (Ja (Ja (Ja (Ja (Ja (Ja Je 0 (AB b)) 3 (E n)) 9 (AB an)) 10 (AB ao)) 21 (AB aC)) 23 (AB aG)) 22 (E ar.1)) 24 (AB a5))∧W.ownsRow Aj 190 66 (.slice ax ad ay) ad (Al CA bl)∧Below Aj w W∧Ai W b [[E wd],[E ar.2.1],[F AQ 257 ce],[E root],[F CJ no co],[F Bf B6 cos],[F aI ae aJ],[F ax ad ay]] 164∧W.ownsRow Aj 127 102 (.slice aI ae aJ) ae (Al Dd bB)∧Z (F aI ae aJ) b∧Z (F ax ad ay) b∧Ap (F aI ae aJ) (F ax ad ay)∧AtR w.heap.size (F aI ae aJ) (F ai ab As)∧AtR w.heap.size (F ax ad ay) (F aK aL cs)∧Bd (EZ b (F ai ab As) (F aK aL cs)) w W∧Ai W an [bv (List.replicate 32 0)] 125∧Z (F aI ae aJ) an∧Z (F ax ad ay) an∧Z (F aI ae aJ) ao∧Z (F ax ad ay) ao∧Ai W ao [bv x.k.l] 51∧Z (F ax ad ay) aC∧Z (F aI ae aJ) aC∧Ai W aC [bv d160.l] 125∧Z (F ax ad ay) aG∧Z (F aI ae aJ) aG∧Ai W aG [bv a1.l] 125∧Z (F ax ad ay) a5∧Z (F aI ae aJ) a5∧Ai W a5 [[E 2],[E aH.1],[E ar.1],[E (BF BX n)],[E (aN - (BF BX n))],bv bx.l,bv bC.l,bv Bh.l,[F none 0 0]] 127) ?_ ?_
       ·
        revert a
        refine K<|N<|I D<|Fi (q:=(0:Nat)) D D<|M<|G<|E7 D (fun hj=>?_) fun hj=>?_
        ·
         refine N<|BP BZ J D<|Am BD 37 D<|Bi 6 1 U D D ?_
         intro jV au hk bN
         have S:=S.B1 bN
         have A:=Ax A bN aY
         have H:=Ag bN H (by omega)
         have u:=Ax u bN bw
         have i:=Ag bN i (by omega)
         have m:=Ag bN m (by omega)
         have C:=Ag bN C (by omega)
         have J:=Ag bN J (by omega)
         have h:=CG h bN An
         refine M<|G<|?_
         intro a B
         exact⟨_,At B,A,h,H,u,T aj,T ak,al,ag,aa,S,i,T aB,T av,T aD,T aw,m,T aR,T a6,C,T aX,T bu,J,T aY,T bw,hk⟩
        ·
         refine AE<|G<|?_
         intro a B
         exact⟨_,At B,A,h,H,u,T aj,T ak,al,ag,aa,S,i,T aB,T av,T aD,T aw,m,T aR,T a6,C,T aX,T bu,J,T aY,T bw,U⟩
       ·
        rintro a jW ⟨bC,B,A,h,H,u,aj,ak,al,ag,aa,S,i,aB,av,aD,aw,m,aR,a6,C,aX,bu,J,aY,bw,U⟩
        revert a
        refine K<|N<|I D<|BP BD U D<|AS M0 D (RR (w:=_) (x:=(⟨2,aH.1,ar.1,BF BX n,aN - (BF BX n),bx,bC,Bh,DZ⟩:DD)) (An:=Bs An h.size) (hcap:=by omega) (Gb:=by omega) ⟨bm,H,u,A,aj,ak,al⟩) ?_
        rintro _ jX ⟨aP,aQ,rfl,⟨_,hl,ho,hp,hq,hr,hs⟩,cu,cv,cw,ht⟩
        refine⟨_,D,?_⟩
        have cm:=Cq aB cu (Ar i)
        have hv:=Cq av cv (Ar i)
        have cx:=Cq aD cu (Ar m)
        have hx:=Cq aw cv (Ar m)
        have hy:=Cq aR cv (Ar C)
        have cy:=Cq a6 cu (Ar C)
        have hz:=Cq aX cv (Ar J)
        have cz:=Cq bu cu (Ar J)
        have hA:=Cq aY cv (Ar U)
        have cA:=Cq bw cu (Ar U)
        have i:=cw.Ag i (EX (by omega) aB av)
        have m:=cw.Ag m (EX (by omega) aD aw)
        have C:=cw.Ag C (EX (by omega) a6 aR)
        have J:=cw.Ag J (EX (by omega) bu aX)
        have U:=cw.Ag U (EX (by omega) bw aY)
        have av:=hv
        have aw:=hx
        have aR:=hy
        have aX:=hz
        have aY:=hA
        have S:=S.trans cw (Jp ag aa)
        have ag:=ag.trans cu h.size;have aa:=aa.trans cv h.size
        have h:=h.trans ht
        have H:=hl;have u:=ho;have A:=hp;have aj:=hq;have ak:=hr;have al:=hs
        refine O D<|M<|G<|K<|?_
        intro a B
        refine FX (fun a W=>∃aT,∃aV:Jd,Ao 217 a (Ja (Ja (Ja (Ja (Ja (Ja Je 0 (AB b)) 3 (E n)) 9 (AB an)) 10 (AB ao)) 25 (E ar.2.1)) 26 (AB aT))∧W.ownsRow Aj 190 66 (.slice ax ad ay) ad (Al CA bl)∧Below Aj w W∧Ai W b [[E wd],[E (ar.2.1+1)],[F AQ 257 ce],[E root],[F CJ no co],[F Bf B6 cos],[F aP (ae+1) aQ],[F ax ad ay]] 164∧W.ownsRow Aj 127 102 (.slice aP (ae+1) aQ) (ae+1) (Al Dd (bB++[(⟨2,aH.1,ar.1,BF BX n,aN - (BF BX n),bx,bC,Bh,DZ⟩:DD)]))∧Z (F aP (ae+1) aQ) b∧Z (F ax ad ay) b∧Ap (F aP (ae+1) aQ) (F ax ad ay)∧AtR w.heap.size (F aP (ae+1) aQ) (F ai ab As)∧AtR w.heap.size (F ax ad ay) (F aK aL cs)∧Bd (EZ b (F ai ab As) (F aK aL cs)) w W∧Ai W an [bv (List.replicate 32 0)] 125∧Z (F aP (ae+1) aQ) an∧Z (F ax ad ay) an∧Z (F aP (ae+1) aQ) ao∧Z (F ax ad ay) ao∧Ai W ao [bv x.k.l] 51∧Z (F ax ad ay) aC∧Z (F aP (ae+1) aQ) aC∧Ai W aC [bv d160.l] 125∧Z (F ax ad ay) aG∧Z (F aP (ae+1) aQ) aG∧Ai W aG [bv a1.l] 125∧Z (F ax ad ay) a5∧Z (F aP (ae+1) aQ) a5∧Ai W a5 [[E 2],[E aH.1],[E ar.1],[E (BF BX n)],[E (aN - (BF BX n))],bv bx.l,bv bC.l,bv Bh.l,[F none 0 0]] 127∧w.heap.size≤aT∧Z (F ax ad ay) aT∧Z (F aP (ae+1) aQ) aT∧b<aT∧an<aT∧ao<aT∧aC<aT∧aG<aT∧a5<aT∧Ai W aT [bv aV.l] 125) ?_ ?_
        ·
         refine C7 (fun W=>Below Aj w W∧Ai W b [[E wd],[E (ar.2.1+1)],[F AQ 257 ce],[E root],[F CJ no co],[F Bf B6 cos],[F aP (ae+1) aQ],[F ax ad ay]] 164∧Ai W an [bv (List.replicate 32 0)] 125∧Ai W ao [bv x.k.l] 51∧Ai W aC [bv d160.l] 125∧Ai W aG [bv a1.l] 125∧Ai W a5 [[E 2],[E aH.1],[E ar.1],[E (BF BX n)],[E (aN - (BF BX n))],bv bx.l,bv bC.l,bv Bh.l,[F none 0 0]] 127) ?_
         intro jY au t
         have S:=S.below t
         have A:=V A t
         have H:=Q H t
         have u:=V u t
         have i:=Q i t
         have m:=Q m t
         have C:=Q C t
         have J:=Q J t
         have U:=Q U t
         have h:=BH h t An
         revert a
         refine Bk 0 D D ⟨h,H,i,m,C,J,U⟩<|CF 1 D D ⟨h,H,i,m,C,J,U⟩<|BW 2 D DR 0 D ⟨h,H,i,m,C,J,U⟩<|A5 3 D (fun W aF a B=>by obtain⟨h,H,i,m,C,J,U⟩:=aF;exact Cl B D AH D [] (E wd) [[E (ar.2.1+1)],[F AQ 257 ce],[E root],[F CJ no co],[F Bf B6 cos],[F aP (ae+1) aQ],[F ax ad ay]] H D) ⟨h,H,i,m,C,J,U⟩<|A5 4 D (fun W aF a B=>by obtain⟨h,H,i,m,C,J,U⟩:=aF;exact EO B D BZ D [] [bv d160.l] [] C D (Cf 32)) ⟨h,H,i,m,C,J,U⟩<|A5 5 D (fun W aF a B=>by obtain⟨h,H,i,m,C,J,U⟩:=aF;exact EO B D BZ D [] [bv a1.l] [] J D (Cf 32)) ⟨h,H,i,m,C,J,U⟩<|?_
         intro aE Y
         refine EW 6 7 2 D D D D ?_ ?_
         ·
          intro Aa X
          refine B0 Y #[E wd,Value.agg (flat [bv d160.l]),Value.agg (flat [bv a1.l])] I6 (JM ((wd:Nat):Int) d160 a1 _ (bI.below h)) ?_
          rintro _ jZ ⟨aV,rfl,bD⟩
          refine⟨_,D,?_⟩
          intro a B
          have S:=S.below bD
          have A:=V A bD
          have H:=Q H bD
          have u:=V u bD
          have i:=Q i bD
          have m:=Q m bD
          have C:=Q C bD
          have J:=Q J bD
          have U:=Q U bD
          have h:=BH h bD An
          refine X _ _ ⟨h,H,i,m,C,J,U⟩ ?_;revert a
          intro aE Y
          refine A8 7 1 D D ?_
          intro Aa X
          refine Fq Y D (z:=(Value.agg (flat [Av 32]))) (by kernel_rfl) (ss:=[Av 32]) D ?_
          intro a aT j0 R B au ah t
          have dv:=Bg h R
          have b0:=BM A R
          have dw:=AP H R
          have cB:=BM u R
          have dx:=AP i R
          have dy:=AP m R
          have dz:=AP C R
          have dA:=AP J R
          have dB:=AP U R
          have S:=S.below t
          have A:=V A t
          have H:=Q H t
          have u:=V u t
          have i:=Q i t
          have m:=Q m t
          have C:=Q C t
          have J:=Q J t
          have U:=Q U t
          have h:=BH h t An
          rw[Du]at ah
          refine X _ _ ⟨h,H,i,m,C,J,U⟩ ?_;revert a
          intro aE Y
          refine A8 8 0 D D ?_
          intro Aa X
          refine Gs Y D [] [bv (List.replicate 32 0)] [] [bv aV.l] ah D D (Eq.trans (Jb.row (Jh List.length_replicate) Jb.nil) (Eq.symm (Jb.row aV.row Jb.nil))) (Cf 32) (Jc.row aV.row Jc.nil) ?_
          intro a hB B au aS bE
          have S:=S.B1 bE
          have A:=Ax A bE b0
          have H:=Ag bE H (by omega)
          have u:=Ax u bE cB
          have i:=Ag bE i (by omega)
          have m:=Ag bE m (by omega)
          have C:=Ag bE C (by omega)
          have J:=Ag bE J (by omega)
          have U:=Ag bE U (by omega)
          have h:=CG h bE An
          have ah:Ai hB aT [bv aV.l] 125:=aS
          refine X _ _ ⟨h,H,i,m,C,J,U⟩ ?_;revert a
          refine B_<|G<|?_
          intro a B
          exact⟨aT,aV,At B,A,h,H,u,aj,ak,al,ag,aa,S,i,cm,av,cx,aw,m,aR,cy,C,aX,cz,J,aY,cA,U,dv,b0,cB,dw,dx,dy,dz,dA,dB,ah⟩
         ·
          intro Aa X
          refine Fq Y D (z:=(Value.agg (flat [Av 32]))) (by kernel_rfl) (ss:=[Av 32]) D ?_
          intro a aT j1 R B au ah t
          have dv:=Bg h R
          have eF:=BM A R
          have dw:=AP H R
          have eG:=BM u R
          have dx:=AP i R
          have dy:=AP m R
          have dz:=AP C R
          have dA:=AP J R
          have dB:=AP U R
          have S:=S.below t
          have A:=V A t
          have H:=Q H t
          have u:=V u t
          have i:=Q i t
          have m:=Q m t
          have C:=Q C t
          have J:=Q J t
          have U:=Q U t
          have h:=BH h t An
          rw[Du]at ah
          refine X _ _ ⟨h,H,i,m,C,J,U⟩ ?_;revert a
          intro aE Y
          refine A8 6 1 D D ?_
          intro Aa X
          refine B0 Y #[E wd,Value.agg (flat [bv d160.l]),Value.agg (flat [bv a1.l])] I6 (JM ((wd:Nat):Int) d160 a1 _ (bI.below h)) ?_
          rintro _ j2 ⟨cZ,rfl,bz⟩
          refine⟨_,D,?_⟩
          intro a B
          have S:=S.below bz
          have A:=V A bz
          have H:=Q H bz
          have u:=V u bz
          have i:=Q i bz
          have m:=Q m bz
          have C:=Q C bz
          have J:=Q J bz
          have U:=Q U bz
          have ah:=Q ah bz
          have h:=BH h bz An
          refine X _ _ ⟨h,H,i,m,C,J,U⟩ ?_;revert a
          intro aE Y
          refine A8 8 0 D D ?_
          intro Aa X
          refine Gs Y D [] [bv (List.replicate 32 0)] [] [bv cZ.l] ah D D (Eq.trans (Jb.row (Jh List.length_replicate) Jb.nil) (Eq.symm (Jb.row cZ.row Jb.nil))) (Cf 32) (Jc.row cZ.row Jc.nil) ?_
          intro a hC B au aS bF
          have S:=S.B1 bF
          have A:=Ax A bF eF
          have H:=Ag bF H (by omega)
          have u:=Ax u bF eG
          have i:=Ag bF i (by omega)
          have m:=Ag bF m (by omega)
          have C:=Ag bF C (by omega)
          have J:=Ag bF J (by omega)
          have U:=Ag bF U (by omega)
          have h:=CG h bF An
          have ah:Ai hC aT [bv cZ.l] 125:=aS
          refine X _ _ ⟨h,H,i,m,C,J,U⟩ ?_;revert a
          refine B_<|G<|?_
          intro a B
          exact⟨aT,cZ,At B,A,h,H,u,aj,ak,al,ag,aa,S,i,cm,av,cx,aw,m,aR,cy,C,aX,cz,J,aY,cA,U,dv,eF,eG,dw,dx,dy,dz,dA,dB,ah⟩
        ·
         rintro a j3 ⟨aT,aV,B,A,h,H,u,aj,ak,al,ag,aa,S,i,cm,av,cx,aw,m,aR,cy,C,aX,cz,J,aY,cA,U,dv,b0,cB,dw,dx,dy,dz,dA,dB,ah⟩
         revert a
         refine G<|K<|?_
         intro a B
         refine FX (fun a W=>∃ba bb,Ao 217 a (Ja (Ja (Ja Je 9 (AB an)) 25 (E ar.2.1)) 26 (AB aT))∧Below Aj w W∧W.ownsRow Aj 127 102 (.slice aP (ae+1) aQ) (ae+1) (Al Dd (bB++[(⟨2,aH.1,ar.1,BF BX n,aN - (BF BX n),bx,bC,Bh,DZ⟩:DD)]))∧Z (F aP (ae+1) aQ) b∧Z (F ba (ad+1) bb) b∧Ap (F aP (ae+1) aQ) (F ba (ad+1) bb)∧AtR w.heap.size (F aP (ae+1) aQ) (F ai ab As)∧AtR w.heap.size (F ba (ad+1) bb) (F aK aL cs)∧Bd (EZ b (F ai ab As) (F aK aL cs)) w W∧Ai W an [bv (List.replicate 32 0)] 125∧Z (F aP (ae+1) aQ) an∧Z (F ba (ad+1) bb) an∧Z (F aP (ae+1) aQ) ao∧Z (F ba (ad+1) bb) ao∧Ai W ao [bv x.k.l] 51∧Z (F ba (ad+1) bb) aC∧Z (F aP (ae+1) aQ) aC∧Ai W aC [bv d160.l] 125∧Z (F ba (ad+1) bb) aG∧Z (F aP (ae+1) aQ) aG∧Ai W aG [bv a1.l] 125∧Z (F ba (ad+1) bb) a5∧Z (F aP (ae+1) aQ) a5∧Ai W a5 [[E 2],[E aH.1],[E ar.1],[E (BF BX n)],[E (aN - (BF BX n))],bv bx.l,bv bC.l,bv Bh.l,[F none 0 0]] 127∧Z (F ba (ad+1) bb) aT∧Z (F aP (ae+1) aQ) aT∧Ai W aT [bv aV.l] 125∧W.ownsRow Aj 190 66 (.slice ba (ad+1) bb) (ad+1) (Al CA (bl++[(⟨n,ar.2.1,x.k,aV⟩:Co)]))∧Ai W b [[E wd],[E (ar.2.1+1)],[F AQ 257 ce],[E root],[F CJ no co],[F Bf B6 cos],[F aP (ae+1) aQ],[F ba (ad+1) bb]] 164) ?_ ?_
         ·
          have j4:=DF D3 (by decide) A
          have j5:=WE dk
          refine C7 (fun W=>Below Aj w W∧Ai W an [bv (List.replicate 32 0)] 125∧Ai W ao [bv x.k.l] 51∧Ai W aC [bv d160.l] 125∧Ai W aG [bv a1.l] 125∧Ai W a5 [[E 2],[E aH.1],[E ar.1],[E (BF BX n)],[E (aN - (BF BX n))],bv bx.l,bv bC.l,bv Bh.l,[F none 0 0]] 127∧Ai W aT [bv aV.l] 125) ?_
          intro j6 au t
          have S:=S.below t
          have A:=V A t
          have H:=Q H t
          have u:=V u t
          have i:=Q i t
          have m:=Q m t
          have C:=Q C t
          have J:=Q J t
          have U:=Q U t
          have ah:=Q ah t
          have h:=BH h t An
          revert a
          refine Bk 0 D D ⟨h,i,m,C,J,U,ah⟩<|Bk 1 D D ⟨h,i,m,C,J,U,ah⟩<|CF 2 D D ⟨h,i,m,C,J,U,ah⟩<|BW 3 D DR 7 D ⟨h,i,m,C,J,U,ah⟩<|Bk 5 D D ⟨h,i,m,C,J,U,ah⟩<|Bk 6 D D ⟨h,i,m,C,J,U,ah⟩<|A5 7 D (fun W aF a B=>by obtain⟨h,i,m,C,J,U,ah⟩:=aF;exact EO B D Ce D [] [bv x.k.l] [] m D (Cf 32)) ⟨h,i,m,C,J,U,ah⟩<|A5 8 D (fun W aF a B=>by obtain⟨h,i,m,C,J,U,ah⟩:=aF;exact EO B D BZ D [] [bv aV.l] [] ah D (Cf 32)) ⟨h,i,m,C,J,U,ah⟩<|A5 9 D (fun W aF a B=>by obtain⟨h,i,m,C,J,U,ah⟩:=aF;exact GG B (Bf:=[(0,(E n)),(1,(E ar.2.1)),(2,(Value.agg (flat [bv x.k.l]))),(3,(Value.agg (flat [bv aV.l])))]) D (r:=flat [[E n],[E ar.2.1],bv x.k.l,bv aV.l]) (GI DE (ss:=[[E 0],[E 0],Av 32,Av 32]) (by kernel_rfl) (places:=[(0,1),(1,1),(2,32),(34,32)]) (by kernel_rfl) (C2 [] [[E 0]] [[E 0],Av 32,Av 32] [[E n]] D Jb.nil (Jb.one Jb.nil) (Jb.one Jb.nil) D (C2 [[E n]] [[E 0]] [Av 32,Av 32] [[E ar.2.1]] D (Jb.one Jb.nil) (Jb.one Jb.nil) (Jb.one Jb.nil) D (C2 [[E n],[E ar.2.1]] [Av 32] [Av 32] [bv x.k.l] D (Jb.one (Jb.one Jb.nil)) (Jb.row (Jg 32) Jb.nil) (Jb.row x.k.row Jb.nil) D (C2 [[E n],[E ar.2.1],bv x.k.l] [Av 32] [] [bv aV.l] D (Jb.one (Jb.one (Jb.row x.k.row Jb.nil))) (Jb.row (Jg 32) Jb.nil) (Jb.row aV.row Jb.nil) D D)))))) ⟨h,i,m,C,J,U,ah⟩<|?_
          intro aE Y
          refine EW 4 10 5 D D D D ?_ ?_
          ·
           intro Aa X
           refine DI Y D (Cl Y D Ds D [[E wd],[E (ar.2.1+1)],[F AQ 257 ce],[E root],[F CJ no co],[F Bf B6 cos],[F aP (ae+1) aQ]] (F ax ad ay) [] H D) ?_
           intro a B
           refine X _ _ ⟨h,i,m,C,J,U,ah⟩ ?_;revert a
           intro aE Y
           refine A8 10 4 D D ?_
           intro Aa X
           refine EK Y DW [[E n],[E ar.2.1],bv x.k.l,bv aV.l] ?_
           intro a j7 B au hD t
           have S:=S.below t
           have A:=V A t
           have H:=Q H t
           have u:=V u t
           have i:=Q i t
           have m:=Q m t
           have C:=Q C t
           have J:=Q J t
           have U:=Q U t
           have ah:=Q ah t
           have h:=BH h t An
           refine X _ _ ⟨h,i,m,C,J,U,ah⟩ ?_;revert a
           intro aE Y
           refine A8 11 3 D D ?_
           intro Aa X
           refine BK Y DW A hD C8 (Bs An h.size) (ad+1) (CC bl (⟨n,ar.2.1,x.k,aV⟩:Co) D (D3 _)) ?_
           intro a ba bb j8 B dS a2
           have hE:=al.Df a2 (fun k cd=>(u.lt k cd).2)
           have eH:=A9 a2 ak (Ar H)
           have hF:=A9 a2 av (Ar i)
           have hG:=A9 a2 aw (Ar m)
           have hH:=A9 a2 aR (Ar C)
           have hI:=A9 a2 aX (Ar J)
           have hJ:=A9 a2 aY (Ar U)
           have hK:=A9 a2 b0 (Ar ah)
           have S:=S.DB a2 aa (fun _ q=>Or.inr (Or.inr q))
           have H:=A' H a2 ak
           have u:=Bm u a2 al
           have i:=A' i a2 av
           have m:=A' m a2 aw
           have C:=A' C a2 aR
           have J:=A' J a2 aX
           have U:=A' U a2 aY
           have ah:=A' ah a2 b0
           have aa:=aa.C9 a2 h.size
           have h:=EI h a2 A An
           refine X _ _ ⟨h,i,m,C,J,U,ah⟩ ?_;revert a
           refine CF 12 D D ⟨h,i,m,C,J,U,ah⟩<|BW 13 D DR 7 D ⟨h,i,m,C,J,U,ah⟩<|?_
           intro aE Y
           refine A8 14 0 D D ?_
           intro Aa X
           refine DM Y 7 H D D ?_
           intro a j9 B au hL bG
           have S:=S.B1 bG
           have u:=Ax u bG aj
           have i:=Ag bG i (by omega)
           have m:=Ag bG m (by omega)
           have C:=Ag bG C (by omega)
           have J:=Ag bG J (by omega)
           have U:=Ag bG U (by omega)
           have ah:=Ag bG ah (by omega)
           have dS:=Ax dS bG eH
           have h:=CG h bG An
           refine X _ _ ⟨h,i,m,C,J,U,ah⟩ ?_;revert a
           refine B_<|G<|?_
           intro a B
           exact⟨ba,bb,At B,h,u,aj,eH,hE,ag,aa,S,i,cm,hF,cx,hG,m,hH,cy,C,hI,cz,J,hJ,cA,U,hK,cB,ah,dS,hL⟩
          ·
           intro Aa X
           refine EK Y DW [[E n],[E ar.2.1],bv x.k.l,bv aV.l] ?_
           intro a j_ B au hM t
           have S:=S.below t
           have A:=V A t
           have H:=Q H t
           have u:=V u t
           have i:=Q i t
           have m:=Q m t
           have C:=Q C t
           have J:=Q J t
           have U:=Q U t
           have ah:=Q ah t
           have h:=BH h t An
           refine X _ _ ⟨h,i,m,C,J,U,ah⟩ ?_;revert a
           intro aE Y
           refine A8 4 4 D D ?_
           intro Aa X
           refine DI Y D (Cl Y D Ds D [[E wd],[E (ar.2.1+1)],[F AQ 257 ce],[E root],[F CJ no co],[F Bf B6 cos],[F aP (ae+1) aQ]] (F ax ad ay) [] H D) ?_
           intro a B
           refine X _ _ ⟨h,i,m,C,J,U,ah⟩ ?_;revert a
           intro aE Y
           refine A8 11 3 D D ?_
           intro Aa X
           refine BK Y DW A hM C8 (Bs An h.size) (ad+1) (CC bl (⟨n,ar.2.1,x.k,aV⟩:Co) D (D3 _)) ?_
           intro a hN hO j' B dT a3
           have hP:=al.Df a3 (fun k cd=>(u.lt k cd).2)
           have eI:=A9 a3 ak (Ar H)
           have hQ:=A9 a3 av (Ar i)
           have hR:=A9 a3 aw (Ar m)
           have hS:=A9 a3 aR (Ar C)
           have hT:=A9 a3 aX (Ar J)
           have hU:=A9 a3 aY (Ar U)
           have hV:=A9 a3 b0 (Ar ah)
           have S:=S.DB a3 aa (fun _ q=>Or.inr (Or.inr q))
           have H:=A' H a3 ak
           have u:=Bm u a3 al
           have i:=A' i a3 av
           have m:=A' m a3 aw
           have C:=A' C a3 aR
           have J:=A' J a3 aX
           have U:=A' U a3 aY
           have ah:=A' ah a3 b0
           have aa:=aa.C9 a3 h.size
           have h:=EI h a3 A An
           refine X _ _ ⟨h,i,m,C,J,U,ah⟩ ?_;revert a
           refine CF 12 D D ⟨h,i,m,C,J,U,ah⟩<|BW 13 D DR 7 D ⟨h,i,m,C,J,U,ah⟩<|?_
           intro aE Y
           refine A8 14 0 D D ?_
           intro Aa X
           refine DM Y 7 H D D ?_
           intro a ka B au hW bH
           have S:=S.B1 bH
           have u:=Ax u bH aj
           have i:=Ag bH i (by omega)
           have m:=Ag bH m (by omega)
           have C:=Ag bH C (by omega)
           have J:=Ag bH J (by omega)
           have U:=Ag bH U (by omega)
           have ah:=Ag bH ah (by omega)
           have dT:=Ax dT bH eI
           have h:=CG h bH An
           refine X _ _ ⟨h,i,m,C,J,U,ah⟩ ?_;revert a
           refine B_<|G<|?_
           intro a B
           exact⟨hN,hO,At B,h,u,aj,eI,hP,ag,aa,S,i,cm,hQ,cx,hR,m,hS,cy,C,hT,cz,J,hU,cA,U,hV,cB,ah,dT,hW⟩
         ·
          rintro a kb ⟨ba,bb,B,h,u,aj,ak,al,ag,aa,S,i,cm,av,cx,aw,m,aR,cy,C,aX,cz,J,aY,cA,U,b0,cB,ah,A,H⟩
          revert a
          refine G<|K<|?_
          intro a B
          refine EJ 3 ?_
          intro kc au t
          have S:=S.below t
          have u:=V u t
          have i:=Q i t
          have ah:=Q ah t
          have A:=V A t
          have H:=Q H t
          have h:=BH h t An
          revert a
          refine A3 D<|Ht BZ ah D<|Ff D<|?_
          intro a B;refine EG ?_;revert a
          refine Bi 0 1 i D D ?_
          intro kd au hX c0
          have S:=S.B1 c0
          have u:=Ax u c0 cm
          have A:=Ax A c0 av
          have H:=Ag c0 H (by omega)
          have h:=CG h c0 An
          refine M<|G<|AA<|?_
          intro a B
          refine Ky B D D D hX BZ D (Cf 32) ?_
          subst bj
          exact⟨_,_,_,bB++[(⟨2,aH.1,ar.1,BF BX n,aN - (BF BX n),bx,bC,Bh,DZ⟩:DD)],_,_,_,bl++[(⟨n,ar.2.1,x.k,aV⟩:Co)],aV,D,by simp only;omega,by rw[List.map_append,dk];rfl,Gn dR ⟨.inr D,.inl D,Nat.zero_le _,by simp only;omega⟩,⟨bm,H,u,A,aj,ak,al⟩,ag,aa,S,h⟩
end Go.Proofs.YtcdaflcjhimimaaGreatDoor
