/- Laws and walks on the road to SalvageNever and SalvageHeals (part M20). No conditions beyond each law's own. -/
import Derived.Test.YtcdaflcjhimimaaGreatDoorM01
import Derived.Test.YtcdaflcjhimimaaGreatDoorM19
import Derived.Test.YtcdaflcjhimimaaGreatDoorM14
import Derived.Test.YtcdaflcjhimimaaGreatDoorM05
import Derived.Test.YtcdaflcjhimimaaGreatDoorM07
import Derived.Test.YtcdaflcjhimimaaGreatDoorM17
set_option linter.unusedVariables false
namespace Go.Proofs.YtcdaflcjhimimaaGreatDoor
open Go.RowKit
set_option maxRecDepth 100000
set_option maxHeartbeats 1000000
def Qw(q:Nat):Prop:=∀ {Aj b sb:Nat} {z:EC} {fresh next:Nat} {CU:Option Addr} {B4:Nat} {Bz:List Co} {f:Option Addr} {a g:Nat} {EF:List Fd} {i:Option Addr} {c m:Nat} {Ey:List Co} {p cnt n:Nat} {sm k:Jd} {w:World},Aj≤w.heap.size→Hi Aj sb w→GH Aj sb w z→CR Aj sb w CU Bz.length B4 66 (Al CA Bz)→(∀x∈Bz,x.p<z.AD)→Bz.length≤100000000→2≤z.AD→(∀x∈Ey,x.p<z.AD)→next≤z.AD→a≤10000→q≤z.AD→n≤256→(∀j,n≤j→j<256→Cu k.l j=0)→c+Gk Bz k n+3*(z.AD - next)+1+2*(258 - n)≤1000000000→Jq Aj b sb w z fresh next CU B4 Bz f a g EF i c m Ey false→
 Calls Tryz.prog 62 #[AB b,E p,E q,E cnt,Value.agg (flat [bv sm.l]),Value.agg (flat [bv k.l]),E n] w fun e w'=>∃next' o d r t u s v y h ex,e=.returned (.tuple #[])∧(∀x∈y,x.p<z.AD)∧(next≤next'∧next'≤z.AD)∧(ex≤2*(258 - n)∧(h=false→ex=0))∧s≤c+Gk Bz k n+3*(next' - next)+1+ex∧(d≤a+1∧(h=true→a+1≤d))∧(h=false→o=f∧d=a∧r=g∧t=EF)∧Jq Aj b sb w' z fresh next' CU B4 Bz o d r t u s v y h∧AtR w.heap.size (.slice o d r) (.slice f a g)∧AtR w.heap.size (.slice u s v) (.slice i c m)∧Bd (F2 b sb (.slice f a g) (.slice i c m)) w w'∧Cd Aj sb w w'
theorem TZ:∀ {p:Nat},Qw p→∀ {Aj b sb:Nat} {z:EC} {fresh next:Nat} {CU:Option Addr} {B4:Nat} {Bz:List Co} {an:Option Addr} {ai ao:Nat} {EF:List Fd} {aB:Option Addr} {aq aC:Nat} {Ey:List Co} {n:Nat} {k:Jd} {w:World},Aj≤w.heap.size→Hi Aj sb w→GH Aj sb w z→CR Aj sb w CU Bz.length B4 66 (Al CA Bz)→(∀x∈Bz,x.p<z.AD)→Bz.length≤100000000→2≤z.AD→(∀x∈Ey,x.p<z.AD)→next≤z.AD→ai≤10000→p<z.AD→(∀y,z.Ay[p]? =some y→y.ZI≠1→n<256)→n≤256→(∀j,n≤j→j<256→Cu k.l j=0)→aq+Gk Bz k n+3*(z.AD - next)+1+2*(258 - n)≤1000000000→Jq Aj b sb w z fresh next CU B4 Bz an ai ao EF aB aq aC Ey false→
 Calls Tryz.prog 99 #[AB b,E p,Value.agg (flat [bv k.l]),E n] w fun e w'=>∃next' bc a4 bd bC bD bf bE bF a9 ex,e=.returned (.tuple #[])∧(∀x∈bF,x.p<z.AD)∧(next≤next'∧next'≤z.AD)∧(ex≤2*(258 - n)∧(a9=false→ex=0))∧bf≤aq+Gk Bz k n+3*(next' - next)+1+ex∧(a4≤ai+1∧(a9=true→ai+1≤a4))∧(a9=false→bc=an∧a4=ai∧bd=ao∧bC=EF)∧Jq Aj b sb w' z fresh next' CU B4 Bz bc a4 bd bC bD bf bE bF a9∧AtR w.heap.size (.slice bc a4 bd) (.slice an ai ao)∧AtR w.heap.size (.slice bD bf bE) (.slice aB aq aC)∧Bd (F2 b sb (.slice an ai ao) (.slice aB aq aC)) w w'∧Cd Aj sb w w':=by
 intro p bG Aj b sb z fresh next CU B4 Bz an ai ao EF aB aq aC Ey n k w An a_ U a5 aZ a6 a0 bg Gb b3 a7 bH hn bh hcap b4
 obtain⟨wd,ge,AD,Ab,Ak,Bp,AY,AV,Bv,As,Ay,qr,AR,AM,By,AG,AN,AO,AJ,Aq,AQ,ce,Cp⟩:=z
 have dH:Cp.length=257:=U.el
 have dI:AV.length=AD:=U.ar
 have dK:Ay.length=AD:=U.nl
 have dL:AM.length=AD:=U.aG
 have dN:∀p∈AN,p<AD:=U.E9
 have dO:AD≤4096:=U.m
 have b5:∀y∈Ay,Fl y:=U.ZL
 have dQ:∀y∈AM,y.v<4294967296∧y.f<4294967296∧y.ZG<4294967296∧y.ZZ<4294967296∧y.r<4294967296∧y.c<4294967296:=U.ZK
 obtain⟨aR,al,g,B,C,H,ag,ah,aj⟩:=b4
 have g:Ai w sb [[E wd],[E ge],[E AD],[E Ab],[E Ak],[F Bp AV.length AY],[F Bv Ay.length As],[F qr AM.length AR],[F By AN.length AG],[F AO Aq.length AJ],[F an ai ao],[F AQ 257 ce]] 66:=g
 have dU:CR Aj sb w Bp AV.length AY 1 (Al Ct AV):=U.k
 have bI:CR Aj sb w Bv Ay.length As 102 (Al Dd Ay):=U.n
 have dV:CR Aj sb w qr AM.length AR 38 (Al DY AM):=U.r
 have dW:CR Aj sb w By AN.length AG 1 (Al Ct AN):=U.a
 have dX:CR Aj sb w AO Aq.length AJ 1 (Al EP Aq):=U.t
 have dY:CR Aj sb w AQ 257 ce 32 (Al Ex Cp):=U.e
 have dZ:∀x∈Ay,G9 Aj sb w x.s:=U.ZM
 have ay:=Eg C al
 have ar:=Eg H al
 have d':=An
 have ad:AtR w.heap.size (F an ai ao) (F an ai ao):=AtR.refl _ _
 have Y:AtR w.heap.size (F aB aq aC) (F aB aq aC):=AtR.refl _ _
 have S:Bd (F2 b sb (F an ai ao) (F aB aq aC)) w w:=Bd.refl _ _
 have d:Cd Aj sb w w:=Cd.refl _ _ _
 dsimp only at a7 bH aZ bg Gb a0 hcap
 refine Bx Rb D 102 ?_
 refine K<|N<|CW D ?_
 intro aI ea ak U A J
 have eb:=F0 d ak
 have ec:=AP g ak
 have ed:=AP B ak
 have aJ:=BM C ak
 have az:=BM H ak
 have S:=S.below J
 have g:=Q g J
 have B:=Q B J
 have C:=V C J
 have H:=V H J
 have d:=E5 d J An
 clear U
 refine M<|G<|K<|N<|I D<|Bt D<|Am CP 0 D<|AK GS 0 B D D<|Bt D<|Am Cc 6 D<|AK FN 6 g D D<|I D<|?_
 obtain⟨aD,av,rfl⟩:=Ca (bI.below d)
 obtain⟨x,bj⟩:=getD_some (L:=Ay) (j:=p) D (by omega)
 have b6:=BJ FO (bI.below d) bj (o:=av+p*102)
 refine Cn EL p (av+p*102) D D<|D9 BD 0 9 [[E x.ZI],[E x.l],[E x.r],[E x.lc],[E x.rc],bv x.ls.l,bv x.rs.l,bv x.k.l,[F x.s.p x.s.v.length x.s.c]] b6 D<|?_
 have bJ:=b5 x (List.mem_of_getElem? bj)
 have bK:=bJ.z
 have ee:=bJ.b
 have bL:=bH x bj
 have ef:=Yu Bz k n
 refine BQ [[E 0],[E 0],[E 0],[E 0],[E 0],Av 32,Av 32,Av 32,[F none 0 0]] ?_
 intro aK eg ak U u J
 have eh:=F0 d ak
 have ei:=AP g ak
 have ej:=AP B ak
 have aE:=BM C ak
 have aw:=BM H ak
 have ek:=AP A ak
 have S:=S.below J
 have g:=Q g J
 have B:=Q B J
 have C:=V C J
 have H:=V H J
 have A:=Q A J
 have d:=E5 d J An
 clear U
 refine Bi 0 9 u D D ?_
 intro en U bk aV
 have S:=S.B1 aV
 have g:=Ag aV g (by omega)
 have B:=Ag aV B (by omega)
 have C:=Ax C aV aE
 have H:=Ax H aV aw
 have A:=Ag aV A (by omega)
 have d:=H2 d aV An
 have u:=bk
 clear U
 refine M<|G<|?_
 intro a P
 refine ES (fun a W=>∃aQ aO a1 aa ab R aL ae af X aA,Ao 102 a (Ja (Ja (Ja (Ja (Ja Je 0 (AB b)) 1 (E p)) 3 (E n)) 6 (AB aI)) 8 (AB aK))∧(∀x∈aA,x.p<AD)∧(next≤aQ∧aQ≤AD)∧a1≤2*(257 - n)∧(aO=false→a1=0)∧X≤aq+Gk Bz k (n+1)+3*(aQ - next)+1+a1∧(R≤ai+1∧(aO=true→ai+1≤R))∧(aO=false→aa=an∧R=ai∧ab=ao∧aL=EF)∧W.ownsRow Aj 173 2 (.slice aa R ab) R (Al Em aL)∧W.ownsRow Aj 190 66 (.slice ae X af) X (Al CA aA)∧Ai W sb [[E wd],[E ge],[E AD],[E Ab],[E Ak],[F Bp AV.length AY],[F (some ⟨aD,av,none⟩) Ay.length As],[F qr AM.length AR],[F By AN.length AG],[F AO Aq.length AJ],[F aa R ab],[F AQ 257 ce]] 66∧Ai W b [[AB sb],[E fresh],[E aQ],[F CU Bz.length B4],[F ae X af],[Br aO]] 148∧Cd Aj sb w W∧Z (F aa R ab) b∧Z (F aa R ab) sb∧AtR w.heap.size (F aa R ab) (F an ai ao)∧Z (F ae X af) b∧Z (F ae X af) sb∧AtR w.heap.size (F ae X af) (F aB aq aC)∧Ap (F aa R ab) (F ae X af)∧Bd (F2 b sb (F an ai ao) (F aB aq aC)) w W∧Ai W aI [bv k.l] 51∧Z (F aa R ab) aI∧Z (F ae X af) aI∧Z (F aa R ab) aK∧Z (F ae X af) aK∧Ai W aK [[E x.ZI],[E x.l],[E x.r],[E x.lc],[E x.rc],bv x.ls.l,bv x.rs.l,bv x.k.l,[F x.s.p x.s.v.length x.s.c]] 127) ?_ ?_
 ·
  revert a
  refine K<|N<|Am BD 1 D<|AK AH 1 u D D<|Fi (q:=(0:Nat)) D D<|M<|G<|E7 D (fun b7=>?_) fun b7=>?_
  ·
   have a':n<256:=bL (fun e=>by have:=bK (by omega);omega)
   refine N<|I D<|Am BD 1 D<|AK AH 1 u D D<|I D<|Am BD 3 D<|AK AH 3 u D D<|Am BD 5 D<|Eu BZ 5 1 [bv x.ls.l] u D<|BP Ce A D<|I D<|A_ (q:=1) D D<|AS La D (bG (n:=n+1) (k:=k) (p:=x.l) (cnt:=x.lc) (sm:=x.ls) (z:=⟨wd,ge,AD,Ab,Ak,Bp,AY,AV,some ⟨aD,av,none⟩,As,Ay,qr,AR,AM,By,AG,AN,AO,AJ,Aq,AQ,ce,Cp⟩) (Bs An d.size) (a_.move d) (U.move d) (a5.move d) aZ a6 a0 bg Gb b3 (Nat.le_of_lt a7) (by omega) (fun j b8 bl=>bh j (by omega) bl) (by dsimp only;omega) ⟨aR,al,g,B,C,H,ag,ah,aj⟩) ?_
   rintro _ b9 ⟨b_,b',ca,cb,eo,ep,er,et,eu,t23,cc,rfl,bM,bN,bO,cd,cf,cg,⟨_,_,ch,cj,ck,cl,cm,cn,cp⟩,bm,bn,bo,cq⟩
   refine⟨_,D,?_⟩
   have cr:=Cq aJ bm (Ar A)
   have ct:=Cq az bn (Ar A)
   have cu:=Cq aE bm (Ar u)
   have cv:=Cq aw bn (Ar u)
   have A:=bo.Ag A (Im (by omega) (by omega) aJ az)
   have u:=bo.Ag u (Im (by omega) (by omega) aE aw)
   have S:=S.trans bo (IQ ad Y)
   have ad:=ad.trans bm d.size;have Y:=Y.trans bn d.size
   have d:=d.G3 cq
   have g:=ch;have B:=cj;have C:=ck;have H:=cl;have ag:=cm;have ah:=cn;have aj:=cp
   have g:Ai b9 sb [[E wd],[E ge],[E AD],[E Ab],[E Ak],[F Bp AV.length AY],[F (some ⟨aD,av,none⟩) Ay.length As],[F qr AM.length AR],[F By AN.length AG],[F AO Aq.length AJ],[F b' ca cb],[F AQ 257 ce]] 66:=g
   have ay:=Eg C al;have ar:=Eg H al
   dsimp only at bM bN
   refine M<|G<|?_
   intro a P
   exact⟨b_,t23,cc,_,_,_,_,_,_,_,_,At P,bM,bN,by have:=bO.1;omega,bO.2,cd,cf,cg,C,H,g,B,d,T ag,T ay,ad,T ah,T ar,Y,AI aj,S,A,T cr,T ct,T cu,T cv,u⟩
  ·
   refine AE<|G<|?_
   intro a P
   exact⟨next,false,0,_,_,_,_,_,_,_,_,At P,bg,⟨Be _,Gb⟩,Nat.zero_le _,fun _=>rfl,by omega,⟨Nat.le_succ _,fun h=>by cases h⟩,fun _=>⟨D,D,D,D⟩,C,H,g,B,d,T ag,T ay,ad,T ah,T ar,Y,AI aj,S,A,T aJ,T az,T aE,T aw,u⟩
 ·
  rintro a ev ⟨aQ,aO,a1,aa,ab,R,aL,ae,af,X,aA,P,d1,d2,d3,d4,d5,d6,d7,C,H,g,B,d,ag,ay,ad,ah,ar,Y,aj,S,A,aJ,az,aE,aw,u⟩
  refine ES (fun a W=>∃aF aP a8 aa ab R aL ae af X aA,Ao 102 a (Ja (Ja (Ja (Ja (Ja Je 0 (AB b)) 1 (E p)) 3 (E n)) 6 (AB aI)) 8 (AB aK))∧(∀x∈aA,x.p<AD)∧(next≤aF∧aF≤AD)∧a8≤2*(257 - n)∧(aP=false→a8=0)∧X≤aq+Gk Bz k n+3*(aF - next)+2+a8∧(R≤ai+1∧(aP=true→ai+1≤R))∧(aP=false→aa=an∧R=ai∧ab=ao∧aL=EF)∧W.ownsRow Aj 173 2 (.slice aa R ab) R (Al Em aL)∧W.ownsRow Aj 190 66 (.slice ae X af) X (Al CA aA)∧Ai W sb [[E wd],[E ge],[E AD],[E Ab],[E Ak],[F Bp AV.length AY],[F (some ⟨aD,av,none⟩) Ay.length As],[F qr AM.length AR],[F By AN.length AG],[F AO Aq.length AJ],[F aa R ab],[F AQ 257 ce]] 66∧Ai W b [[AB sb],[E fresh],[E aF],[F CU Bz.length B4],[F ae X af],[Br aP]] 148∧Cd Aj sb w W∧Z (F aa R ab) b∧Z (F aa R ab) sb∧AtR w.heap.size (F aa R ab) (F an ai ao)∧Z (F ae X af) b∧Z (F ae X af) sb∧AtR w.heap.size (F ae X af) (F aB aq aC)∧Ap (F aa R ab) (F ae X af)∧Bd (F2 b sb (F an ai ao) (F aB aq aC)) w W∧Ai W aI [bv k.l] 51∧Z (F aa R ab) aI∧Z (F ae X af) aI∧Z (F aa R ab) aK∧Z (F ae X af) aK∧Ai W aK [[E x.ZI],[E x.l],[E x.r],[E x.lc],[E x.rc],bv x.ls.l,bv x.rs.l,bv x.k.l,[F x.s.p x.s.v.length x.s.c]] 127) ?_ ?_
  ·
   revert a
   refine K<|N<|Am BD 2 D<|AK AH 2 u D D<|?_
   by_cases bP:((x.r:Nat):Int)=((0:Nat):Int)
   ·
    refine Dr bP D D<|I D<|Ae D D D D<|Ae D D D D<|Ae D D D D<|Ae D D D D<|Ae D D D D<|Ba D D<|M<|G<|BE D<|AE<|G<|?_
    intro a P
    exact⟨aQ,aO,a1,_,_,_,_,_,_,_,_,At P,d1,d2,d3,d4,by omega,d6,d7,C,H,g,B,d,T ag,T ay,ad,T ah,T ar,Y,AI aj,S,A,T aJ,T az,T aE,T aw,u⟩
   ·
    refine F6 bP D D<|I D<|Ad D D D<|I D<|Ad D D D<|Bt D<|Ad D D D<|Am CP 5 D<|?_
    rcases Bool.eq_false_or_eq_true aO with ba|ba
    ·
     refine Ad D D D<|AT (fun _ P=>Fk (Cl P D FP D [[AB sb],[E fresh],[E aQ],[F CU Bz.length B4],[F ae X af]] (Br aO) [] B D) (congrArg Value.bool ba))<|Ad D D D<|Dn D<|Bn D D<|M<|G<|BE D<|AE<|G<|?_
     intro a P
     exact⟨aQ,aO,a1,_,_,_,_,_,_,_,_,At P,d1,d2,d3,d4,by omega,d6,d7,C,H,g,B,d,T ag,T ay,ad,T ah,T ar,Y,AI aj,S,A,T aJ,T az,T aE,T aw,u⟩
    ·
     refine Ad D D D<|AT (fun _ P=>Fk (Cl P D FP D [[AB sb],[E fresh],[E aQ],[F CU Bz.length B4],[F ae X af]] (Br aO) [] B D) (congrArg Value.bool ba))<|Ad D D D<|Dn D<|Bn D D<|M<|G<|?_
     have bp:aO=false:=by simpa using ba
     have ew:=d4 bp
     have cw:=d7 bp
     have a':n<256:=bL (fun e=>by have:=bK (by omega);omega)
     obtain⟨cx,bQ,cy,cz⟩:=cw
     subst bp
     refine BS D<|K<|N<|BP Ce A D<|I D<|AS P2 D (Xx k n _ a') ?_
     rintro _ ey ⟨bR,rfl,bq,aS⟩
     refine⟨_,D,?_⟩
     have S:=S.below aS
     have C:=V C aS
     have H:=V H aS
     have g:=Q g aS
     have B:=Q B aS
     have A:=Q A aS
     have u:=Q u aS
     have d:=E5 d aS An
     have ez:=Wa (L:=Bz) (k:=k) (k':=bR) a' (by rw[bq n,if_pos D,bh n (Be _) a'];decide) (fun i eA=>by rw[bq i,if_neg (by omega)])
     refine BQ [Av 32] ?_
     intro eB eC ak U bS J
     have eD:=F0 d ak
     have cA:=BM C ak
     have cB:=BM H ak
     have eE:=AP g ak
     have eF:=AP B ak
     have eG:=AP A ak
     have eH:=AP u ak
     have S:=S.below J
     have C:=V C J
     have H:=V H J
     have g:=Q g J
     have B:=Q B J
     have A:=Q A J
     have u:=Q u J
     have d:=E5 d J An
     clear U
     rw[Du]at bS
     refine Bi 0 1 bS D D ?_
     intro eI U cC aT
     have S:=S.B1 aT
     have C:=Ax C aT cA
     have H:=Ax H aT cB
     have g:=Ag aT g (by omega)
     have B:=Ag aT B (by omega)
     have A:=Ag aT A (by omega)
     have u:=Ag aT u (by omega)
     have d:=H2 d aT An
     clear U
     refine M<|G<|N<|I D<|Am BD 2 D<|AK AH 2 u D D<|I D<|Am BD 4 D<|AK AH 4 u D D<|Am BD 37 D<|Eu BZ 6 1 [bv x.rs.l] u D<|BP Ce cC D<|I D<|A_ (q:=1) D D<|AS La D (bG (n:=n+1) (k:=bR) (p:=x.r) (cnt:=x.rc) (sm:=x.rs) (z:=⟨wd,ge,AD,Ab,Ak,Bp,AY,AV,some ⟨aD,av,none⟩,As,Ay,qr,AR,AM,By,AG,AN,AO,AJ,Aq,AQ,ce,Cp⟩) (Bs An d.size) (a_.move d) (U.move d) (a5.move d) aZ a6 a0 d1 d2.2 (by have:=bQ;omega) (Nat.le_of_lt a7) (by omega) (fun j b8 bl=>by rw[bq j,if_neg (by omega)];exact bh j (by omega) bl) (by dsimp only;omega) ⟨aR,al,g,B,C,H,ag,ah,aj⟩) ?_
     rintro _ cD ⟨cE,cF,cG,cH,eJ,eK,eL,eM,eN,t64,cI,rfl,bT,cJ,bU,eO,bV,cK,⟨_,_,cL,cM,cN,cO,cP,cQ,cR⟩,br,bs,bt,cS⟩
     refine⟨_,D,?_⟩
     have cT:=Cq aJ br (Ar A)
     have cU:=Cq az bs (Ar A)
     have cV:=Cq aE br (Ar u)
     have cW:=Cq aw bs (Ar u)
     have A:=bt.Ag A (Im (by omega) (by omega) aJ az)
     have u:=bt.Ag u (Im (by omega) (by omega) aE aw)
     have S:=S.trans bt (IQ ad Y)
     have ad:=ad.trans br d.size;have Y:=Y.trans bs d.size
     have d:=d.G3 cS
     have g:=cL;have B:=cM;have C:=cN;have H:=cO;have ag:=cP;have ah:=cQ;have aj:=cR
     have g:Ai cD sb [[E wd],[E ge],[E AD],[E Ab],[E Ak],[F Bp AV.length AY],[F (some ⟨aD,av,none⟩) Ay.length As],[F qr AM.length AR],[F By AN.length AG],[F AO Aq.length AJ],[F cF cG cH],[F AQ 257 ce]] 66:=g
     have ay:=Eg C al;have ar:=Eg H al
     dsimp only at bT cJ
     refine M<|G<|?_
     intro a P
     exact⟨cE,t64,cI,_,_,_,_,_,_,_,_,At P,bT,⟨by omega,by omega⟩,by have:=bU.1;omega,bU.2,by omega,⟨by have:=bV.1;omega,fun q=>by have:=bV.2 q;omega⟩,(fun q=>by obtain⟨cX,cY,cZ,c0⟩:=cK q;exact⟨cX.trans cx,cY.trans bQ,cZ.trans cy,c0.trans cz⟩),C,H,g,B,d,T ag,T ay,ad,T ah,T ar,Y,AI aj,S,A,T cT,T cU,T cV,T cW,u⟩
  ·
   rintro a eP ⟨aF,aP,a8,aa,ab,R,aL,ae,af,X,aA,P,d1,d2,d3,d4,d5,d6,d7,C,H,g,B,d,ag,ay,ad,ah,ar,Y,aj,S,A,aJ,az,aE,aw,u⟩
   revert a
   refine K<|K<|N<|I D<|Bt D<|Am CP 5 D<|AK FP 5 B D D<|M<|G<|Ej D (fun bb=>?_) fun bb=>?_
   ·
    refine AA<|AX<|?_
    intro a P
    refine Ec P D ?_
    exact⟨aF,aa,R,ab,aL,ae,X,af,aA,aP,a8+1,D,d1,⟨by omega,by dsimp only;omega⟩,⟨by omega,(fun h=>by rw[h]at bb;cases bb)⟩,by omega,d6,d7,⟨aR,al,g,B,C,H,ag,ah,aj⟩,ad,Y,S,d⟩
   ·
    have bu:aP=false:=bb
    obtain⟨c1,c2,c3,c4⟩:=d7 bu
    have eQ:=d4 bu
    refine AE<|G<|K<|N<|I D<|I D<|BP Ce A D<|I D<|AS Pu D (SN (z:=⟨wd,ge,AD,Ab,Ak,Bp,AY,AV,some ⟨aD,av,none⟩,As,Ay,qr,AR,AM,By,AG,AN,AO,AJ,Aq,AQ,ce,Cp⟩) (p:=p) (k:=k) (n:=n) (Bs An d.size) (U.move d) g B (a5.below d) aZ a6 a7 a0) ?_
    rintro _ eR ⟨t87,rfl,aU⟩
    refine⟨_,D,?_⟩
    have S:=S.below aU
    have C:=V C aU
    have H:=V H aU
    have g:=Q g aU
    have B:=Q B aU
    have A:=Q A aU
    have u:=Q u aU
    have d:=E5 d aU An
    refine O D<|M<|G<|K<|K<|N<|I D<|I D<|Bt D<|Am CP 2 D<|AK AH 2 B D D<|?_
    by_cases bW:((p:Nat):Int)=((aF:Nat):Int)
    ·
     refine Dr bW D D<|I D<|?_
     rcases Bool.eq_false_or_eq_true t87 with bw|bw
     ·
      refine Ad D D D<|AT (fun _ P=>Fk (Ew P (v:=(Br t87)) D) (congrArg Value.bool bw))<|Ba D D<|M<|G<|BS D<|K<|N<|I D<|I D<|AS Lh D (Lc (p:=p) (y:=((172:Nat):Int)) (hcap:=by omega) (z:=⟨wd,ge,AD,Ab,Ak,Bp,AY,AV,some ⟨aD,av,none⟩,As,Ay,qr,AR,AM,By,AG,AN,AO,AJ,Aq,AQ,ce,Cp⟩) (Bs An d.size) (a_.move d) (U.move d) (a5.move d) aZ a6 a0 ⟨aR,al,g,B,C,H,ag,ah,aj⟩) ?_
      rintro _ c5 ⟨bX,bY,rfl,⟨_,_,c6,c7,c8,c9,c_,c',da⟩,db,dc,dd,de⟩
      refine⟨_,D,?_⟩
      have S:=S.trans dd (IQ ad Y)
      have ad:=ad.trans db d.size;have Y:=Y.trans dc d.size
      have d:=d.G3 de
      have g:=c6;have B:=c7;have C:=c8;have H:=c9;have ag:=c_;have ah:=c';have aj:=da
      have g:Ai c5 sb [[E wd],[E ge],[E AD],[E Ab],[E Ak],[F Bp AV.length AY],[F (some ⟨aD,av,none⟩) Ay.length As],[F qr AM.length AR],[F By AN.length AG],[F AO Aq.length AJ],[F bX (R+1) bY],[F AQ 257 ce]] 66:=g
      have ay:=Eg C al;have ar:=Eg H al
      refine M<|G<|AA<|AX<|?_
      intro a P
      refine Ec P D ?_
      exact⟨aF,bX,R+1,bY,aL++[⟨p,((172:Nat):Int)⟩],ae,X,af,aA,true,1,D,d1,⟨by omega,by dsimp only;omega⟩,⟨by omega,(fun h=>by cases h)⟩,by omega,⟨by omega,fun _=>by omega⟩,(fun h=>by cases h),⟨aR,al,g,B,C,H,ag,ah,aj⟩,ad,Y,S,d⟩
     ·
      refine Ad D D D<|AT (fun _ P=>Fk (Ew P (v:=(Br t87)) D) (congrArg Value.bool bw))<|Ba D D<|M<|G<|BE D<|AE<|G<|K<|N<|I D<|Bt D<|Am CP 2 D<|AK AH 2 B D D<|A_ (q:=1) D D<|Bt D<|Am CP 2 D<|C_ 2 B D D ?_
      intro eS U bk aW
      have S:=S.B1 aW
      have C:=Ax C aW ag
      have H:=Ax H aW ah
      have g:=Ag aW g (by omega)
      have A:=Ag aW A (by omega)
      have u:=Ag aW u (by omega)
      have d:=H2 d aW An
      have B:=bk
      clear U
      refine M<|G<|?_
      intro a P
      refine FX (fun a W=>∃aM aN,Ao 102 a Je∧W.ownsRow Aj 173 2 (.slice aa R ab) R (Al Em aL)∧Ai W sb [[E wd],[E ge],[E AD],[E Ab],[E Ak],[F Bp AV.length AY],[F (some ⟨aD,av,none⟩) Ay.length As],[F qr AM.length AR],[F By AN.length AG],[F AO Aq.length AJ],[F aa R ab],[F AQ 257 ce]] 66∧Cd Aj sb w W∧Z (F aa R ab) b∧Z (F aa R ab) sb∧AtR w.heap.size (F aa R ab) (F an ai ao)∧Z (F aM (X+1) aN) b∧Z (F aM (X+1) aN) sb∧AtR w.heap.size (F aM (X+1) aN) (F aB aq aC)∧Ap (F aa R ab) (F aM (X+1) aN)∧Bd (F2 b sb (F an ai ao) (F aB aq aC)) w W∧Ai W aI [bv k.l] 51∧Z (F aa R ab) aI∧Z (F aM (X+1) aN) aI∧Z (F aa R ab) aK∧Z (F aM (X+1) aN) aK∧Ai W aK [[E x.ZI],[E x.l],[E x.r],[E x.lc],[E x.rc],bv x.ls.l,bv x.rs.l,bv x.k.l,[F x.s.p x.s.v.length x.s.c]] 127∧W.ownsRow Aj 190 66 (.slice aM (X+1) aN) (X+1) (Al CA (aA++[(⟨n,p,k,Bh⟩:Co)]))∧Ai W b [[AB sb],[E fresh],[E (aF+1)],[F CU Bz.length B4],[F aM (X+1) aN],[Br aP]] 148) ?_ ?_
      ·
       refine C7 (fun W=>Ai W sb [[E wd],[E ge],[E AD],[E Ab],[E Ak],[F Bp AV.length AY],[F (some ⟨aD,av,none⟩) Ay.length As],[F qr AM.length AR],[F By AN.length AG],[F AO Aq.length AJ],[F aa R ab],[F AQ 257 ce]] 66∧Cd Aj sb w W∧Ai W aI [bv k.l] 51∧Ai W aK [[E x.ZI],[E x.l],[E x.r],[E x.lc],[E x.rc],bv x.ls.l,bv x.rs.l,bv x.k.l,[F x.s.p x.s.v.length x.s.c]] 127) ?_
       intro eT U J
       have S:=S.below J
       have C:=V C J
       have H:=V H J
       have g:=Q g J
       have A:=Q A J
       have u:=Q u J
       have B:=Q B J
       have d:=E5 d J An
       clear U
       revert a
       refine Bk 0 D D ⟨g,d,A,u⟩<|Bk 1 D D ⟨g,d,A,u⟩<|CF 2 D D ⟨g,d,A,u⟩<|BW 3 D CP 4 D ⟨g,d,A,u⟩<|Bk 5 D D ⟨g,d,A,u⟩<|Bk 6 D D ⟨g,d,A,u⟩<|A5 7 D (fun W bx a P=>by obtain⟨g,d,A,u⟩:=bx;exact EO P D Ce D [] [bv k.l] [] A D (Cf 32)) ⟨g,d,A,u⟩<|A5 8 D (fun W bx a P=>by obtain⟨g,d,A,u⟩:=bx;exact GG P (Bf:=[(0,(E n)),(1,(E p)),(2,(Value.agg (flat [bv k.l])))]) D (r:=flat [[E n],[E p],bv k.l,Av 32]) (GI DE (ss:=[[E 0],[E 0],Av 32,Av 32]) (by kernel_rfl) (places:=[(0,1),(1,1),(2,32),(34,32)]) (by kernel_rfl) (C2 [] [[E 0]] [[E 0],Av 32,Av 32] [[E n]] D Jb.nil (Jb.one Jb.nil) (Jb.one Jb.nil) D (C2 [[E n]] [[E 0]] [Av 32,Av 32] [[E p]] D (Jb.one Jb.nil) (Jb.one Jb.nil) (Jb.one Jb.nil) D (C2 [[E n],[E p]] [Av 32] [Av 32] [bv k.l] D (Jb.one (Jb.one Jb.nil)) (Jb.row (Jg 32) Jb.nil) (Jb.row k.row Jb.nil) D D))))) ⟨g,d,A,u⟩<|?_
       intro a2 au
       refine EW 4 9 5 D D D D ?_ ?_
       ·
        intro Aa ax
        refine DI au D (Cl au D Ds D [[AB sb],[E fresh],[E (aF+1)],[F CU Bz.length B4]] (F ae X af) [[Br aP]] B D) ?_
        intro a P
        refine ax _ _ ⟨g,d,A,u⟩ ?_;revert a
        intro a2 au
        refine A8 9 4 D D ?_
        intro Aa ax
        refine EK au DW [[E n],[E p],bv k.l,Av 32] ?_
        intro a eU P U df J
        have S:=S.below J
        have C:=V C J
        have H:=V H J
        have g:=Q g J
        have A:=Q A J
        have u:=Q u J
        have B:=Q B J
        have d:=E5 d J An
        clear U
        refine ax _ _ ⟨g,d,A,u⟩ ?_;revert a
        intro a2 au
        refine A8 10 3 D D ?_
        intro Aa ax
        refine BK au DW H df C8 (Bs An d.size) (X+1) (CC aA (⟨n,p,k,Bh⟩:Co) D (D3 _)) ?_
        intro a aM aN eV P bz aG
        have dg:=aj.Df aG (fun k bA=>(C.lt k bA).2)
        have bZ:=A9 aG ah (Ar B)
        have dh:=A9 aG ar (Ar g)
        have di:=A9 aG az (Ar A)
        have dj:=A9 aG aw (Ar u)
        have S:=S.DB aG Y (fun _ q=>Or.inr (Or.inr (Or.inr q)))
        have C:=Bm C aG aj
        have g:=A' g aG ar
        have A:=A' A aG az
        have u:=A' u aG aw
        have B:=A' B aG ah
        have Y:=Y.C9 aG d.size
        have d:=Kv d aG H An
        refine ax _ _ ⟨g,d,A,u⟩ ?_;revert a
        refine CF 11 D D ⟨g,d,A,u⟩<|BW 12 D CP 4 D ⟨g,d,A,u⟩<|?_
        intro a2 au
        refine A8 13 0 D D ?_
        intro Aa ax
        refine DM au 4 B D D ?_
        intro a eW P U dk aX
        have S:=S.B1 aX
        have C:=Ax C aX ag
        have g:=Ag aX g (by omega)
        have A:=Ag aX A (by omega)
        have u:=Ag aX u (by omega)
        have bz:=Ax bz aX bZ
        have d:=H2 d aX An
        clear U
        refine ax _ _ ⟨g,d,A,u⟩ ?_;revert a
        refine B_<|G<|?_
        intro a P
        exact⟨aM,aN,At P,C,g,d,ag,ay,ad,bZ,dh,Y,dg,S,A,aJ,di,aE,dj,u,bz,dk⟩
       ·
        intro Aa ax
        refine EK au DW [[E n],[E p],bv k.l,Av 32] ?_
        intro a eX P U dm J
        have S:=S.below J
        have C:=V C J
        have H:=V H J
        have g:=Q g J
        have A:=Q A J
        have u:=Q u J
        have B:=Q B J
        have d:=E5 d J An
        clear U
        refine ax _ _ ⟨g,d,A,u⟩ ?_;revert a
        intro a2 au
        refine A8 4 4 D D ?_
        intro Aa ax
        refine DI au D (Cl au D Ds D [[AB sb],[E fresh],[E (aF+1)],[F CU Bz.length B4]] (F ae X af) [[Br aP]] B D) ?_
        intro a P
        refine ax _ _ ⟨g,d,A,u⟩ ?_;revert a
        intro a2 au
        refine A8 10 3 D D ?_
        intro Aa ax
        refine BK au DW H dm C8 (Bs An d.size) (X+1) (CC aA (⟨n,p,k,Bh⟩:Co) D (D3 _)) ?_
        intro a dn dp eY P bB aH
        have dq:=aj.Df aH (fun k bA=>(C.lt k bA).2)
        have b0:=A9 aH ah (Ar B)
        have dr:=A9 aH ar (Ar g)
        have ds:=A9 aH az (Ar A)
        have dt:=A9 aH aw (Ar u)
        have S:=S.DB aH Y (fun _ q=>Or.inr (Or.inr (Or.inr q)))
        have C:=Bm C aH aj
        have g:=A' g aH ar
        have A:=A' A aH az
        have u:=A' u aH aw
        have B:=A' B aH ah
        have Y:=Y.C9 aH d.size
        have d:=Kv d aH H An
        refine ax _ _ ⟨g,d,A,u⟩ ?_;revert a
        refine CF 11 D D ⟨g,d,A,u⟩<|BW 12 D CP 4 D ⟨g,d,A,u⟩<|?_
        intro a2 au
        refine A8 13 0 D D ?_
        intro Aa ax
        refine DM au 4 B D D ?_
        intro a eZ P U du aY
        have S:=S.B1 aY
        have C:=Ax C aY ag
        have g:=Ag aY g (by omega)
        have A:=Ag aY A (by omega)
        have u:=Ag aY u (by omega)
        have bB:=Ax bB aY b0
        have d:=H2 d aY An
        clear U
        refine ax _ _ ⟨g,d,A,u⟩ ?_;revert a
        refine B_<|G<|?_
        intro a P
        exact⟨dn,dp,At P,C,g,d,ag,ay,ad,b0,dr,Y,dq,S,A,aJ,ds,aE,dt,u,bB,du⟩
      ·
       rintro a e0 ⟨aM,aN,P,C,g,d,ag,ay,ad,ah,ar,Y,aj,S,A,aJ,az,aE,aw,u,H,B⟩
       refine FD ?_
       refine Ec P D ?_
       exact⟨aF+1,aa,R,ab,aL,aM,X+1,aN,aA++[(⟨n,p,k,Bh⟩:Co)],aP,0,D,Gn d1 a7,⟨by omega,by dsimp only;omega⟩,⟨by omega,fun _=>rfl⟩,by omega,⟨by omega,fun h=>by rw[bu]at h;cases h⟩,fun _=>⟨c1,c2,c3,c4⟩,⟨aR,al,g,B,C,H,ag,ah,aj⟩,ad,Y,S,d⟩
    ·
     refine F6 bW D D<|I D<|Ae D D D D<|Bn D D<|M<|G<|BS D<|K<|N<|I D<|I D<|AS Lh D (Lc (p:=p) (y:=((172:Nat):Int)) (hcap:=by omega) (z:=⟨wd,ge,AD,Ab,Ak,Bp,AY,AV,some ⟨aD,av,none⟩,As,Ay,qr,AR,AM,By,AG,AN,AO,AJ,Aq,AQ,ce,Cp⟩) (Bs An d.size) (a_.move d) (U.move d) (a5.move d) aZ a6 a0 ⟨aR,al,g,B,C,H,ag,ah,aj⟩) ?_
     rintro _ dv ⟨b1,b2,rfl,⟨_,_,dw,dx,dy,dz,dA,dB,dC⟩,dD,dE,dF,dG⟩
     refine⟨_,D,?_⟩
     have S:=S.trans dF (IQ ad Y)
     have ad:=ad.trans dD d.size;have Y:=Y.trans dE d.size
     have d:=d.G3 dG
     have g:=dw;have B:=dx;have C:=dy;have H:=dz;have ag:=dA;have ah:=dB;have aj:=dC
     have g:Ai dv sb [[E wd],[E ge],[E AD],[E Ab],[E Ak],[F Bp AV.length AY],[F (some ⟨aD,av,none⟩) Ay.length As],[F qr AM.length AR],[F By AN.length AG],[F AO Aq.length AJ],[F b1 (R+1) b2],[F AQ 257 ce]] 66:=g
     have ay:=Eg C al;have ar:=Eg H al
     refine M<|G<|AA<|AX<|?_
     intro a P
     refine Ec P D ?_
     exact⟨aF,b1,R+1,b2,aL++[⟨p,((172:Nat):Int)⟩],ae,X,af,aA,true,1,D,d1,⟨by omega,by dsimp only;omega⟩,⟨by omega,(fun h=>by cases h)⟩,by omega,⟨by omega,fun _=>by omega⟩,(fun h=>by cases h),⟨aR,al,g,B,C,H,ag,ah,aj⟩,ad,Y,S,d⟩
theorem Sn:∀(q:Nat),Qw q:=by
 intro q
 induction q using Nat.strongRecOn with
 |ind q bf=>
 intro Aj b sb z fresh next CU B4 Bz aq ag ar EF aB au aC Ey p cnt n sm k w An aG H aD av aE aF aK Gb bg aS hn bh hcap bj
 obtain⟨wd,ge,AD,Ab,Ak,Bp,AY,AV,Bv,As,Ay,qr,AR,AM,By,AG,AN,AO,AJ,Aq,AQ,ce,Cp⟩:=z
 have cC:Cp.length=257:=H.el
 have cD:AV.length=AD:=H.ar
 have cF:Ay.length=AD:=H.nl
 have cG:AM.length=AD:=H.aG
 have cI:∀p∈AN,p<AD:=H.E9
 have cJ:AD≤4096:=H.m
 have cK:∀y∈Ay,Fl y:=H.ZL
 have cM:∀y∈AM,y.v<4294967296∧y.f<4294967296∧y.ZG<4294967296∧y.ZZ<4294967296∧y.r<4294967296∧y.c<4294967296:=H.ZK
 obtain⟨ao,U,g,o,B,C,X,Y,aa⟩:=bj
 have g:Ai w sb [[E wd],[E ge],[E AD],[E Ab],[E Ak],[F Bp AV.length AY],[F Bv Ay.length As],[F qr AM.length AR],[F By AN.length AG],[F AO Aq.length AJ],[F aq ag ar],[F AQ 257 ce]] 66:=g
 have cQ:CR Aj sb w Bp AV.length AY 1 (Al Ct AV):=H.k
 have cR:CR Aj sb w Bv Ay.length As 102 (Al Dd Ay):=H.n
 have cS:CR Aj sb w qr AM.length AR 38 (Al DY AM):=H.r
 have cT:CR Aj sb w By AN.length AG 1 (Al Ct AN):=H.a
 have cU:CR Aj sb w AO Aq.length AJ 1 (Al EP Aq):=H.t
 have cV:CR Aj sb w AQ 257 ce 32 (Al Ex Cp):=H.e
 have cW:∀x∈Ay,G9 Aj sb w x.s:=H.ZM
 have aw:=Eg B U
 have ax:=Eg C U
 have cY:=An
 have L:AtR w.heap.size (F aq ag ar) (F aq ag ar):=AtR.refl _ _
 have P:AtR w.heap.size (F aB au aC) (F aB au aC):=AtR.refl _ _
 have S:Bd (F2 b sb (F aq ag ar) (F aB au aC)) w w:=Bd.refl _ _
 have d:Cd Aj sb w w:=Cd.refl _ _ _
 dsimp only at aS av aK Gb aF hcap
 refine Bx La D 73 ?_
 refine K<|N<|CW D ?_
 intro aL cZ aj H u R
 have c0:=F0 d aj
 have c1:=AP g aj
 have c2:=AP o aj
 have aM:=BM B aj
 have aN:=BM C aj
 have S:=S.below R
 have g:=Q g R
 have o:=Q o R
 have B:=V B R
 have C:=V C R
 have d:=E5 d R An
 clear H
 refine CW D ?_
 intro aO c3 aj H A R
 have c4:=F0 d aj
 have c5:=AP g aj
 have c6:=AP o aj
 have aP:=BM B aj
 have aQ:=BM C aj
 have c7:=AP u aj
 have S:=S.below R
 have g:=Q g R
 have o:=Q o R
 have B:=V B R
 have C:=V C R
 have u:=Q u R
 have d:=E5 d R An
 clear H
 refine M<|G<|K<|N<|I D<|I D<|I D<|I D<|BP Ce A D<|I D<|AS Qo D (WS (z:=⟨wd,ge,AD,Ab,Ak,Bp,AY,AV,Bv,As,Ay,qr,AR,AM,By,AG,AN,AO,AJ,Aq,AQ,ce,Cp⟩) (p:=p) (q:=q) (cnt:=cnt) (k:=k) (n:=n) (Bs An d.size) (H.move d) g o (aD.below d) av aE aS hn) ?_
 rintro _ c8 ⟨t9,rfl,a1,ay⟩
 refine⟨_,D,?_⟩
 have S:=S.below ay
 have g:=Q g ay
 have o:=Q o ay
 have B:=V B ay
 have C:=V C ay
 have u:=Q u ay
 have A:=Q A ay
 have d:=E5 d ay An
 dsimp only at a1
 refine O D<|M<|G<|K<|K<|N<|I D<|Dn D<|M<|G<|Ej D (fun a2=>?_) fun a2=>?_
 ·
  refine K<|N<|I D<|I D<|AS Lh D (Lc (p:=q) (y:=((170:Nat):Int)) (hcap:=by omega) (z:=⟨wd,ge,AD,Ab,Ak,Bp,AY,AV,Bv,As,Ay,qr,AR,AM,By,AG,AN,AO,AJ,Aq,AQ,ce,Cp⟩) (Bs An d.size) (aG.move d) (H.move d) (aD.move d) av aE aF ⟨ao,U,g,o,B,C,X,Y,aa⟩) ?_
  rintro _ bk ⟨a3,a4,rfl,⟨_,_,bl,bm,bn,bo,bp,bq,br⟩,bs,bt,bu,bw⟩
  refine⟨_,D,?_⟩
  have S:=S.trans bu (IQ L P)
  have L:=L.trans bs d.size;have P:=P.trans bt d.size
  have d:=d.G3 bw
  have g:=bl;have o:=bm;have B:=bn;have C:=bo;have X:=bp;have Y:=bq;have aa:=br
  have g:Ai bk sb [[E wd],[E ge],[E AD],[E Ab],[E Ak],[F Bp AV.length AY],[F Bv Ay.length As],[F qr AM.length AR],[F By AN.length AG],[F AO Aq.length AJ],[F a3 (ag+1) a4],[F AQ 257 ce]] 66:=g
  have aw:=Eg B U;have ax:=Eg C U
  refine M<|G<|AA<|AX<|?_
  intro a J
  refine Ec J D ?_
  exact⟨next,a3,ag+1,a4,EF++[⟨q,((170:Nat):Int)⟩],aB,au,aC,Ey,true,0,D,aK,⟨by omega,by dsimp only;omega⟩,⟨by omega,fun h=>rfl⟩,by omega,⟨by omega,fun _=>by omega⟩,(fun h=>by cases h),⟨ao,U,g,o,B,C,X,Y,aa⟩,L,P,S,d⟩
 ·
  have bx:t9=true:=by simpa using a2
  obtain⟨a5,_,a6⟩:=a1 bx
  have aT:p<AD:=Nat.lt_of_lt_of_le a5 aS
  refine AE<|G<|?_
  intro a J
  refine ES (fun a W=>∃ak al aH ah ai ab aI ae af ad aJ,Ao 73 a (Ja (Ja (Ja (Ja (Ja (Ja Je 0 (AB b)) 1 (E p)) 2 (E q)) 6 (E n)) 11 (AB aL)) 12 (AB aO))∧(∀x∈aJ,x.p<AD)∧(next≤ak∧ak≤AD)∧aH≤2*(258 - n)∧(al=false→aH=0)∧ad≤au+Gk Bz k n+3*(ak - next)+1+aH∧(ab≤ag+1∧(al=true→ag+1≤ab))∧(al=false→ah=aq∧ab=ag∧ai=ar∧aI=EF)∧W.ownsRow Aj 173 2 (.slice ah ab ai) ab (Al Em aI)∧W.ownsRow Aj 190 66 (.slice ae ad af) ad (Al CA aJ)∧Ai W sb [[E wd],[E ge],[E AD],[E Ab],[E Ak],[F Bp AV.length AY],[F Bv Ay.length As],[F qr AM.length AR],[F By AN.length AG],[F AO Aq.length AJ],[F ah ab ai],[F AQ 257 ce]] 66∧Ai W b [[AB sb],[E fresh],[E ak],[F CU Bz.length B4],[F ae ad af],[Br al]] 148∧Cd Aj sb w W∧Z (F ah ab ai) b∧Z (F ah ab ai) sb∧AtR w.heap.size (F ah ab ai) (F aq ag ar)∧Z (F ae ad af) b∧Z (F ae ad af) sb∧AtR w.heap.size (F ae ad af) (F aB au aC)∧Ap (F ah ab ai) (F ae ad af)∧Bd (F2 b sb (F aq ag ar) (F aB au aC)) w W∧Ai W aL [bv sm.l] 125∧Z (F ah ab ai) aL∧Z (F ae ad af) aL∧Ai W aO [bv k.l] 51∧Z (F ah ab ai) aO∧Z (F ae ad af) aO) ?_ ?_
  ·
   revert a
   refine K<|N<|I D<|I D<|Bt D<|Am CP 1 D<|AK AH 1 o D D<|B5 D D<|M<|G<|Bl D (fun bz=>?_) fun bz=>?_
   ·
    refine K<|N<|I D<|I D<|BP Ce A D<|I D<|AS Rc D (SI (z:=⟨wd,ge,AD,Ab,Ak,Bp,AY,AV,Bv,As,Ay,qr,AR,AM,By,AG,AN,AO,AJ,Aq,AQ,ce,Cp⟩) (p:=p) (k:=k) (n:=n) (Bs An d.size) (H.move d) g o (aD.below d) av aE aT aF) ?_
    rintro _ c9 ⟨t29,rfl,az⟩
    refine⟨_,D,?_⟩
    have S:=S.below az
    have g:=Q g az
    have o:=Q o az
    have B:=V B az
    have C:=V C az
    have u:=Q u az
    have A:=Q A az
    have d:=E5 d az An
    refine O D<|M<|G<|K<|K<|N<|I D<|Dn D<|M<|G<|Ej D (fun bA=>?_) fun bA=>?_
    ·
     refine K<|N<|I D<|I D<|AS Lh D (Lc (p:=q) (y:=((172:Nat):Int)) (hcap:=by omega) (z:=⟨wd,ge,AD,Ab,Ak,Bp,AY,AV,Bv,As,Ay,qr,AR,AM,By,AG,AN,AO,AJ,Aq,AQ,ce,Cp⟩) (Bs An d.size) (aG.move d) (H.move d) (aD.move d) av aE aF ⟨ao,U,g,o,B,C,X,Y,aa⟩) ?_
     rintro _ bB ⟨a7,a8,rfl,⟨_,_,bC,bD,bE,bF,bG,bH,bI⟩,bJ,bK,bL,bM⟩
     refine⟨_,D,?_⟩
     have S:=S.trans bL (IQ L P)
     have L:=L.trans bJ d.size;have P:=P.trans bK d.size
     have d:=d.G3 bM
     have g:=bC;have o:=bD;have B:=bE;have C:=bF;have X:=bG;have Y:=bH;have aa:=bI
     have g:Ai bB sb [[E wd],[E ge],[E AD],[E Ab],[E Ak],[F Bp AV.length AY],[F Bv Ay.length As],[F qr AM.length AR],[F By AN.length AG],[F AO Aq.length AJ],[F a7 (ag+1) a8],[F AQ 257 ce]] 66:=g
     have aw:=Eg B U;have ax:=Eg C U
     refine M<|G<|AA<|AX<|AX<|?_
     intro a J
     refine Ec J D ?_
     exact⟨next,a7,ag+1,a8,EF++[⟨q,((172:Nat):Int)⟩],aB,au,aC,Ey,true,0,D,aK,⟨by omega,by dsimp only;omega⟩,⟨by omega,fun h=>rfl⟩,by omega,⟨by omega,fun _=>by omega⟩,(fun h=>by cases h),⟨ao,U,g,o,B,C,X,Y,aa⟩,L,P,S,d⟩
    ·
     refine AE<|G<|N<|I D<|I D<|BP Ce A D<|I D<|AS Q8 D (Vg (p:=p) (k:=k) (n:=n) (z:=⟨wd,ge,AD,Ab,Ak,Bp,AY,AV,Bv,As,Ay,qr,AR,AM,By,AG,AN,AO,AJ,Aq,AQ,ce,Cp⟩) (Bs An d.size) (aG.move d) (H.move d) (aD.move d) av aE aF aK (by omega) (by omega) (by omega) (by omega) ⟨ao,U,g,o,B,C,X,Y,aa⟩) ?_
     rintro _ bN ⟨c_,c',da,db,rfl,aU,dc,⟨_,_,bO,bP,bQ,bR,bS,bT,bU⟩,aV,aW,aX,bV⟩
     refine⟨_,D,?_⟩
     have bW:=Cq aM aV (Ar u)
     have bX:=Cq aN aW (Ar u)
     have bY:=Cq aP aV (Ar A)
     have bZ:=Cq aQ aW (Ar A)
     have u:=aX.Ag u (Im (by omega) (by omega) aM aN)
     have A:=aX.Ag A (Im (by omega) (by omega) aP aQ)
     have S:=S.trans aX (IQ L P)
     have L:=L.trans aV d.size;have P:=P.trans aW d.size
     have d:=d.G3 bV
     have g:=bO;have o:=bP;have B:=bQ;have C:=bR;have X:=bS;have Y:=bT;have aa:=bU
     have g:Ai bN sb [[E wd],[E ge],[E AD],[E Ab],[E Ak],[F Bp AV.length AY],[F Bv Ay.length As],[F qr AM.length AR],[F By AN.length AG],[F AO Aq.length AJ],[F aq ag ar],[F AQ 257 ce]] 66:=g
     have aw:=Eg B U;have ax:=Eg C U
     dsimp only at aU
     have dd:=aU
     refine M<|G<|?_
     intro a J
     exact⟨next,false,0,_,_,_,_,_,_,_,_,At J,aU,⟨Be _,Gb⟩,Nat.zero_le _,fun _=>rfl,by omega,⟨Nat.le_succ _,fun h=>by cases h⟩,fun _=>⟨D,D,D,D⟩,B,C,g,o,d,T X,T aw,L,T Y,T ax,P,AI aa,S,u,T bW,T bX,A,T bY,T bZ⟩
   ·
    refine N<|I D<|I D<|BP Ce A D<|I D<|AS Rb D (TZ (p:=p) (n:=n) (k:=k) (bf p a5) (z:=⟨wd,ge,AD,Ab,Ak,Bp,AY,AV,Bv,As,Ay,qr,AR,AM,By,AG,AN,AO,AJ,Aq,AQ,ce,Cp⟩) (Bs An d.size) (aG.move d) (H.move d) (aD.move d) av aE aF aK Gb bg aT a6 hn bh (by dsimp only;omega) ⟨ao,U,g,o,B,C,X,Y,aa⟩) ?_
    rintro _ b0 ⟨b1,b2,b3,b4,de,df,dg,dh,di,t73,b5,rfl,a9,a_,a',b6,b7,b8,⟨_,_,b9,b_,b',ca,cb,cc,cd⟩,aY,aZ,a0,cf⟩
    refine⟨_,D,?_⟩
    have cg:=Cq aM aY (Ar u)
    have ch:=Cq aN aZ (Ar u)
    have cj:=Cq aP aY (Ar A)
    have ck:=Cq aQ aZ (Ar A)
    have u:=a0.Ag u (Im (by omega) (by omega) aM aN)
    have A:=a0.Ag A (Im (by omega) (by omega) aP aQ)
    have S:=S.trans a0 (IQ L P)
    have L:=L.trans aY d.size;have P:=P.trans aZ d.size
    have d:=d.G3 cf
    have g:=b9;have o:=b_;have B:=b';have C:=ca;have X:=cb;have Y:=cc;have aa:=cd
    have g:Ai b0 sb [[E wd],[E ge],[E AD],[E Ab],[E Ak],[F Bp AV.length AY],[F Bv Ay.length As],[F qr AM.length AR],[F By AN.length AG],[F AO Aq.length AJ],[F b2 b3 b4],[F AQ 257 ce]] 66:=g
    have aw:=Eg B U;have ax:=Eg C U
    dsimp only at a9 a_
    refine M<|G<|?_
    intro a J
    exact⟨b1,t73,b5,_,_,_,_,_,_,_,_,At J,a9,a_,a'.1,a'.2,b6,b7,b8,B,C,g,o,d,T X,T aw,L,T Y,T ax,P,AI aa,S,u,T cg,T ch,A,T cj,T ck⟩
  ·
   rintro a dj ⟨ak,al,aH,ah,ai,ab,aI,ae,af,ad,aJ,J,d1,d2,d3,d4,d5,d6,d7,B,C,g,o,d,X,aw,L,Y,ax,P,aa,S,u,aM,aN,A,aP,aQ⟩
   revert a
   refine K<|?_
   intro a J
   refine C7 (fun W=>Ai W sb [[E wd],[E ge],[E AD],[E Ab],[E Ak],[F Bp AV.length AY],[F Bv Ay.length As],[F qr AM.length AR],[F By AN.length AG],[F AO Aq.length AJ],[F ah ab ai],[F AQ 257 ce]] 66∧Ai W b [[AB sb],[E fresh],[E ak],[F CU Bz.length B4],[F ae ad af],[Br al]] 148∧Cd Aj sb w W∧Ai W aL [bv sm.l] 125∧Ai W aO [bv k.l] 51) ?_
   intro dk H R
   have S:=S.below R
   have B:=V B R
   have C:=V C R
   have g:=Q g R
   have o:=Q o R
   have u:=Q u R
   have A:=Q A R
   have d:=E5 d R An
   clear H
   revert a
   refine Bk 0 D D ⟨g,o,d,u,A⟩<|CF 1 D D ⟨g,o,d,u,A⟩<|BW 2 D CP 5 D ⟨g,o,d,u,A⟩<|?_
   rcases Bool.eq_false_or_eq_true al with aR|aR
   ·
    refine A5 3 D (fun W an a J=>by obtain⟨g,o,d,u,A⟩:=an;exact Fk (Cl J D FP D [[AB sb],[E fresh],[E ak],[F CU Bz.length B4],[F ae ad af]] (Br al) [] o D) (congrArg Value.bool aR)) ⟨g,o,d,u,A⟩<|Se 4 D D ⟨g,o,d,u,A⟩<|Bk 5 D D ⟨g,o,d,u,A⟩<|Ci 6 D D D D D D D ⟨g,o,d,u,A⟩<|Ci 7 D D D D D D D ⟨g,o,d,u,A⟩<|Ci 8 D D D D D D D ⟨g,o,d,u,A⟩<|Ci 9 D D D D D D D ⟨g,o,d,u,A⟩<|Ci 10 D D D D D D D ⟨g,o,d,u,A⟩<|Ci 11 D D D D D D D ⟨g,o,d,u,A⟩<|Ci 12 D D D D D D D ⟨g,o,d,u,A⟩<|Ci 13 D D D D D D D ⟨g,o,d,u,A⟩<|Ci 14 D D D D D D D ⟨g,o,d,u,A⟩<|Ci 15 D D D D D D D ⟨g,o,d,u,A⟩<|Ik 16 D D D ⟨g,o,d,u,A⟩<|B_<|G<|BE D<|AE<|?_
    intro a J
    refine FD ?_
    refine Ec J D ?_
    exact⟨ak,ah,ab,ai,aI,ae,ad,af,aJ,al,aH,D,d1,⟨by omega,by dsimp only;omega⟩,⟨by omega,d4⟩,by omega,d6,d7,⟨ao,U,g,o,B,C,X,Y,aa⟩,L,P,S,d⟩
   ·
    obtain⟨dm,dn,dp,dq⟩:=d7 aR
    have dr:=d4 aR
    refine A5 3 D (fun W an a J=>by obtain⟨g,o,d,u,A⟩:=an;exact Fk (Cl J D FP D [[AB sb],[E fresh],[E ak],[F CU Bz.length B4],[F ae ad af]] (Br al) [] o D) (congrArg Value.bool aR)) ⟨g,o,d,u,A⟩<|Se 4 D D ⟨g,o,d,u,A⟩<|Bk 5 D D ⟨g,o,d,u,A⟩<|He 6 D D D D D ⟨g,o,d,u,A⟩<|MF 7 D D D D D ⟨g,o,d,u,A⟩<|H5 8 D D D D CP 0 D ⟨g,o,d,u,A⟩<|EV 9 D D D D (fun W an a J=>by obtain⟨g,o,d,u,A⟩:=an;exact Cl J D GS D [] (AB sb) [[E fresh],[E ak],[F CU Bz.length B4],[F ae ad af],[Br al]] o D) ⟨g,o,d,u,A⟩<|He 10 D D D D D ⟨g,o,d,u,A⟩<|He 11 D D D D D ⟨g,o,d,u,A⟩<|Xh 12 D D D D (p:=256) D D ⟨g,o,d,u,A⟩<|EV 14 D D D D (fun W an a J=>by obtain⟨g,o,d,u,A⟩:=an;exact EO J D BZ D [] [bv sm.l] [] u D (Cf 32)) ⟨g,o,d,u,A⟩<|?_
    intro ds ba
    refine JU (i:=13) (fuel:=2) D (I0 (j:=5) (t:=true) D D D ba D) (by kernel_rfl) (by kernel_rfl) ?_
    intro Aa cl
    refine B0 ba #[AB sb,E p,E (256 - n)] Pk (Wl (b:=sb) (z:=⟨wd,ge,AD,Ab,Ak,Bp,AY,AV,Bv,As,Ay,qr,AR,AM,By,AG,AN,AO,AJ,Aq,AQ,ce,Cp⟩) (p:=p) (h:=(256 - n)) (Bs An d.size) (H.move d) g (aG.below d) aT (fun y cm cn=>by have:=a6 y cm cn;omega) (by omega)) ?_
    rintro _ dt ⟨d96,rfl,aA⟩
    refine⟨_,D,?_⟩
    intro a J
    have S:=S.below aA
    have B:=V B aA
    have C:=V C aA
    have g:=Q g aA
    have o:=Q o aA
    have u:=Q u aA
    have A:=Q A aA
    have d:=E5 d aA An
    refine cl _ _ ⟨g,o,d,u,A⟩ ?_;revert a
    by_cases bb:d96.l=sm.l
    ·
     refine EV 15 D D D D (fun W an a J=>by obtain⟨g,o,d,u,A⟩:=an;exact Mf J d96.h sm.h D D false (by rw[decide_eq_true bb];rfl)) ⟨g,o,d,u,A⟩<|Hh 16 D D D ⟨g,o,d,u,A⟩<|B_<|G<|BE D<|AE<|?_
     intro a J
     refine FD ?_
     refine Ec J D ?_
     exact⟨ak,ah,ab,ai,aI,ae,ad,af,aJ,al,aH,D,d1,⟨by omega,by dsimp only;omega⟩,⟨by omega,d4⟩,by omega,d6,d7,⟨ao,U,g,o,B,C,X,Y,aa⟩,L,P,S,d⟩
    ·
     refine EV 15 D D D D (fun W an a J=>by obtain⟨g,o,d,u,A⟩:=an;exact Mf J d96.h sm.h D D true (by rw[decide_eq_false bb];rfl)) ⟨g,o,d,u,A⟩<|Hh 16 D D D ⟨g,o,d,u,A⟩<|B_<|G<|BS D<|N<|I D<|I D<|AS Tryz.func96 D (Lc (p:=q) (y:=((171:Nat):Int)) (hcap:=by omega) (z:=⟨wd,ge,AD,Ab,Ak,Bp,AY,AV,Bv,As,Ay,qr,AR,AM,By,AG,AN,AO,AJ,Aq,AQ,ce,Cp⟩) (Bs An d.size) (aG.move d) (H.move d) (aD.move d) av aE aF ⟨ao,U,g,o,B,C,X,Y,aa⟩) ?_
     rintro _ cp ⟨bc,bd,rfl,⟨_,_,cq,cr,ct,cu,cv,cw,cx⟩,cy,cz,cA,cB⟩
     refine⟨_,D,?_⟩
     have S:=S.trans cA (IQ L P)
     have L:=L.trans cy d.size;have P:=P.trans cz d.size
     have d:=d.G3 cB
     have g:=cq;have o:=cr;have B:=ct;have C:=cu;have X:=cv;have Y:=cw;have aa:=cx
     have g:Ai cp sb [[E wd],[E ge],[E AD],[E Ab],[E Ak],[F Bp AV.length AY],[F Bv Ay.length As],[F qr AM.length AR],[F By AN.length AG],[F AO Aq.length AJ],[F bc (ab+1) bd],[F AQ 257 ce]] 66:=g
     have aw:=Eg B U;have ax:=Eg C U
     refine M<|?_
     intro a J
     refine FD ?_
     refine Ec J D ?_
     exact⟨ak,bc,ab+1,bd,aI++[⟨q,((171:Nat):Int)⟩],ae,ad,af,aJ,true,0,D,d1,⟨by omega,by dsimp only;omega⟩,⟨by omega,fun h=>rfl⟩,by omega,⟨by omega,fun _=>by omega⟩,(fun h=>by cases h),⟨ao,U,g,o,B,C,X,Y,aa⟩,L,P,S,d⟩
end Go.Proofs.YtcdaflcjhimimaaGreatDoor
namespace Go.Proofs.YtcdaflcjhimimaaGreatDoor
open Go.RowKit
variable {AN:List Nat} {p:Nat}
variable {X Y:Nat→Prop} {w W BT:World} {v BL u G2 v0 IU:Value} {b sb k n m:Nat}
section
variable {size c:Nat} {q:Option Addr} {xs:List Value} {s:B8}
structure ER (X:Nat→Prop) (w:World) (q:Option Addr) (n c size:Nat) (xs:List Value):Prop where
 v:View w (.slice q n c) n size xs
 ne:∀a,q=some a→¬X a.block
theorem ER.lt(h:ER X w q n c size xs):∀a,q=some a→a.block<w.heap.size:=(Dv.of h.v).lt
theorem ER.S(h:ER X w q n c size xs)(f:Bd X w W):View W (.slice q n c) n size xs:=by
 refine⟨h.v.1,?_⟩
 rcases h.v.2 with z|⟨b,off,cap,a,e,g,i,d,j⟩
 ·exact .inl z
 ·simp only[Value.slice.injEq]at a
  exact .inr ⟨b,off,cap,by simp[a],e,g,i,Nat.lt_of_lt_of_le d f.size,j.FR (f.block b d (h.ne _ a.1))⟩
theorem ER.next(h:ER X w q n c size xs)(f:Bd X w W)(d:∀k,k<w.heap.size→Y k→X k):ER Y W q n c size xs:=⟨h.S f,fun a b y=>h.ne a b (d _ (h.lt a b) y)⟩
theorem ER.Iy(h:ER X w q n c size xs)(d:X sb):CR w.heap.size sb w q n c size xs:=⟨h.v,fun a b=>⟨h.lt a b,fun e=>h.ne a b (by rw[e];exact d)⟩⟩
theorem ER.mono(h:ER X w q n c size xs)(d:∀k,k<w.heap.size→Y k→X k):ER Y w q n c size xs:=⟨h.v,fun a b y=>h.ne a b (d _ (h.lt a b) y)⟩
structure Gf (X:Nat→Prop) (w:World) (s:B8):Prop where
 ok:s.ok w
 ne:∀a,s.p=some a→¬X a.block
theorem Gf.ME(h:Gf X w s):ER X w s.p s.v.length s.c 1 (bv s.v):=⟨h.ok,h.ne⟩
theorem Gf.next(h:Gf X w s)(f:Bd X w W)(a:∀k,k<w.heap.size→Y k→X k):Gf Y W s:=⟨(h.ME.next f a).v,(h.ME.next f a).ne⟩
theorem Gf.Iy(h:Gf X w s)(a:X sb):G9 w.heap.size sb w s:=⟨h.ok,(h.ME.Iy a).lt⟩
theorem Gf.nil(X:Nat→Prop)(w:World):Gf X w DZ:=⟨DZ.isOk _,fun a b=>by cases b⟩
end
def DL(sb:Nat)(a b c d e:Value)(k:Nat):Prop:=k=sb∨a.ownBlock=some k∨b.ownBlock=some k∨c.ownBlock=some k∨d.ownBlock=some k∨e.ownBlock=some k
theorem GM{a b c d e f g c' i j:Value}(l:AtR n f a)(m:AtR n g b)(o:AtR n c' c)(p:AtR n i d)(r:AtR n j e):∀k,DL sb f g c' i j k→k<n→DL sb a b c d e k:=by
 rintro k (h|h|h|h|h|h) s
 ·exact .inl h
 ·exact(l k h).elim (fun q=>.inr (.inl q)) (fun q=>by omega)
 ·exact(m k h).elim (fun q=>.inr (.inr (.inl q))) (fun q=>by omega)
 ·exact(o k h).elim (fun q=>.inr (.inr (.inr (.inl q)))) (fun q=>by omega)
 ·exact(p k h).elim (fun q=>.inr (.inr (.inr (.inr (.inl q))))) (fun q=>by omega)
 ·exact(r k h).elim (fun q=>.inr (.inr (.inr (.inr (.inr q))))) (fun q=>by omega)
structure JN (B sb:Nat) (W:World) (wd ge AD Ab Ak:Nat) (AQ:Option Addr) (ce:Nat) (Z6:Option Addr) (ZQ AY:Nat) (AV:List Nat) (ZE:Option Addr) (Zz As:Nat) (Ay:List DD) (ZG:Option Addr) (ZL AR:Nat) (AM:List Ef) (ZN:Option Addr) (ZF AG:Nat) (AN:List Nat) (ZC:Option Addr) (Zy ZD:Nat) (ax:List Fd):Prop where
 Z2:B≤sb
 bk:W.heap[sb]? =some (.cells (flat [[.int .i64 ((wd:Nat):Int)],[.int .i64 ((ge:Nat):Int)],[.int .i64 ((AD:Nat):Int)],[.int .i64 ((Ab:Nat):Int)],[.int .i64 ((Ak:Nat):Int)],[.slice Z6 ZQ AY],[.slice ZE Zz As],[.slice ZG ZL AR],[.slice ZN ZF AG],[.slice none 0 0],[.slice ZC Zy ZD],[.slice AQ 257 ce]]) 66 (0,0))
 ZH:W.ownsRow B 3 1 (.slice Z6 ZQ AY) ZQ (Al Ct AV)
 bn:W.ownsRow B 127 102 (.slice ZE Zz As) Zz (Al Dd Ay)
 Zw:W.ownsRow B 131 38 (.slice ZG ZL AR) ZL (Al DY AM)
 Zv:W.ownsRow B 3 1 (.slice ZN ZF AG) ZF (Al Ct AN)
 bm:W.ownsRow B 173 2 (.slice ZC Zy ZD) Zy (Al Em ax)
 aC:∀k,(Value.slice Z6 ZQ AY).ownBlock=some k→k≠sb
 Z_:∀k,(Value.slice ZE Zz As).ownBlock=some k→k≠sb
 Z8:∀k,(Value.slice ZG ZL AR).ownBlock=some k→k≠sb
 Z3:∀k,(Value.slice ZN ZF AG).ownBlock=some k→k≠sb
 ZP:∀k,(Value.slice ZC Zy ZD).ownBlock=some k→k≠sb
 af:Ap (.slice Z6 ZQ AY) (.slice ZE Zz As)
 ag:Ap (.slice Z6 ZQ AY) (.slice ZG ZL AR)
 ak:Ap (.slice Z6 ZQ AY) (.slice ZN ZF AG)
 aD:Ap (.slice Z6 ZQ AY) (.slice ZC Zy ZD)
 al:Ap (.slice ZE Zz As) (.slice ZG ZL AR)
 au:Ap (.slice ZE Zz As) (.slice ZN ZF AG)
 aj:Ap (.slice ZE Zz As) (.slice ZC Zy ZD)
 aq:Ap (.slice ZG ZL AR) (.slice ZN ZF AG)
 ah:Ap (.slice ZG ZL AR) (.slice ZC Zy ZD)
 av:Ap (.slice ZN ZF AG) (.slice ZC Zy ZD)
structure Gg (X:Nat→Prop) (W:World) (Ay:List DD) (AM:List Ef) (AN:List Nat) (p:Nat):Prop where
 n:∀y∈Ay,Fl y
 s:∀y∈Ay,Gf X W y.s
 r:∀y∈AM,y.v<4294967296∧y.f<4294967296∧y.ZG<4294967296∧y.ZZ<4294967296∧y.r<4294967296∧y.c<4294967296
 a:∀y∈AN,y<p
theorem Gg.next{Ay:List DD}{AM:List Ef}{c:Nat}(h:Gg X w Ay AM AN p)(f:Bd X w W)(d:∀k,k<w.heap.size→Y k→X k)(e:p≤c):Gg Y W Ay AM AN c:=
 ⟨h.n,fun y b=>(h.s y b).next f d,h.r,fun y b=>Nat.lt_of_lt_of_le (h.a y b) e⟩
theorem Gg.add{Ay:List DD}{AM:List Ef}{x:DD}{r:Ef}(h:Gg X w Ay AM AN p)(b:Fl x)(d:Gf X w x.s)(e:r.v<4294967296∧r.f<4294967296∧r.ZG<4294967296∧r.ZZ<4294967296∧r.r<4294967296∧r.c<4294967296):Gg X w (Ay++[x]) (AM++[r]) AN p:=
 ⟨Gn h.n b,Gn h.s d,Gn h.r e,h.a⟩
theorem Gg.KI{Ay:List DD}{AM:List Ef}(h:Gg X w Ay AM AN p):Gg X w Ay AM (AN++[p]) (p+1):=
 ⟨h.n,h.s,h.r,Gn (fun y b=>Nat.lt_succ_of_lt (h.a y b)) (Nat.lt_succ_self _)⟩
theorem Gg.succ{Ay:List DD}{AM:List Ef}(h:Gg X w Ay AM AN p):Gg X w Ay AM AN (p+1):=⟨h.n,h.s,h.r,fun y b=>Nat.lt_succ_of_lt (h.a y b)⟩
theorem Fl.zero:Fl ⟨0,0,0,0,0,Bh,Bh,Bh,DZ⟩:=⟨fun _=>⟨D,D⟩,by dsimp only;omega,Nat.zero_le _⟩
theorem Tp(p:Nat)(q:Option Addr)(c:Nat)(l:List UInt8)(w:World)(b:CT w)(d:2≤p∧p<4096)(f:View w (.slice q 256 c) 256 1 (bv l))(g:l.length=256):
 Calls Tryz.prog 40 #[Value.int .i64 ((p:Nat):Int),Value.slice q 256 c] w fun e w'=>∃i x n:Nat,∃q c,∃L:List UInt8,e=.returned (.tuple #[.int .i64 ((i:Nat):Int),.slice q n c,.int .i64 ((x:Nat):Int)])∧n≤255∧w'.ownsRow w.heap.size 5 1 (.slice q n c) n (bv L)∧Below w.heap.size w w':=by
 refine(Ro p q c l w b d f g).mono fun e w' h=>?_
 rcases h with⟨⟨k,m,c',x,rfl,rfl,rfl,_,j⟩,a⟩|⟨⟨x,rfl,_,_⟩,a⟩
 ·exact⟨_,_,_,_,_,_,D,by have:=(l.getD 1 0).toNat_lt;omega,j,a⟩
 ·exact⟨0,x,0,none,0,[],D,by decide,World.ownsRow_nil _ _ _ _,a⟩
end Go.Proofs.YtcdaflcjhimimaaGreatDoor
