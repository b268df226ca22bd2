/- Laws and walks on the road to SalvageNever and SalvageHeals (part M19). No conditions beyond each law's own. -/
import Derived.Test.YtcdaflcjhimimaaGreatDoorM01
import Derived.Test.YtcdaflcjhimimaaGreatDoorM18
import Derived.Test.YtcdaflcjhimimaaGreatDoorM04
import Derived.Test.YtcdaflcjhimimaaGreatDoorM07
import Derived.Test.YtcdaflcjhimimaaGreatDoorM05
import Derived.Test.YtcdaflcjhimimaaGreatDoorM14
import Derived.Test.YtcdaflcjhimimaaGreatDoorM17
set_option linter.unusedVariables false
namespace Go.Proofs.YtcdaflcjhimimaaGreatDoor
open Go.RowKit
set_option maxRecDepth 100000
set_option maxHeartbeats 1000000
theorem Iw{Aj sb:Nat}{Hx Ho:List Value}{c:Option Addr}{b d:Nat}{EF:List Fd}{p:Nat}{y:Int}{w:World}(C:Row 10 Hx)(G:Row 1 Ho)(An:Aj≤w.heap.size)(hcap:b≤100000)(f:Ai w sb [Hx,[F c b d],Ho] 66)(o:w.ownsRow Aj 173 2 (F c b d) b (Al Em EF))(s:Z (F c b d) sb):
 Calls Tryz.prog 57 #[AB sb,E p,Value.int .i64 (y:Int)] w fun e w'=>∃g h,e=.returned (.tuple #[])∧Ai w' sb [Hx,[F g (b+1) h],Ho] 66∧w'.ownsRow Aj 173 2 (.slice g (b+1) h) (b+1) (Al Em (EF++[⟨p,y⟩]))∧Z (F g (b+1) h) sb∧AtR w.heap.size (.slice g (b+1) h) (.slice c b d)∧Bd (fun k=>k=sb∨(F c b d).ownBlock=some k) w w':=by
 have i:AtR w.heap.size (F c b d) (F c b d):=AtR.refl _ _
 have S:Bd (fun k=>k=sb∨(F c b d).ownBlock=some k) w w:=Bd.refl _ _
 have j:Cd Aj sb w w:=Cd.refl _ _ _
 refine Bx IJ D 18 ?_
 refine N<|I D<|I D<|Bt D<|Am Cc 10 D<|AK Jo 1 f D D<|I D<|I D<|AT (fun _ l=>CE l (Bf:=[(0,(E p)),(1,(Value.int .i64 (y:Int)))]) D (v:=Value.agg (flat [[E p],[Value.int .i64 (y:Int)]])) (run_build _ _ _ _ (by kernel_rfl)))<|E8 QF [[E p],[Value.int .i64 (y:Int)]] ?_
 intro H x v2 m
 have S:=S.below m
 have f:=Q f m
 have o:=V o m
 have j:=E5 j m An
 intro J z
 refine Bj D (fun Aa A=>BK z QF o v2 C8 (Bs An j.size) (b+1) (CC EF (⟨p,y⟩:Fd) D (TK _)) ?_)
 intro a K L O l r n
 have t:=A9 n s (Ar f)
 have S:=S.DB n i (fun _ q=>Or.inr q)
 have f:=A' f n s
 have i:=i.C9 n j.size
 refine A _ _ ?_;revert a
 refine Bt D<|Am Cc 10 D<|C_ 1 f D D ?_
 intro P x B u
 have S:=S.B1 u
 have r:=Ax r u t
 refine M<|?_
 intro a l
 refine FD ?_
 refine Ec l D ?_
 exact⟨_,_,D,B,r,t,i,S⟩
theorem Lc{Aj b sb:Nat}{z:EC}{fresh next:Nat}{CU:Option Addr}{B4:Nat}{Bz:List Co}{A:Option Addr}{g B:Nat}{EF:List Fd}{i:Option Addr}{j l:Nat}{Ey:List Co}{Fj:Bool}{p:Nat}{y:Int}{w:World}(hcap:g≤100000)(An:Aj≤w.heap.size)(av:Hi Aj sb w)(d:GH Aj sb w z)(aw:CR Aj sb w CU Bz.length B4 66 (Al CA Bz))(ax:∀x∈Bz,x.p<z.AD)(ay:Bz.length≤100000000)(az:2≤z.AD)(ad:Jq Aj b sb w z fresh next CU B4 Bz A g B EF i j l Ey Fj):
 Calls Tryz.prog 96 #[AB b,E p,Value.int .i64 (y:Int)] w fun e w'=>∃U V,e=.returned (.tuple #[])∧Jq Aj b sb w' z fresh next CU B4 Bz U (g+1) V (EF++[⟨p,y⟩]) i j l Ey true∧AtR w.heap.size (.slice U (g+1) V) (.slice A g B)∧AtR w.heap.size (.slice i j l) (.slice i j l)∧Bd (F2 b sb (.slice A g B) (.slice i j l)) w w'∧Cd Aj sb w w':=by
 obtain⟨wd,ge,AD,Ab,Ak,Bp,AY,AV,Bv,As,Ay,qr,AR,AM,By,AG,AN,AO,AJ,Aq,AQ,ce,Cp⟩:=z
 have aA:Cp.length=257:=d.el
 have aB:AV.length=AD:=d.ar
 have aD:Ay.length=AD:=d.nl
 have aE:AM.length=AD:=d.aG
 have aG:∀p∈AN,p<AD:=d.E9
 have aH:AD≤4096:=d.m
 have aI:∀y∈Ay,Fl y:=d.ZL
 have aK:∀y∈AM,y.v<4294967296∧y.f<4294967296∧y.ZG<4294967296∧y.ZZ<4294967296∧y.r<4294967296∧y.c<4294967296:=d.ZK
 obtain⟨ae,R,C,L,H,J,W,X,Y⟩:=ad
 have C:Ai w sb [[E wd],[E ge],[E AD],[E Ab],[E Ak],[F Bp AV.length AY],[F Bv Ay.length As],[F qr AM.length AR],[F By AN.length AG],[F AO Aq.length AJ],[F A g B],[F AQ 257 ce]] 66:=C
 have aO:CR Aj sb w Bp AV.length AY 1 (Al Ct AV):=d.k
 have aP:CR Aj sb w Bv Ay.length As 102 (Al Dd Ay):=d.n
 have aQ:CR Aj sb w qr AM.length AR 38 (Al DY AM):=d.r
 have aR:CR Aj sb w By AN.length AG 1 (Al Ct AN):=d.a
 have aS:CR Aj sb w AO Aq.length AJ 1 (Al EP Aq):=d.t
 have aT:CR Aj sb w AQ 257 ce 32 (Al Ex Cp):=d.e
 have aU:∀x∈Ay,G9 Aj sb w x.s:=d.ZM
 have Z:=Eg H R
 have af:=Eg J R
 have aW:=An
 have P:AtR w.heap.size (F A g B) (F A g B):=AtR.refl _ _
 have ag:AtR w.heap.size (F i j l) (F i j l):=AtR.refl _ _
 have S:Bd (F2 b sb (F A g B) (F i j l)) w w:=Bd.refl _ _
 have o:Cd Aj sb w w:=Cd.refl _ _ _
 refine Bx Lh D 16 ?_
 refine K<|N<|I D<|Bt D<|Am CP 0 D<|AK GS 0 L D D<|I D<|I D<|AS IJ D (Iw (p:=p) (y:=(y:Int)) (Hx:=[E wd,E ge,E AD,E Ab,E Ak,F Bp AV.length AY,F Bv Ay.length As,F qr AM.length AR,F By AN.length AG,F AO Aq.length AJ]) (Ho:=[F AQ 257 ce]) ⟨D,Gc (ss:=[[E wd],[E ge],[E AD],[E Ab],[E Ak],[F Bp AV.length AY],[F Bv Ay.length As],[F qr AM.length AR],[F By AN.length AG],[F AO Aq.length AJ]]) (Jc.one D (Jc.one D (Jc.one D (Jc.one D (Jc.one D (Jc.one D (Jc.one D (Jc.one D (Jc.one D (Jc.one D Jc.nil))))))))))⟩ ⟨D,Gc (ss:=[[F AQ 257 ce]]) (Jc.one D Jc.nil)⟩ (Bs An o.size) (by omega) C H Z) ?_
 rintro _ aa ⟨ah,ai,rfl,aj,ak,al,T,Q⟩
 refine⟨_,D,?_⟩
 have an:Cd Aj sb w aa:=Q.JF (Bs An o.size) (fun k u=>u.elim (fun q=>.inr q) (fun q=>.inl (H.lt k q).1))
 have ab:=Cq W T (Ar L)
 have L:=Q.Ag L (by rintro(h|h);exact absurd h (by omega);exact W _ h D)
 have ao:=Y.at T (fun k u=>(J.lt k u).2)
 have J:=FA J Q (fun k u h=>h.elim (fun q=>af k u q) (fun q=>Y k q u))
 have S:=S.trans Q (fun k u aq=>u.elim (fun q=>.inl q) (fun q=>(P k q).elim (fun q=>.inr (.inr (.inl q))) (fun q=>absurd aq (by omega))))
 have P:=P.trans T o.size
 have o:=o.G3 an
 have C:Ai aa sb [[E wd],[E ge],[E AD],[E Ab],[E Ak],[F Bp AV.length AY],[F Bv Ay.length As],[F qr AM.length AR],[F By AN.length AG],[F AO Aq.length AJ],[F ah (g+1) ai],[F AQ 257 ce]] 66:=aj;have H:=ak;have Z:=al
 refine M<|G<|N<|I D<|Bt D<|Am CP 5 D<|C_ 5 L D D ?_
 intro aX d ar O
 have S:=S.B1 O
 have C:=Ag O C (by omega)
 have H:=Ax H O ab
 have J:=Ax J O X
 have o:=H2 o O An
 refine M<|?_
 intro a au
 refine FD ?_
 refine Ec au D ?_
 exact⟨_,_,D,⟨ae,R,C,ar,H,J,ab,X,ao⟩,P,ag,S,o⟩
theorem Vg{Aj b sb:Nat}{z:EC}{fresh next:Nat}{CU:Option Addr}{B4:Nat}{Bz:List Co}{U:Option Addr}{P X:Nat}{EF:List Fd}{an:Option Addr}{ae ao:Nat}{Ey:List Co}{Fj:Bool}{p:Nat}{k:Jd}{n:Nat}{w:World}(An:Aj≤w.heap.size)(bW:Hi Aj sb w)(ad:GH Aj sb w z)(a5:CR Aj sb w CU Bz.length B4 66 (Al CA Bz))(a6:∀x∈Bz,x.p<z.AD)(bX:Bz.length≤100000000)(bY:2≤z.AD)(aY:∀x∈Ey,x.p<z.AD)(a7:p<z.AD)(hn:n≤256)(hcap:ae≤1000000000)(bZ:P≤100000)(a8:Jq Aj b sb w z fresh next CU B4 Bz U P X EF an ae ao Ey Fj):
 Calls Tryz.prog 98 #[AB b,E p,Value.agg (flat [bv k.l]),E n] w fun e w'=>∃a9 aZ a_ a',e=.returned (.tuple #[])∧(∀x∈a',x.p<z.AD)∧aZ≤ae+Gk Bz k n+1∧Jq Aj b sb w' z fresh next CU B4 Bz U P X EF a9 aZ a_ a' Fj∧AtR w.heap.size (.slice U P X) (.slice U P X)∧AtR w.heap.size (.slice a9 aZ a_) (.slice an ae ao)∧Bd (F2 b sb (.slice U P X) (.slice an ae ao)) w w'∧Cd Aj sb w w':=by
 have b0:=DF D3 (by decide) a8.ZA
 obtain⟨wd,ge,AD,Ab,Ak,Bp,AY,AV,Bv,As,Ay,qr,AR,AM,By,AG,AN,AO,AJ,Aq,AQ,ce,Cp⟩:=z
 have b1:Cp.length=257:=ad.el
 have b2:AV.length=AD:=ad.ar
 have b4:Ay.length=AD:=ad.nl
 have b5:AM.length=AD:=ad.aG
 have b7:∀p∈AN,p<AD:=ad.E9
 have b8:AD≤4096:=ad.m
 have b9:∀y∈Ay,Fl y:=ad.ZL
 have b':∀y∈AM,y.v<4294967296∧y.f<4294967296∧y.ZG<4294967296∧y.ZZ<4294967296∧y.r<4294967296∧y.c<4294967296:=ad.ZK
 obtain⟨ba,aU,g,C,B,R,ah,ai,aj⟩:=a8
 have g:Ai w sb [[E wd],[E ge],[E AD],[E Ab],[E Ak],[F Bp AV.length AY],[F Bv Ay.length As],[F qr AM.length AR],[F By AN.length AG],[F AO Aq.length AJ],[F U P X],[F AQ 257 ce]] 66:=g
 have bb:CR Aj sb w Bp AV.length AY 1 (Al Ct AV):=ad.k
 have cd:CR Aj sb w Bv Ay.length As 102 (Al Dd Ay):=ad.n
 have cf:CR Aj sb w qr AM.length AR 38 (Al DY AM):=ad.r
 have cg:CR Aj sb w By AN.length AG 1 (Al Ct AN):=ad.a
 have ch:CR Aj sb w AO Aq.length AJ 1 (Al EP Aq):=ad.t
 have cj:CR Aj sb w AQ 257 ce 32 (Al Ex Cp):=ad.e
 have ck:∀x∈Ay,G9 Aj sb w x.s:=ad.ZM
 have ay:=Eg B aU
 have ak:=Eg R aU
 have cm:=An
 have ar:AtR w.heap.size (F U P X) (F U P X):=AtR.refl _ _
 have af:AtR w.heap.size (F an ae ao) (F an ae ao):=AtR.refl _ _
 have S:Bd (F2 b sb (F U P X) (F an ae ao)) w w:=Bd.refl _ _
 have d:Cd Aj sb w w:=Cd.refl _ _ _
 dsimp only at a7 a6 aY
 refine Bx Q8 D 72 ?_
 refine K<|N<|CW D ?_
 intro aq cn ax ad u A
 have cp:=F0 d ax
 have cq:=AP g ax
 have cr:=AP C ax
 have az:=BM B ax
 have al:=BM R ax
 have S:=S.below A
 have g:=Q g A
 have C:=Q C A
 have B:=V B A
 have R:=V R A
 have d:=E5 d A An
 refine M<|G<|K<|K<|N<|I D<|Bt D<|Am CP 0 D<|AK GS 0 C D D<|Bt D<|Am Cc 5 D<|AK Eo 5 g D D<|I D<|?_
 obtain⟨aR,aJ,rfl⟩:=Ca (bb.below d)
 obtain⟨bk,bl⟩:=getD_some (L:=AV) (j:=p) D (by omega)
 have bm:=BJ En (bb.below d) bl (o:=aJ+p*1)
 refine Cn DK p (aJ+p*1) D D<|Cg AH (Dh [] (E bk) [] bm D) D<|Dk (q:=(1:Nat)) D D<|M<|G<|Bl D (fun bn=>?_) fun bn=>?_
 ·
  refine K<|?_
  intro a H
  refine FX (fun a W=>∃aE aF,Ao 72 a (Ja (Ja (Ja Je 0 (AB b)) 3 (E n)) 6 (AB aq))∧Ai W sb [[E wd],[E ge],[E AD],[E Ab],[E Ak],[F (some ⟨aR,aJ,none⟩) AV.length AY],[F Bv Ay.length As],[F qr AM.length AR],[F By AN.length AG],[F AO Aq.length AJ],[F U P X],[F AQ 257 ce]] 66∧Cd Aj sb w W∧W.ownsRow Aj 173 2 (.slice U P X) P (Al Em EF)∧Z (F U P X) b∧Z (F U P X) sb∧AtR w.heap.size (F U P X) (F U P X)∧Z (F aE (ae+1) aF) b∧Z (F aE (ae+1) aF) sb∧AtR w.heap.size (F aE (ae+1) aF) (F an ae ao)∧Ap (F U P X) (F aE (ae+1) aF)∧Bd (F2 b sb (F U P X) (F an ae ao)) w W∧Ai W aq [bv k.l] 51∧Z (F U P X) aq∧Z (F aE (ae+1) aF) aq∧W.ownsRow Aj 190 66 (.slice aE (ae+1) aF) (ae+1) (Al CA (Ey++[(⟨n,p,k,Bh⟩:Co)]))∧Ai W b [[AB sb],[E fresh],[E next],[F CU Bz.length B4],[F aE (ae+1) aF],[Br Fj]] 148) ?_ ?_
  ·
   refine C7 (fun W=>Ai W sb [[E wd],[E ge],[E AD],[E Ab],[E Ak],[F (some ⟨aR,aJ,none⟩) AV.length AY],[F Bv Ay.length As],[F qr AM.length AR],[F By AN.length AG],[F AO Aq.length AJ],[F U P X],[F AQ 257 ce]] 66∧Cd Aj sb w W∧Ai W aq [bv k.l] 51) ?_
   intro ct ad A
   have S:=S.below A
   have g:=Q g A
   have C:=Q C A
   have B:=V B A
   have R:=V R A
   have u:=Q u A
   have d:=E5 d A An
   revert a
   refine Bk 0 D D ⟨g,d,u⟩<|Bk 1 D D ⟨g,d,u⟩<|CF 2 D D ⟨g,d,u⟩<|BW 3 D CP 4 D ⟨g,d,u⟩<|Bk 5 D D ⟨g,d,u⟩<|Bk 6 D D ⟨g,d,u⟩<|A5 7 D (fun W aS a H=>by obtain⟨g,d,u⟩:=aS;exact EO H D Ce D [] [bv k.l] [] u D (Cf 32)) ⟨g,d,u⟩<|A5 8 D (fun W aS a H=>by obtain⟨g,d,u⟩:=aS;exact GG H (Bf:=[(0,(E n)),(1,(E p)),(2,(Value.agg (flat [bv k.l])))]) D (r:=flat [[E n],[E p],bv k.l,Av 32]) (GI DE (ss:=[[E 0],[E 0],Av 32,Av 32]) (by kernel_rfl) (places:=[(0,1),(1,1),(2,32),(34,32)]) (by kernel_rfl) (C2 [] [[E 0]] [[E 0],Av 32,Av 32] [[E n]] D Jb.nil (Jb.one Jb.nil) (Jb.one Jb.nil) D (C2 [[E n]] [[E 0]] [Av 32,Av 32] [[E p]] D (Jb.one Jb.nil) (Jb.one Jb.nil) (Jb.one Jb.nil) D (C2 [[E n],[E p]] [Av 32] [Av 32] [bv k.l] D (Jb.one (Jb.one Jb.nil)) (Jb.row (Jg 32) Jb.nil) (Jb.row k.row Jb.nil) D D))))) ⟨g,d,u⟩<|?_
   intro au Y
   refine EW 4 9 5 D D D D ?_ ?_
   ·
    intro Aa aa
    refine DI Y D (Cl Y D Ds D [[AB sb],[E fresh],[E next],[F CU Bz.length B4]] (F an ae ao) [[Br Fj]] C D) ?_
    intro a H
    refine aa _ _ ⟨g,d,u⟩ ?_;revert a
    intro au Y
    refine A8 9 4 D D ?_
    intro Aa aa
    refine EK Y DW [[E n],[E p],bv k.l,Av 32] ?_
    intro a cu H ad bo A
    have S:=S.below A
    have g:=Q g A
    have C:=Q C A
    have B:=V B A
    have R:=V R A
    have u:=Q u A
    have d:=E5 d A An
    refine aa _ _ ⟨g,d,u⟩ ?_;revert a
    intro au Y
    refine A8 10 3 D D ?_
    intro Aa aa
    refine BK Y DW R bo C8 (Bs An d.size) (ae+1) (CC Ey (⟨n,p,k,Bh⟩:Co) D (D3 _)) ?_
    intro a aE aF cv H a0 aA
    have bp:=aj.Df aA (fun k aK=>(B.lt k aK).2)
    have bc:=A9 aA ai (Ar C)
    have bq:=A9 aA ak (Ar g)
    have br:=A9 aA al (Ar u)
    have S:=S.DB aA af (fun _ q=>Or.inr (Or.inr (Or.inr q)))
    have g:=A' g aA ak
    have C:=A' C aA ai
    have B:=Bm B aA aj
    have u:=A' u aA al
    have af:=af.C9 aA d.size
    have d:=Kv d aA R An
    refine aa _ _ ⟨g,d,u⟩ ?_;revert a
    refine CF 11 D D ⟨g,d,u⟩<|BW 12 D CP 4 D ⟨g,d,u⟩<|?_
    intro au Y
    refine A8 13 0 D D ?_
    intro Aa aa
    refine DM Y 4 C D D ?_
    intro a cw H ad bs aO
    have S:=S.B1 aO
    have g:=Ag aO g (by omega)
    have B:=Ax B aO ah
    have u:=Ag aO u (by omega)
    have a0:=Ax a0 aO bc
    have d:=H2 d aO An
    refine aa _ _ ⟨g,d,u⟩ ?_;revert a
    refine B_<|G<|?_
    intro a H
    exact⟨aE,aF,At H,g,d,B,ah,ay,ar,bc,bq,af,bp,S,u,az,br,a0,bs⟩
   ·
    intro Aa aa
    refine EK Y DW [[E n],[E p],bv k.l,Av 32] ?_
    intro a cx H ad v20 A
    have S:=S.below A
    have g:=Q g A
    have C:=Q C A
    have B:=V B A
    have R:=V R A
    have u:=Q u A
    have d:=E5 d A An
    refine aa _ _ ⟨g,d,u⟩ ?_;revert a
    intro au Y
    refine A8 4 4 D D ?_
    intro Aa aa
    refine DI Y D (Cl Y D Ds D [[AB sb],[E fresh],[E next],[F CU Bz.length B4]] (F an ae ao) [[Br Fj]] C D) ?_
    intro a H
    refine aa _ _ ⟨g,d,u⟩ ?_;revert a
    intro au Y
    refine A8 10 3 D D ?_
    intro Aa aa
    refine BK Y DW R v20 C8 (Bs An d.size) (ae+1) (CC Ey (⟨n,p,k,Bh⟩:Co) D (D3 _)) ?_
    intro a bt bu cy H a1 aB
    have bw:=aj.Df aB (fun k aK=>(B.lt k aK).2)
    have bd:=A9 aB ai (Ar C)
    have bx:=A9 aB ak (Ar g)
    have bz:=A9 aB al (Ar u)
    have S:=S.DB aB af (fun _ q=>Or.inr (Or.inr (Or.inr q)))
    have g:=A' g aB ak
    have C:=A' C aB ai
    have B:=Bm B aB aj
    have u:=A' u aB al
    have af:=af.C9 aB d.size
    have d:=Kv d aB R An
    refine aa _ _ ⟨g,d,u⟩ ?_;revert a
    refine CF 11 D D ⟨g,d,u⟩<|BW 12 D CP 4 D ⟨g,d,u⟩<|?_
    intro au Y
    refine A8 13 0 D D ?_
    intro Aa aa
    refine DM Y 4 C D D ?_
    intro a cz H ad bA aP
    have S:=S.B1 aP
    have g:=Ag aP g (by omega)
    have B:=Ax B aP ah
    have u:=Ag aP u (by omega)
    have a1:=Ax a1 aP bd
    have d:=H2 d aP An
    refine aa _ _ ⟨g,d,u⟩ ?_;revert a
    refine B_<|G<|?_
    intro a H
    exact⟨bt,bu,At H,g,d,B,ah,ay,ar,bd,bx,af,bw,S,u,az,bz,a1,bA⟩
  ·
   rintro a cA ⟨aE,aF,H,g,d,B,ah,ay,ar,ai,ak,af,aj,S,u,az,al,R,C⟩
   revert a
   refine G<|AA<|AX<|?_
   intro a H
   refine Ec H D ?_
   exact⟨_,_,_,_,D,Gn aY a7,by omega,⟨ba,aU,g,C,B,R,ah,ai,aj⟩,ar,af,S,d⟩
 ·
  refine AE<|G<|K<|N<|O (v:=(E 0)) D<|M<|G<|A2<|?_
  intro a H
  refine Cb (fun bB a W=>∃i aG aH ag,bB=Bz.length - i∧Ao 72 a (Ja (Ja (Ja (Ja Je 0 (AB b)) 3 (E n)) 6 (AB aq)) 8 (E i))∧i≤Bz.length∧ag≤ae+i∧W.ownsRow Aj 190 66 (.slice aG ag aH) ag (Al CA (Ey++ET (Bz.take i) k n))∧Ai W sb [[E wd],[E ge],[E AD],[E Ab],[E Ak],[F (some ⟨aR,aJ,none⟩) AV.length AY],[F Bv Ay.length As],[F qr AM.length AR],[F By AN.length AG],[F AO Aq.length AJ],[F U P X],[F AQ 257 ce]] 66∧Ai W b [[AB sb],[E fresh],[E next],[F CU Bz.length B4],[F aG ag aH],[Br Fj]] 148∧Cd Aj sb w W∧W.ownsRow Aj 173 2 (.slice U P X) P (Al Em EF)∧Z (F U P X) b∧Z (F U P X) sb∧AtR w.heap.size (F U P X) (F U P X)∧Z (F aG ag aH) b∧Z (F aG ag aH) sb∧AtR w.heap.size (F aG ag aH) (F an ae ao)∧Ap (F U P X) (F aG ag aH)∧Bd (F2 b sb (F U P X) (F an ae ao)) w W∧Ai W aq [bv k.l] 51∧Z (F U P X) aq∧Z (F aG ag aH) aq) _ ⟨0,_,_,_,D,At H,by omega,by omega,by simpa[ET]using R,g,C,d,B,T ah,T ay,ar,T ai,T ak,af,AI aj,S,u,T az,T al⟩ ?_
  rintro _ a cB ⟨i,aG,aH,ag,rfl,H,cC,cD,R,g,C,d,B,ah,ay,ar,ai,ak,af,aj,S,u,az,al⟩
  revert a
  refine K<|K<|N<|I D<|I D<|Bt D<|Am CP 3 D<|AK Ds 3 C D D<|BY Ds D<|B5 D D<|M<|G<|Bl D (fun bC=>?_) fun bC=>?_
  ·
   refine AE<|G<|K<|A2<|K<|N<|I D<|Bt D<|Am CP 3 D<|AK Ds 3 C D D<|I D<|?_
   obtain⟨a2,aT,rfl⟩:=Ca (a5.below d)
   obtain⟨ab,aV⟩:=getD_some (L:=Bz) (j:=i) D (by omega)
   have bD:=BJ D3 (a5.below d) aV (o:=aT+i*66)
   refine Cn DW i (aT+i*66) D D<|D9 DE 0 4 [[E ab.b],[E ab.p],bv ab.k.l,bv ab.s.l] bD D<|BQ [[E 0],[E 0],Av 32,Av 32] ?_
   intro aW cE ax ad J A
   have cF:=F0 d ax
   have aQ:=BM R ax
   have cG:=AP g ax
   have cH:=AP C ax
   have aX:=BM B ax
   have cI:=AP u ax
   have S:=S.below A
   have R:=V R A
   have g:=Q g A
   have C:=Q C A
   have B:=V B A
   have u:=Q u A
   have d:=E5 d A An
   refine Bi 0 4 J D D ?_
   intro cJ ad bE aL
   have S:=S.B1 aL
   have R:=Ax R aL aQ
   have g:=Ag aL g (by omega)
   have C:=Ag aL C (by omega)
   have B:=Ax B aL aX
   have u:=Ag aL u (by omega)
   have d:=H2 d aL An
   have J:=bE
   refine M<|G<|K<|N<|Am DE 0 D<|AK AH 0 J D D<|I D<|?_
   by_cases bf:((n:Nat):Int)≤((ab.b:Nat):Int)
   ·
    refine Gy bf D D<|I D<|Ad D D D<|Am DE 2 D<|Ad D D D<|Eu Ce 2 1 [bv ab.k.l] J D<|Ad D D D<|BP Ce u D<|Ad D D D<|AS Jl D (JW ab.k k _) ?_
    rintro _ cK ⟨rfl,aI⟩
    refine⟨_,D,?_⟩
    have S:=S.below aI
    have R:=V R aI
    have g:=Q g aI
    have C:=Q C aI
    have B:=V B aI
    have u:=Q u aI
    have J:=Q J aI
    have d:=E5 d aI An
    refine Ad D D D<|I D<|?_
    by_cases bg:((n:Nat):Int)≤((Da ab.k.l k.l:Nat):Int)
    ·
     refine Ad D D D<|Gy bg D D<|Bn D D<|M<|G<|BS D<|?_
     intro a H
     refine FX (fun a W=>∃aC aD,Ao 72 a (Ja (Ja (Ja (Ja Je 0 (AB b)) 3 (E n)) 6 (AB aq)) 8 (E i))∧Ai W sb [[E wd],[E ge],[E AD],[E Ab],[E Ak],[F (some ⟨aR,aJ,none⟩) AV.length AY],[F Bv Ay.length As],[F qr AM.length AR],[F By AN.length AG],[F AO Aq.length AJ],[F U P X],[F AQ 257 ce]] 66∧Cd Aj sb w W∧W.ownsRow Aj 173 2 (.slice U P X) P (Al Em EF)∧Z (F U P X) b∧Z (F U P X) sb∧AtR w.heap.size (F U P X) (F U P X)∧Z (F aC (ag+1) aD) b∧Z (F aC (ag+1) aD) sb∧AtR w.heap.size (F aC (ag+1) aD) (F an ae ao)∧Ap (F U P X) (F aC (ag+1) aD)∧Bd (F2 b sb (F U P X) (F an ae ao)) w W∧Ai W aq [bv k.l] 51∧Z (F U P X) aq∧Z (F aC (ag+1) aD) aq∧Z (F aC (ag+1) aD) aW∧Z (F U P X) aW∧Ai W aW [[E ab.b],[E ab.p],bv ab.k.l,bv ab.s.l] 190∧W.ownsRow Aj 190 66 (.slice aC (ag+1) aD) (ag+1) (Al CA (Ey++ET (Bz.take i) k n++[ab]))∧Ai W b [[AB sb],[E fresh],[E next],[F (some ⟨a2,aT,none⟩) Bz.length B4],[F aC (ag+1) aD],[Br Fj]] 148) ?_ ?_
     ·
      refine C7 (fun W=>Ai W sb [[E wd],[E ge],[E AD],[E Ab],[E Ak],[F (some ⟨aR,aJ,none⟩) AV.length AY],[F Bv Ay.length As],[F qr AM.length AR],[F By AN.length AG],[F AO Aq.length AJ],[F U P X],[F AQ 257 ce]] 66∧Cd Aj sb w W∧Ai W aq [bv k.l] 51∧Ai W aW [[E ab.b],[E ab.p],bv ab.k.l,bv ab.s.l] 190) ?_
      intro cL ad A
      have S:=S.below A
      have R:=V R A
      have g:=Q g A
      have C:=Q C A
      have B:=V B A
      have u:=Q u A
      have J:=Q J A
      have d:=E5 d A An
      revert a
      refine Bk 0 D D ⟨g,d,u,J⟩<|Bk 1 D D ⟨g,d,u,J⟩<|CF 2 D D ⟨g,d,u,J⟩<|BW 3 D CP 4 D ⟨g,d,u,J⟩<|A5 5 D (fun W aS a H=>by obtain⟨g,d,u,J⟩:=aS;exact EO H D DE D [] [[E ab.b],[E ab.p],bv ab.k.l,bv ab.s.l] [] J D (Cf 66)) ⟨g,d,u,J⟩<|?_
      intro au Y
      refine EW 4 6 5 D D D D ?_ ?_
      ·
       intro Aa aa
       refine DI Y D (Cl Y D Ds D [[AB sb],[E fresh],[E next],[F (some ⟨a2,aT,none⟩) Bz.length B4]] (F aG ag aH) [[Br Fj]] C D) ?_
       intro a H
       refine aa _ _ ⟨g,d,u,J⟩ ?_;revert a
       intro au Y
       refine A8 6 4 D D ?_
       intro Aa aa
       refine EK Y DW [[E ab.b],[E ab.p],bv ab.k.l,bv ab.s.l] ?_
       intro a cM H ad bF A
       have S:=S.below A
       have R:=V R A
       have g:=Q g A
       have C:=Q C A
       have B:=V B A
       have u:=Q u A
       have J:=Q J A
       have d:=E5 d A An
       refine aa _ _ ⟨g,d,u,J⟩ ?_;revert a
       intro au Y
       refine A8 7 3 D D ?_
       intro Aa aa
       refine BK Y DW R bF C8 (Bs An d.size) (ag+1) (CC (Ey++ET (Bz.take i) k n) ab D (D3 _)) ?_
       intro a aC aD cN H a3 av
       have bG:=aj.Df av (fun k aK=>(B.lt k aK).2)
       have bh:=A9 av ai (Ar C)
       have bH:=A9 av ak (Ar g)
       have bI:=A9 av al (Ar u)
       have bJ:=A9 av aQ (Ar J)
       have S:=S.DB av af (fun _ q=>Or.inr (Or.inr (Or.inr q)))
       have g:=A' g av ak
       have C:=A' C av ai
       have B:=Bm B av aj
       have u:=A' u av al
       have J:=A' J av aQ
       have af:=af.C9 av d.size
       have d:=Kv d av R An
       refine aa _ _ ⟨g,d,u,J⟩ ?_;revert a
       refine CF 8 D D ⟨g,d,u,J⟩<|BW 9 D CP 4 D ⟨g,d,u,J⟩<|?_
       intro au Y
       refine A8 10 0 D D ?_
       intro Aa aa
       refine DM Y 4 C D D ?_
       intro a cO H ad bK aM
       have S:=S.B1 aM
       have g:=Ag aM g (by omega)
       have B:=Ax B aM ah
       have u:=Ag aM u (by omega)
       have J:=Ag aM J (by omega)
       have a3:=Ax a3 aM bh
       have d:=H2 d aM An
       refine aa _ _ ⟨g,d,u,J⟩ ?_;revert a
       refine B_<|G<|?_
       intro a H
       exact⟨aC,aD,At H,g,d,B,ah,ay,ar,bh,bH,af,bG,S,u,az,bI,bJ,aX,J,a3,bK⟩
      ·
       intro Aa aa
       refine EK Y DW [[E ab.b],[E ab.p],bv ab.k.l,bv ab.s.l] ?_
       intro a cP H ad bL A
       have S:=S.below A
       have R:=V R A
       have g:=Q g A
       have C:=Q C A
       have B:=V B A
       have u:=Q u A
       have J:=Q J A
       have d:=E5 d A An
       refine aa _ _ ⟨g,d,u,J⟩ ?_;revert a
       intro au Y
       refine A8 4 4 D D ?_
       intro Aa aa
       refine DI Y D (Cl Y D Ds D [[AB sb],[E fresh],[E next],[F (some ⟨a2,aT,none⟩) Bz.length B4]] (F aG ag aH) [[Br Fj]] C D) ?_
       intro a H
       refine aa _ _ ⟨g,d,u,J⟩ ?_;revert a
       intro au Y
       refine A8 7 3 D D ?_
       intro Aa aa
       refine BK Y DW R bL C8 (Bs An d.size) (ag+1) (CC (Ey++ET (Bz.take i) k n) ab D (D3 _)) ?_
       intro a bM bN cQ H a4 aw
       have bO:=aj.Df aw (fun k aK=>(B.lt k aK).2)
       have bj:=A9 aw ai (Ar C)
       have bP:=A9 aw ak (Ar g)
       have bQ:=A9 aw al (Ar u)
       have bR:=A9 aw aQ (Ar J)
       have S:=S.DB aw af (fun _ q=>Or.inr (Or.inr (Or.inr q)))
       have g:=A' g aw ak
       have C:=A' C aw ai
       have B:=Bm B aw aj
       have u:=A' u aw al
       have J:=A' J aw aQ
       have af:=af.C9 aw d.size
       have d:=Kv d aw R An
       refine aa _ _ ⟨g,d,u,J⟩ ?_;revert a
       refine CF 8 D D ⟨g,d,u,J⟩<|BW 9 D CP 4 D ⟨g,d,u,J⟩<|?_
       intro au Y
       refine A8 10 0 D D ?_
       intro Aa aa
       refine DM Y 4 C D D ?_
       intro a cR H ad bS aN
       have S:=S.B1 aN
       have g:=Ag aN g (by omega)
       have B:=Ax B aN ah
       have u:=Ag aN u (by omega)
       have J:=Ag aN J (by omega)
       have a4:=Ax a4 aN bj
       have d:=H2 d aN An
       refine aa _ _ ⟨g,d,u,J⟩ ?_;revert a
       refine B_<|G<|?_
       intro a H
       exact⟨bM,bN,At H,g,d,B,ah,ay,ar,bj,bP,af,bO,S,u,az,bQ,bR,aX,J,a4,bS⟩
     ·
      rintro a cS ⟨aC,aD,H,g,d,B,ah,ay,ar,ai,ak,af,aj,S,u,az,al,aQ,aX,J,R,C⟩
      revert a
      refine Bq<|G<|N<|I D<|A_ (q:=1) D D<|O D<|M<|G<|?_
      intro a H
      exact⟨_,by omega,i+1,_,_,_,D,At H,by omega,by omega,by rw[Q6 aV (by omega) (by omega),←List.append_assoc];exact R,g,C,d,B,T ah,T ay,ar,T ai,T ak,af,AI aj,S,u,T az,T al⟩
    ·
     refine Ad D D D<|GL bg D D<|Bn D D<|M<|G<|BE D<|AE<|Bq<|G<|N<|I D<|A_ (q:=1) D D<|O D<|M<|G<|?_
     intro a H
     exact⟨_,by omega,i+1,_,_,_,D,At H,by omega,by omega,by rw[LG aV (fun h=>by have bT:=h.1;have bU:=h.2;omega)];exact R,g,C,d,B,T ah,T ay,ar,T ai,T ak,af,AI aj,S,u,T az,T al⟩
   ·
    refine GL bf D D<|I D<|Ae D D D D<|Ae D D D D<|Ae D D D D<|Ae D D D D<|Ae D D D D<|Ae D D D D<|Ba D D<|M<|G<|BE D<|AE<|Bq<|G<|N<|I D<|A_ (q:=1) D D<|O D<|M<|G<|?_
    intro a H
    exact⟨_,by omega,i+1,_,_,_,D,At H,by omega,by omega,by rw[LG aV (fun h=>by have bT:=h.1;have bU:=h.2;omega)];exact R,g,C,d,B,T ah,T ay,ar,T ai,T ak,af,AI aj,S,u,T az,T al⟩
  ·
   refine BO<|AW<|AW<|BN<|?_
   intro a H
   refine FD ?_
   refine Ec H D ?_
   obtain rfl:i=Bz.length:=by omega
   rw[List.take_length]at R
   have cT:=DF D3 (by decide) R
   have cU:(Ey++ET Bz k n).length=Ey.length+(ET Bz k n).length:=List.length_append
   exact⟨_,_,_,_,D,fun x bV=>(List.mem_append.1 bV).elim (aY x) (fun q=>a6 x (List.mem_filter.1 q).1),by unfold Gk;omega,⟨ba,aU,g,C,B,R,ah,ai,aj⟩,ar,af,S,d⟩
end Go.Proofs.YtcdaflcjhimimaaGreatDoor
