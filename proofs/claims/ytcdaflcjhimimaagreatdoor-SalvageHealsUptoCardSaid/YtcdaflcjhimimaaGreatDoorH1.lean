/- SalvageHeals holds of the given program, as the card says it, for arguments whose bulk is within the row's bound. No other condition. -/
import Derived.Test.YtcdaflcjhimimaaGreatDoorCards
import Derived.Test.YtcdaflcjhimimaaGreatDoorTie
import Derived.Deep.DeepHandedRow
import Derived.Deep.DeepLaidRun
import Derived.Test.YtcdaflcjhimimaaGreatDoorM01
import Derived.Test.YtcdaflcjhimimaaGreatDoorM26
import Derived.Test.YtcdaflcjhimimaaGreatDoorM04
import Derived.Test.YtcdaflcjhimimaaGreatDoorM07
import Derived.Test.YtcdaflcjhimimaaGreatDoorM27
import Derived.Test.YtcdaflcjhimimaaGreatDoorM05
import Derived.Test.YtcdaflcjhimimaaGreatDoorM14
import Derived.Test.YtcdaflcjhimimaaGreatDoorM17
import Derived.Test.YtcdaflcjhimimaaGreatDoorM28
set_option linter.unusedVariables false
namespace Go.Proofs.YtcdaflcjhimimaaGreatDoor
open Go.RowKit
set_option maxRecDepth 100000
set_option maxHeartbeats 1000000
theorem Zs{q h:Option Addr}{n c d k:Nat}{L:List Nat}{w:World}(l:View w (.slice q n c) n 1 (Al Ct L))(m:View w (.slice h d k) d 1 (Al Ct L))(t:L.length=n)(H:L.length=d)(hn:n≤1048576):
 Calls Tryz.prog 10 #[F q n c,F h d k] w fun e w'=>e=.returned (.bool true)∧Below w.heap.size w w':=by
 have b:Below w.heap.size w w:=Bu _ _
 refine Bx Zq D 26 ?_
 refine K<|N<|O D<|M<|G<|K<|K<|N<|I D<|BY Eo D<|I D<|BY Eo D<|?_
 have u:(((n:Nat):Int)=((d:Nat):Int)):=by omega
 refine Dr u D D<|M<|G<|BE D<|AE<|G<|K<|K<|N<|O (v:=(E 0)) D<|M<|G<|A2<|?_
 intro a f
 refine Cb (fun x a W=>∃i,x=n - i∧Ao 26 a (Ja (Ja (Ja Je 0 (F q n c)) 1 (F h d k)) 5 (E i))∧i≤n∧Below w.heap.size w W) _ ⟨0,D,At f,by omega,b⟩ ?_
 rintro _ a J ⟨i,rfl,f,P,b⟩
 revert a
 refine K<|K<|N<|I D<|I D<|BY Eo D<|B5 D D<|M<|G<|Bl D (fun y=>?_) fun y=>?_
 ·
  refine AE<|G<|K<|A2<|K<|?_
  intro a f
  refine Gm (by kernel_rfl) (by kernel_rfl) ?_
  intro Q R z
  have b:=Ah b z
  revert a
  refine A3 D<|A3 D<|?_
  obtain⟨S,p,rfl⟩:=Ca (l.below b)
  obtain⟨g,r⟩:=getD_some (L:=L) (j:=i) t (by omega)
  have A:=BJ En (l.below b) r (o:=p+i*1)
  refine C0 DK i (p+i*1) D D<|Dw AH (Dh [] (E g) [] A D) D<|A3 D<|A3 D<|?_
  obtain⟨T,s,rfl⟩:=Ca (m.below b)
  have B:=BJ En (m.below b) r (o:=s+i*1)
  refine C0 DK i (s+i*1) D D<|Dw AH (Dh [] (E g) [] B D) D<|?_
  have C:(((g:Nat):Int)=((g:Nat):Int)):=D
  refine Of C D D<|Er<|G<|BE D<|AE<|Bq<|G<|N<|I D<|A_ (q:=1) D D<|O D<|M<|G<|?_
  intro a f
  exact⟨_,by omega,i+1,D,At f,by omega,b⟩
 ·
  refine BO<|AW<|AW<|BN<|G<|K<|N<|O D<|M<|G<|AA<|AZ D<|?_
  exact⟨D,b⟩
theorem Zr{a' ba bb:Int}{aU:Nat}{q CU:Option Addr}{n c ax B4:Nat}{DA:List Fm}{bo:List Kz}{w:World}(bu:CT w)(bw:aU<256)(hn:n≤1048576)(bx:n≠0→View w (.slice q n c) n 1 (Al K3 DA))(bz:DA.length=n)(bA:∀x∈DA,Fm.ok w x)(bB:Hd DA≤100000)(bC:ax≤1048576)(bD:ax≠0→View w (.slice CU ax B4) ax 2 (Al Mz bo))(bE:bo.length=ax):
 Calls Tryz.prog 4 #[Value.agg (flat [[Value.int .i64 (a':Int)],[Value.int .i64 (ba:Int)],[Value.int .i64 (bb:Int)],[F q n c],[Value.int .u8 (((aU:Nat):Int):Int)]]),F CU ax B4] w fun e w'=>e=.returned (.bool true)∧Below w.heap.size w w':=by
 have d:Below w.heap.size w w:=Bu _ _
 refine Bx Zo D 88 ?_
 refine K<|N<|CW D ?_
 intro U bp an aI u r
 have cm:=Bg d an
 have d:=Ah d r
 refine O D<|M<|G<|K<|N<|BP IV u D<|?_
 intro bF bc
 have bq:w.heap.size≤bp.heap.size:=d.size
 have br:U<bp.heap.size:=Ar u
 refine Bj D (fun Aa bd=>B0 bc #[Value.agg (flat [[Value.int .i64 (a':Int)],[Value.int .i64 (ba:Int)],[Value.int .i64 (bb:Int)],[F q n c],[Value.int .u8 (((aU:Nat):Int):Int)]])] O4 (Y0 (DA:=DA) (bu.below d (Be _)) bw hn (fun h=>(bx h).below d) bz (fun x bG=>(bA x bG).below d) bB (fun ms m t h cn hm=>Ys h (by omega) (by omega))) ?_)
 rintro _ bf ⟨sb,bH,bI,bJ,v4,bK,p,m,H,L,mk,rfl,l,f,aV,aJ,cp,bs⟩
 refine⟨_,D,?_⟩
 intro a z
 have u:=Q u bs
 have d:=Ah d bs
 have cq:w.heap.size≤sb:=by have:=bq;omega
 have cr:U<sb:=by have:=br;omega
 have aW:Z (F p m H) U:=fun k b=>by have:=(f.lt k b).1;have:=br;omega
 have f:=CB f bq
 obtain⟨bL,ct,cu,cv,PP,cw⟩:=aJ.two
 refine bd _ _ ?_;revert a
 refine O D<|M<|G<|K<|N<|I D<|I D<|AS TS D (V4 (Hz:=1) l (View.own f) (CS f) (by decide) (by omega) ⟨bL,by omega⟩ bC (fun h=>(bD h).below d) bE) ?_
 rintro _ cx ⟨J,bM,Ay,f0,f1,X,Y,aa,ab,rfl,y,s,ao,aX,aY⟩
 refine⟨_,D,?_⟩
 have aj:=f.lt
 have ai:w.heap.size≤bf.heap.size:=d.size
 have bg:U<bf.heap.size:=Ar u
 have bh:sb<bf.heap.size:=Ar l
 have u:=Q u aY
 have l:=Q l aY
 have f:=V f aY
 have d:=Ah d aY
 have aZ:Z (F X m Y) U:=D2 y
 have a0:Z (F X m Y) sb:=D2 y
 have a1:Z (F aa mk ab) U:=D2 s
 have a2:Z (F aa mk ab) sb:=D2 s
 have a3:Ap (F X m Y) (F p m H):=fun k b e=>by have:=(y.lt k b).1;have:=(aj k e).2;omega
 have a4:Ap (F aa mk ab) (F p m H):=fun k b e=>by have:=(s.lt k b).1;have:=(aj k e).2;omega
 have y:=CB y ai;have s:=CB s ai
 have cy:=ao.aw
 have cA:=ao.s1
 have cB:=ao.XT
 have bN:=ao.WQ
 have bO:Ek J 0≤1:=Bs (Qb J 0) (aX 0)
 have bP:Ek J 1≤1:=Bs (Qb J 1) (aX 1)
 have cC:=DF En (by decide) s
 refine I D<|BC D D<|BC D D<|BC D D<|BQ [[E 0],[E 0]] ?_
 intro ak cD an aI bQ r
 have cE:=Bg d an
 have cF:=AP u an
 have cG:=AP l an
 have aK:=BM f an
 have aL:=BM y an
 have aM:=BM s an
 have u:=Q u r
 have l:=Q l r
 have f:=V f r
 have y:=V y r
 have s:=V s r
 have d:=Ah d r
 refine O D<|O D<|Bi 0 2 bQ D D ?_
 intro bR aI B ay
 have u:=Ag ay u (by omega)
 have l:=Ag ay l (by omega)
 have f:=Ax f ay aK
 have y:=Ax y ay aL
 have s:=Ax s ay aM
 have d:=A1 d ay
 refine M<|G<|K<|N<|O D<|M<|G<|K<|K<|?_
 have A:bR.ownsRow w.heap.size 3 1 (.slice none 0 0) 0 (Al Ct []):=World.ownsRow_nil _ _ _ _
 have aN:Z (F none 0 0) U:=FL
 have aO:Z (F none 0 0) sb:=FL
 have aP:Z (F none 0 0) ak:=FL
 have aQ:Ap (F none 0 0) (F p m H):=fun k b _=>by cases b
 have aR:Ap (F none 0 0) (F X m Y):=fun k b _=>by cases b
 have aS:Ap (F none 0 0) (F aa mk ab):=fun k b _=>by cases b
 refine N<|O (v:=(E 0)) D<|M<|G<|A2<|?_
 intro a z
 refine Cb (fun bS a W=>∃i ad ae P az,bS=mk - i∧Ao 88 a (Ja (Ja (Ja (Ja (Ja (Ja Je 4 (Br false)) 5 (AB sb)) 6 (F X m Y)) 7 (F aa mk ab)) 10 (E i)) 9 (F ad P ae))∧i≤mk∧az=II J i∧P≤i∧W.ownsRow w.heap.size 3 1 (.slice ad P ae) P (Al Ct az)∧Below w.heap.size w W∧Ai W U [[Value.int .i64 (a':Int)],[Value.int .i64 (ba:Int)],[Value.int .i64 (bb:Int)],[F q n c],[Value.int .u8 (((aU:Nat):Int):Int)]] 24∧Z (F p m H) U∧Ai W sb [[E bH],[E bI],[E bJ],[E mk],[v4],[bK],[F p m H]] 36∧W.ownsRow w.heap.size 5 1 (.slice p m H) m (bv L)∧Z (F p m H) sb∧W.ownsRow w.heap.size 5 1 (.slice X m Y) m (bv bM)∧W.ownsRow w.heap.size 3 1 (.slice aa mk ab) mk (Al Ct Ay)∧Z (F X m Y) U∧Z (F X m Y) sb∧Z (F aa mk ab) U∧Z (F aa mk ab) sb∧Ap (F X m Y) (F p m H)∧Ap (F aa mk ab) (F p m H)∧Z (F p m H) ak∧Z (F X m Y) ak∧Z (F aa mk ab) ak∧Ai W ak [[E f0],[E f1]] 37∧Z (F ad P ae) U∧Z (F ad P ae) sb∧Z (F ad P ae) ak∧Ap (F ad P ae) (F p m H)∧Ap (F ad P ae) (F X m Y)∧Ap (F ad P ae) (F aa mk ab)) _ ⟨0,_,_,_,_,D,At z,by omega,D,Nat.zero_le _,A,d,u,T aW,l,f,T aV,y,s,T aZ,T a0,T a1,T a2,AI a3,AI a4,T aK,T aL,T aM,B,T aN,T aO,T aP,AI aQ,AI aR,AI aS⟩ ?_
 rintro _ a a5 ⟨i,ad,ae,P,az,rfl,z,cH,bj,cI,A,d,u,aW,l,f,aV,y,s,aZ,a0,a1,a2,a3,a4,aK,aL,aM,B,aN,aO,aP,aQ,aR,aS⟩
 revert a
 refine K<|K<|N<|I D<|I D<|Bt D<|Am DC 3 D<|AK AH 3 l D D<|B5 D D<|M<|G<|Bl D (fun bT=>?_) fun bT=>?_
 ·
  refine AE<|G<|K<|A2<|K<|N<|I D<|I D<|?_
  obtain⟨cJ,rfl⟩:=Ia s
  obtain⟨bk,bl⟩:=getD_some (L:=Ay) (j:=i) (DF En (by decide) s) (by omega)
  have bU:=BJ En (View.own s) bl (o:=i)
  refine Cn DK i i D D<|Cg AH (Dh [] (E bk) [] bU D) D<|Ip (q:=(0:Nat)) D D<|M<|G<|Bl D (fun bm=>?_) fun bm=>?_
  ·
   have aT:=ao.n i (by omega)
   rw[List.getD_eq_getElem?_getD,bl]at aT
   have bV:0<El J i:=by have bW:=bm;have bX:bk=El J i:=aT;omega
   refine N<|I D<|I D<|D6 DK D (cs:=#[E i]) D D ?_
   intro cK aI bY r
   have A:=V A r
   have u:=Q u r
   have l:=Q l r
   have f:=V f r
   have y:=V y r
   have s:=V s r
   have B:=Q B r
   have d:=Ah d r
   intro bF bc
   refine Bj D (fun Aa bd=>BK bc DK A bY (by simp[Value.oneCell']) d.size (P+1) (CC az i D (En _)) ?_)
   intro a cL cM cN z bZ af
   have b0:=aQ.BR af (fun k b=>(f.lt k b).2)
   have b1:=aR.BR af (fun k b=>(y.lt k b).2)
   have b2:=aS.BR af (fun k b=>(s.lt k b).2)
   have b3:=A9 af aN (Ar u)
   have b4:=A9 af aO (Ar l)
   have b5:=A9 af aP (Ar B)
   have u:=A' u af aN
   have l:=A' l af aO
   have f:=Bm f af aQ.symm
   have y:=Bm y af aR.symm
   have s:=Bm s af aS.symm
   have B:=A' B af aP
   have d:=Cm d af A
   refine bd _ _ ?_;revert a
   refine O D<|M<|Bq<|G<|N<|I D<|A_ (q:=1) D D<|O D<|M<|G<|?_
   intro a z
   exact⟨_,by omega,i+1,_,_,_,_,D,At z,by omega,by rw[Kp,if_pos bV,←bj],by omega,bZ,d,u,T aW,l,f,T aV,y,s,T aZ,T a0,T a1,T a2,AI a3,AI a4,T aK,T aL,T aM,B,T b3,T b4,T b5,AI b0,AI b1,AI b2⟩
  ·
   have aT:=ao.n i (by omega)
   rw[List.getD_eq_getElem?_getD,bl]at aT
   have b6:¬0<El J i:=by have bW:=bm;have bX:bk=El J i:=aT;omega
   refine AE<|Bq<|G<|N<|I D<|A_ (q:=1) D D<|O D<|M<|G<|?_
   intro a z
   exact⟨_,by omega,i+1,_,_,_,_,D,At z,by omega,by rw[Kp,if_neg b6,List.append_nil];exact bj,by omega,A,d,u,T aW,l,f,T aV,y,s,T aZ,T a0,T a1,T a2,AI a3,AI a4,T aK,T aL,T aM,B,T aN,T aO,T aP,AI aQ,AI aR,AI aS⟩
 ·
  refine BO<|AW<|AW<|BN<|G<|K<|?_
  obtain rfl:mk=i:=by omega
  refine N<|I D<|AS Kr D (Lt (View.own y) (CS y)) ?_
  rintro _ a6 ⟨ar,au,rfl,R,aq⟩
  refine⟨_,D,?_⟩
  have aA:=A.lt
  have aj:=f.lt
  have aB:=y.lt
  have aC:=s.lt
  have ai:w.heap.size≤a5.heap.size:=d.size
  have bg:U<a5.heap.size:=Ar u
  have bh:sb<a5.heap.size:=Ar l
  have bt:ak<a5.heap.size:=Ar B
  have A:=V A aq
  have u:=Q u aq
  have l:=Q l aq
  have f:=V f aq
  have y:=V y aq
  have s:=V s aq
  have B:=Q B aq
  have d:=Ah d aq
  have cO:Ap (F ar m au) (F ad P ae):=fun k b e=>by have:=(R.lt k b).1;have:=(aA k e).2;omega
  have cP:Ap (F ar m au) (F p m H):=fun k b e=>by have:=(R.lt k b).1;have:=(aj k e).2;omega
  have cQ:Ap (F ar m au) (F X m Y):=fun k b e=>by have:=(R.lt k b).1;have:=(aB k e).2;omega
  have cR:Ap (F ar m au) (F aa mk ab):=fun k b e=>by have:=(R.lt k b).1;have:=(aC k e).2;omega
  have R:=CB R ai
  refine AS Ka D (Ru aJ ao.g (View.own R) (CS R) bO bP) ?_
  rintro _ cS ⟨aD,aE,aF,aG,aH,cT,b7,rfl,S,b8,C,b9,al⟩
  refine⟨_,D,?_⟩
  have aA:=A.lt
  have aj:=f.lt
  have aB:=y.lt
  have aC:=s.lt
  have a7:=R.lt
  have ai:w.heap.size≤a6.heap.size:=d.size
  have bg:U<a6.heap.size:=Ar u
  have bh:sb<a6.heap.size:=Ar l
  have bt:ak<a6.heap.size:=Ar B
  have A:=V A al
  have u:=Q u al
  have l:=Q l al
  have f:=V f al
  have y:=V y al
  have s:=V s al
  have B:=Q B al
  have R:=V R al
  have d:=Ah d al
  have cU:Ap (F aD m aE) (F ad P ae):=fun k b e=>by have:=(S.lt k b).1;have:=(aA k e).2;omega
  have cV:Ap (F aD m aE) (F p m H):=fun k b e=>by have:=(S.lt k b).1;have:=(aj k e).2;omega
  have cW:Ap (F aD m aE) (F X m Y):=fun k b e=>by have:=(S.lt k b).1;have:=(aB k e).2;omega
  have cX:Ap (F aD m aE) (F aa mk ab):=fun k b e=>by have:=(S.lt k b).1;have:=(aC k e).2;omega
  have cY:Ap (F aD m aE) (F ar m au):=fun k b e=>by have:=(S.lt k b).1;have:=(a7 k e).2;omega
  have cZ:Ap (F aF aG aH) (F ad P ae):=fun k b e=>by have:=(C.lt k b).1;have:=(aA k e).2;omega
  have c0:Ap (F aF aG aH) (F p m H):=fun k b e=>by have:=(C.lt k b).1;have:=(aj k e).2;omega
  have c1:Ap (F aF aG aH) (F X m Y):=fun k b e=>by have:=(C.lt k b).1;have:=(aB k e).2;omega
  have c2:Ap (F aF aG aH) (F aa mk ab):=fun k b e=>by have:=(C.lt k b).1;have:=(aC k e).2;omega
  have c3:Ap (F aF aG aH) (F ar m au):=fun k b e=>by have:=(C.lt k b).1;have:=(a7 k e).2;omega
  have S:=CB S ai;have C:=CB C ai
  have bn:=(Zp aJ ao.g b8 aX).symm;subst bn
  have b_:az=b7:=bj.trans (b9 aX).symm;subst b_
  refine I D<|BC D D<|BC D D<|BC D D<|O D<|O D<|O (v:=(E 0)) D<|M<|G<|K<|K<|?_
  intro a z
  refine EJ 15 ?_
  intro c4 aI r
  have A:=V A r
  have u:=Q u r
  have l:=Q l r
  have f:=V f r
  have y:=V y r
  have s:=V s r
  have B:=Q B r
  have R:=V R r
  have S:=V S r
  have C:=V C r
  have d:=Ah d r
  revert a
  refine A3 (v:=(E 0)) D<|?_
  have b':(((0:Nat):Int)=((0:Nat):Int)):=D
  refine Of b' D D<|A3 D<|BI D D D<|A3 D<|BI D D D<|Cz (fun _ z=>H_ z A0 BA HG D (View.own S) (CS S))<|BI D D D<|A3 D<|BI D D D<|Ee D<|BI D D D<|Cx DC 6 D<|BI D D D<|Dx Cr 6 l D D<|BI D D D<|Cz (fun _ z=>H_ z A0 BA HG D (View.own f) (CS f))<|?_
  have ca:(L=L):=D
  refine BI D D D<|Cz (fun _ z=>Xd z D D false (by rw[decide_eq_true ca];rfl))<|GU D D<|A3 D<|BI D D D<|A3 D<|BI D D D<|A3 D<|?_
  intro a z;refine EG ?_;revert a
  refine Ad D D D<|AS Zq D (Zs (L:=az) (View.own C) (View.own A) (DF En (by decide) C) (DF En (by decide) A) (by have bN:=DF En (by decide) C;have c5:=DF En (by decide) A;omega)) ?_
  rintro _ a8 ⟨rfl,ah⟩
  refine⟨_,D,?_⟩
  have A:=V A ah
  have u:=Q u ah
  have l:=Q l ah
  have f:=V f ah
  have y:=V y ah
  have s:=V s ah
  have B:=Q B ah
  have R:=V R ah
  have S:=V S ah
  have C:=V C ah
  have d:=Ah d ah
  refine Ad D D D<|Dn D<|Ba D D<|M<|G<|BE D<|AE<|G<|K<|N<|I D<|AS Ka D (Ru aJ (Gv.zero L mk) (View.own S) (CS S) (Nat.zero_le _) (Nat.zero_le _)) ?_
  rintro _ c6 ⟨av,aw,c7,cb,c8,c9,c_,rfl,ag,cc,a9,cd,a_⟩
  refine⟨_,D,?_⟩
  have aA:=A.lt
  have aj:=f.lt
  have aB:=y.lt
  have aC:=s.lt
  have a7:=R.lt
  have cf:=S.lt
  have cg:=C.lt
  have ai:w.heap.size≤a8.heap.size:=d.size
  have bg:U<a8.heap.size:=Ar u
  have bh:sb<a8.heap.size:=Ar l
  have bt:ak<a8.heap.size:=Ar B
  have l:=Q l a_
  have f:=V f a_
  have C:=V C a_
  have d:=Ah d a_
  have c':Ap (F av m aw) (F ad P ae):=fun k b e=>by have:=(ag.lt k b).1;have:=(aA k e).2;omega
  have da:Ap (F av m aw) (F p m H):=fun k b e=>by have:=(ag.lt k b).1;have:=(aj k e).2;omega
  have db:Ap (F av m aw) (F X m Y):=fun k b e=>by have:=(ag.lt k b).1;have:=(aB k e).2;omega
  have dc:Ap (F av m aw) (F aa mk ab):=fun k b e=>by have:=(ag.lt k b).1;have:=(aC k e).2;omega
  have dd:Ap (F av m aw) (F ar m au):=fun k b e=>by have:=(ag.lt k b).1;have:=(a7 k e).2;omega
  have de:Ap (F av m aw) (F aD m aE):=fun k b e=>by have:=(ag.lt k b).1;have:=(cf k e).2;omega
  have df:Ap (F av m aw) (F aF aG aH):=fun k b e=>by have:=(ag.lt k b).1;have:=(cg k e).2;omega
  have ag:=CB ag ai;have a9:=CB a9 ai
  have bn:=(Zp aJ (Gv.zero L mk) cc (fun _=>Nat.zero_le _)).symm;subst bn
  have ch:cb=0:=by rw[←DF En (by decide) a9,cd (fun _=>Nat.zero_le _),VA (fun _=>rfl)];rfl
  clear a9;subst ch
  refine I D<|BC D D<|BC D D<|BC D D<|O D<|O D<|O (v:=(E 0)) D<|M<|G<|K<|?_
  intro a z
  refine Gm (by kernel_rfl) (by kernel_rfl) ?_
  intro dg aI r
  have l:=Q l r
  have f:=V f r
  have C:=V C r
  have ag:=V ag r
  have d:=Ah d r
  revert a
  refine A3 (v:=(E 0)) D<|?_
  have cj:(((0:Nat):Int)=((0:Nat):Int)):=D
  refine J0 cj D D<|A3 D<|BI D D D<|A3 D<|BI D D D<|Cz (fun _ z=>H_ z A0 BA HG D (View.own ag) (CS ag))<|BI D D D<|A3 D<|BI D D D<|Ee D<|BI D D D<|Cx DC 6 D<|BI D D D<|Dx Cr 6 l D D<|BI D D D<|Cz (fun _ z=>H_ z A0 BA HG D (View.own f) (CS f))<|?_
  have ck:(L=L):=D
  refine BI D D D<|Cz (fun _ z=>J8 z D D true (decide_eq_true ck))<|G' D D<|A3 D<|BI D D D<|A3 D<|BI D D D<|J_ Eo D<|?_
  have cl:(((0:Nat):Int)=((0:Nat):Int)):=D
  refine BI D D D<|J0 cl D D<|G' D D<|Ff D<|Er<|G<|AA<|AZ D<|?_
  exact⟨D,d⟩
end Go.Proofs.YtcdaflcjhimimaaGreatDoor
namespace Go.Proofs.YtcdaflcjhimimaaGreatDoor.salvageHeals
open Go.ChangeShapes Go.WideShapes Go.ChangeAt Go.RowKit
set_option linter.unusedVariables false
theorem own:ownKnob Tryz.prog.godebug=none:=by kernel_rfl
theorem laidOut:laidOutB Tryz.prog=true:=by kernel_rfl
theorem Ut{cs:Array Value}(h:cs.size=5):∃a b c d e,cs=#[a,b,c,d,e]:=by
 rcases cs with⟨l⟩
 rcases l with _|⟨a,_|⟨b,_|⟨c,_|⟨d,_|⟨e,_|⟨f,l⟩⟩⟩⟩⟩⟩
 all_goals first|exact⟨_,_,_,_,_,D⟩|(simp at h)
set_option maxRecDepth 100000 in
theorem W0 {H:Type} {enc:TypeId×Value→H} {W:World} {base:Nat} {v0:Value} {d0:DataW H} {F:List MemPlace} (j:Value.okWide Tryz.prog W .any base 24 v0)
 (r:DataW.Trod enc Tryz.prog W 0 (fun _=>true) true 24 v0 d0 F):
 ∃m o p:Int,∃g:Nat,∃q n c,∃DA:List Fm,v0=.agg (flat [[.int .i64 m],[.int .i64 o],[.int .i64 p],[.slice q n c],[.int .u8 ((g:Nat):Int)]])∧g<256∧(n≠0→View W (.slice q n c) n 1 (Al K3 DA))∧DA.length=n∧(∀x∈DA,Fm.ok W x)∧36*Hd DA≤Rows.uptoBulk d0∧n≤Rows.uptoBulk d0:=by
 simp only[Value.okWide,Tryz.underlying24]at j
 obtain⟨cs,rfl,w,_⟩:=j
 rw[UG]at w
 obtain⟨G,I,J,K,M,rfl⟩:=Ut w
 obtain⟨fuel,N⟩:=r
 obtain⟨xs,Dp,rfl,f,_,z,k⟩:=DataW.trod_struct IV N
 simp only[Prod.mk.injEq]at f
 obtain⟨rfl,rfl⟩:=f
 have get:∀i,i<5→∃x,xs[i]? =some x:=fun i s=>⟨xs[i]'(by rw[z];exact s),List.getElem?_eq_getElem _⟩
 obtain⟨Fp,O⟩:=get 0 (by decide)
 obtain⟨ai,P⟩:=get 1 (by decide)
 obtain⟨aj,Q⟩:=get 2 (by decide)
 obtain⟨S,A⟩:=get 3 (by decide)
 obtain⟨ak,T⟩:=get 4 (by decide)
 have r:=Iq k (i:=0) (t:=3) (off:=0) D KU O
 have u:=Iq k (i:=1) (t:=3) (off:=1) D KU P
 have v:=Iq k (i:=2) (t:=3) (off:=2) D KU Q
 have U:=Iq k (i:=3) (t:=22) (off:=3) D Ue A
 have V:=Iq k (i:=4) (t:=5) (off:=4) D Nr T
 obtain⟨m,X,_⟩:=DataW.trod_int AH r
 obtain⟨o,Y,_⟩:=DataW.trod_int AH u
 obtain⟨p,Z,_⟩:=DataW.trod_int AH v
 obtain⟨g,aa,_⟩:=No BA _ _ _ D V
 obtain⟨q,n,c,DA,ab,B,j,Ab⟩:=Md (R:=fun(y:Fm) (d:DataW H)=>Fm.ok W y∧36*y.L.length≤Rows.uptoBulk d) KR YP (by decide) QP Tq U
 have f0:[G]=[Value.int .i64 m]:=X
 have f1:[I]=[Value.int .i64 o]:=Y
 have f2:[J]=[Value.int .i64 p]:=Z
 have f3:[K]=[Value.slice q n c]:=ab
 have f4:[Value.int .u8 ((g.toNat:Nat):Int)]=[M]:=aa
 simp only[List.cons.injEq,and_true]at f0 f1 f2 f3 f4
 subst f0 f1 f2 f3 f4
 have C:Rows.uptoBulk S.1≤Rows.uptoBulk (.agg (xs.map (·.1))):=by
  have ad:xs.length=5:=z
  match xs,ad,A with
  |[a,b,c,d,e],_,h=>cases h;simp only[List.map_cons,List.map_nil,Rows.uptoBulk,Rows.uptoBulkAll];omega
 refine⟨m,o,p,g.toNat,q,n,c,DA,D,g.toNat_lt,j,B,fun x f=>?_,?_,?_⟩
 ·rcases Ab with⟨_,hn⟩|⟨es,rs,_,_,l⟩
  ·rw[(List.eq_nil_of_length_eq_zero (by omega):DA=[])]at f;cases f
  ·obtain⟨i,s⟩:=List.mem_iff_getElem?.1 f
   obtain⟨d,_,ae⟩:=l i x s
   exact ae.1
 ·refine Bs ?_ C
  rcases Ab with⟨_,hn⟩|⟨es,rs,f,E,l⟩
  ·rw[List.eq_nil_of_length_eq_zero (by omega:DA.length=0)];exact Nat.zero_le _
  ·have:=Sc (fun y:Fm=>36*y.L.length) DA es (by omega) (fun i y af=>by obtain⟨d,u,v⟩:=l i y af;exact⟨d,u,v.2⟩)
   have ag:(DA.map (fun y:Fm=>36*y.L.length)).sum=36*Hd DA:=by
    unfold Hd
    clear this l E j B
    induction DA with
    |nil=>rfl
    |cons y L ah=>simp only[List.map_cons,List.sum_cons,ah];omega
   rw[ag]at this
   rw[f]
   simp only[Rows.uptoBulk]
   omega
 ·refine Bs ?_ C
  rcases Ab with⟨_,hn⟩|⟨es,rs,f,E,l⟩
  ·omega
  ·have:=Ob es
   rw[f]
   simp only[Rows.uptoBulk]
   omega
set_option maxRecDepth 100000 in
theorem XL (H:Type) (enc:TypeId×Value→H) (W:World) (base:Nat) (args:Array Value) (b gs:List (DataW H)) (before:List MemPlace)
 (d:∀(j:Nat) t v,Tryz.f4.params[j]? =some t→args[j]? =some v→Value.okWide Tryz.prog W .any base t v)
 (k:DataW.Whole enc Tryz.prog Tryz.f4.params.toList Rows.salvageHealsSpec.vars false W args.toList b gs before)
 (l:Rows.uptoSmall H (b++gs)=true)
 (z:laidMetH Tryz.prog Rows.salvageHealsUptoRow.laid W):
 Calls Tryz.prog 4 args W fun e BT=>∃v,e=.returned v∧Rows.salvageHealsSpec.post enc Tryz.prog Tryz.f4 false true false false W args v BT:=by
 have f:=k
 obtain⟨p,q,m,A,rfl,U,V⟩:=k
 have o:DataW.TrodAll enc Tryz.prog W 0 (fun _=>true) true Tryz.f4.params.toList args.toList b p:=m
 rw[Tryz.params4]at o d
 obtain⟨v0,X,d0,Y,B,Z,aa,rfl,rfl,r,C⟩:=trodAll_cons o
 obtain⟨v1,ab,d1,ad,E,ae,rfl,rfl,rfl,u,r1⟩:=trodAll_cons C
 obtain⟨rfl,rfl,rfl⟩:=trodAll_nil r1
 obtain rfl:args=#[v0,v1]:=by cases args;simp_all
 obtain⟨rfl,rfl⟩:=trodVars_none A
 clear m
 simp only[List.append_nil]at f l
 have g:Rows.uptoBulkAll [d0,d1]≤1048576:=by simpa[Rows.uptoSmall]using l
 simp only[Rows.uptoBulkAll]at g
 have w:∀x∈B++E,x.block<W.heap.size:=fun x a=>by simpa using f.lt x a
 have F:=r
 have G:=u
 obtain⟨af,ag,ah,ai,q,n,c,DA,rfl,I,J,K,L,aj,hn⟩:=W0 (d 0 24 v0 D D) r
 obtain⟨s,M,B4,rfl⟩:=okWide_slice Lw (d 1 25 v1 D D)
 obtain⟨fuel,N⟩:=u
 obtain⟨CU,ak,al,an,y,O,P,Ab⟩:=Md (R:=fun(_:Kz) (_:DataW H)=>True) Lw VN (by decide) Nw Xu (by simpa[Value.cells]using N)
 simp only[List.cons.injEq,Value.slice.injEq,and_true]at y
 obtain⟨rfl,rfl,rfl⟩:=y
 have Q:M≤1048576:=by
  rcases Ab with⟨_,hn⟩|⟨es,rs,a,ao,_⟩
  ·omega
  ·have:=Ob es
   have S:d1=.slice es rs:=a
   rw[S]at g
   simp only[Rows.uptoBulk]at g
   omega
 refine(Zr (U9 z) I (by omega) J K L (by omega) Q P O).mono fun e BT ⟨T,i⟩=>?_
 subst T
 exact⟨_,D,_,_,_,[],_,[],f,trodAll_mk1 (shut_bool FP _),trodAll_mk2 (Below.trod laidOut (by kernel_rfl) (of_decide_eq_true (by kernel_rfl)) F i (fun x a=>w x (by simp[a]))) (Below.trod laidOut (by kernel_rfl) (of_decide_eq_true (by kernel_rfl)) G i (fun x a=>w x (by simp[a]))),D,i.frame _,fun h=>by cases h⟩
def Ow:DataW Unit→List Value
 |.agg l=>l.map fun d=>match d with
  |.lit (.int k n)=>Value.int k n
  |_=>undef
 |_=>[]
def Mm:Array Value:=#[.agg #[.int .i64 0,.int .i64 0,.int .i64 0,.slice none 0 0,.int .u8 0],.slice none 0 0]
noncomputable def N0(os:Os):World:=
 let a:=World.holding Tryz.prog os ⟨#[],#[],[]⟩
 {a with heap:=(((a.heap.modify 0 fun
   |.cells _ t frozen=>.cells (Ow (Rows.laid_ledger_ledgerref1_first (H:=Unit))).toArray t frozen
   |o=>o).modify 2 fun
   |.cells _ t frozen=>.cells (Ow (Rows.laid_ledger_ledgerref1_consts (H:=Unit))).toArray t frozen
   |o=>o).modify 1 fun
   |.cells _ t frozen=>.cells (Ow (Rows.laid_ledger_ledgerref2_divisor (H:=Unit))).toArray t frozen
   |o=>o)}
theorem Wk(os:Os):laidMet Tryz.prog Rows.salvageHealsUptoRow.laid ((N0 os).forCall (fun _ _=>0) ⟨#[],Mm,[]⟩).memory:=
 laidMet_of_run3 8 (by kernel_rfl) (by kernel_rfl) (by kernel_rfl)
theorem reads(os:Os){H:Type}(enc:TypeId×Value→H):∃places,DataW.whole enc Tryz.prog ((N0 os).forCall (fun _ _=>0) ⟨#[],Mm,[]⟩).memory Tryz.f4.params.toList Rows.salvageHealsSpec.vars false Mm.toList 8=some ([.agg [.lit (.int .i64 0),.lit (.int .i64 0),.lit (.int .i64 0),.nil,.lit (.int .u8 0)],.nil],[],places):=
 ⟨[],by kernel_rfl⟩
set_option maxRecDepth 100000 in
theorem lifted (os:Os) (started:os.Started) (H:Type) (enc:TypeId×Value→H) (a:Stop.Interp):
 ReturnsInHanded {} Tryz.checked os 4 .any ((Rows.OpenSpec.upto Rows.salvageHealsSpec).preRow enc Tryz.prog Tryz.f4 Rows.salvageHealsUptoRow.domain false Rows.salvageHealsUptoRow.laid) (((Rows.OpenSpec.upto Rows.salvageHealsSpec).at a).post enc Tryz.prog Tryz.f4 false true false false):=by
 obtain⟨places,b⟩:=reads os enc
 refine returnsInHanded_of_row (C:=Tryz.checked) (s:=Rows.OpenSpec.upto Rows.salvageHealsSpec) own started (by kernel_rfl) Zo
  (witness_row_at (enc:=enc) (C:=Tryz.checked) false (N0 os) Mm D (by kernel_rfl) (by kernel_rfl) (by kernel_rfl)
    (OpenSpec.preRow_of_cond 8 b (by kernel_rfl) (fun k c=>by cases c;kernel_rfl) (by kernel_rfl) (Wk os))) ?_
 intro W base args d gs before e f _ g i h _ _
 exact XL H enc W base args d gs before e f (g _ D) h
theorem said:Rows.SalvageHealsUptoSaid:=
 OpenClaim.holds_of_cond 4 Tryz.f4 D D D D D D D ⟨D,D,D,D,D⟩ D D D D D (by kernel_rfl) Zo (by kernel_rfl)
  (of_decide_eq_true (by kernel_rfl)) (by unfold Func.isWrapper;first|(rw[if_pos (by decide+kernel)];kernel_rfl)|(rw[if_neg (by decide+kernel)];exact⟨D,D⟩))
  (fun os started H enc _ a=>by rw[OpenClaim.pre_eq_preRow];exact lifted os started H enc a)
theorem plain(f:FuncId)(fn:Func)(b:Tryz.pinned.checked.prog.funcNamed "ledger/ledgerlaw23.SalvageHeals" =some f)(c:Tryz.pinned.checked.prog.funcs[f]? =some fn):
 false=Tryz.pinned.checked.prog.looks []∧∀(j:Nat) t,fn.params[j]? =some t→Tryz.pinned.checked.prog.wantsStandIn t=false:=by
 obtain rfl:f=4:=Option.some.inj ((show Tryz.prog.funcNamed "ledger/ledgerlaw23.SalvageHeals" =some 4 by kernel_rfl).symm.trans b)|>.symm
 obtain rfl:fn=Tryz.f4:=(Option.some.inj (Zo.symm.trans c)).symm
 refine⟨by kernel_rfl,fun j t a=>?_⟩
 rw[Tryz.params4]at a
 match j,a with
 |0,a=>cases a;exact(show Tryz.prog.wantsStandIn 24=false by kernel_rfl)
 |1,a=>cases a;exact(show Tryz.prog.wantsStandIn 25=false by kernel_rfl)
 |j+2,a=>simp at a
theorem card:Rows.SalvageHealsUptoCardSaid:=
 Claim7.holds_tied_plain_at .later [] _ _ _ _ said (fun _ h=>by cases h) (by kernel_rfl) (fun _ h=>by cases h) salvageHealsUpto_row_tie D ⟨D,D⟩ (by kernel_rfl) D plain (by kernel_rfl)
end Go.Proofs.YtcdaflcjhimimaaGreatDoor.salvageHeals
