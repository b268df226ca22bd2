/- SalvageNever holds of the given program, as the card says it, for arguments whose bulk is within the row's bound. No other condition. -/
import Derived.Test.YtcdaflcjhimimaaGreatDoorCards
import Derived.Test.YtcdaflcjhimimaaGreatDoorTie
import Derived.Deep.DeepHandedRow
import Derived.Deep.DeepLaidRun
import Derived.Test.YtcdaflcjhimimaaGreatDoorM01
import Derived.Test.YtcdaflcjhimimaaGreatDoorM26
import Derived.Test.YtcdaflcjhimimaaGreatDoorM04
import Derived.Test.YtcdaflcjhimimaaGreatDoorM07
import Derived.Test.YtcdaflcjhimimaaGreatDoorM27
import Derived.Test.YtcdaflcjhimimaaGreatDoorM05
import Derived.Test.YtcdaflcjhimimaaGreatDoorM14
import Derived.Test.YtcdaflcjhimimaaGreatDoorM17
import Derived.Test.YtcdaflcjhimimaaGreatDoorM28
set_option linter.unusedVariables false
namespace Go.Proofs.YtcdaflcjhimimaaGreatDoor
open Go.RowKit
set_option maxRecDepth 100000
set_option maxHeartbeats 1000000
theorem VE{q:Option Addr}{n c p:Nat}{l:List UInt8}{w:World}(b:CT w)(d:2≤p∧p<4096)(f:256*(p+1)≤n)(hn:n≤1048576)(g:View w (.slice q n c) n 1 (bv l))(h:l.length=n)(a:Fr.Di p (BB l p)=false):
 Calls Tryz.prog 9 #[F q n c,E p] w fun e w'=>e=.returned (.bool false)∧Below w.heap.size w w':=by
 refine(V6 b d f hn g h).mono ?_
 rintro e w' ⟨rfl,i⟩
 unfold BB at a
 exact⟨by rw[a],i⟩
theorem W6{bp bq br:Int}{aK:Nat}{q CU:Option Addr}{n c az B4:Nat}{DA:List Fm}{bB:List Kz}{w:World}(bC:CT w)(bP:aK<256)(hn:n≤1048576)(bQ:n≠0→View w (.slice q n c) n 1 (Al K3 DA))(bR:DA.length=n)(bS:∀x∈DA,Fm.ok w x)(bT:Hd DA≤100000)(bU:az≤1048576)(bV:az≠0→View w (.slice CU az B4) az 2 (Al Mz bB))(bW:bB.length=az):
 Calls Tryz.prog 3 #[Value.agg (flat [[Value.int .i64 (bp:Int)],[Value.int .i64 (bq:Int)],[Value.int .i64 (br:Int)],[F q n c],[Value.int .u8 (((aK:Nat):Int):Int)]]),F CU az B4] w fun e w'=>e=.returned (.bool true)∧Below w.heap.size w w':=by
 have d:Below w.heap.size w w:=Bu _ _
 refine Bx LF D 145 ?_
 refine K<|N<|CW D ?_
 intro C bD an aE r z
 have cJ:=Bg d an
 have d:=Ah d z
 refine O D<|M<|G<|K<|N<|BP IV r D<|?_
 intro cK bX
 have bE:w.heap.size≤bD.heap.size:=d.size
 have bF:C<bD.heap.size:=Ar r
 refine Bj D (fun Aa bY=>B0 bX #[Value.agg (flat [[Value.int .i64 (bp:Int)],[Value.int .i64 (bq:Int)],[Value.int .i64 (br:Int)],[F q n c],[Value.int .u8 (((aK:Nat):Int):Int)]])] O4 (Y0 (DA:=DA) (bC.below d (Be _)) bP hn (fun h=>(bQ h).below d) bR (fun x bZ=>(bS x bZ).below d) bT (fun ms m t h cL hm=>Ys h (by omega) (by omega))) ?_)
 rintro _ bs ⟨sb,b0,b1,b2,v4,b3,p,m,P,L,mk,rfl,l,f,aL,aw,cM,bG⟩
 refine⟨_,D,?_⟩
 intro a o
 have r:=Q r bG
 have d:=Ah d bG
 have cN:w.heap.size≤sb:=by have:=bE;omega
 have cO:C<sb:=by have:=bF;omega
 have aM:Z (F p m P) C:=fun k j=>by have:=(f.lt k j).1;have:=bF;omega
 have f:=CB f bE
 obtain⟨b4,cP,cQ,cR,PP,cS⟩:=aw.two
 refine bY _ _ ?_;revert a
 refine O D<|M<|G<|K<|N<|I D<|Bt D<|Am DC 6 D<|AK Cr 6 l D D<|AS Kr D (Lt (View.own f) (CS f)) ?_
 rintro _ bt ⟨R,S,rfl,s,aN⟩
 refine⟨_,D,?_⟩
 have ag:=f.lt
 have ah:w.heap.size≤bs.heap.size:=d.size
 have aA:C<bs.heap.size:=Ar r
 have aB:sb<bs.heap.size:=Ar l
 have r:=Q r aN
 have l:=Q l aN
 have f:=V f aN
 have d:=Ah d aN
 have aO:Z (F R m S) C:=D2 s
 have aP:Z (F R m S) sb:=D2 s
 have aQ:Ap (F R m S) (F p m P):=fun k j e=>by have:=(s.lt k j).1;have:=(ag k e).2;omega
 have s:=CB s ah
 refine AS Ka D (Ru aw (Gv.zero L mk) (View.own s) (CS s) (Nat.zero_le _) (Nat.zero_le _)) ?_
 rintro _ cT ⟨U,X,cU,b5,cV,cW,cX,rfl,y,b6,bH,b7,aF⟩
 refine⟨_,D,?_⟩
 have ag:=f.lt
 have ak:=s.lt
 have ah:w.heap.size≤bt.heap.size:=d.size
 have aA:C<bt.heap.size:=Ar r
 have aB:sb<bt.heap.size:=Ar l
 have r:=Q r aF
 have l:=Q l aF
 have f:=V f aF
 have s:=V s aF
 have d:=Ah d aF
 have aR:Z (F U m X) C:=D2 y
 have aS:Z (F U m X) sb:=D2 y
 have aT:Ap (F U m X) (F p m P):=fun k j e=>by have:=(y.lt k j).1;have:=(ag k e).2;omega
 have aU:Ap (F U m X) (F R m S):=fun k j e=>by have:=(y.lt k j).1;have:=(ak k e).2;omega
 have y:=CB y ah
 obtain⟨_,_,bu⟩:=Pv aw (Gv.zero L mk) b6 (Nat.zero_le _) (Nat.zero_le _)
 have bu:=(bu D).symm;subst bu
 have b8:b5=0:=by rw[←DF En (by decide) bH,b7 (fun _=>Nat.zero_le _),VA (fun _=>rfl)];rfl
 clear bH;subst b8
 refine I D<|BC D D<|BC D D<|BC D D<|O D<|O D<|O (v:=(E 0)) D<|M<|G<|K<|K<|?_
 intro a o
 refine Gm (by kernel_rfl) (by kernel_rfl) ?_
 intro bw aE z
 have r:=Q r z
 have l:=Q l z
 have f:=V f z
 have s:=V s z
 have y:=V y z
 have d:=Ah d z
 revert a
 refine A3 (v:=(E 0)) D<|?_
 have b9:(((0:Nat):Int)=((0:Nat):Int)):=D
 refine Of b9 D D<|A3 D<|BI D D D<|A3 D<|BI D D D<|J_ Eo D<|?_
 have b_:(((0:Nat):Int)=((0:Nat):Int)):=D
 refine BI D D D<|Of b_ D D<|GU D D<|A3 D<|BI D D D<|A3 D<|BI D D D<|Cz (fun _ o=>H_ o A0 BA HG D (View.own y) (CS y))<|BI D D D<|A3 D<|BI D D D<|Ee D<|BI D D D<|Cx DC 6 D<|BI D D D<|Dx Cr 6 l D D<|BI D D D<|Cz (fun _ o=>H_ o A0 BA HG D (View.own f) (CS f))<|?_
 have b':(L=L):=D
 refine BI D D D<|Cz (fun _ o=>Xd o D D false (by rw[decide_eq_true b'];rfl))<|GU D D<|Er<|G<|BE D<|AE<|G<|K<|N<|I D<|I D<|AS Tryz.func8 D (V4 (Hz:=3) l (View.own f) (CS f) (by decide) (by omega) ⟨b4,by omega⟩ bU (fun h=>(bV h).below d) bW) ?_
 rintro _ cY ⟨J,bI,cZ,f0,f1,Y,aa,c0,c1,rfl,u,_,aC,_,aD⟩
 refine⟨_,D,?_⟩
 have ag:=f.lt
 have ak:=s.lt
 have ao:=y.lt
 have ah:w.heap.size≤bw.heap.size:=d.size
 have aA:C<bw.heap.size:=Ar r
 have aB:sb<bw.heap.size:=Ar l
 have r:=Q r aD
 have l:=Q l aD
 have f:=V f aD
 have s:=V s aD
 have y:=V y aD
 have d:=Ah d aD
 have aV:Z (F Y m aa) C:=D2 u
 have aW:Z (F Y m aa) sb:=D2 u
 have aX:Ap (F Y m aa) (F p m P):=fun k j e=>by have:=(u.lt k j).1;have:=(ag k e).2;omega
 have aY:Ap (F Y m aa) (F R m S):=fun k j e=>by have:=(u.lt k j).1;have:=(ak k e).2;omega
 have aZ:Ap (F Y m aa) (F U m X):=fun k j e=>by have:=(u.lt k j).1;have:=(ao k e).2;omega
 have u:=CB u ah
 refine I D<|BC D D<|BC D D<|BC D D<|BQ [[E 0],[E 0]] ?_
 intro ai c2 an aE ca z
 have c3:=Bg d an
 have c4:=AP r an
 have c5:=AP l an
 have aG:=BM f an
 have aH:=BM s an
 have aI:=BM y an
 have aJ:=BM u an
 have r:=Q r z
 have l:=Q l z
 have f:=V f z
 have s:=V s z
 have y:=V y z
 have u:=V u z
 have d:=Ah d z
 refine O D<|O D<|Bi 0 2 ca D D ?_
 intro aj aE A ax
 have r:=Ag ax r (by omega)
 have l:=Ag ax l (by omega)
 have f:=Ax f ax aG
 have s:=Ax s ax aH
 have y:=Ax y ax aI
 have u:=Ax u ax aJ
 have d:=A1 d ax
 refine M<|G<|K<|?_
 have c6:=aC.aw
 have c8:=aC.s1
 have c9:=CS u
 have cb:(Ek J 0≤1∧Ek J 1≤1)∨(2≤f0)∨(¬2≤f0∧2≤f1):=by omega
 rcases cb with⟨bJ,bK⟩|cc|⟨c_,cc⟩
 ·
  refine N<|I D<|AS Kr D (Lt (View.own u) (CS u)) ?_
  rintro _ a0 ⟨ae,af,rfl,H,ar⟩
  refine⟨_,D,?_⟩
  have ag:=f.lt
  have ak:=s.lt
  have ao:=y.lt
  have ay:=u.lt
  have ah:w.heap.size≤aj.heap.size:=d.size
  have aA:C<aj.heap.size:=Ar r
  have aB:sb<aj.heap.size:=Ar l
  have bx:ai<aj.heap.size:=Ar A
  have r:=Q r ar
  have l:=Q l ar
  have f:=V f ar
  have s:=V s ar
  have y:=V y ar
  have u:=V u ar
  have A:=Q A ar
  have d:=Ah d ar
  have a1:Z (F ae m af) C:=D2 H
  have a2:Z (F ae m af) sb:=D2 H
  have a3:Z (F ae m af) ai:=D2 H
  have a4:Ap (F ae m af) (F p m P):=fun k j e=>by have:=(H.lt k j).1;have:=(ag k e).2;omega
  have a5:Ap (F ae m af) (F R m S):=fun k j e=>by have:=(H.lt k j).1;have:=(ak k e).2;omega
  have a6:Ap (F ae m af) (F U m X):=fun k j e=>by have:=(H.lt k j).1;have:=(ao k e).2;omega
  have a7:Ap (F ae m af) (F Y m aa):=fun k j e=>by have:=(H.lt k j).1;have:=(ay k e).2;omega
  have H:=CB H ah
  refine AS Ka D (Ru aw aC.g (View.own H) (CS H) bJ bK) ?_
  rintro _ c' ⟨ab,ad,da,db,dc,a8,dd,rfl,B,cd,de,df,aq⟩
  refine⟨_,D,?_⟩
  have ag:=f.lt
  have ak:=s.lt
  have ao:=y.lt
  have ay:=u.lt
  have cf:=H.lt
  have ah:w.heap.size≤a0.heap.size:=d.size
  have aA:C<a0.heap.size:=Ar r
  have aB:sb<a0.heap.size:=Ar l
  have bx:ai<a0.heap.size:=Ar A
  have r:=Q r aq
  have l:=Q l aq
  have f:=V f aq
  have s:=V s aq
  have y:=V y aq
  have u:=V u aq
  have A:=Q A aq
  have H:=V H aq
  have d:=Ah d aq
  have a9:Z (F ab m ad) C:=D2 B
  have a_:Z (F ab m ad) sb:=D2 B
  have a':Z (F ab m ad) ai:=D2 B
  have ba:Ap (F ab m ad) (F p m P):=fun k j e=>by have:=(B.lt k j).1;have:=(ag k e).2;omega
  have bb:Ap (F ab m ad) (F R m S):=fun k j e=>by have:=(B.lt k j).1;have:=(ak k e).2;omega
  have bc:Ap (F ab m ad) (F U m X):=fun k j e=>by have:=(B.lt k j).1;have:=(ao k e).2;omega
  have bd:Ap (F ab m ad) (F Y m aa):=fun k j e=>by have:=(B.lt k j).1;have:=(ay k e).2;omega
  have bf:Ap (F ab m ad) (F ae m af):=fun k j e=>by have:=(B.lt k j).1;have:=(cf k e).2;omega
  have B:=CB B ah
  obtain⟨cg,ch,_⟩:=Pv aw aC.g cd bJ bK
  refine I D<|BC D D<|BC D D<|BC D D<|O D<|O D<|O (v:=(E 0)) D<|M<|G<|K<|K<|N<|Dg HW 1 0 0 D D<|AK AH 0 A D D<|?_
  have cj:¬(((2:Nat):Int)≤((f0:Nat):Int)):=by omega
  refine GL cj D D<|I D<|Ad D D D<|Dg HW 1 1 1 D D<|Ad D D D<|AK AH 1 A D D<|?_
  have ck:¬(((2:Nat):Int)≤((f1:Nat):Int)):=by omega
  refine Ad D D D<|GL ck D D<|Ba D D<|M<|G<|BE D<|AE<|G<|K<|K<|N<|I (v:=(E 0)) D<|?_
  have cl:(((0:Nat):Int)=((0:Nat):Int)):=D
  refine Dr cl D D<|I D<|Ad D D D<|I D<|Ad D D D<|BY Cr D<|Ad D D D<|I D<|Ad D D D<|Bt D<|Ad D D D<|Am DC 6 D<|Ad D D D<|AK Cr 6 l D D<|Ad D D D<|BY Cr D<|?_
  have cm:(((m:Nat):Int)=((m:Nat):Int)):=D
  refine Ad D D D<|Dr cm D D<|Ba D D<|M<|G<|BE D<|AE<|G<|K<|K<|N<|O (v:=(E 0)) D<|M<|G<|A2<|?_
  intro a o
  refine Cb (fun cn a W=>∃i,cn=mk - i∧Ao 145 a (Ja (Ja (Ja Je 5 (AB sb)) 12 (F ab m ad)) 14 (E i))∧i≤mk∧Below w.heap.size w W∧Ai W C [[Value.int .i64 (bp:Int)],[Value.int .i64 (bq:Int)],[Value.int .i64 (br:Int)],[F q n c],[Value.int .u8 (((aK:Nat):Int):Int)]] 24∧Z (F p m P) C∧Ai W sb [[E b0],[E b1],[E b2],[E mk],[v4],[b3],[F p m P]] 36∧W.ownsRow w.heap.size 5 1 (.slice p m P) m (bv L)∧Z (F p m P) sb∧W.ownsRow w.heap.size 5 1 (.slice R m S) m (bv L)∧Z (F R m S) C∧Z (F R m S) sb∧Ap (F R m S) (F p m P)∧W.ownsRow w.heap.size 5 1 (.slice U m X) m (bv L)∧Z (F U m X) C∧Z (F U m X) sb∧Ap (F U m X) (F p m P)∧Ap (F U m X) (F R m S)∧W.ownsRow w.heap.size 5 1 (.slice Y m aa) m (bv bI)∧Z (F Y m aa) C∧Z (F Y m aa) sb∧Ap (F Y m aa) (F p m P)∧Ap (F Y m aa) (F R m S)∧Ap (F Y m aa) (F U m X)∧Z (F p m P) ai∧Z (F R m S) ai∧Z (F U m X) ai∧Z (F Y m aa) ai∧Ai W ai [[E f0],[E f1]] 37∧W.ownsRow w.heap.size 5 1 (.slice ae m af) m (bv bI)∧Z (F ae m af) C∧Z (F ae m af) sb∧Z (F ae m af) ai∧Ap (F ae m af) (F p m P)∧Ap (F ae m af) (F R m S)∧Ap (F ae m af) (F U m X)∧Ap (F ae m af) (F Y m aa)∧W.ownsRow w.heap.size 5 1 (.slice ab m ad) m (bv a8)∧Z (F ab m ad) C∧Z (F ab m ad) sb∧Z (F ab m ad) ai∧Ap (F ab m ad) (F p m P)∧Ap (F ab m ad) (F R m S)∧Ap (F ab m ad) (F U m X)∧Ap (F ab m ad) (F Y m aa)∧Ap (F ab m ad) (F ae m af)) _ ⟨0,D,At o,by omega,d,r,T aM,l,f,T aL,s,T aO,T aP,AI aQ,y,T aR,T aS,AI aT,AI aU,u,T aV,T aW,AI aX,AI aY,AI aZ,T aG,T aH,T aI,T aJ,A,H,T a1,T a2,T a3,AI a4,AI a5,AI a6,AI a7,B,T a9,T a_,T a',AI ba,AI bb,AI bc,AI bd,AI bf⟩ ?_
  rintro _ a dg ⟨i,rfl,o,dh,d,r,aM,l,f,aL,s,aO,aP,aQ,y,aR,aS,aT,aU,u,aV,aW,aX,aY,aZ,aG,aH,aI,aJ,A,H,a1,a2,a3,a4,a5,a6,a7,B,a9,a_,a',ba,bb,bc,bd,bf⟩
  revert a
  refine K<|K<|N<|I D<|I D<|Bt D<|Am DC 3 D<|AK AH 3 l D D<|B5 D D<|M<|G<|Bl D (fun cp=>?_) fun cp=>?_
  ·
   refine AE<|G<|K<|A2<|K<|?_
   intro a o
   refine Gm (by kernel_rfl) (by kernel_rfl) ?_
   intro di aE z
   have r:=Q r z
   have l:=Q l z
   have f:=V f z
   have s:=V s z
   have y:=V y z
   have u:=V u z
   have A:=Q A z
   have H:=V H z
   have B:=V B z
   have d:=Ah d z
   revert a
   refine A3 D<|A3 D<|G_ (p:=256) D D<|A3 D<|G_ (p:=256) D D<|Fv (q:=256) D D<|?_
   obtain⟨dj,cq,bg,dk⟩:=Li A0 (View.own B) (256*i) ((256*i)+256)
   have bg:=bg _ (View.own B)
   simp only[Nat.mul_one,Ge,Hf]at bg
   have cr:((a8.drop (256*i)).take (((256*i)+256) - (256*i))).length=((256*i)+256) - (256*i):=by have:=(CS B);simp only[List.length_take,List.length_drop];omega
   refine Cz (fun _ o=>Ke o D (256*i) ((256*i)+256) (k:=.i64) (k':=.i64) D D cq)<|Cz (fun _ o=>H_ o A0 BA HG D bg cr)<|A3 D<|Ee D<|Cx DC 6 D<|Dx Cr 6 l D D<|A3 D<|G_ (p:=256) D D<|A3 D<|G_ (p:=256) D D<|Fv (q:=256) D D<|?_
   obtain⟨dm,ct,bh,dn⟩:=Li A0 (View.own f) (256*i) ((256*i)+256)
   have bh:=bh _ (View.own f)
   simp only[Nat.mul_one,Ge,Hf]at bh
   have cu:((L.drop (256*i)).take (((256*i)+256) - (256*i))).length=((256*i)+256) - (256*i):=by have:=(CS f);simp only[List.length_take,List.length_drop];omega
   refine Cz (fun _ o=>Ke o D (256*i) ((256*i)+256) (k:=.i64) (k':=.i64) D D ct)<|Cz (fun _ o=>H_ o A0 BA HG D bh cu)<|?_
   by_cases bz:(a8.drop (256*i)).take (((256*i)+256) - (256*i))=(L.drop (256*i)).take (((256*i)+256) - (256*i))
   ·
    refine Cz (fun _ o=>J8 o D D true (decide_eq_true bz))<|Ff D<|Er<|G<|K<|N<|I D<|Dn D<|I D<|Ae D D D D<|Ae D D D D<|Ae D D D D<|FU D D D<|FU D D D<|FU D D D<|Ae D D D D<|Ba D D<|M<|G<|BE D<|AE<|Bq<|G<|N<|I D<|A_ (q:=1) D D<|O D<|M<|G<|?_
    intro a o
    exact⟨_,by omega,i+1,D,At o,by omega,d,r,T aM,l,f,T aL,s,T aO,T aP,AI aQ,y,T aR,T aS,AI aT,AI aU,u,T aV,T aW,AI aX,AI aY,AI aZ,T aG,T aH,T aI,T aJ,A,H,T a1,T a2,T a3,AI a4,AI a5,AI a6,AI a7,B,T a9,T a_,T a',AI ba,AI bb,AI bc,AI bd,AI bf⟩
   ·
    have cv:=(cg i (by omega)).resolve_left (fun e=>bz (by unfold BB at e;rw[show 256*i+256 - 256*i=256 by omega];exact e))
    have cw:=cv.2
    refine Cz (fun _ o=>J8 o D D false (decide_eq_false bz))<|Ff D<|Er<|G<|K<|N<|I D<|Dn D<|I D<|Ad D D D<|I D<|?_
    have cx:¬(((i:Nat):Int)<((2:Nat):Int)):=by omega
    refine Ad D D D<|DO cx D D<|Ad D D D<|I D<|Ad D D D<|I D<|Ad D D D<|I D<|Ad D D D<|AS Sj D (VE (p:=i) (bC.below d (Be _)) (by omega) (by omega) (by omega) (View.own B) (CS B) cw) ?_
    rintro _ dp ⟨rfl,al⟩
    refine⟨_,D,?_⟩
    have r:=Q r al
    have l:=Q l al
    have f:=V f al
    have s:=V s al
    have y:=V y al
    have u:=V u al
    have A:=Q A al
    have H:=V H al
    have B:=V B al
    have d:=Ah d al
    refine Ad D D D<|Ba D D<|Bn D D<|M<|G<|BE D<|AE<|Bq<|G<|N<|I D<|A_ (q:=1) D D<|O D<|M<|G<|?_
    intro a o
    exact⟨_,by omega,i+1,D,At o,by omega,d,r,T aM,l,f,T aL,s,T aO,T aP,AI aQ,y,T aR,T aS,AI aT,AI aU,u,T aV,T aW,AI aX,AI aY,AI aZ,T aG,T aH,T aI,T aJ,A,H,T a1,T a2,T a3,AI a4,AI a5,AI a6,AI a7,B,T a9,T a_,T a',AI ba,AI bb,AI bc,AI bd,AI bf⟩
  ·
   refine BO<|AW<|AW<|BN<|G<|K<|?_
   intro a o
   refine Gm (by kernel_rfl) (by kernel_rfl) ?_
   intro dq aE z
   have l:=Q l z
   have f:=V f z
   have B:=V B z
   have d:=Ah d z
   revert a
   refine A3 D<|A3 D<|Ee D<|Cx DC 3 D<|Dx AH 3 l D D<|G_ (p:=256) D D<|?_
   obtain⟨dr,cy,bj,ds⟩:=JY A0 (View.own B) (256*mk)
   have bj:=bj _ (View.own B)
   rw[Nat.mul_one,Ge]at bj
   have cz:(a8.drop (256*mk)).length=m - (256*mk):=by have:=(CS B);simp only[List.length_drop];omega
   refine Cz (fun _ o=>I_ o D (256*mk) (k:=.i64) D cy)<|Cz (fun _ o=>H_ o A0 BA HG D bj cz)<|A3 D<|Ee D<|Cx DC 6 D<|Dx Cr 6 l D D<|A3 D<|Ee D<|Cx DC 3 D<|Dx AH 3 l D D<|G_ (p:=256) D D<|?_
   obtain⟨dt,cA,bk,du⟩:=JY A0 (View.own f) (256*mk)
   have bk:=bk _ (View.own f)
   rw[Nat.mul_one,Ge]at bk
   have cB:(L.drop (256*mk)).length=m - (256*mk):=by have:=(CS f);simp only[List.length_drop];omega
   refine Cz (fun _ o=>I_ o D (256*mk) (k:=.i64) D cA)<|Cz (fun _ o=>H_ o A0 BA HG D bk cB)<|Cz (fun _ o=>J8 o D D _ D)<|Ff D<|Er<|G<|AA<|AZ D<|?_
   exact⟨congrArg (fun b=>Ending.returned (.bool b)) (decide_eq_true ch),d⟩
 ·
  have bA:2≤Ek J 0∨2≤Ek J 1:=by omega
  refine N<|I D<|AS Kr D (Lt (View.own u) (CS u)) ?_
  rintro _ dv ⟨bl,bm,rfl,au,bL⟩
  refine⟨_,D,?_⟩
  have ag:=f.lt
  have ak:=s.lt
  have ao:=y.lt
  have ay:=u.lt
  have ah:w.heap.size≤aj.heap.size:=d.size
  have aA:C<aj.heap.size:=Ar r
  have aB:sb<aj.heap.size:=Ar l
  have bx:ai<aj.heap.size:=Ar A
  have A:=Q A bL
  have d:=Ah d bL
  have dw:Ap (F bl m bm) (F p m P):=fun k j e=>by have:=(au.lt k j).1;have:=(ag k e).2;omega
  have dx:Ap (F bl m bm) (F R m S):=fun k j e=>by have:=(au.lt k j).1;have:=(ak k e).2;omega
  have dy:Ap (F bl m bm) (F U m X):=fun k j e=>by have:=(au.lt k j).1;have:=(ao k e).2;omega
  have dz:Ap (F bl m bm) (F Y m aa):=fun k j e=>by have:=(au.lt k j).1;have:=(ay k e).2;omega
  have au:=CB au ah
  refine AS Ka D (Qp aw aC.g (View.own au) (CS au) bA) ?_
  rintro _ dA ⟨rfl,bM⟩
  refine⟨_,D,?_⟩
  have A:=Q A bM
  have d:=Ah d bM
  refine I D<|BC D D<|BC D D<|BC D D<|O D<|O D<|O (v:=(E 4)) D<|M<|G<|K<|K<|N<|Dg HW 1 0 0 D D<|AK AH 0 A D D<|?_
  have cC:(((2:Nat):Int)≤((f0:Nat):Int)):=by omega
  refine Gy cC D D<|I D<|Ae D D D D<|Ae D D D D<|Ae D D D D<|Bn D D<|M<|G<|BS D<|K<|N<|I (v:=(E 4)) D<|?_
  have cD:(((4:Nat):Int)=((4:Nat):Int)):=D
  refine D5 cD D D<|I D<|Ad D D D<|I D<|Ad D D D<|BY Cr D<|?_
  have cE:(((0:Nat):Int)=((0:Nat):Int)):=D
  refine Ad D D D<|D5 cE D D<|Bn D D<|O D<|M<|G<|AA<|AX<|AZ D<|?_
  exact⟨D,d⟩
 ·
  have bA:2≤Ek J 0∨2≤Ek J 1:=by omega
  refine N<|I D<|AS Kr D (Lt (View.own u) (CS u)) ?_
  rintro _ dB ⟨bn,bo,rfl,av,bN⟩
  refine⟨_,D,?_⟩
  have ag:=f.lt
  have ak:=s.lt
  have ao:=y.lt
  have ay:=u.lt
  have ah:w.heap.size≤aj.heap.size:=d.size
  have aA:C<aj.heap.size:=Ar r
  have aB:sb<aj.heap.size:=Ar l
  have bx:ai<aj.heap.size:=Ar A
  have A:=Q A bN
  have d:=Ah d bN
  have dC:Ap (F bn m bo) (F p m P):=fun k j e=>by have:=(av.lt k j).1;have:=(ag k e).2;omega
  have dD:Ap (F bn m bo) (F R m S):=fun k j e=>by have:=(av.lt k j).1;have:=(ak k e).2;omega
  have dE:Ap (F bn m bo) (F U m X):=fun k j e=>by have:=(av.lt k j).1;have:=(ao k e).2;omega
  have dF:Ap (F bn m bo) (F Y m aa):=fun k j e=>by have:=(av.lt k j).1;have:=(ay k e).2;omega
  have av:=CB av ah
  refine AS Ka D (Qp aw aC.g (View.own av) (CS av) bA) ?_
  rintro _ dG ⟨rfl,bO⟩
  refine⟨_,D,?_⟩
  have A:=Q A bO
  have d:=Ah d bO
  refine I D<|BC D D<|BC D D<|BC D D<|O D<|O D<|O (v:=(E 4)) D<|M<|G<|K<|K<|N<|Dg HW 1 0 0 D D<|AK AH 0 A D D<|?_
  have cF:¬(((2:Nat):Int)≤((f0:Nat):Int)):=by omega
  refine GL cF D D<|I D<|Ad D D D<|Dg HW 1 1 1 D D<|Ad D D D<|AK AH 1 A D D<|?_
  have cG:(((2:Nat):Int)≤((f1:Nat):Int)):=by omega
  refine Ad D D D<|Gy cG D D<|Ba D D<|M<|G<|BS D<|K<|N<|I (v:=(E 4)) D<|?_
  have cH:(((4:Nat):Int)=((4:Nat):Int)):=D
  refine D5 cH D D<|I D<|Ad D D D<|I D<|Ad D D D<|BY Cr D<|?_
  have cI:(((0:Nat):Int)=((0:Nat):Int)):=D
  refine Ad D D D<|D5 cI D D<|Bn D D<|O D<|M<|G<|AA<|AX<|AZ D<|?_
  exact⟨D,d⟩
end Go.Proofs.YtcdaflcjhimimaaGreatDoor
namespace Go.Proofs.YtcdaflcjhimimaaGreatDoor.salvageNever
open Go.ChangeShapes Go.WideShapes Go.ChangeAt Go.RowKit
set_option linter.unusedVariables false
theorem own:ownKnob Tryz.prog.godebug=none:=by kernel_rfl
theorem laidOut:laidOutB Tryz.prog=true:=by kernel_rfl
theorem Ut{cs:Array Value}(h:cs.size=5):∃a b c d e,cs=#[a,b,c,d,e]:=by
 rcases cs with⟨l⟩
 rcases l with _|⟨a,_|⟨b,_|⟨c,_|⟨d,_|⟨e,_|⟨f,l⟩⟩⟩⟩⟩⟩
 all_goals first|exact⟨_,_,_,_,_,D⟩|(simp at h)
set_option maxRecDepth 100000 in
theorem W0 {H:Type} {enc:TypeId×Value→H} {W:World} {base:Nat} {v0:Value} {d0:DataW H} {F:List MemPlace} (j:Value.okWide Tryz.prog W .any base 24 v0)
 (r:DataW.Trod enc Tryz.prog W 0 (fun _=>true) true 24 v0 d0 F):
 ∃m o p:Int,∃g:Nat,∃q n c,∃DA:List Fm,v0=.agg (flat [[.int .i64 m],[.int .i64 o],[.int .i64 p],[.slice q n c],[.int .u8 ((g:Nat):Int)]])∧g<256∧(n≠0→View W (.slice q n c) n 1 (Al K3 DA))∧DA.length=n∧(∀x∈DA,Fm.ok W x)∧36*Hd DA≤Rows.uptoBulk d0∧n≤Rows.uptoBulk d0:=by
 simp only[Value.okWide,Tryz.underlying24]at j
 obtain⟨cs,rfl,w,_⟩:=j
 rw[UG]at w
 obtain⟨G,I,J,K,M,rfl⟩:=Ut w
 obtain⟨fuel,N⟩:=r
 obtain⟨xs,Dp,rfl,f,_,z,k⟩:=DataW.trod_struct IV N
 simp only[Prod.mk.injEq]at f
 obtain⟨rfl,rfl⟩:=f
 have get:∀i,i<5→∃x,xs[i]? =some x:=fun i s=>⟨xs[i]'(by rw[z];exact s),List.getElem?_eq_getElem _⟩
 obtain⟨Fp,O⟩:=get 0 (by decide)
 obtain⟨ai,P⟩:=get 1 (by decide)
 obtain⟨aj,Q⟩:=get 2 (by decide)
 obtain⟨S,A⟩:=get 3 (by decide)
 obtain⟨ak,T⟩:=get 4 (by decide)
 have r:=Iq k (i:=0) (t:=3) (off:=0) D KU O
 have u:=Iq k (i:=1) (t:=3) (off:=1) D KU P
 have v:=Iq k (i:=2) (t:=3) (off:=2) D KU Q
 have U:=Iq k (i:=3) (t:=22) (off:=3) D Ue A
 have V:=Iq k (i:=4) (t:=5) (off:=4) D Nr T
 obtain⟨m,X,_⟩:=DataW.trod_int AH r
 obtain⟨o,Y,_⟩:=DataW.trod_int AH u
 obtain⟨p,Z,_⟩:=DataW.trod_int AH v
 obtain⟨g,aa,_⟩:=No BA _ _ _ D V
 obtain⟨q,n,c,DA,ab,B,j,Ab⟩:=Md (R:=fun(y:Fm) (d:DataW H)=>Fm.ok W y∧36*y.L.length≤Rows.uptoBulk d) KR YP (by decide) QP Tq U
 have f0:[G]=[Value.int .i64 m]:=X
 have f1:[I]=[Value.int .i64 o]:=Y
 have f2:[J]=[Value.int .i64 p]:=Z
 have f3:[K]=[Value.slice q n c]:=ab
 have f4:[Value.int .u8 ((g.toNat:Nat):Int)]=[M]:=aa
 simp only[List.cons.injEq,and_true]at f0 f1 f2 f3 f4
 subst f0 f1 f2 f3 f4
 have C:Rows.uptoBulk S.1≤Rows.uptoBulk (.agg (xs.map (·.1))):=by
  have ad:xs.length=5:=z
  match xs,ad,A with
  |[a,b,c,d,e],_,h=>cases h;simp only[List.map_cons,List.map_nil,Rows.uptoBulk,Rows.uptoBulkAll];omega
 refine⟨m,o,p,g.toNat,q,n,c,DA,D,g.toNat_lt,j,B,fun x f=>?_,?_,?_⟩
 ·rcases Ab with⟨_,hn⟩|⟨es,rs,_,_,l⟩
  ·rw[(List.eq_nil_of_length_eq_zero (by omega):DA=[])]at f;cases f
  ·obtain⟨i,s⟩:=List.mem_iff_getElem?.1 f
   obtain⟨d,_,ae⟩:=l i x s
   exact ae.1
 ·refine Bs ?_ C
  rcases Ab with⟨_,hn⟩|⟨es,rs,f,E,l⟩
  ·rw[List.eq_nil_of_length_eq_zero (by omega:DA.length=0)];exact Nat.zero_le _
  ·have:=Sc (fun y:Fm=>36*y.L.length) DA es (by omega) (fun i y af=>by obtain⟨d,u,v⟩:=l i y af;exact⟨d,u,v.2⟩)
   have ag:(DA.map (fun y:Fm=>36*y.L.length)).sum=36*Hd DA:=by
    unfold Hd
    clear this l E j B
    induction DA with
    |nil=>rfl
    |cons y L ah=>simp only[List.map_cons,List.sum_cons,ah];omega
   rw[ag]at this
   rw[f]
   simp only[Rows.uptoBulk]
   omega
 ·refine Bs ?_ C
  rcases Ab with⟨_,hn⟩|⟨es,rs,f,E,l⟩
  ·omega
  ·have:=Ob es
   rw[f]
   simp only[Rows.uptoBulk]
   omega
set_option maxRecDepth 100000 in
theorem XL (H:Type) (enc:TypeId×Value→H) (W:World) (base:Nat) (args:Array Value) (b gs:List (DataW H)) (before:List MemPlace)
 (d:∀(j:Nat) t v,Tryz.f3.params[j]? =some t→args[j]? =some v→Value.okWide Tryz.prog W .any base t v)
 (k:DataW.Whole enc Tryz.prog Tryz.f3.params.toList Rows.salvageNeverSpec.vars false W args.toList b gs before)
 (l:Rows.uptoSmall H (b++gs)=true)
 (z:laidMetH Tryz.prog Rows.salvageNeverUptoRow.laid W):
 Calls Tryz.prog 3 args W fun e BT=>∃v,e=.returned v∧Rows.salvageNeverSpec.post enc Tryz.prog Tryz.f3 false true false false W args v BT:=by
 have f:=k
 obtain⟨p,q,m,A,rfl,U,V⟩:=k
 have o:DataW.TrodAll enc Tryz.prog W 0 (fun _=>true) true Tryz.f3.params.toList args.toList b p:=m
 rw[Tryz.params3]at o d
 obtain⟨v0,X,d0,Y,B,Z,aa,rfl,rfl,r,C⟩:=trodAll_cons o
 obtain⟨v1,ab,d1,ad,E,ae,rfl,rfl,rfl,u,r1⟩:=trodAll_cons C
 obtain⟨rfl,rfl,rfl⟩:=trodAll_nil r1
 obtain rfl:args=#[v0,v1]:=by cases args;simp_all
 obtain⟨rfl,rfl⟩:=trodVars_none A
 clear m
 simp only[List.append_nil]at f l
 have g:Rows.uptoBulkAll [d0,d1]≤1048576:=by simpa[Rows.uptoSmall]using l
 simp only[Rows.uptoBulkAll]at g
 have w:∀x∈B++E,x.block<W.heap.size:=fun x a=>by simpa using f.lt x a
 have F:=r
 have G:=u
 obtain⟨af,ag,ah,ai,q,n,c,DA,rfl,I,J,K,L,aj,hn⟩:=W0 (d 0 24 v0 D D) r
 obtain⟨s,M,B4,rfl⟩:=okWide_slice Lw (d 1 25 v1 D D)
 obtain⟨fuel,N⟩:=u
 obtain⟨CU,ak,al,an,y,O,P,Ab⟩:=Md (R:=fun(_:Kz) (_:DataW H)=>True) Lw VN (by decide) Nw Xu (by simpa[Value.cells]using N)
 simp only[List.cons.injEq,Value.slice.injEq,and_true]at y
 obtain⟨rfl,rfl,rfl⟩:=y
 have Q:M≤1048576:=by
  rcases Ab with⟨_,hn⟩|⟨es,rs,a,ao,_⟩
  ·omega
  ·have:=Ob es
   have S:d1=.slice es rs:=a
   rw[S]at g
   simp only[Rows.uptoBulk]at g
   omega
 refine(W6 (U9 z) I (by omega) J K L (by omega) Q P O).mono fun e BT ⟨T,i⟩=>?_
 subst T
 exact⟨_,D,_,_,_,[],_,[],f,trodAll_mk1 (shut_bool FP _),trodAll_mk2 (Below.trod laidOut (by kernel_rfl) (of_decide_eq_true (by kernel_rfl)) F i (fun x a=>w x (by simp[a]))) (Below.trod laidOut (by kernel_rfl) (of_decide_eq_true (by kernel_rfl)) G i (fun x a=>w x (by simp[a]))),D,i.frame _,fun h=>by cases h⟩
def Ow:DataW Unit→List Value
 |.agg l=>l.map fun d=>match d with
  |.lit (.int k n)=>Value.int k n
  |_=>undef
 |_=>[]
def Mm:Array Value:=#[.agg #[.int .i64 0,.int .i64 0,.int .i64 0,.slice none 0 0,.int .u8 0],.slice none 0 0]
noncomputable def N0(os:Os):World:=
 let a:=World.holding Tryz.prog os ⟨#[],#[],[]⟩
 {a with heap:=(((a.heap.modify 0 fun
   |.cells _ t frozen=>.cells (Ow (Rows.laid_ledger_ledgerref1_first (H:=Unit))).toArray t frozen
   |o=>o).modify 2 fun
   |.cells _ t frozen=>.cells (Ow (Rows.laid_ledger_ledgerref1_consts (H:=Unit))).toArray t frozen
   |o=>o).modify 1 fun
   |.cells _ t frozen=>.cells (Ow (Rows.laid_ledger_ledgerref2_divisor (H:=Unit))).toArray t frozen
   |o=>o)}
theorem Wk(os:Os):laidMet Tryz.prog Rows.salvageNeverUptoRow.laid ((N0 os).forCall (fun _ _=>0) ⟨#[],Mm,[]⟩).memory:=
 laidMet_of_run3 8 (by kernel_rfl) (by kernel_rfl) (by kernel_rfl)
theorem reads(os:Os){H:Type}(enc:TypeId×Value→H):∃places,DataW.whole enc Tryz.prog ((N0 os).forCall (fun _ _=>0) ⟨#[],Mm,[]⟩).memory Tryz.f3.params.toList Rows.salvageNeverSpec.vars false Mm.toList 8=some ([.agg [.lit (.int .i64 0),.lit (.int .i64 0),.lit (.int .i64 0),.nil,.lit (.int .u8 0)],.nil],[],places):=
 ⟨[],by kernel_rfl⟩
set_option maxRecDepth 100000 in
theorem lifted (os:Os) (started:os.Started) (H:Type) (enc:TypeId×Value→H) (a:Stop.Interp):
 ReturnsInHanded {} Tryz.checked os 3 .any ((Rows.OpenSpec.upto Rows.salvageNeverSpec).preRow enc Tryz.prog Tryz.f3 Rows.salvageNeverUptoRow.domain false Rows.salvageNeverUptoRow.laid) (((Rows.OpenSpec.upto Rows.salvageNeverSpec).at a).post enc Tryz.prog Tryz.f3 false true false false):=by
 obtain⟨places,b⟩:=reads os enc
 refine returnsInHanded_of_row (C:=Tryz.checked) (s:=Rows.OpenSpec.upto Rows.salvageNeverSpec) own started (by kernel_rfl) LF
  (witness_row_at (enc:=enc) (C:=Tryz.checked) false (N0 os) Mm D (by kernel_rfl) (by kernel_rfl) (by kernel_rfl)
    (OpenSpec.preRow_of_cond 8 b (by kernel_rfl) (fun k c=>by cases c;kernel_rfl) (by kernel_rfl) (Wk os))) ?_
 intro W base args d gs before e f _ g i h _ _
 exact XL H enc W base args d gs before e f (g _ D) h
theorem said:Rows.SalvageNeverUptoSaid:=
 OpenClaim.holds_of_cond 3 Tryz.f3 D D D D D D D ⟨D,D,D,D,D⟩ D D D D D (by kernel_rfl) LF (by kernel_rfl)
  (of_decide_eq_true (by kernel_rfl)) (by unfold Func.isWrapper;first|(rw[if_pos (by decide+kernel)];kernel_rfl)|(rw[if_neg (by decide+kernel)];exact⟨D,D⟩))
  (fun os started H enc _ a=>by rw[OpenClaim.pre_eq_preRow];exact lifted os started H enc a)
theorem plain(f:FuncId)(fn:Func)(b:Tryz.pinned.checked.prog.funcNamed "ledger/ledgerlaw23.SalvageNever" =some f)(c:Tryz.pinned.checked.prog.funcs[f]? =some fn):
 false=Tryz.pinned.checked.prog.looks []∧∀(j:Nat) t,fn.params[j]? =some t→Tryz.pinned.checked.prog.wantsStandIn t=false:=by
 obtain rfl:f=3:=Option.some.inj ((show Tryz.prog.funcNamed "ledger/ledgerlaw23.SalvageNever" =some 3 by kernel_rfl).symm.trans b)|>.symm
 obtain rfl:fn=Tryz.f3:=(Option.some.inj (LF.symm.trans c)).symm
 refine⟨by kernel_rfl,fun j t a=>?_⟩
 rw[Tryz.params3]at a
 match j,a with
 |0,a=>cases a;exact(show Tryz.prog.wantsStandIn 24=false by kernel_rfl)
 |1,a=>cases a;exact(show Tryz.prog.wantsStandIn 25=false by kernel_rfl)
 |j+2,a=>simp at a
theorem card:Rows.SalvageNeverUptoCardSaid:=
 Claim7.holds_tied_plain_at .later [] _ _ _ _ said (fun _ h=>by cases h) (by kernel_rfl) (fun _ h=>by cases h) salvageNeverUpto_row_tie D ⟨D,D⟩ (by kernel_rfl) D plain (by kernel_rfl)
end Go.Proofs.YtcdaflcjhimimaaGreatDoor.salvageNever
