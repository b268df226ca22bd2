/- Laws and walks on the road to SalvageNever and SalvageHeals (part M22). No conditions beyond each law's own. -/
import Derived.Test.YtcdaflcjhimimaaGreatDoorM01
import Derived.Test.YtcdaflcjhimimaaGreatDoorM21
import Derived.Test.YtcdaflcjhimimaaGreatDoorM04
import Derived.Test.YtcdaflcjhimimaaGreatDoorM07
import Derived.Test.YtcdaflcjhimimaaGreatDoorM05
import Derived.Test.YtcdaflcjhimimaaGreatDoorM14
import Derived.Test.YtcdaflcjhimimaaGreatDoorM17
set_option linter.unusedVariables false
namespace Go.Proofs.YtcdaflcjhimimaaGreatDoor
open Go.RowKit
variable {X Y:Nat→Prop} {w W BT:World} {v BL u G2 v0 IU:Value} {b sb k n m:Nat}
def E1(sb:Nat)(t f:Value)(k:Nat):Prop:=k=sb∨t.ownBlock=some k∨f.ownBlock=some k
def VB:Ed:=⟨none,[],0⟩
structure RC (X:Nat→Prop) (w:World) (AD:Nat) (x:Ed):Prop where
 v:ER X w x.p x.L.length x.c 66 (Al CA x.L)
 p:∀y∈x.L,y.p<AD
structure Is (B sb:Nat) (w:World) (z:EC) (ZC:Option Addr) (Zy ZD:Nat) (ax:List Fd):Prop where
 Z2:B≤sb
 bk:w.heap[sb]? =some (.cells (flat (z.HD (.slice ZC Zy ZD))) 66 (0,0))
 ZR:w.ownsRow B 119 1 (.slice z.AO z.Aq.length z.AJ) z.Aq.length (Al EP z.Aq)
 bm:w.ownsRow B 173 2 (.slice ZC Zy ZD) Zy (Al Em ax)
 Z':∀k,(Value.slice z.AO z.Aq.length z.AJ).ownBlock=some k→k≠sb
 ZP:∀k,(Value.slice ZC Zy ZD).ownBlock=some k→k≠sb
 ad:Ap (.slice z.AO z.Aq.length z.AJ) (.slice ZC Zy ZD)
 k:ER (E1 sb (.slice z.AO z.Aq.length z.AJ) (.slice ZC Zy ZD)) w z.Bp z.AV.length z.AY 1 (Al Ct z.AV)
 n:ER (E1 sb (.slice z.AO z.Aq.length z.AJ) (.slice ZC Zy ZD)) w z.Bv z.Ay.length z.As 102 (Al Dd z.Ay)
 r:ER (E1 sb (.slice z.AO z.Aq.length z.AJ) (.slice ZC Zy ZD)) w z.qr z.AM.length z.AR 38 (Al DY z.AM)
 a:ER (E1 sb (.slice z.AO z.Aq.length z.AJ) (.slice ZC Zy ZD)) w z.By z.AN.length z.AG 1 (Al Ct z.AN)
 e:ER (E1 sb (.slice z.AO z.Aq.length z.AJ) (.slice ZC Zy ZD)) w z.AQ 257 z.ce 32 (Al Ex z.Cp)
 ZM:∀y∈z.Ay,Gf (E1 sb (.slice z.AO z.Aq.length z.AJ) (.slice ZC Zy ZD)) w y.s
 aW:∀x∈z.Aq,RC (E1 sb (.slice z.AO z.Aq.length z.AJ) (.slice ZC Zy ZD)) w z.AD x
 el:z.Cp.length=257
 ar:z.AV.length=z.AD
 nl:z.Ay.length=z.AD
 aG:z.AM.length=z.AD
 E9:∀p∈z.AN,p<z.AD
 m:z.AD≤4096
 ZL:∀y∈z.Ay,Fl y
 ZK:∀y∈z.AM,y.v<4294967296∧y.f<4294967296∧y.ZG<4294967296∧y.ZZ<4294967296∧y.r<4294967296∧y.c<4294967296
theorem Is.Pz{B:Nat}{z:EC}{c:Option Addr}{d f:Nat}{g:List Fd}(h:Is B sb w z c d f g):GH w.heap.size sb w z:=
 ⟨h.k.Iy (.inl D),h.n.Iy (.inl D),h.r.Iy (.inl D),h.a.Iy (.inl D),⟨View.own h.ZR,fun a b=>⟨(h.ZR.lt a.block (by rw[b];rfl)).2,h.Z' a.block (by rw[b];rfl)⟩⟩,h.e.Iy (.inl D),h.el,h.ar,h.nl,h.aG,h.E9,h.m,h.ZL,fun y j=>(h.ZM y j).Iy (.inl D),h.ZK⟩
theorem Is.next{B:Nat}{z:EC}{l:Option Addr}{o s:Nat}{A:List Fd}(h:Is B sb w z l o s A)(S:Bd (E1 sb (.slice z.AO z.Aq.length z.AJ) (.slice l o s)) w W)
 {d:Option Addr}{f:Nat}{b:List Ed}{g:Option Addr}{c i:Nat}{u:List Fd}
 (C:W.heap[sb]? =some (.cells (flat (({z with AO:=d,AJ:=f,Aq:=b}:EC).HD (.slice g c i))) 66 (0,0)))
 (D:W.ownsRow B 119 1 (.slice d b.length f) b.length (Al EP b))(E:W.ownsRow B 173 2 (.slice g c i) c (Al Em u))
 (F:∀k,(Value.slice d b.length f).ownBlock=some k→k≠sb)(G:∀k,(Value.slice g c i).ownBlock=some k→k≠sb)(H:Ap (.slice d b.length f) (.slice g c i))
 (I:AtR w.heap.size (.slice d b.length f) (.slice z.AO z.Aq.length z.AJ))(J:AtR w.heap.size (.slice g c i) (.slice l o s))
 (t:∀x∈b,x∈z.Aq∨RC (E1 sb (.slice d b.length f) (.slice g c i)) W z.AD x):
 Is B sb W {z with AO:=d,AJ:=f,Aq:=b} g c i u:=by
 have j:∀k,k<w.heap.size→E1 sb (.slice d b.length f) (.slice g c i) k→E1 sb (.slice z.AO z.Aq.length z.AJ) (.slice l o s) k:=by
  rintro k M (q|q|q)
  ·exact .inl q
  ·exact(I k q).elim (fun r=>.inr (.inl r)) (fun r=>by omega)
  ·exact(J k q).elim (fun r=>.inr (.inr r)) (fun r=>by omega)
 exact⟨h.Z2,C,D,E,F,G,H,h.k.next S j,h.n.next S j,h.r.next S j,h.a.next S j,h.e.next S j,fun y K=>(h.ZM y K).next S j,
  fun x L=>(t x L).elim (fun q=>⟨(h.aW x q).v.next S j,(h.aW x q).p⟩) id,h.el,h.ar,h.nl,h.aG,h.E9,h.m,h.ZL,h.ZK⟩
theorem O_:∀j,j<256→Cu Bh.l j=0:=by
 intro j a
 have e:Bh.l.getD (j/8) 0=0:=by
  show(List.replicate 32 (0:UInt8)).getD (j/8) 0=0
  rw[List.getD_eq_getElem?_getD,List.getElem?_replicate]
  split<;>rfl
 unfold Cu
 rw[if_neg (by omega),e]
 show 0/2^(7 - j % 8) % 2=0
 rw[Nat.zero_div]
end Go.Proofs.YtcdaflcjhimimaaGreatDoor
namespace Go.Proofs.YtcdaflcjhimimaaGreatDoor
open Go.RowKit
set_option maxRecDepth 100000
set_option maxHeartbeats 1000000
theorem Ya{Aj sb:Nat}{z:EC}{i:Nat}{w:World}(An:Aj≤w.heap.size)(cc:Hi w.heap.size sb w)(a0:Is Aj sb w z none 0 0 [])(c6:i=z.Aq.length)(cd:i<z.AN.length)(c7:z.AN.length≤4096)(bx:∀x∈z.Aq,x.L.length≤13000*i)(bf:2≤z.AD):
 Calls Tryz.prog 31 #[AB sb,E i] w fun e w'=>∃cf cg bz bH bA bI ch,e=.returned (.tuple #[])∧Is Aj sb w' {z with AO:=cf,AJ:=cg,Aq:=bz} bH bA bI ch∧bA≤1∧(bA=0→bH=none∧bI=0∧ch=[]∧bz.length=i+1∧(∀x∈bz,x.L.length≤13000*(i+1)))∧Bd (E1 sb (.slice z.AO z.Aq.length z.AJ) (.slice none 0 0)) w w'∧AtR w.heap.size (.slice cf bz.length cg) (.slice z.AO z.Aq.length z.AJ)∧AtR w.heap.size (.slice bH bA bI) (.slice none 0 0):=by
 have ad:=a0.Pz
 have bg:sb<w.heap.size:=Ar a0.bk
 obtain⟨wd,ge,AD,Ab,Ak,Bp,AY,AV,Bv,As,Ay,qr,AR,AM,By,AG,AN,AO,AJ,Aq,AQ,ce,Cp⟩:=z
 obtain⟨e5,A,P,e6,al,ag,an,e7,e8,e9,e_,e',fa,bJ,cj,c8,c9,c_,ck,c',da,cl⟩:=id a0
 dsimp only at cj c8 c9 c_ ck c' da cl bJ c6 cd bx bf c7 P al an
 have A:Ai w sb [[E wd],[E ge],[E AD],[E Ab],[E Ak],[F Bp AV.length AY],[F Bv Ay.length As],[F qr AM.length AR],[F By AN.length AG],[F AO Aq.length AJ],[F none 0 0],[F AQ 257 ce]] 66:=A
 have fb:CR w.heap.size sb w Bp AV.length AY 1 (Al Ct AV):=ad.k
 have fc:CR w.heap.size sb w Bv Ay.length As 102 (Al Dd Ay):=ad.n
 have cm:CR w.heap.size sb w qr AM.length AR 38 (Al DY AM):=ad.r
 have cn:CR w.heap.size sb w By AN.length AG 1 (Al Ct AN):=ad.a
 have cp:CR w.heap.size sb w AO Aq.length AJ 1 (Al EP Aq):=ad.t
 have cq:CR w.heap.size sb w AQ 257 ce 32 (Al Ex Cp):=ad.e
 have fe:∀x∈Ay,G9 w.heap.size sb w x.s:=ad.ZM
 have fg:w.heap.size≤w.heap.size:=Be _
 have bh:∀k,(F AO Aq.length AJ).ownBlock=some k→k<w.heap.size:=fun k m=>(P.lt k m).2
 have u:w.ownsRow w.heap.size 173 2 (.slice none 0 0) 0 (Al Em []):=World.ownsRow_nil _ _ _ _
 have B:w.ownsRow w.heap.size 190 66 (.slice none 0 0) 0 (Al CA []):=World.ownsRow_nil _ _ _ _
 have ar:Z (F none 0 0) sb:=FL
 have ax:Ap (F AO Aq.length AJ) (.slice none 0 0):=fun k m h=>by cases h
 have aE:Ap (.slice none 0 0) (.slice none 0 0):=fun k m h=>by cases h
 have ae:AtR w.heap.size (F AO Aq.length AJ) (F AO Aq.length AJ):=AtR.refl _ _
 have S:Bd (E1 sb (F AO Aq.length AJ) (F none 0 0)) w w:=Bd.refl _ _
 have U:Cd w.heap.size sb w w:=Cd.refl _ _ _
 refine Bx SA D 130 ?_
 refine K<|N<|I D<|Bt D<|Am Cc 8 D<|AK Eo 8 A D D<|I D<|?_
 obtain⟨b1,au,rfl⟩:=Ca (cn.below U)
 obtain⟨aH,cr⟩:=getD_some (L:=AN) (j:=i) D (by omega)
 have db:=BJ En (cn.below U) cr (o:=au+i*1)
 refine Cn DK i (au+i*1) D D<|Cg AH (Dh [] (E aH) [] db D) D<|?_
 have ct:=ck aH (List.mem_of_getElem? cr)
 refine O D<|M<|G<|K<|N<|I D<|Bt D<|Am Cc 7 D<|AK Hb 7 A D D<|I D<|?_
 obtain⟨ay,av,rfl⟩:=Ca (cm.below U)
 obtain⟨H,cu⟩:=getD_some (L:=AM) (j:=aH) D (by omega)
 have dc:=BJ Ha (cm.below U) cu (o:=av+aH*38)
 refine Cn F_ aH (av+aH*38) D D<|D9 BV 0 7 [[E H.v],[E H.f],[E H.ZG],[E H.ZZ],[E H.r],[E H.c],bv H.s.l] dc D<|?_
 have fh:=cl H (List.mem_of_getElem? cu)
 refine BQ [[E 0],[E 0],[E 0],[E 0],[E 0],[E 0],Av 32] ?_
 intro af fi aT ad d X
 have fj:=F0 U aT
 have fk:=AP A aT
 have az:=BM P aT
 have aA:=BM u aT
 have aB:=BM B aT
 have S:=S.below X
 have A:=Q A X
 have P:=V P X
 have u:=V u X
 have B:=V B X
 have U:=Fo U X
 clear ad
 refine Bi 0 7 d D D ?_
 intro fl ad bK bj
 have S:=S.B1 bj
 have A:=Ag bj A (by omega)
 have P:=Ax P bj az
 have u:=Ax u bj aA
 have B:=Ax B bj aB
 have U:=Et U bj
 have d:=bK
 clear ad
 refine M<|G<|K<|N<|I D<|I D<|AS RH D (W1 (b:=sb) (z:=⟨wd,ge,AD,Ab,Ak,Bp,AY,AV,Bv,As,Ay,some ⟨ay,av,none⟩,AR,AM,some ⟨b1,au,none⟩,AG,AN,AO,AJ,Aq,AQ,ce,Cp⟩) (i:=i) U.size (ad.move U) A cd (by omega) bf) ?_
 rintro _ dd ⟨t15,rfl,a6⟩
 refine⟨_,D,?_⟩
 have S:=S.below a6
 have A:=Q A a6
 have P:=V P a6
 have u:=V u a6
 have B:=V B a6
 have d:=Q d a6
 have U:=Fo U a6
 refine O D<|M<|G<|K<|K<|N<|I D<|Dn D<|M<|G<|Ej D (fun de=>?_) fun de=>?_
 ·
  refine K<|N<|I D<|I D<|AS IJ D (Iw (p:=aH) (y:=((173:Nat):Int)) (Hx:=[E wd,E ge,E AD,E Ab,E Ak,F Bp AV.length AY,F Bv Ay.length As,F (some ⟨ay,av,none⟩) AM.length AR,F (some ⟨b1,au,none⟩) AN.length AG,F AO Aq.length AJ]) (Ho:=[F AQ 257 ce]) ⟨D,Gc (ss:=[[E wd],[E ge],[E AD],[E Ab],[E Ak],[F Bp AV.length AY],[F Bv Ay.length As],[F (some ⟨ay,av,none⟩) AM.length AR],[F (some ⟨b1,au,none⟩) AN.length AG],[F AO Aq.length AJ]]) (Jc.one D (Jc.one D (Jc.one D (Jc.one D (Jc.one D (Jc.one D (Jc.one D (Jc.one D (Jc.one D (Jc.one D Jc.nil))))))))))⟩ ⟨D,Gc (ss:=[[F AQ 257 ce]]) (Jc.one D Jc.nil)⟩ U.size (by omega) A u ag) ?_
  rintro _ cv ⟨cw,cx,rfl,df,dg,dh,cy,bL⟩
  refine⟨_,D,?_⟩
  have bq:Cd w.heap.size sb dd cv:=bL.JF U.size (fun k m=>m.elim (fun q=>.inr q) (fun q=>.inl (u.lt k q).1))
  have di:=(an.symm.at cy (fun k m=>(P.lt k m).2)).symm
  have fm:=aE.at cy (fun k m=>(B.lt k m).2)
  have P:=FA P bL (fun k m h=>h.elim (fun q=>al k m q) (fun q=>an k m q))
  have S:=S.trans bL (fun k m a3=>m.elim (fun q=>.inl q) (fun q=>absurd a3 (by have:=(u.lt k q).1;omega)))
  have A:Ai cv sb [[E wd],[E ge],[E AD],[E Ab],[E Ak],[F Bp AV.length AY],[F Bv Ay.length As],[F (some ⟨ay,av,none⟩) AM.length AR],[F (some ⟨b1,au,none⟩) AN.length AG],[F AO Aq.length AJ],[F cw (0+1) cx],[F AQ 257 ce]] 66:=df;have u:=dg;have ag:=dh
  refine M<|G<|AA<|AX<|?_
  intro a C
  refine Ec C D ?_
  have aY:AtR w.heap.size (F cw (0+1) cx) (.slice none 0 0):=fun k m=>.inr (u.lt k m).1
  exact⟨_,_,Aq,_,_,_,_,D,a0.next S A P (CB u An) al ag di ae aY (fun x aF=>.inl aF),by omega,fun h=>absurd h (by have:=trivial;omega),S,ae,aY⟩
 ·
  refine AE<|G<|K<|N<|I D<|I D<|I D<|AS LU D (N2 (b:=sb) (z:=⟨wd,ge,AD,Ab,Ak,Bp,AY,AV,Bv,As,Ay,some ⟨ay,av,none⟩,AR,AM,some ⟨b1,au,none⟩,AG,AN,AO,AJ,Aq,AQ,ce,Cp⟩) (i:=i) U.size (ad.move U) A (by omega) bf) ?_
  rintro _ fo ⟨bM,dj,rfl,a7⟩
  refine⟨_,D,?_⟩
  have S:=S.below a7
  have A:=Q A a7
  have P:=V P a7
  have u:=V u a7
  have B:=V B a7
  have d:=Q d a7
  have U:=Fo U a7
  dsimp only at dj
  refine A_ (q:=1) D D<|AT (fun _ C=>GG C (Bf:=[(0,(AB sb)),(1,(E (bM+1)))]) D (r:=flat [[AB sb],[E (bM+1)],[E 0],[F none 0 0],[F none 0 0],[Br false]]) (GI CP (ss:=[[Value.pointer none],[E 0],[E 0],[F none 0 0],[F none 0 0],[Br false]]) (by kernel_rfl) (places:=[(0,1),(1,1),(2,1),(3,1),(4,1),(5,1)]) (by kernel_rfl) (C2 [] [[Value.pointer none]] [[E 0],[E 0],[F none 0 0],[F none 0 0],[Br false]] [[AB sb]] D Jb.nil (Jb.one Jb.nil) (Jb.one Jb.nil) D (C2 [[AB sb]] [[E 0]] [[E 0],[F none 0 0],[F none 0 0],[Br false]] [[E (bM+1)]] D (Jb.one Jb.nil) (Jb.one Jb.nil) (Jb.one Jb.nil) D D))))<|CW D ?_
  intro ah fp aT ad g X
  have cz:=F0 U aT
  have fq:=AP A aT
  have aw:=BM P aT
  have aC:=BM u aT
  have aD:=BM B aT
  have fr:=AP d aT
  have S:=S.below X
  have A:=Q A X
  have P:=V P X
  have u:=V u X
  have B:=V B X
  have d:=Q d X
  have U:=Fo U X
  clear ad
  refine O D<|M<|G<|?_
  intro a C
  refine ES (fun a W=>∃C6,∃aa:Ed,Ao 130 a (Ja (Ja (Ja (Ja (Ja Je 0 (AB sb)) 1 (E i)) 4 (E aH)) 5 (AB af)) 7 (AB ah))∧C6≤AD∧CR w.heap.size sb w aa.p aa.L.length aa.c 66 (Al CA aa.L)∧(∀y∈aa.L,y.p<AD)∧aa.L.length≤13000*i∧Ai W sb [[E wd],[E ge],[E AD],[E Ab],[E Ak],[F Bp AV.length AY],[F Bv Ay.length As],[F (some ⟨ay,av,none⟩) AM.length AR],[F (some ⟨b1,au,none⟩) AN.length AG],[F AO Aq.length AJ],[F none 0 0],[F AQ 257 ce]] 66∧Cd w.heap.size sb w W∧W.ownsRow Aj 119 1 (.slice AO Aq.length AJ) Aq.length (Al EP Aq)∧W.ownsRow w.heap.size 173 2 (.slice none 0 0) 0 (Al Em ([]))∧W.ownsRow w.heap.size 190 66 (.slice none 0 0) 0 (Al CA ([]))∧Z (F AO Aq.length AJ) sb∧Z (F none 0 0) sb∧Z (F none 0 0) sb∧Ap (F AO Aq.length AJ) (F none 0 0)∧Ap (F AO Aq.length AJ) (F none 0 0)∧Ap (F none 0 0) (F none 0 0)∧AtR w.heap.size (F AO Aq.length AJ) (F AO Aq.length AJ)∧Bd (E1 sb (F AO Aq.length AJ) (F none 0 0)) w W∧Z (F AO Aq.length AJ) af∧Z (F none 0 0) af∧Z (F none 0 0) af∧Ai W af [[E H.v],[E H.f],[E H.ZG],[E H.ZZ],[E H.r],[E H.c],bv H.s.l] 131∧Ai W ah [[AB sb],[E C6],[E 0],[F aa.p aa.L.length aa.c],[F none 0 0],[Br false]] 148∧Z (F AO Aq.length AJ) ah∧Z (F none 0 0) ah∧Z (F none 0 0) ah) ?_ ?_
  ·
   revert a
   refine K<|N<|I D<|Dk (q:=(0:Nat)) D D<|M<|G<|Bl D (fun dk=>?_) fun dk=>?_
   ·
    refine N<|I D<|Bt D<|Am CP 1 D<|C_ 1 g D D ?_
    intro fs ad dm a8
    have S:=S.B1 a8
    have A:=Ag a8 A (by omega)
    have P:=Ax P a8 aw
    have u:=Ax u a8 aC
    have B:=Ax B a8 aD
    have d:=Ag a8 d (by omega)
    have U:=Et U a8
    clear ad
    refine M<|G<|?_
    intro a C
    exact⟨_,VB,At C,bf,⟨⟨Be _,.inl ⟨D,D,D⟩⟩,fun a aZ=>by cases aZ⟩,(fun y dn=>by cases dn),Nat.zero_le _,A,U,P,u,B,T al,T ag,T ar,AI an,AI ax,AI aE,ae,S,T az,T aA,T aB,d,dm,T aw,T aC,T aD⟩
   ·
    refine N<|I D<|I D<|Bt D<|Am Cc 9 D<|AK KC 9 A D D<|I D<|E' (q:=1) D D<|?_
    obtain⟨ft,cA,rfl⟩:=Ca (cp.below U)
    obtain⟨a9,bB⟩:=getD_some (L:=Aq) (j:=i - 1) D (by omega)
    have dp:=BJ K8 (cp.below U) bB (o:=cA+(i - 1)*1)
    refine Cn Ix (i - 1) (cA+(i - 1)*1) D D<|Cg Ds (Dh [] (F a9.p a9.L.length a9.c) [] dp D) D<|Bt D<|Am CP 3 D<|C_ 3 g D D ?_
    intro fu ad dq a_
    have S:=S.B1 a_
    have A:=Ag a_ A (by omega)
    have P:=Ax P a_ aw
    have u:=Ax u a_ aC
    have B:=Ax B a_ aD
    have d:=Ag a_ d (by omega)
    have U:=Et U a_
    clear ad
    refine M<|G<|?_
    intro a C
    exact⟨_,a9,At C,by omega,(bJ a9 (List.mem_of_getElem? bB)).v.Iy (.inl D),(bJ a9 (List.mem_of_getElem? bB)).p,bx a9 (List.mem_of_getElem? bB),A,U,P,u,B,T al,T ag,T ar,AI an,AI ax,AI aE,ae,S,T az,T aA,T aB,d,dq,T aw,T aC,T aD⟩
  ·
   rintro a fv ⟨C6,aa,C,cB,cC,cD,fw,A,U,P,u,B,al,ag,ar,an,ax,aE,ae,S,az,aA,aB,d,g,aw,aC,aD⟩
   revert a
   refine K<|N<|I D<|I D<|Bt D<|Am CP 1 D<|AK AH 1 g D D<|Bt D<|Am CP 2 D<|C_ 2 g D D ?_
   intro fx ad bK a'
   have S:=S.B1 a'
   have A:=Ag a' A (by omega)
   have P:=Ax P a' aw
   have u:=Ax u a' aC
   have B:=Ax B a' aD
   have d:=Ag a' d (by omega)
   have U:=Et U a'
   have g:=bK
   clear ad
   refine M<|G<|K<|K<|?_
   intro a C
   refine Gm (by kernel_rfl) (by kernel_rfl) ?_
   intro a4 ad X
   have S:=S.below X
   have A:=Q A X
   have P:=V P X
   have u:=V u X
   have B:=V B X
   have d:=Q d X
   have g:=Q g X
   have U:=Fo U X
   clear ad
   revert a
   refine Cx BV 4 D<|Dx AH 4 d D D<|?_
   by_cases cE:((H.r:Nat):Int)=((0:Nat):Int)
   ·
    refine J0 cE D D<|A3 D<|BI D D D<|Cx BV 6 D<|BI D D D<|Nj BZ 6 1 [bv H.s.l] d D<|BI D D D<|A3 D<|BI D D D<|Ee D<|BI D D D<|Cx Cc 11 D<|BI D D D<|Dx ID 11 A D D<|?_
    obtain⟨aS,aK,rfl⟩:=Ca (cq.below U)
    obtain⟨bC,dr⟩:=getD_some (L:=Cp) (j:=256) cj (by omega)
    have ds:=BJ G8 (cq.below U) dr (o:=aK+256*32)
    refine BI D D D<|C0 HF 256 (aK+256*32) D D<|BI D D D<|FG BZ 0 1 [bv bC.l] ds D<|?_
    by_cases cF:H.s.l=bC.l
    ·
     refine BI D D D<|Cz (fun _ C=>Mf C H.s.h bC.h D D false (by rw[decide_eq_true cF];rfl))<|G' D D<|Er<|G<|BE D<|AE<|G<|?_
     intro a C
     refine ES (fun a W=>∃aG aP ai aj ab aQ J R ak,∃Y:List Co,Ao 130 a (Ja (Ja (Ja (Ja Je 0 (AB sb)) 4 (E aH)) 5 (AB af)) 7 (AB ah))∧(∀x∈Y,x.p<AD)∧ak≤13000*i+12900∧(aP=false→ai=none∧ab=0∧aj=0∧aQ=[])∧(ab≤1∧(aP=true→1≤ab))∧W.ownsRow w.heap.size 173 2 (.slice ai ab aj) ab (Al Em aQ)∧W.ownsRow w.heap.size 190 66 (.slice J ak R) ak (Al CA Y)∧Ai W sb [[E wd],[E ge],[E AD],[E Ab],[E Ak],[F Bp AV.length AY],[F Bv Ay.length As],[F (some ⟨ay,av,none⟩) AM.length AR],[F (some ⟨b1,au,none⟩) AN.length AG],[F AO Aq.length AJ],[F ai ab aj],[F (some ⟨aS,aK,none⟩) 257 ce]] 66∧Cd w.heap.size sb w W∧W.ownsRow Aj 119 1 (.slice AO Aq.length AJ) Aq.length (Al EP Aq)∧Z (F AO Aq.length AJ) sb∧Z (F ai ab aj) sb∧Z (F J ak R) sb∧Ap (F AO Aq.length AJ) (F ai ab aj)∧Ap (F AO Aq.length AJ) (F J ak R)∧Ap (F ai ab aj) (F J ak R)∧AtR w.heap.size (F AO Aq.length AJ) (F AO Aq.length AJ)∧Bd (E1 sb (F AO Aq.length AJ) (F none 0 0)) w W∧Z (F AO Aq.length AJ) af∧Z (F ai ab aj) af∧Z (F J ak R) af∧Ai W af [[E H.v],[E H.f],[E H.ZG],[E H.ZZ],[E H.r],[E H.c],bv H.s.l] 131∧Z (F AO Aq.length AJ) ah∧Z (F ai ab aj) ah∧Z (F J ak R) ah∧Ai W ah [[AB sb],[E C6],[E aG],[F aa.p aa.L.length aa.c],[F J ak R],[Br aP]] 148) ?_ ?_
     ·
      revert a
      refine K<|N<|Am BV 4 D<|AK AH 4 d D D<|Fi (q:=(0:Nat)) D D<|M<|G<|E7 D (fun dt=>?_) fun dt=>?_
      ·
       refine N<|I D<|Am BV 4 D<|AK AH 4 d D D<|I D<|Am BV 5 D<|AK AH 5 d D D<|Am BV 6 D<|Eu BZ 6 1 [bv H.s.l] d D<|AT (fun _ C=>CE C (Bf:=[]) D (v:=Value.agg (flat [Av 32])) (run_build _ _ _ _ (by kernel_rfl)))<|?_
       intro aR ao
       have br:af<a4.heap.size:=Ar d
       have du:ah<a4.heap.size:=Ar g
       refine Bj D (fun Aa aq=>B0 ao #[AB ah,E H.r,E aH,E H.c,Value.agg (flat [bv H.s.l]),Value.agg (flat [Av 32]),E 0] La (Sn aH (z:=⟨wd,ge,AD,Ab,Ak,Bp,AY,AV,Bv,As,Ay,some ⟨ay,av,none⟩,AR,AM,some ⟨b1,au,none⟩,AG,AN,AO,AJ,Aq,some ⟨aS,aK,none⟩,ce,Cp⟩) (Aj:=w.heap.size) (b:=ah) (sb:=sb) (Bz:=aa.L) (EF:=[]) (Ey:=[]) (n:=0) (k:=Bh) (p:=H.r) (cnt:=H.c) (sm:=H.s) U.size (cc.move U) (ad.move U) (cC.move U) cD (by omega) bf (fun x aF=>by cases aF) cB (Nat.zero_le _) (Nat.le_of_lt ct) (Nat.zero_le _) (fun j _ aI=>O_ j aI) (by have:=LW aa.L Bh 0;dsimp only;omega) ⟨cz,bg,A,g,World.ownsRow_nil _ _ _ _,World.ownsRow_nil _ _ _ _,(fun k m=>by cases m),(fun k m=>by cases m),(fun k m=>by cases m)⟩) ?_)
       rintro _ dv ⟨fy,bN,bO,bP,fz,cG,cH,cI,fA,t65,fB,rfl,cJ,dw,dx,fC,cK,dy,⟨_,_,dz,dA,dB,dC,dD,dE,dF⟩,dG,dH,bQ,dI⟩
       refine⟨_,D,?_⟩
       intro a C
       have d:=bQ.Ag d (Im (by omega) (by omega) (fun j aI=>by cases aI) (fun j aI=>by cases aI))
       have dJ:=fun k m=>(P.lt k m).2
       have P:=FA P bQ (fun k m h=>by have bs:=bh k m;rcases h with h|h|h|h;exact al k m h;omega;cases h;cases h)
       have S:=S.trans bQ (fun k m a3=>by rcases m with h|h|h|h;exact .inl h;omega;cases h;cases h)
       have U:=U.G3 dI
       have A:Ai dv sb [[E wd],[E ge],[E AD],[E Ab],[E Ak],[F Bp AV.length AY],[F Bv Ay.length As],[F (some ⟨ay,av,none⟩) AM.length AR],[F (some ⟨b1,au,none⟩) AN.length AG],[F AO Aq.length AJ],[F bN bO bP],[F (some ⟨aS,aK,none⟩) 257 ce]] 66:=dz;have g:=dA
       have u:=dB;have B:=dC
       have ag:Z (F bN bO bP) sb:=Eg u bg
       have aA:=Cq (v:=.slice none 0 0) (k:=af) (fun j aI=>by cases aI) dG (show af<a4.heap.size from br)
       have ar:Z (F cG cH cI) sb:=Eg B bg
       have aB:=Cq (v:=.slice none 0 0) (k:=af) (fun j aI=>by cases aI) dH (show af<a4.heap.size from br)
       have an:Ap (F AO Aq.length AJ) (F bN bO bP):=fun k m e=>by have bs:=bh k m;have bR:=(u.lt k e).1;omega
       have ax:Ap (F AO Aq.length AJ) (F cG cH cI):=fun k m e=>by have bs:=bh k m;have bR:=(B.lt k e).1;omega
       dsimp only at cJ dw
       refine aq _ _ ?_;revert a
       refine M<|G<|?_
       intro a C
       exact⟨_,_,_,_,_,_,_,_,_,_,At C,cJ,by have:=LW aa.L Bh 0;have:=dx.1;omega,dy,⟨by have:=cK.1;omega,fun q=>by have:=cK.2 q;omega⟩,u,B,A,U,P,T al,T ag,T ar,AI an,AI ax,AI dF,ae,S,T az,T aA,T aB,d,T aw,T dD,T dE,g⟩
      ·
       refine AE<|G<|?_
       intro a C
       exact⟨_,_,_,_,_,_,_,_,_,_,At C,(fun x aF=>by cases aF),Nat.zero_le _,fun _=>⟨D,D,D,D⟩,⟨Nat.zero_le _,fun h=>by cases h⟩,u,B,A,U,P,T al,T ag,T ar,AI an,AI ax,AI aE,ae,S,T az,T aA,T aB,d,T aw,T aC,T aD,g⟩
     ·
      rintro a dK ⟨aG,aP,ai,aj,ab,aQ,J,R,ak,Y,C,bS,dL,ba,bt,u,B,A,U,P,al,ag,ar,an,ax,aE,ae,S,az,aA,aB,d,aw,aC,aD,g⟩
      refine ES (fun a W=>∃aJ ai aj ab aQ,Ao 130 a (Ja (Ja (Ja Je 0 (AB sb)) 4 (E aH)) 7 (AB ah))∧(aJ=false→ai=none∧ab=0∧aj=0∧aQ=[])∧(ab≤1∧(aJ=true→1≤ab))∧W.ownsRow w.heap.size 173 2 (.slice ai ab aj) ab (Al Em aQ)∧W.ownsRow w.heap.size 190 66 (.slice J ak R) ak (Al CA Y)∧Ai W sb [[E wd],[E ge],[E AD],[E Ab],[E Ak],[F Bp AV.length AY],[F Bv Ay.length As],[F (some ⟨ay,av,none⟩) AM.length AR],[F (some ⟨b1,au,none⟩) AN.length AG],[F AO Aq.length AJ],[F ai ab aj],[F (some ⟨aS,aK,none⟩) 257 ce]] 66∧Cd w.heap.size sb w W∧W.ownsRow Aj 119 1 (.slice AO Aq.length AJ) Aq.length (Al EP Aq)∧Z (F AO Aq.length AJ) sb∧Z (F ai ab aj) sb∧Z (F J ak R) sb∧Ap (F AO Aq.length AJ) (F ai ab aj)∧Ap (F AO Aq.length AJ) (F J ak R)∧Ap (F ai ab aj) (F J ak R)∧AtR w.heap.size (F AO Aq.length AJ) (F AO Aq.length AJ)∧Bd (E1 sb (F AO Aq.length AJ) (F none 0 0)) w W∧Z (F AO Aq.length AJ) af∧Z (F ai ab aj) af∧Z (F J ak R) af∧Ai W af [[E H.v],[E H.f],[E H.ZG],[E H.ZZ],[E H.r],[E H.c],bv H.s.l] 131∧Z (F AO Aq.length AJ) ah∧Z (F ai ab aj) ah∧Z (F J ak R) ah∧Ai W ah [[AB sb],[E C6],[E aG],[F aa.p aa.L.length aa.c],[F J ak R],[Br aJ]] 148) ?_ ?_
      ·
       revert a
       refine K<|N<|I D<|Bt D<|Am CP 5 D<|?_
       rcases Bool.eq_false_or_eq_true aP with bD|bD
       ·
        refine AT (fun _ C=>Fk (Cl C D FP D [[AB sb],[E C6],[E aG],[F aa.p aa.L.length aa.c],[F J ak R]] (Br aP) [] g D) (congrArg Value.bool bD))<|Dn D<|I D<|Ae D D D D<|Ae D D D D<|Ae D D D D<|Ae D D D D<|Ae D D D D<|Ae D D D D<|Ba D D<|M<|G<|BE D<|AE<|G<|?_
        intro a C
        exact⟨_,_,_,_,_,At C,ba,bt,u,B,A,U,P,T al,T ag,T ar,AI an,AI ax,AI aE,ae,S,T az,T aA,T aB,d,T aw,T aC,T aD,g⟩
       ·
        refine AT (fun _ C=>Fk (Cl C D FP D [[AB sb],[E C6],[E aG],[F aa.p aa.L.length aa.c],[F J ak R]] (Br aP) [] g D) (congrArg Value.bool bD))<|Dn D<|I D<|Ad D D D<|I D<|Ad D D D<|Bt D<|Ad D D D<|Am CP 2 D<|Ad D D D<|AK AH 2 g D D<|Ad D D D<|I D<|?_
        by_cases cL:((aG:Nat):Int)=((aH:Nat):Int)
        ·
         refine Ad D D D<|Dr cL D D<|Bn D D<|M<|G<|BE D<|AE<|G<|?_
         intro a C
         exact⟨_,_,_,_,_,At C,ba,bt,u,B,A,U,P,T al,T ag,T ar,AI an,AI ax,AI aE,ae,S,T az,T aA,T aB,d,T aw,T aC,T aD,g⟩
        ·
         refine Ad D D D<|F6 cL D D<|Bn D D<|M<|G<|BS D<|K<|?_
         have dM:ab=0:=(ba bD).2.1
         refine N<|I D<|I D<|Bt D<|Am CP 2 D<|AK AH 2 g D D<|AS IJ D (Iw (p:=aG) (y:=((172:Nat):Int)) (Hx:=[E wd,E ge,E AD,E Ab,E Ak,F Bp AV.length AY,F Bv Ay.length As,F (some ⟨ay,av,none⟩) AM.length AR,F (some ⟨b1,au,none⟩) AN.length AG,F AO Aq.length AJ]) (Ho:=[F (some ⟨aS,aK,none⟩) 257 ce]) ⟨D,Gc (ss:=[[E wd],[E ge],[E AD],[E Ab],[E Ak],[F Bp AV.length AY],[F Bv Ay.length As],[F (some ⟨ay,av,none⟩) AM.length AR],[F (some ⟨b1,au,none⟩) AN.length AG],[F AO Aq.length AJ]]) (Jc.one D (Jc.one D (Jc.one D (Jc.one D (Jc.one D (Jc.one D (Jc.one D (Jc.one D (Jc.one D (Jc.one D Jc.nil))))))))))⟩ ⟨D,Gc (ss:=[[F (some ⟨aS,aK,none⟩) 257 ce]]) (Jc.one D Jc.nil)⟩ U.size (by omega) A u ag) ?_
         rintro _ cM ⟨dN,dO,rfl,dP,dQ,dR,bE,bk⟩
         refine⟨_,D,?_⟩
         have bq:Cd w.heap.size sb dK cM:=bk.JF U.size (fun k m=>m.elim (fun q=>.inr q) (fun q=>.inl (u.lt k q).1))
         have dS:=Cq aA bE (Ar d)
         have cN:=Cq aC bE (Ar g)
         have d:=bk.Ag d (by rintro(h|h);exact absurd h (by omega);exact aA _ h D)
         have g:=bk.Ag g (by rintro(h|h);exact absurd h (by omega);exact aC _ h D)
         have dT:=(an.symm.at bE (fun k m=>(P.lt k m).2)).symm
         have dU:=aE.at bE (fun k m=>(B.lt k m).2)
         have B:=FA B bk (fun k m h=>h.elim (fun q=>ar k m q) (fun q=>aE k q m))
         have P:=FA P bk (fun k m h=>h.elim (fun q=>al k m q) (fun q=>an k m q))
         have S:=S.trans bk (fun k m a3=>m.elim (fun q=>.inl q) (fun q=>absurd a3 (by have:=(u.lt k q).1;omega)))
         have U:=U.G3 bq
         have A:Ai cM sb [[E wd],[E ge],[E AD],[E Ab],[E Ak],[F Bp AV.length AY],[F Bv Ay.length As],[F (some ⟨ay,av,none⟩) AM.length AR],[F (some ⟨b1,au,none⟩) AN.length AG],[F AO Aq.length AJ],[F dN (ab+1) dO],[F (some ⟨aS,aK,none⟩) 257 ce]] 66:=dP;have u:=dQ;have ag:=dR
         refine M<|G<|N<|I D<|Bt D<|Am CP 5 D<|C_ 5 g D D ?_
         intro fD ad dV bb
         have S:=S.B1 bb
         have u:=Ax u bb cN
         have B:=Ax B bb aD
         have A:=Ag bb A (by omega)
         have P:=Ax P bb aw
         have d:=Ag bb d (by omega)
         have U:=Et U bb
         clear ad
         refine M<|G<|?_
         intro a C
         exact⟨_,_,_,_,_,At C,(fun h=>by cases h),⟨by omega,fun _=>by omega⟩,u,B,A,U,P,T al,T ag,T ar,AI dT,AI ax,AI dU,ae,S,T az,T dS,T aB,d,T aw,T cN,T aD,dV⟩
      ·
       rintro a fE ⟨aJ,ai,aj,ab,aQ,C,bT,bu,u,B,A,U,P,al,ag,ar,an,ax,aE,ae,S,az,aA,aB,d,aw,aC,aD,g⟩
       revert a
       refine K<|N<|I D<|Bt D<|Am CP 5 D<|AK FP 5 g D D<|Dn D<|M<|G<|Ej D (fun bU=>?_) fun bU=>?_
       ·
        have bV:aJ=false:=by simpa using bU
        obtain⟨rfl,rfl,rfl,rfl⟩:=bT bV
        have bW:=DF D3 (by decide) B
        subst bW
        have dW:=View.own B
        intro a C
        refine FX (fun a W=>∃aL aM,Ao 130 a Je∧W.ownsRow w.heap.size 173 2 (.slice none 0 0) 0 (Al Em ([]))∧W.ownsRow w.heap.size 190 66 (.slice J Y.length R) Y.length (Al CA Y)∧Z (F aL (Aq.length+1) aM) sb∧Z (F none 0 0) sb∧Z (F J Y.length R) sb∧Ap (F aL (Aq.length+1) aM) (F none 0 0)∧Ap (F aL (Aq.length+1) aM) (F J Y.length R)∧Ap (F none 0 0) (F J Y.length R)∧AtR w.heap.size (F aL (Aq.length+1) aM) (F AO Aq.length AJ)∧Bd (E1 sb (F AO Aq.length AJ) (F none 0 0)) w W∧Z (F aL (Aq.length+1) aM) af∧Z (F none 0 0) af∧Z (F J Y.length R) af∧Ai W af [[E H.v],[E H.f],[E H.ZG],[E H.ZZ],[E H.r],[E H.c],bv H.s.l] 131∧Z (F aL (Aq.length+1) aM) ah∧Z (F none 0 0) ah∧Z (F J Y.length R) ah∧Ai W ah [[AB sb],[E C6],[E aG],[F aa.p aa.L.length aa.c],[F J Y.length R],[Br aJ]] 148∧W.ownsRow Aj 119 1 (.slice aL (Aq.length+1) aM) (Aq.length+1) (Al EP (Aq++[(⟨J,Y,R⟩:Ed)]))∧Ai W sb [[E wd],[E ge],[E AD],[E Ab],[E Ak],[F Bp AV.length AY],[F Bv Ay.length As],[F (some ⟨ay,av,none⟩) AM.length AR],[F (some ⟨b1,au,none⟩) AN.length AG],[F aL (Aq.length+1) aM],[F none 0 0],[F (some ⟨aS,aK,none⟩) 257 ce]] 66) ?_ ?_
        ·
         refine C7 (fun W=>Ai W af [[E H.v],[E H.f],[E H.ZG],[E H.ZZ],[E H.r],[E H.c],bv H.s.l] 131∧Ai W ah [[AB sb],[E C6],[E aG],[F aa.p aa.L.length aa.c],[F J Y.length R],[Br aJ]] 148) ?_
         intro fF ad X
         have S:=S.below X
         have u:=V u X
         have B:=V B X
         have A:=Q A X
         have P:=V P X
         have d:=Q d X
         have g:=Q g X
         clear ad
         revert a
         refine Bk 0 D D ⟨d,g⟩<|Bk 1 D D ⟨d,g⟩<|CF 2 D D ⟨d,g⟩<|BW 3 D Cc 9 D ⟨d,g⟩<|Bk 5 D D ⟨d,g⟩<|CF 6 D D ⟨d,g⟩<|BW 7 D CP 4 D ⟨d,g⟩<|A5 8 D (fun W bX a C=>by obtain⟨d,g⟩:=bX;exact Cl C D Ds D [[AB sb],[E C6],[E aG],[F aa.p aa.L.length aa.c]] (F J Y.length R) [[Br aJ]] g D) ⟨d,g⟩<|?_
         intro aR ao
         refine EW 4 9 5 D D D D ?_ ?_
         ·
          intro Aa aq
          refine DI ao D (Cl ao D KC D [[E wd],[E ge],[E AD],[E Ab],[E Ak],[F Bp AV.length AY],[F Bv Ay.length As],[F (some ⟨ay,av,none⟩) AM.length AR],[F (some ⟨b1,au,none⟩) AN.length AG]] (F AO Aq.length AJ) [[F none 0 0],[F (some ⟨aS,aK,none⟩) 257 ce]] A D) ?_
          intro a C
          refine aq _ _ ⟨d,g⟩ ?_;revert a
          intro aR ao
          refine A8 9 4 D D ?_
          intro Aa aq
          refine Gh ao D Ix (v:=(F J Y.length R)) D (cs:=#[F J Y.length R]) D D (Nat.le_of_ble_eq_true D) ?_
          intro a fG C ad dX X
          have S:=S.below X
          have u:=V u X
          have B:=V B X
          have A:=Q A X
          have P:=V P X
          have d:=Q d X
          have g:=Q g X
          clear ad
          refine aq _ _ ⟨d,g⟩ ?_;revert a
          intro aR ao
          refine A8 10 3 D D ?_
          intro Aa aq
          refine BK ao Ix P dX (by simp[Value.oneCell']) (Bs An S.size) (Aq.length+1) (CC Aq (⟨J,Y,R⟩:Ed) D (K8 _)) ?_
          intro a aL aM fH C bY aU
          have bc:=S.size
          have dY:=an.BR aU (fun k m=>(u.lt k m).2)
          have dZ:=ax.BR aU (fun k m=>(B.lt k m).2)
          have cO:=A9 aU al (Ar A)
          have d_:=A9 aU az (Ar d)
          have d':=A9 aU aw (Ar g)
          have S:=S.DB aU ae (fun _ q=>Or.inr (Or.inl q))
          have u:=Bm u aU an.symm
          have B:=Bm B aU ax.symm
          have A:=A' A aU al
          have d:=A' d aU az
          have g:=A' g aU aw
          have ae:=ae.C9 aU bc
          refine aq _ _ ⟨d,g⟩ ?_;revert a
          refine CF 11 D D ⟨d,g⟩<|BW 12 D Cc 9 D ⟨d,g⟩<|?_
          intro aR ao
          refine A8 13 0 D D ?_
          intro Aa aq
          refine DM ao 9 A D D ?_
          intro a fI C ad ea bl
          have S:=S.B1 bl
          have u:=Ax u bl ag
          have B:=Ax B bl ar
          have d:=Ag bl d (by omega)
          have g:=Ag bl g (by omega)
          have bY:=Ax bY bl cO
          clear ad
          refine aq _ _ ⟨d,g⟩ ?_;revert a
          refine B_<|G<|?_
          intro a C
          exact⟨aL,aM,At C,u,B,cO,ag,ar,dY,dZ,aE,ae,S,d_,aA,aB,d,d',aC,aD,g,bY,ea⟩
         ·
          intro Aa aq
          refine Gh ao D Ix (v:=(F J Y.length R)) D (cs:=#[F J Y.length R]) D D (Nat.le_of_ble_eq_true D) ?_
          intro a fJ C ad eb X
          have S:=S.below X
          have u:=V u X
          have B:=V B X
          have A:=Q A X
          have P:=V P X
          have d:=Q d X
          have g:=Q g X
          clear ad
          refine aq _ _ ⟨d,g⟩ ?_;revert a
          intro aR ao
          refine A8 4 4 D D ?_
          intro Aa aq
          refine DI ao D (Cl ao D KC D [[E wd],[E ge],[E AD],[E Ab],[E Ak],[F Bp AV.length AY],[F Bv Ay.length As],[F (some ⟨ay,av,none⟩) AM.length AR],[F (some ⟨b1,au,none⟩) AN.length AG]] (F AO Aq.length AJ) [[F none 0 0],[F (some ⟨aS,aK,none⟩) 257 ce]] A D) ?_
          intro a C
          refine aq _ _ ⟨d,g⟩ ?_;revert a
          intro aR ao
          refine A8 10 3 D D ?_
          intro Aa aq
          refine BK ao Ix P eb (by simp[Value.oneCell']) (Bs An S.size) (Aq.length+1) (CC Aq (⟨J,Y,R⟩:Ed) D (K8 _)) ?_
          intro a ec ed fK C bZ aV
          have bc:=S.size
          have ee:=an.BR aV (fun k m=>(u.lt k m).2)
          have ef:=ax.BR aV (fun k m=>(B.lt k m).2)
          have cP:=A9 aV al (Ar A)
          have eg:=A9 aV az (Ar d)
          have eh:=A9 aV aw (Ar g)
          have S:=S.DB aV ae (fun _ q=>Or.inr (Or.inl q))
          have u:=Bm u aV an.symm
          have B:=Bm B aV ax.symm
          have A:=A' A aV al
          have d:=A' d aV az
          have g:=A' g aV aw
          have ae:=ae.C9 aV bc
          refine aq _ _ ⟨d,g⟩ ?_;revert a
          refine CF 11 D D ⟨d,g⟩<|BW 12 D Cc 9 D ⟨d,g⟩<|?_
          intro aR ao
          refine A8 13 0 D D ?_
          intro Aa aq
          refine DM ao 9 A D D ?_
          intro a fL C ad ei bm
          have S:=S.B1 bm
          have u:=Ax u bm ag
          have B:=Ax B bm ar
          have d:=Ag bm d (by omega)
          have g:=Ag bm g (by omega)
          have bZ:=Ax bZ bm cP
          clear ad
          refine aq _ _ ⟨d,g⟩ ?_;revert a
          refine B_<|G<|?_
          intro a C
          exact⟨ec,ed,At C,u,B,cP,ag,ar,ee,ef,aE,ae,S,eg,aA,aB,d,eh,aC,aD,g,bZ,ei⟩
        ·
         rintro a cQ ⟨aL,aM,C,u,B,al,ag,ar,an,ax,aE,ae,S,az,aA,aB,d,aw,aC,aD,g,P,A⟩
         refine FD ?_
         refine Ec C D ?_
         have a5:(Aq++[(⟨J,Y,R⟩:Ed)]).length=Aq.length+1:=by simp
         have b0:cQ.ownsRow Aj 119 1 (.slice aL (Aq++[(⟨J,Y,R⟩:Ed)]).length aM) (Aq++[(⟨J,Y,R⟩:Ed)]).length (Al EP (Aq++[(⟨J,Y,R⟩:Ed)])):=HO a5.symm P
         have b2:∀k,(Value.slice aL (Aq++[(⟨J,Y,R⟩:Ed)]).length aM).ownBlock=some k→k≠sb:=T al
         have bw:AtR w.heap.size (.slice aL (Aq++[(⟨J,Y,R⟩:Ed)]).length aM) (.slice AO Aq.length AJ):=by rw[a5];exact ae
         have b3:Ap (.slice aL (Aq++[(⟨J,Y,R⟩:Ed)]).length aM) (.slice none 0 0):=fun k m h=>by cases h
         have b4:Ai cQ sb [[E wd],[E ge],[E AD],[E Ab],[E Ak],[F Bp AV.length AY],[F Bv Ay.length As],[F (some ⟨ay,av,none⟩) AM.length AR],[F (some ⟨b1,au,none⟩) AN.length AG],[F aL ((Aq++[(⟨J,Y,R⟩:Ed)]).length) aM],[F none 0 0],[F (some ⟨aS,aK,none⟩) 257 ce]] 66:=by rw[a5];exact A
         exact⟨_,_,_,none,0,0,[],D,a0.next S b4 b0 (World.ownsRow_nil _ _ _ _) b2 (fun k m=>by cases m) b3 bw (AtR.refl _ _) (fun x aF=>(List.mem_append.1 aF).elim .inl (fun q=>.inr (by simp at q;subst q;exact⟨⟨View.own B,fun a aZ h=>by replace aZ:J=some a:=aZ;rcases h with h|h|h;exact ar a.block (by rw[aZ];rfl) h;exact(AI ax:Ap _ (.slice J Y.length R)) a.block h (by rw[aZ];rfl);cases h⟩,bS⟩))),Nat.zero_le _,fun _=>⟨rfl,rfl,rfl,by rw[a5];omega,Gn (fun x aF=>Bs (bx x aF) (by omega))⟩,S,bw,AtR.refl _ _⟩
       ·
        have b5:aJ=true:=by simpa using bU
        refine AE<|?_
        intro a C
        refine FD ?_
        refine Ec C D ?_
        have aY:AtR w.heap.size (F ai ab aj) (.slice none 0 0):=fun k m=>.inr (u.lt k m).1
        exact⟨_,_,Aq,_,_,_,_,D,a0.next S A P (CB u An) al ag an ae aY (fun x aF=>.inl aF),bu.1,fun h=>absurd h (by have:=bu.2 b5;omega),S,ae,aY⟩
    ·
     refine BI D D D<|Cz (fun _ C=>Mf C H.s.h bC.h D D true (by rw[decide_eq_false cF];rfl))<|G' D D<|Er<|G<|BS D<|K<|N<|I D<|I D<|AS Tryz.func57 D (Iw (p:=aH) (y:=((171:Nat):Int)) (Hx:=[E wd,E ge,E AD,E Ab,E Ak,F Bp AV.length AY,F Bv Ay.length As,F (some ⟨ay,av,none⟩) AM.length AR,F (some ⟨b1,au,none⟩) AN.length AG,F AO Aq.length AJ]) (Ho:=[F (some ⟨aS,aK,none⟩) 257 ce]) ⟨D,Gc (ss:=[[E wd],[E ge],[E AD],[E Ab],[E Ak],[F Bp AV.length AY],[F Bv Ay.length As],[F (some ⟨ay,av,none⟩) AM.length AR],[F (some ⟨b1,au,none⟩) AN.length AG],[F AO Aq.length AJ]]) (Jc.one D (Jc.one D (Jc.one D (Jc.one D (Jc.one D (Jc.one D (Jc.one D (Jc.one D (Jc.one D (Jc.one D Jc.nil))))))))))⟩ ⟨D,Gc (ss:=[[F (some ⟨aS,aK,none⟩) 257 ce]]) (Jc.one D Jc.nil)⟩ U.size (by omega) A u ag) ?_
     rintro _ cR ⟨cS,cT,rfl,ej,ek,en,cU,b6⟩
     refine⟨_,D,?_⟩
     have bq:Cd w.heap.size sb a4 cR:=b6.JF U.size (fun k m=>m.elim (fun q=>.inr q) (fun q=>.inl (u.lt k q).1))
     have eo:=(an.symm.at cU (fun k m=>(P.lt k m).2)).symm
     have fM:=aE.at cU (fun k m=>(B.lt k m).2)
     have P:=FA P b6 (fun k m h=>h.elim (fun q=>al k m q) (fun q=>an k m q))
     have S:=S.trans b6 (fun k m a3=>m.elim (fun q=>.inl q) (fun q=>absurd a3 (by have:=(u.lt k q).1;omega)))
     have A:Ai cR sb [[E wd],[E ge],[E AD],[E Ab],[E Ak],[F Bp AV.length AY],[F Bv Ay.length As],[F (some ⟨ay,av,none⟩) AM.length AR],[F (some ⟨b1,au,none⟩) AN.length AG],[F AO Aq.length AJ],[F cS (0+1) cT],[F (some ⟨aS,aK,none⟩) 257 ce]] 66:=ej;have u:=ek;have ag:=en
     refine M<|G<|AA<|AX<|?_
     intro a C
     refine Ec C D ?_
     have aY:AtR w.heap.size (F cS (0+1) cT) (.slice none 0 0):=fun k m=>.inr (u.lt k m).1
     exact⟨_,_,Aq,_,_,_,_,D,a0.next S A P (CB u An) al ag eo ae aY (fun x aF=>.inl aF),by omega,fun h=>absurd h (by have:=trivial;omega),S,ae,aY⟩
   ·
    refine Kc cE D D<|A3 D<|Bo D D D D<|Bo D D D D<|Bo D D D D<|Bo D D D D<|Bo D D D D<|Bo D D D D<|Bo D D D D<|Bo D D D D<|Bo D D D D<|GU D D<|Er<|G<|BE D<|AE<|G<|?_
    intro a C
    refine ES (fun a W=>∃aG aP ai aj ab aQ J R ak,∃Y:List Co,Ao 130 a (Ja (Ja (Ja (Ja Je 0 (AB sb)) 4 (E aH)) 5 (AB af)) 7 (AB ah))∧(∀x∈Y,x.p<AD)∧ak≤13000*i+12900∧(aP=false→ai=none∧ab=0∧aj=0∧aQ=[])∧(ab≤1∧(aP=true→1≤ab))∧W.ownsRow w.heap.size 173 2 (.slice ai ab aj) ab (Al Em aQ)∧W.ownsRow w.heap.size 190 66 (.slice J ak R) ak (Al CA Y)∧Ai W sb [[E wd],[E ge],[E AD],[E Ab],[E Ak],[F Bp AV.length AY],[F Bv Ay.length As],[F (some ⟨ay,av,none⟩) AM.length AR],[F (some ⟨b1,au,none⟩) AN.length AG],[F AO Aq.length AJ],[F ai ab aj],[F AQ 257 ce]] 66∧Cd w.heap.size sb w W∧W.ownsRow Aj 119 1 (.slice AO Aq.length AJ) Aq.length (Al EP Aq)∧Z (F AO Aq.length AJ) sb∧Z (F ai ab aj) sb∧Z (F J ak R) sb∧Ap (F AO Aq.length AJ) (F ai ab aj)∧Ap (F AO Aq.length AJ) (F J ak R)∧Ap (F ai ab aj) (F J ak R)∧AtR w.heap.size (F AO Aq.length AJ) (F AO Aq.length AJ)∧Bd (E1 sb (F AO Aq.length AJ) (F none 0 0)) w W∧Z (F AO Aq.length AJ) af∧Z (F ai ab aj) af∧Z (F J ak R) af∧Ai W af [[E H.v],[E H.f],[E H.ZG],[E H.ZZ],[E H.r],[E H.c],bv H.s.l] 131∧Z (F AO Aq.length AJ) ah∧Z (F ai ab aj) ah∧Z (F J ak R) ah∧Ai W ah [[AB sb],[E C6],[E aG],[F aa.p aa.L.length aa.c],[F J ak R],[Br aP]] 148) ?_ ?_
    ·
     revert a
     refine K<|N<|Am BV 4 D<|AK AH 4 d D D<|Fi (q:=(0:Nat)) D D<|M<|G<|E7 D (fun ep=>?_) fun ep=>?_
     ·
      refine N<|I D<|Am BV 4 D<|AK AH 4 d D D<|I D<|Am BV 5 D<|AK AH 5 d D D<|Am BV 6 D<|Eu BZ 6 1 [bv H.s.l] d D<|AT (fun _ C=>CE C (Bf:=[]) D (v:=Value.agg (flat [Av 32])) (run_build _ _ _ _ (by kernel_rfl)))<|?_
      intro aR ao
      have br:af<a4.heap.size:=Ar d
      have du:ah<a4.heap.size:=Ar g
      refine Bj D (fun Aa aq=>B0 ao #[AB ah,E H.r,E aH,E H.c,Value.agg (flat [bv H.s.l]),Value.agg (flat [Av 32]),E 0] La (Sn aH (z:=⟨wd,ge,AD,Ab,Ak,Bp,AY,AV,Bv,As,Ay,some ⟨ay,av,none⟩,AR,AM,some ⟨b1,au,none⟩,AG,AN,AO,AJ,Aq,AQ,ce,Cp⟩) (Aj:=w.heap.size) (b:=ah) (sb:=sb) (Bz:=aa.L) (EF:=[]) (Ey:=[]) (n:=0) (k:=Bh) (p:=H.r) (cnt:=H.c) (sm:=H.s) U.size (cc.move U) (ad.move U) (cC.move U) cD (by omega) bf (fun x aF=>by cases aF) cB (Nat.zero_le _) (Nat.le_of_lt ct) (Nat.zero_le _) (fun j _ aI=>O_ j aI) (by have:=LW aa.L Bh 0;dsimp only;omega) ⟨cz,bg,A,g,World.ownsRow_nil _ _ _ _,World.ownsRow_nil _ _ _ _,(fun k m=>by cases m),(fun k m=>by cases m),(fun k m=>by cases m)⟩) ?_)
      rintro _ er ⟨fN,b7,b8,b9,fO,cV,cW,cX,fP,t137,fQ,rfl,cY,et,eu,fR,cZ,ev,⟨_,_,ew,ey,ez,eA,eB,eC,eD⟩,eE,eF,b_,eG⟩
      refine⟨_,D,?_⟩
      intro a C
      have d:=b_.Ag d (Im (by omega) (by omega) (fun j aI=>by cases aI) (fun j aI=>by cases aI))
      have dJ:=fun k m=>(P.lt k m).2
      have P:=FA P b_ (fun k m h=>by have bs:=bh k m;rcases h with h|h|h|h;exact al k m h;omega;cases h;cases h)
      have S:=S.trans b_ (fun k m a3=>by rcases m with h|h|h|h;exact .inl h;omega;cases h;cases h)
      have U:=U.G3 eG
      have A:Ai er sb [[E wd],[E ge],[E AD],[E Ab],[E Ak],[F Bp AV.length AY],[F Bv Ay.length As],[F (some ⟨ay,av,none⟩) AM.length AR],[F (some ⟨b1,au,none⟩) AN.length AG],[F AO Aq.length AJ],[F b7 b8 b9],[F AQ 257 ce]] 66:=ew;have g:=ey
      have u:=ez;have B:=eA
      have ag:Z (F b7 b8 b9) sb:=Eg u bg
      have aA:=Cq (v:=.slice none 0 0) (k:=af) (fun j aI=>by cases aI) eE (show af<a4.heap.size from br)
      have ar:Z (F cV cW cX) sb:=Eg B bg
      have aB:=Cq (v:=.slice none 0 0) (k:=af) (fun j aI=>by cases aI) eF (show af<a4.heap.size from br)
      have an:Ap (F AO Aq.length AJ) (F b7 b8 b9):=fun k m e=>by have bs:=bh k m;have bR:=(u.lt k e).1;omega
      have ax:Ap (F AO Aq.length AJ) (F cV cW cX):=fun k m e=>by have bs:=bh k m;have bR:=(B.lt k e).1;omega
      dsimp only at cY et
      refine aq _ _ ?_;revert a
      refine M<|G<|?_
      intro a C
      exact⟨_,_,_,_,_,_,_,_,_,_,At C,cY,by have:=LW aa.L Bh 0;have:=eu.1;omega,ev,⟨by have:=cZ.1;omega,fun q=>by have:=cZ.2 q;omega⟩,u,B,A,U,P,T al,T ag,T ar,AI an,AI ax,AI eD,ae,S,T az,T aA,T aB,d,T aw,T eB,T eC,g⟩
     ·
      refine AE<|G<|?_
      intro a C
      exact⟨_,_,_,_,_,_,_,_,_,_,At C,(fun x aF=>by cases aF),Nat.zero_le _,fun _=>⟨D,D,D,D⟩,⟨Nat.zero_le _,fun h=>by cases h⟩,u,B,A,U,P,T al,T ag,T ar,AI an,AI ax,AI aE,ae,S,T az,T aA,T aB,d,T aw,T aC,T aD,g⟩
    ·
     rintro a eH ⟨aG,aP,ai,aj,ab,aQ,J,R,ak,Y,C,bS,dL,ba,bt,u,B,A,U,P,al,ag,ar,an,ax,aE,ae,S,az,aA,aB,d,aw,aC,aD,g⟩
     refine ES (fun a W=>∃aJ ai aj ab aQ,Ao 130 a (Ja (Ja (Ja Je 0 (AB sb)) 4 (E aH)) 7 (AB ah))∧(aJ=false→ai=none∧ab=0∧aj=0∧aQ=[])∧(ab≤1∧(aJ=true→1≤ab))∧W.ownsRow w.heap.size 173 2 (.slice ai ab aj) ab (Al Em aQ)∧W.ownsRow w.heap.size 190 66 (.slice J ak R) ak (Al CA Y)∧Ai W sb [[E wd],[E ge],[E AD],[E Ab],[E Ak],[F Bp AV.length AY],[F Bv Ay.length As],[F (some ⟨ay,av,none⟩) AM.length AR],[F (some ⟨b1,au,none⟩) AN.length AG],[F AO Aq.length AJ],[F ai ab aj],[F AQ 257 ce]] 66∧Cd w.heap.size sb w W∧W.ownsRow Aj 119 1 (.slice AO Aq.length AJ) Aq.length (Al EP Aq)∧Z (F AO Aq.length AJ) sb∧Z (F ai ab aj) sb∧Z (F J ak R) sb∧Ap (F AO Aq.length AJ) (F ai ab aj)∧Ap (F AO Aq.length AJ) (F J ak R)∧Ap (F ai ab aj) (F J ak R)∧AtR w.heap.size (F AO Aq.length AJ) (F AO Aq.length AJ)∧Bd (E1 sb (F AO Aq.length AJ) (F none 0 0)) w W∧Z (F AO Aq.length AJ) af∧Z (F ai ab aj) af∧Z (F J ak R) af∧Ai W af [[E H.v],[E H.f],[E H.ZG],[E H.ZZ],[E H.r],[E H.c],bv H.s.l] 131∧Z (F AO Aq.length AJ) ah∧Z (F ai ab aj) ah∧Z (F J ak R) ah∧Ai W ah [[AB sb],[E C6],[E aG],[F aa.p aa.L.length aa.c],[F J ak R],[Br aJ]] 148) ?_ ?_
     ·
      revert a
      refine K<|N<|I D<|Bt D<|Am CP 5 D<|?_
      rcases Bool.eq_false_or_eq_true aP with bF|bF
      ·
       refine AT (fun _ C=>Fk (Cl C D FP D [[AB sb],[E C6],[E aG],[F aa.p aa.L.length aa.c],[F J ak R]] (Br aP) [] g D) (congrArg Value.bool bF))<|Dn D<|I D<|Ae D D D D<|Ae D D D D<|Ae D D D D<|Ae D D D D<|Ae D D D D<|Ae D D D D<|Ba D D<|M<|G<|BE D<|AE<|G<|?_
       intro a C
       exact⟨_,_,_,_,_,At C,ba,bt,u,B,A,U,P,T al,T ag,T ar,AI an,AI ax,AI aE,ae,S,T az,T aA,T aB,d,T aw,T aC,T aD,g⟩
      ·
       refine AT (fun _ C=>Fk (Cl C D FP D [[AB sb],[E C6],[E aG],[F aa.p aa.L.length aa.c],[F J ak R]] (Br aP) [] g D) (congrArg Value.bool bF))<|Dn D<|I D<|Ad D D D<|I D<|Ad D D D<|Bt D<|Ad D D D<|Am CP 2 D<|Ad D D D<|AK AH 2 g D D<|Ad D D D<|I D<|?_
       by_cases c0:((aG:Nat):Int)=((aH:Nat):Int)
       ·
        refine Ad D D D<|Dr c0 D D<|Bn D D<|M<|G<|BE D<|AE<|G<|?_
        intro a C
        exact⟨_,_,_,_,_,At C,ba,bt,u,B,A,U,P,T al,T ag,T ar,AI an,AI ax,AI aE,ae,S,T az,T aA,T aB,d,T aw,T aC,T aD,g⟩
       ·
        refine Ad D D D<|F6 c0 D D<|Bn D D<|M<|G<|BS D<|K<|?_
        have dM:ab=0:=(ba bF).2.1
        refine N<|I D<|I D<|Bt D<|Am CP 2 D<|AK AH 2 g D D<|AS IJ D (Iw (p:=aG) (y:=((172:Nat):Int)) (Hx:=[E wd,E ge,E AD,E Ab,E Ak,F Bp AV.length AY,F Bv Ay.length As,F (some ⟨ay,av,none⟩) AM.length AR,F (some ⟨b1,au,none⟩) AN.length AG,F AO Aq.length AJ]) (Ho:=[F AQ 257 ce]) ⟨D,Gc (ss:=[[E wd],[E ge],[E AD],[E Ab],[E Ak],[F Bp AV.length AY],[F Bv Ay.length As],[F (some ⟨ay,av,none⟩) AM.length AR],[F (some ⟨b1,au,none⟩) AN.length AG],[F AO Aq.length AJ]]) (Jc.one D (Jc.one D (Jc.one D (Jc.one D (Jc.one D (Jc.one D (Jc.one D (Jc.one D (Jc.one D (Jc.one D Jc.nil))))))))))⟩ ⟨D,Gc (ss:=[[F AQ 257 ce]]) (Jc.one D Jc.nil)⟩ U.size (by omega) A u ag) ?_
        rintro _ c1 ⟨eI,eJ,rfl,eK,eL,eM,bG,bn⟩
        refine⟨_,D,?_⟩
        have bq:Cd w.heap.size sb eH c1:=bn.JF U.size (fun k m=>m.elim (fun q=>.inr q) (fun q=>.inl (u.lt k q).1))
        have eN:=Cq aA bG (Ar d)
        have c2:=Cq aC bG (Ar g)
        have d:=bn.Ag d (by rintro(h|h);exact absurd h (by omega);exact aA _ h D)
        have g:=bn.Ag g (by rintro(h|h);exact absurd h (by omega);exact aC _ h D)
        have eO:=(an.symm.at bG (fun k m=>(P.lt k m).2)).symm
        have eP:=aE.at bG (fun k m=>(B.lt k m).2)
        have B:=FA B bn (fun k m h=>h.elim (fun q=>ar k m q) (fun q=>aE k q m))
        have P:=FA P bn (fun k m h=>h.elim (fun q=>al k m q) (fun q=>an k m q))
        have S:=S.trans bn (fun k m a3=>m.elim (fun q=>.inl q) (fun q=>absurd a3 (by have:=(u.lt k q).1;omega)))
        have U:=U.G3 bq
        have A:Ai c1 sb [[E wd],[E ge],[E AD],[E Ab],[E Ak],[F Bp AV.length AY],[F Bv Ay.length As],[F (some ⟨ay,av,none⟩) AM.length AR],[F (some ⟨b1,au,none⟩) AN.length AG],[F AO Aq.length AJ],[F eI (ab+1) eJ],[F AQ 257 ce]] 66:=eK;have u:=eL;have ag:=eM
        refine M<|G<|N<|I D<|Bt D<|Am CP 5 D<|C_ 5 g D D ?_
        intro fS ad eQ bd
        have S:=S.B1 bd
        have u:=Ax u bd c2
        have B:=Ax B bd aD
        have A:=Ag bd A (by omega)
        have P:=Ax P bd aw
        have d:=Ag bd d (by omega)
        have U:=Et U bd
        clear ad
        refine M<|G<|?_
        intro a C
        exact⟨_,_,_,_,_,At C,(fun h=>by cases h),⟨by omega,fun _=>by omega⟩,u,B,A,U,P,T al,T ag,T ar,AI eO,AI ax,AI eP,ae,S,T az,T eN,T aB,d,T aw,T c2,T aD,eQ⟩
     ·
      rintro a fT ⟨aJ,ai,aj,ab,aQ,C,bT,bu,u,B,A,U,P,al,ag,ar,an,ax,aE,ae,S,az,aA,aB,d,aw,aC,aD,g⟩
      revert a
      refine K<|N<|I D<|Bt D<|Am CP 5 D<|AK FP 5 g D D<|Dn D<|M<|G<|Ej D (fun b'=>?_) fun b'=>?_
      ·
       have bV:aJ=false:=by simpa using b'
       obtain⟨rfl,rfl,rfl,rfl⟩:=bT bV
       have bW:=DF D3 (by decide) B
       subst bW
       have dW:=View.own B
       intro a C
       refine FX (fun a W=>∃aN aO,Ao 130 a Je∧W.ownsRow w.heap.size 173 2 (.slice none 0 0) 0 (Al Em ([]))∧W.ownsRow w.heap.size 190 66 (.slice J Y.length R) Y.length (Al CA Y)∧Z (F aN (Aq.length+1) aO) sb∧Z (F none 0 0) sb∧Z (F J Y.length R) sb∧Ap (F aN (Aq.length+1) aO) (F none 0 0)∧Ap (F aN (Aq.length+1) aO) (F J Y.length R)∧Ap (F none 0 0) (F J Y.length R)∧AtR w.heap.size (F aN (Aq.length+1) aO) (F AO Aq.length AJ)∧Bd (E1 sb (F AO Aq.length AJ) (F none 0 0)) w W∧Z (F aN (Aq.length+1) aO) af∧Z (F none 0 0) af∧Z (F J Y.length R) af∧Ai W af [[E H.v],[E H.f],[E H.ZG],[E H.ZZ],[E H.r],[E H.c],bv H.s.l] 131∧Z (F aN (Aq.length+1) aO) ah∧Z (F none 0 0) ah∧Z (F J Y.length R) ah∧Ai W ah [[AB sb],[E C6],[E aG],[F aa.p aa.L.length aa.c],[F J Y.length R],[Br aJ]] 148∧W.ownsRow Aj 119 1 (.slice aN (Aq.length+1) aO) (Aq.length+1) (Al EP (Aq++[(⟨J,Y,R⟩:Ed)]))∧Ai W sb [[E wd],[E ge],[E AD],[E Ab],[E Ak],[F Bp AV.length AY],[F Bv Ay.length As],[F (some ⟨ay,av,none⟩) AM.length AR],[F (some ⟨b1,au,none⟩) AN.length AG],[F aN (Aq.length+1) aO],[F none 0 0],[F AQ 257 ce]] 66) ?_ ?_
       ·
        refine C7 (fun W=>Ai W af [[E H.v],[E H.f],[E H.ZG],[E H.ZZ],[E H.r],[E H.c],bv H.s.l] 131∧Ai W ah [[AB sb],[E C6],[E aG],[F aa.p aa.L.length aa.c],[F J Y.length R],[Br aJ]] 148) ?_
        intro fU ad X
        have S:=S.below X
        have u:=V u X
        have B:=V B X
        have A:=Q A X
        have P:=V P X
        have d:=Q d X
        have g:=Q g X
        clear ad
        revert a
        refine Bk 0 D D ⟨d,g⟩<|Bk 1 D D ⟨d,g⟩<|CF 2 D D ⟨d,g⟩<|BW 3 D Cc 9 D ⟨d,g⟩<|Bk 5 D D ⟨d,g⟩<|CF 6 D D ⟨d,g⟩<|BW 7 D CP 4 D ⟨d,g⟩<|A5 8 D (fun W bX a C=>by obtain⟨d,g⟩:=bX;exact Cl C D Ds D [[AB sb],[E C6],[E aG],[F aa.p aa.L.length aa.c]] (F J Y.length R) [[Br aJ]] g D) ⟨d,g⟩<|?_
        intro aR ao
        refine EW 4 9 5 D D D D ?_ ?_
        ·
         intro Aa aq
         refine DI ao D (Cl ao D KC D [[E wd],[E ge],[E AD],[E Ab],[E Ak],[F Bp AV.length AY],[F Bv Ay.length As],[F (some ⟨ay,av,none⟩) AM.length AR],[F (some ⟨b1,au,none⟩) AN.length AG]] (F AO Aq.length AJ) [[F none 0 0],[F AQ 257 ce]] A D) ?_
         intro a C
         refine aq _ _ ⟨d,g⟩ ?_;revert a
         intro aR ao
         refine A8 9 4 D D ?_
         intro Aa aq
         refine Gh ao D Ix (v:=(F J Y.length R)) D (cs:=#[F J Y.length R]) D D (Nat.le_of_ble_eq_true D) ?_
         intro a fV C ad eR X
         have S:=S.below X
         have u:=V u X
         have B:=V B X
         have A:=Q A X
         have P:=V P X
         have d:=Q d X
         have g:=Q g X
         clear ad
         refine aq _ _ ⟨d,g⟩ ?_;revert a
         intro aR ao
         refine A8 10 3 D D ?_
         intro Aa aq
         refine BK ao Ix P eR (by simp[Value.oneCell']) (Bs An S.size) (Aq.length+1) (CC Aq (⟨J,Y,R⟩:Ed) D (K8 _)) ?_
         intro a aN aO fW C ca aW
         have bc:=S.size
         have eS:=an.BR aW (fun k m=>(u.lt k m).2)
         have eT:=ax.BR aW (fun k m=>(B.lt k m).2)
         have c3:=A9 aW al (Ar A)
         have eU:=A9 aW az (Ar d)
         have eV:=A9 aW aw (Ar g)
         have S:=S.DB aW ae (fun _ q=>Or.inr (Or.inl q))
         have u:=Bm u aW an.symm
         have B:=Bm B aW ax.symm
         have A:=A' A aW al
         have d:=A' d aW az
         have g:=A' g aW aw
         have ae:=ae.C9 aW bc
         refine aq _ _ ⟨d,g⟩ ?_;revert a
         refine CF 11 D D ⟨d,g⟩<|BW 12 D Cc 9 D ⟨d,g⟩<|?_
         intro aR ao
         refine A8 13 0 D D ?_
         intro Aa aq
         refine DM ao 9 A D D ?_
         intro a fX C ad eW bo
         have S:=S.B1 bo
         have u:=Ax u bo ag
         have B:=Ax B bo ar
         have d:=Ag bo d (by omega)
         have g:=Ag bo g (by omega)
         have ca:=Ax ca bo c3
         clear ad
         refine aq _ _ ⟨d,g⟩ ?_;revert a
         refine B_<|G<|?_
         intro a C
         exact⟨aN,aO,At C,u,B,c3,ag,ar,eS,eT,aE,ae,S,eU,aA,aB,d,eV,aC,aD,g,ca,eW⟩
        ·
         intro Aa aq
         refine Gh ao D Ix (v:=(F J Y.length R)) D (cs:=#[F J Y.length R]) D D (Nat.le_of_ble_eq_true D) ?_
         intro a fY C ad eX X
         have S:=S.below X
         have u:=V u X
         have B:=V B X
         have A:=Q A X
         have P:=V P X
         have d:=Q d X
         have g:=Q g X
         clear ad
         refine aq _ _ ⟨d,g⟩ ?_;revert a
         intro aR ao
         refine A8 4 4 D D ?_
         intro Aa aq
         refine DI ao D (Cl ao D KC D [[E wd],[E ge],[E AD],[E Ab],[E Ak],[F Bp AV.length AY],[F Bv Ay.length As],[F (some ⟨ay,av,none⟩) AM.length AR],[F (some ⟨b1,au,none⟩) AN.length AG]] (F AO Aq.length AJ) [[F none 0 0],[F AQ 257 ce]] A D) ?_
         intro a C
         refine aq _ _ ⟨d,g⟩ ?_;revert a
         intro aR ao
         refine A8 10 3 D D ?_
         intro Aa aq
         refine BK ao Ix P eX (by simp[Value.oneCell']) (Bs An S.size) (Aq.length+1) (CC Aq (⟨J,Y,R⟩:Ed) D (K8 _)) ?_
         intro a eY eZ fZ C cb aX
         have bc:=S.size
         have e0:=an.BR aX (fun k m=>(u.lt k m).2)
         have e1:=ax.BR aX (fun k m=>(B.lt k m).2)
         have c4:=A9 aX al (Ar A)
         have e2:=A9 aX az (Ar d)
         have e3:=A9 aX aw (Ar g)
         have S:=S.DB aX ae (fun _ q=>Or.inr (Or.inl q))
         have u:=Bm u aX an.symm
         have B:=Bm B aX ax.symm
         have A:=A' A aX al
         have d:=A' d aX az
         have g:=A' g aX aw
         have ae:=ae.C9 aX bc
         refine aq _ _ ⟨d,g⟩ ?_;revert a
         refine CF 11 D D ⟨d,g⟩<|BW 12 D Cc 9 D ⟨d,g⟩<|?_
         intro aR ao
         refine A8 13 0 D D ?_
         intro Aa aq
         refine DM ao 9 A D D ?_
         intro a f_ C ad e4 bp
         have S:=S.B1 bp
         have u:=Ax u bp ag
         have B:=Ax B bp ar
         have d:=Ag bp d (by omega)
         have g:=Ag bp g (by omega)
         have cb:=Ax cb bp c4
         clear ad
         refine aq _ _ ⟨d,g⟩ ?_;revert a
         refine B_<|G<|?_
         intro a C
         exact⟨eY,eZ,At C,u,B,c4,ag,ar,e0,e1,aE,ae,S,e2,aA,aB,d,e3,aC,aD,g,cb,e4⟩
       ·
        rintro a c5 ⟨aN,aO,C,u,B,al,ag,ar,an,ax,aE,ae,S,az,aA,aB,d,aw,aC,aD,g,P,A⟩
        refine FD ?_
        refine Ec C D ?_
        have a5:(Aq++[(⟨J,Y,R⟩:Ed)]).length=Aq.length+1:=by simp
        have b0:c5.ownsRow Aj 119 1 (.slice aN (Aq++[(⟨J,Y,R⟩:Ed)]).length aO) (Aq++[(⟨J,Y,R⟩:Ed)]).length (Al EP (Aq++[(⟨J,Y,R⟩:Ed)])):=HO a5.symm P
        have b2:∀k,(Value.slice aN (Aq++[(⟨J,Y,R⟩:Ed)]).length aO).ownBlock=some k→k≠sb:=T al
        have bw:AtR w.heap.size (.slice aN (Aq++[(⟨J,Y,R⟩:Ed)]).length aO) (.slice AO Aq.length AJ):=by rw[a5];exact ae
        have b3:Ap (.slice aN (Aq++[(⟨J,Y,R⟩:Ed)]).length aO) (.slice none 0 0):=fun k m h=>by cases h
        have b4:Ai c5 sb [[E wd],[E ge],[E AD],[E Ab],[E Ak],[F Bp AV.length AY],[F Bv Ay.length As],[F (some ⟨ay,av,none⟩) AM.length AR],[F (some ⟨b1,au,none⟩) AN.length AG],[F aN ((Aq++[(⟨J,Y,R⟩:Ed)]).length) aO],[F none 0 0],[F AQ 257 ce]] 66:=by rw[a5];exact A
        exact⟨_,_,_,none,0,0,[],D,a0.next S b4 b0 (World.ownsRow_nil _ _ _ _) b2 (fun k m=>by cases m) b3 bw (AtR.refl _ _) (fun x aF=>(List.mem_append.1 aF).elim .inl (fun q=>.inr (by simp at q;subst q;exact⟨⟨View.own B,fun a aZ h=>by replace aZ:J=some a:=aZ;rcases h with h|h|h;exact ar a.block (by rw[aZ];rfl) h;exact(AI ax:Ap _ (.slice J Y.length R)) a.block h (by rw[aZ];rfl);cases h⟩,bS⟩))),Nat.zero_le _,fun _=>⟨rfl,rfl,rfl,by rw[a5];omega,Gn (fun x aF=>Bs (bx x aF) (by omega))⟩,S,bw,AtR.refl _ _⟩
      ·
       have b5:aJ=true:=by simpa using b'
       refine AE<|?_
       intro a C
       refine FD ?_
       refine Ec C D ?_
       have aY:AtR w.heap.size (F ai ab aj) (.slice none 0 0):=fun k m=>.inr (u.lt k m).1
       exact⟨_,_,Aq,_,_,_,_,D,a0.next S A P (CB u An) al ag an ae aY (fun x aF=>.inl aF),bu.1,fun h=>absurd h (by have:=bu.2 b5;omega),S,ae,aY⟩
end Go.Proofs.YtcdaflcjhimimaaGreatDoor
