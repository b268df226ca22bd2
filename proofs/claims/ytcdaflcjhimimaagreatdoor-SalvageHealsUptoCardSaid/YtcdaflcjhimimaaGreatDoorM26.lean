/- Laws and walks on the road to SalvageNever and SalvageHeals (part M26). No conditions beyond each law's own. -/
import Derived.Test.YtcdaflcjhimimaaGreatDoorM01
import Derived.Test.YtcdaflcjhimimaaGreatDoorM25
import Derived.Test.YtcdaflcjhimimaaGreatDoorM04
import Derived.Test.YtcdaflcjhimimaaGreatDoorM07
import Derived.Test.YtcdaflcjhimimaaGreatDoorM05
import Derived.Test.YtcdaflcjhimimaaGreatDoorM14
import Derived.Test.YtcdaflcjhimimaaGreatDoorM17
import Derived.Test.YtcdaflcjhimimaaGreatDoorM24
set_option linter.unusedVariables false
namespace Go.Proofs.YtcdaflcjhimimaaGreatDoor
open Go.RowKit
set_option maxRecDepth 100000
set_option maxHeartbeats 1000000
variable {Aj A6 AL n c p:Nat} {l:List UInt8} {w:World}
theorem Il{u:Fr.Ch}(d:B9 Aj A6 AL n c w l u)(f:256*(p+1)≤n∧n≤1048576:=by omega):
 Calls Tryz.prog 33 #[AB A6,E p] w fun e w'=>e=.returned (.slice (some ⟨AL,256*p,none⟩) 256 (c - 256*p))∧w=w':=by
 have g:=d.cap
 refine Bx HJ D 15 ?_
 refine K<|N<|O D<|M<|G<|K<|N<|I D<|Bt D<|Am HL 0 D<|Cg Cr d.Oh D<|I D<|FT (q:=256) D D<|?_
 intro a b
 replace b:=b.HN 10 D (show(E (p*256))=(E (256*p))from by rw[Nat.mul_comm])
 revert a
 refine I D<|A_ (q:=1) D D<|FT (q:=256) D D<|?_
 intro a b
 replace b:=b.HN 13 D (show(E ((p+1)*256))=(E (256*(p+1)))from by rw[Nat.mul_comm])
 revert a
 refine AT (fun _ b=>Ke b D (256*p) (256*(p+1)) (k:=.i64) (k':=.i64) (p:=some ⟨AL,256*p,none⟩) (m:=256) (Hu:=c - 256*p) D D (fun W k k'=>WB AL 0 n c (256*p) (256*(p+1)) (256*p) 256 (by omega) (by omega) (by omega) (by omega) (by omega) W k k'))<|O D<|M<|G<|AA<|AZ D<|?_
 exact⟨D,D⟩
theorem WU{u:Fr.Ch}(a:B9 Aj A6 AL n c w l u)(hn:n≤1048576):
 Calls Tryz.prog 37 #[AB A6] w fun e w'=>e=.returned (.int .i64 ((n/256:Nat):Int))∧w=w':=by
 refine Bx Rj D 9 ?_
 refine K<|N<|O (v:=(E 0)) D<|M<|G<|K<|N<|I D<|Bt D<|Am HL 0 D<|Cg Cr a.Oh D<|BY Cr D<|FK (q:=256) D D<|O D<|M<|G<|AA<|AZ D<|?_
 exact⟨D,D⟩
theorem W'{u:Fr.Ch}(An:Aj≤w.heap.size)(d:B9 Aj A6 AL n c w l u)(hn:n≤1048576)(ar:256*(p+1)≤n){s:Fr.Ch}(X:Fr.DX (BB l p)=some s):
 Calls Tryz.prog 18 #[AB A6,E p] w fun e w'=>∃B4,e=.returned (.bool B4)∧(B4=true→∃i,64≤i∧i<256∧¬l.getD (256*p+i) 0=0)∧(B4=false→∀i,64≤i→i<256→l.getD (256*p+i) 0=0)∧B9 Aj A6 AL n c w' (Gd l p 192) u∧Bd (E2 A6 AL) w w'∧Below Aj w w':=by
 have f:Below Aj w w:=Bu _ _
 have S:Bd (E2 A6 AL) w w:=Bd.refl _ _
 have au:=d.cap
 have av:=d.low
 have hlen:=d.len
 refine Bx Lu D 70 ?_
 refine K<|N<|O D<|M<|G<|K<|N<|I D<|I D<|AS HJ D (Il (p:=p) d) ?_
 rintro _ _ ⟨rfl,rfl⟩
 refine⟨_,D,?_⟩
 refine O D<|O D<|M<|G<|K<|K<|N<|I D<|?_
 intro Y y
 have ah:=d.FW (p:=p) (by omega)
 refine Bj D (fun Aa z=>B0 y #[F (some ⟨AL,256*p,none⟩) 256 (c - 256*p)] GB (JR _ _ _ _ (s:=s) X ah (FY d.len)) ?_)
 rintro _ aw ⟨rfl,P⟩
 refine⟨_,D,?_⟩
 intro a r
 have S:=S.below P
 have d:=d.below P
 have f:=BH f P An
 refine z _ _ ?_;revert a
 refine I D<|BC D D<|BC D D<|BQ [[E 0],[E 0],[E 0],[E 0],[E 0]] ?_
 intro R ax B T Z t
 have ay:=Bg f B
 have az:A6<R∧AL<R:=by have:=d.GW;have:=d.Hl;omega
 have S:=S.below t
 have d:=d.below t
 have f:=BH f t An
 refine Bi 0 5 Z D D ?_
 intro aA T o U
 have S:=S.B1 U
 have d:=d.grown U (by omega) (by omega) ⟨_,_,Z⟩
 have f:=CG f U An
 refine O (v:=(E 0)) D<|M<|G<|K<|N<|I (v:=(E 0)) D<|?_
 have ai:(((0:Nat):Int)=((0:Nat):Int)):=D
 refine Dr ai D D<|M<|G<|BE D<|AE<|G<|K<|K<|N<|I D<|?_
 intro Y y
 have aj:=d.FW (p:=p) (by omega)
 refine Bj D (fun Aa z=>B0 y #[F (some ⟨AL,256*p,none⟩) 256 (c - 256*p)] GB (JR _ _ _ _ (s:=s) X aj (FY d.len)) ?_)
 rintro _ aB ⟨rfl,C⟩
 refine⟨_,D,?_⟩
 intro a r
 have S:=S.below C
 have d:=d.below C
 have o:=Q o C
 have f:=BH f C An
 refine z _ _ ?_;revert a
 refine I D<|BC D D<|BC D D<|BQ [[E 0],[E 0],[E 0],[E 0],[E 0]] ?_
 intro V aC B T aa t
 have aD:=Bg f B
 have aE:A6<V∧AL<V:=by have:=d.GW;have:=d.Hl;omega
 have aF:=AP o B
 have S:=S.below t
 have d:=d.below t
 have o:=Q o t
 have f:=BH f t An
 refine Bi 0 5 aa D D ?_
 intro aG T x H
 have S:=S.B1 H
 have d:=d.grown H (by omega) (by omega) ⟨_,_,aa⟩
 have o:=Ag H o (by omega)
 have f:=CG f H An
 refine O (v:=(E 0)) D<|M<|G<|K<|N<|I (v:=(E 0)) D<|?_
 have ak:(((0:Nat):Int)=((0:Nat):Int)):=D
 refine Dr ak D D<|M<|G<|BE D<|AE<|G<|K<|K<|N<|I D<|AT (fun _ r=>I_ r D 64 (k:=.i64) (p:=some ⟨AL,256*p+64,none⟩) (m:=192) (Hu:=c - 256*p - 64) D (fun W k=>Rl AL (256*p) 256 (c - 256*p) 64 (256*p+64) 192 (by omega) (by omega) (by omega) (by omega) (by omega) W k))<|BY Cr D<|I (v:=(E 0)) D<|M<|G<|A2<|?_
 rw[←St l p]at d
 have aH:l.length=n:=by first|exact hlen|(rw[Af.Jw];exact hlen)
 intro a r
 refine Cb (fun al a W=>∃k B4,al=192 - k∧Ao 70 a (Ja (Ja (Ja (Ja (Ja (Ja Je 4 (Br false)) 5 (F (some ⟨AL,256*p,none⟩) 256 (c - 256*p))) 55 (F (some ⟨AL,256*p+64,none⟩) 192 (c - 256*p - 64))) 56 (E 192)) 57 (E k)) 6 (Br B4))∧k≤192∧(B4=true→∃i,64≤i∧i<256∧¬l.getD (256*p+i) 0=0)∧(B4=false→∀i,64≤i→i<64+k→l.getD (256*p+i) 0=0)∧Below Aj w W∧B9 Aj A6 AL n c W (Gd l p k) u∧Bd (E2 A6 AL) w W∧Ai W R [[E s.w],[E s.g],[E s.m],[E s.h],[E s.p]] 59∧Ai W V [[E s.w],[E s.g],[E s.m],[E s.h],[E s.p]] 59) _ ⟨0,false,D,At r,by omega,(fun h=>by cases h),fun _ i J ab=>by omega,f,d,S,o,x⟩ ?_
 rintro _ a aI ⟨k,B4,rfl,r,aJ,ad,ae,f,d,S,o,x⟩
 revert a
 refine K<|N<|B5 (q:=(192:Nat)) D D<|M<|G<|K<|Bl D (fun an=>?_) fun an=>?_
 ·
  refine AE<|G<|K<|A2<|K<|N<|I D<|?_
  have ao:=d.cell (i:=256*p+64+k) (by omega)
  refine Cn A0 k (256*p+64+k) D D<|Cg BA ao D<|O D<|O D<|M<|G<|K<|N<|I D<|Fi D D<|M<|G<|E7 D (fun A=>?_) fun A=>?_
  ·
   rw[Ma]at A
   have aq:¬l.getD (256*p+64+k) 0=0:=fun e=>A (by rw[e];rfl)
   refine N<|I D<|I D<|A_ (p:=64) D D<|Cn A0 (64+k) (256*p+(64+k)) D D<|?_
   intro Y y
   refine Bj D (fun Aa z=>QJ y d (j:=256*p+(64+k)) (b:=0) D (by omega) D (by kernel_rfl) ?_)
   intro a aK r af L
   rw[O9 (by omega)]at af
   have S:=S.B1 L
   have o:=Ag L o (by omega)
   have x:=Ag L x (by omega)
   have f:=CG f L An
   clear d;have d:=af
   refine z _ _ ?_;revert a
   refine O D<|M<|Bq<|G<|N<|A_ (q:=1) D D<|I D<|M<|G<|?_
   intro a r
   exact⟨_,by omega,k+1,true,D,At r,by omega,fun _=>⟨64+k,by omega,by omega,by rw[←Nat.add_assoc];exact aq⟩,(fun h=>by cases h),f,d,S,o,x⟩
  ·
   rw[Ma]at A
   have ag:l.getD (256*p+64+k) 0=0:=UInt8.toNat_inj.1 (by have:=A;simpa using this)
   rw[QL (by omega) ag]at d
   refine AE<|Bq<|G<|N<|A_ (q:=1) D D<|I D<|M<|G<|?_
   intro a r
   exact⟨_,by omega,k+1,B4,D,At r,by omega,ad,fun h i J ab=>(Nat.lt_or_ge i (64+k)).elim (ae h i J) (fun q=>by rw[show i=64+k by omega,←Nat.add_assoc];exact ag),f,d,S,o,x⟩
 ·
  refine BO<|AW<|AW<|BN<|G<|K<|N<|I D<|O D<|M<|G<|AA<|AZ D<|?_
  obtain rfl:k=192:=by omega
  exact⟨B4,D,ad,fun h i J ab=>ae h i J (by omega),d,S,f⟩
theorem Us{u:Fr.Ch}(An:Aj≤w.heap.size)(d:B9 Aj A6 AL n c w l u)(hn:n≤1048576)(ai:256*(p+1)≤n)(aj:Af.Cj ((BB l p).take 64) 60≠0)(R:Af.last (Af.Eb 60) (Af.Cj ((BB l p).take 64) 60)=none)(B:Fr.DX (BB l p)=none):
 Calls Tryz.prog 18 #[AB A6,E p] w fun e w'=>e=.returned (.bool false)∧B9 Aj A6 AL n c w' l u∧Bd (E2 A6 AL) w w'∧Below Aj w w':=by
 have b:Below Aj w w:=Bu _ _
 have S:Bd (E2 A6 AL) w w:=Bd.refl _ _
 have ak:=d.cap
 have al:=d.low
 have hlen:=d.len
 refine Bx Lu D 70 ?_
 refine K<|N<|O D<|M<|G<|K<|N<|I D<|I D<|AS HJ D (Il (p:=p) d) ?_
 rintro _ _ ⟨rfl,rfl⟩
 refine⟨_,D,?_⟩
 refine O D<|O D<|M<|G<|K<|K<|N<|I D<|?_
 intro C i
 have T:=d.FW (p:=p) (by omega)
 refine Bj D (fun Aa j=>B0 i #[F (some ⟨AL,256*p,none⟩) 256 (c - 256*p)] GB (J' _ _ _ _ B T (FY d.len)) ?_)
 rintro _ an ⟨U,rfl,V,v⟩
 refine⟨_,D,?_⟩
 intro a o
 have S:=S.below v
 have d:=d.below v
 have b:=BH b v An
 refine j _ _ ?_;revert a
 refine I D<|BC D D<|BC D D<|BQ [[E 0],[E 0],[E 0],[E 0],[E 0]] ?_
 intro x ao r s H g
 have aq:=Bg b r
 have ar:A6<x∧AL<x:=by have:=d.GW;have:=d.Hl;omega
 have S:=S.below g
 have d:=d.below g
 have b:=BH b g An
 refine Bi 0 5 H D D ?_
 intro au s f y
 have S:=S.B1 y
 have d:=d.grown y (by omega) (by omega) ⟨_,_,H⟩
 have b:=CG b y An
 refine O D<|M<|G<|K<|N<|I D<|?_
 have X:¬((U:Int)=((0:Nat):Int)):=(fun e=>V (by simpa using e))
 refine F6 X D D<|M<|G<|BS D<|K<|?_
 intro a o
 refine C7 (fun W=>Below Aj w W∧Ai W x [[E 0],[E 0],[E 0],[E 0],[E 0]] 59) ?_
 intro Y s g
 have S:=S.below g
 have d:=d.below g
 have f:=Q f g
 have b:=BH b g An
 revert a
 refine Bk 0 D D ⟨b,f⟩<|CF 1 D D ⟨b,f⟩<|BW 2 D HL 10 D ⟨b,f⟩<|Bk 3 D D ⟨b,f⟩<|A5 4 D (fun W Z a o=>by obtain⟨b,f⟩:=Z;exact IW o A0 D 64 (k:=.i64) D) ⟨b,f⟩<|?_
 intro C i
 refine A8 5 5 D D ?_
 intro Aa j
 refine B0 i #[Sl A6 10,F (some ⟨AL,256*p,none⟩) 64 (c - 256*p),E 60] Kt (RY (p:=p) (k:=60) (m:=64) d (.inr ⟨D,D,D⟩) (by omega) R) ?_
 rintro _ aa ⟨rfl,ab,z⟩
 refine⟨_,D,?_⟩
 intro a o
 have J:Below Aj Y aa:=z.toBelow (Bs An b.size) (fun k ad=>ad.elim (fun q=>by omega) (fun q=>by omega))
 have f:=z.Ag f (by rintro(h|h)<;>omega)
 have S:=S.trans z (fun _ h _=>h)
 have b:=b.trans J
 clear J d;have d:=ab
 refine j _ _ ⟨b,f⟩ ?_;revert a
 refine Bk 6 D D ⟨b,f⟩<|F5 7 D D D ⟨b,f⟩<|F5 8 D D D ⟨b,f⟩<|EY 9 D D ⟨b,f⟩<|EY 10 D D ⟨b,f⟩<|B_<|G<|K<|N<|I D<|M<|G<|BE D<|AE<|G<|K<|K<|N<|I D<|?_
 intro C i
 have ae:=d.FW (p:=p) (by omega)
 refine Bj D (fun Aa j=>B0 i #[F (some ⟨AL,256*p,none⟩) 256 (c - 256*p)] GB (J' _ _ _ _ B ae (FY d.len)) ?_)
 rintro _ av ⟨af,rfl,ag,t⟩
 refine⟨_,D,?_⟩
 intro a o
 have S:=S.below t
 have d:=d.below t
 have f:=Q f t
 have b:=BH b t An
 refine j _ _ ?_;revert a
 refine I D<|BC D D<|BC D D<|BQ [[E 0],[E 0],[E 0],[E 0],[E 0]] ?_
 intro L aw r s P g
 have ax:=Bg b r
 have ay:A6<L∧AL<L:=by have:=d.GW;have:=d.Hl;omega
 have az:=AP f r
 have S:=S.below g
 have d:=d.below g
 have b:=BH b g An
 refine Bi 0 5 P D D ?_
 intro aA s aB A
 have S:=S.B1 A
 have d:=d.grown A (by omega) (by omega) ⟨_,_,P⟩
 have b:=CG b A An
 refine O D<|M<|G<|K<|N<|I D<|?_
 have ah:¬((af:Int)=((0:Nat):Int)):=(fun e=>ag (by simpa using e))
 refine F6 ah D D<|M<|G<|BS D<|K<|N<|I D<|O D<|M<|G<|AA<|AX<|AZ D<|?_
 exact⟨D,d,S,b⟩
theorem UB{u:Fr.Ch}(An:Aj≤w.heap.size)(d:B9 Aj A6 AL n c w l u)(hn:n≤1048576)(aH:256*(p+1)≤n){j:Nat}{s:Fr.Ch}(al:Fr.DX (BB l p)=none)(an:Af.last (Af.Eb 60) (Af.Cj ((BB l p).take 64) 60)=some j)(aI:j<512)(ad:Fr.DX (BB (Af.bit l (2048*p+j)) p)=some s):
 Calls Tryz.prog 18 #[AB A6,E p] w fun e w'=>e=.returned (.bool true)∧B9 Aj A6 AL n c w' (Gd (Af.bit l (2048*p+j)) p 192) u∧Bd (E2 A6 AL) w w'∧Below Aj w w':=by
 have f:Below Aj w w:=Bu _ _
 have S:Bd (E2 A6 AL) w w:=Bd.refl _ _
 have aJ:=d.cap
 have aK:=d.low
 have hlen:=d.len
 refine Bx Lu D 70 ?_
 refine K<|N<|O D<|M<|G<|K<|N<|I D<|I D<|AS HJ D (Il (p:=p) d) ?_
 rintro _ _ ⟨rfl,rfl⟩
 refine⟨_,D,?_⟩
 refine O D<|O D<|M<|G<|K<|K<|N<|I D<|?_
 intro R y
 have ao:=d.FW (p:=p) (by omega)
 refine Bj D (fun Aa z=>B0 y #[F (some ⟨AL,256*p,none⟩) 256 (c - 256*p)] GB (J' _ _ _ _ al ao (FY d.len)) ?_)
 rintro _ aL ⟨aq,rfl,ar,X⟩
 refine⟨_,D,?_⟩
 intro a t
 have S:=S.below X
 have d:=d.below X
 have f:=BH f X An
 refine z _ _ ?_;revert a
 refine I D<|BC D D<|BC D D<|BQ [[E 0],[E 0],[E 0],[E 0],[E 0]] ?_
 intro T aM A B ae r
 have aN:=Bg f A
 have aO:A6<T∧AL<T:=by have:=d.GW;have:=d.Hl;omega
 have S:=S.below r
 have d:=d.below r
 have f:=BH f r An
 refine Bi 0 5 ae D D ?_
 intro aP B o Y
 have S:=S.B1 Y
 have d:=d.grown Y (by omega) (by omega) ⟨_,_,ae⟩
 have f:=CG f Y An
 refine O D<|M<|G<|K<|N<|I D<|?_
 have au:¬((aq:Int)=((0:Nat):Int)):=(fun e=>ar (by simpa using e))
 refine F6 au D D<|M<|G<|BS D<|K<|?_
 intro a t
 refine C7 (fun W=>Below Aj w W∧Ai W T [[E 0],[E 0],[E 0],[E 0],[E 0]] 59) ?_
 intro av B r
 have S:=S.below r
 have d:=d.below r
 have o:=Q o r
 have f:=BH f r An
 revert a
 refine Bk 0 D D ⟨f,o⟩<|CF 1 D D ⟨f,o⟩<|BW 2 D HL 10 D ⟨f,o⟩<|Bk 3 D D ⟨f,o⟩<|A5 4 D (fun W aw a t=>by obtain⟨f,o⟩:=aw;exact IW t A0 D 64 (k:=.i64) D) ⟨f,o⟩<|?_
 intro R y
 refine A8 5 5 D D ?_
 intro Aa z
 refine B0 y #[Sl A6 10,F (some ⟨AL,256*p,none⟩) 64 (c - 256*p),E 60] Kt (P9 (p:=p) (k:=60) (m:=64) (j:=j) d (.inr ⟨D,D,D⟩) (by omega) an (by omega)) ?_
 rintro _ ax ⟨aQ,rfl,ay,Z⟩
 refine⟨_,D,?_⟩
 intro a t
 have af:Below Aj av ax:=Z.toBelow (Bs An f.size) (fun k ag=>ag.elim (fun q=>by omega) (fun q=>by omega))
 have o:=Z.Ag o (by rintro(h|h)<;>omega)
 have S:=S.trans Z (fun _ h _=>h)
 have f:=f.trans af
 clear af d;have d:=ay
 refine z _ _ ⟨f,o⟩ ?_;revert a
 refine Bk 6 D D ⟨f,o⟩<|F5 7 D D D ⟨f,o⟩<|F5 8 D D D ⟨f,o⟩<|EY 9 D D ⟨f,o⟩<|EY 10 D D ⟨f,o⟩<|B_<|G<|K<|N<|I D<|M<|G<|BS D<|K<|N<|I D<|?_
 intro R y
 have az:=d.FW (p:=p) (by omega)
 refine Bj D (fun Aa z=>B0 y #[F (some ⟨AL,256*p,none⟩) 256 (c - 256*p)] GB (JR _ _ _ _ (s:=s) ad az (FY d.len)) ?_)
 rintro _ aR ⟨rfl,U⟩
 refine⟨_,D,?_⟩
 intro a t
 have S:=S.below U
 have d:=d.below U
 have o:=Q o U
 have f:=BH f U An
 refine z _ _ ?_;revert a
 refine I D<|BC D D<|BC D D<|BQ [[E 0],[E 0],[E 0],[E 0],[E 0]] ?_
 intro aa aS A B ah r
 have aT:=Bg f A
 have aU:A6<aa∧AL<aa:=by have:=d.GW;have:=d.Hl;omega
 have aV:=AP o A
 have S:=S.below r
 have d:=d.below r
 have o:=Q o r
 have f:=BH f r An
 refine Bi 0 5 ah D D ?_
 intro aW B x V
 have S:=S.B1 V
 have d:=d.grown V (by omega) (by omega) ⟨_,_,ah⟩
 have o:=Ag V o (by omega)
 have f:=CG f V An
 refine O (v:=(E 0)) D<|M<|G<|K<|N<|I (v:=(E 0)) D<|?_
 have aA:(((0:Nat):Int)=((0:Nat):Int)):=D
 refine Dr aA D D<|M<|G<|BE D<|N<|O D<|M<|G<|K<|K<|N<|I D<|?_
 intro R y
 have aB:=d.FW (p:=p) (by omega)
 refine Bj D (fun Aa z=>B0 y #[F (some ⟨AL,256*p,none⟩) 256 (c - 256*p)] GB (JR _ _ _ _ (s:=s) ad aB (FY d.len)) ?_)
 rintro _ aX ⟨rfl,H⟩
 refine⟨_,D,?_⟩
 intro a t
 have S:=S.below H
 have d:=d.below H
 have o:=Q o H
 have x:=Q x H
 have f:=BH f H An
 refine z _ _ ?_;revert a
 refine I D<|BC D D<|BC D D<|BQ [[E 0],[E 0],[E 0],[E 0],[E 0]] ?_
 intro ab aY A B ai r
 have aZ:=Bg f A
 have a0:A6<ab∧AL<ab:=by have:=d.GW;have:=d.Hl;omega
 have a1:=AP o A
 have a2:=AP x A
 have S:=S.below r
 have d:=d.below r
 have o:=Q o r
 have x:=Q x r
 have f:=BH f r An
 refine Bi 0 5 ai D D ?_
 intro a3 B C J
 have S:=S.B1 J
 have d:=d.grown J (by omega) (by omega) ⟨_,_,ai⟩
 have o:=Ag J o (by omega)
 have x:=Ag J x (by omega)
 have f:=CG f J An
 refine O (v:=(E 0)) D<|M<|G<|K<|N<|I (v:=(E 0)) D<|?_
 have aC:(((0:Nat):Int)=((0:Nat):Int)):=D
 refine Dr aC D D<|M<|G<|BE D<|AE<|G<|K<|K<|N<|I D<|AT (fun _ t=>I_ t D 64 (k:=.i64) (p:=some ⟨AL,256*p+64,none⟩) (m:=192) (Hu:=c - 256*p - 64) D (fun W k=>Rl AL (256*p) 256 (c - 256*p) 64 (256*p+64) 192 (by omega) (by omega) (by omega) (by omega) (by omega) W k))<|BY Cr D<|I (v:=(E 0)) D<|M<|G<|A2<|?_
 rw[←St (Af.bit l (2048*p+j)) p]at d
 have a4:(Af.bit l (2048*p+j)).length=n:=by first|exact hlen|(rw[Af.Jw];exact hlen)
 intro a t
 refine Cb (fun aD a W=>∃k B4,aD=192 - k∧Ao 70 a (Ja (Ja (Ja (Ja (Ja (Ja Je 4 (Br false)) 5 (F (some ⟨AL,256*p,none⟩) 256 (c - 256*p))) 55 (F (some ⟨AL,256*p+64,none⟩) 192 (c - 256*p - 64))) 56 (E 192)) 57 (E k)) 6 (Br B4))∧k≤192∧B4=true∧Below Aj w W∧B9 Aj A6 AL n c W (Gd (Af.bit l (2048*p+j)) p k) u∧Bd (E2 A6 AL) w W∧Ai W T [[E 0],[E 0],[E 0],[E 0],[E 0]] 59∧Ai W aa [[E s.w],[E s.g],[E s.m],[E s.h],[E s.p]] 59∧Ai W ab [[E s.w],[E s.g],[E s.m],[E s.h],[E s.p]] 59) _ ⟨0,true,D,At t,by omega,D,f,d,S,o,x,C⟩ ?_
 rintro _ a a5 ⟨k,B4,rfl,t,ag,aj,f,d,S,o,x,C⟩
 revert a
 refine K<|N<|B5 (q:=(192:Nat)) D D<|M<|G<|K<|Bl D (fun aE=>?_) fun aE=>?_
 ·
  refine AE<|G<|K<|A2<|K<|N<|I D<|?_
  have aF:=d.cell (i:=256*p+64+k) (by omega)
  refine Cn A0 k (256*p+64+k) D D<|Cg BA aF D<|O D<|O D<|M<|G<|K<|N<|I D<|Fi D D<|M<|G<|E7 D (fun L=>?_) fun L=>?_
  ·
   rw[Ma]at L
   have a6:¬(Af.bit l (2048*p+j)).getD (256*p+64+k) 0=0:=fun e=>L (by rw[e];rfl)
   refine N<|I D<|I D<|A_ (p:=64) D D<|Cn A0 (64+k) (256*p+(64+k)) D D<|?_
   intro R y
   refine Bj D (fun Aa z=>QJ y d (j:=256*p+(64+k)) (b:=0) D (by omega) D (by kernel_rfl) ?_)
   intro a a7 t ak P
   rw[O9 (by omega)]at ak
   have S:=S.B1 P
   have o:=Ag P o (by omega)
   have x:=Ag P x (by omega)
   have C:=Ag P C (by omega)
   have f:=CG f P An
   clear d;have d:=ak
   refine z _ _ ?_;revert a
   refine O D<|M<|Bq<|G<|N<|A_ (q:=1) D D<|I D<|M<|G<|?_
   intro a t
   exact⟨_,by omega,k+1,true,D,At t,by omega,D,f,d,S,o,x,C⟩
  ·
   rw[Ma]at L
   have aG:(Af.bit l (2048*p+j)).getD (256*p+64+k) 0=0:=UInt8.toNat_inj.1 (by have:=L;simpa using this)
   rw[QL (by omega) aG]at d
   refine AE<|Bq<|G<|N<|A_ (q:=1) D D<|I D<|M<|G<|?_
   intro a t
   exact⟨_,by omega,k+1,B4,D,At t,by omega,aj,f,d,S,o,x,C⟩
 ·
  refine BO<|AW<|AW<|BN<|G<|K<|N<|I D<|O D<|M<|G<|AA<|AZ D<|?_
  obtain rfl:k=192:=by omega
  subst aj
  exact⟨D,d,S,f⟩
theorem TJ{u:Fr.Ch}(An:Aj≤w.heap.size)(b:B9 Aj A6 AL n c w l u)(hn:n≤1048576)(m:256*(p+1)≤n)(g:Fr.Di p (BB l p)=true):
 Calls Tryz.prog 20 #[AB A6,E p] w fun e w'=>e=.returned (.bool false)∧B9 Aj A6 AL n c w' l u∧Bd (E2 A6 AL) w w'∧Below Aj w w':=by
 have d:Below Aj w w:=Bu _ _
 have S:Bd (E2 A6 AL) w w:=Bd.refl _ _
 have o:=b.cap
 have q:=b.low
 have hlen:=b.len
 refine Bx Mn D 47 ?_
 refine K<|N<|O D<|M<|G<|K<|N<|I D<|I D<|AS HJ D (Il (p:=p) b) ?_
 rintro _ _ ⟨rfl,rfl⟩
 refine⟨_,D,?_⟩
 refine O D<|M<|G<|K<|K<|N<|I D<|I D<|?_
 intro r h
 have i:=b.FW (p:=p) (by omega)
 refine Bj D (fun Aa j=>B0 h #[E p,F (some ⟨AL,256*p,none⟩) 256 (c - 256*p)] H6 (RX _ _ p _ _ g i (FY b.len)) ?_)
 rintro _ s ⟨t,x,rfl,f⟩
 refine⟨_,D,?_⟩
 intro a y
 have S:=S.below f
 have b:=b.below f
 have d:=BH d f An
 refine j _ _ ?_;revert a
 refine I D<|BC D D<|BC D D<|BC D D<|O D<|O D<|O (v:=(E 0)) D<|M<|G<|K<|N<|I (v:=(E 0)) D<|?_
 have k:(((0:Nat):Int)=((0:Nat):Int)):=D
 refine D5 k D D<|M<|G<|BS D<|K<|N<|O D<|M<|G<|AA<|AX<|AZ D<|?_
 exact⟨D,b,S,d⟩
theorem Th{u:Fr.Ch}(An:Aj≤w.heap.size)(b:B9 Aj A6 AL n c w l u)(hn:n≤1048576)(H:256*(p+1)≤n)(j:Fr.Di p (BB l p)=false)(o:Af.last (Af.Eb 252) (Af.Cj (BB l p) 252)=none):
 Calls Tryz.prog 20 #[AB A6,E p] w fun e w'=>e=.returned (.bool false)∧B9 Aj A6 AL n c w' l u∧Bd (E2 A6 AL) w w'∧Below Aj w w':=by
 have d:Below Aj w w:=Bu _ _
 have S:Bd (E2 A6 AL) w w:=Bd.refl _ _
 have J:=b.cap
 have L:=b.low
 have hlen:=b.len
 refine Bx Mn D 47 ?_
 refine K<|N<|O D<|M<|G<|K<|N<|I D<|I D<|AS HJ D (Il (p:=p) b) ?_
 rintro _ _ ⟨rfl,rfl⟩
 refine⟨_,D,?_⟩
 refine O D<|M<|G<|K<|K<|N<|I D<|I D<|?_
 intro P r
 have s:=b.FW (p:=p) (by omega)
 refine Bj D (fun Aa t=>B0 r #[E p,F (some ⟨AL,256*p,none⟩) 256 (c - 256*p)] H6 (O5 _ _ p _ _ j s (FY b.len)) ?_)
 rintro _ v ⟨Q,R,x,rfl,y,f⟩
 refine⟨_,D,?_⟩
 intro a T
 have S:=S.below f
 have b:=b.below f
 have d:=BH d f An
 refine t _ _ ?_;revert a
 refine I D<|BC D D<|BC D D<|BC D D<|O D<|O D<|O D<|M<|G<|K<|N<|I D<|?_
 have z:¬((x:Int)=((0:Nat):Int)):=(fun e=>y (by simpa using e))
 refine E0 z D D<|M<|G<|BE D<|AE<|G<|K<|N<|I D<|Bt D<|Am HL 6 D<|I D<|AS Kt D (RY (p:=p) (k:=252) (m:=256) b (.inl ⟨D,D,D⟩) (by omega) (by rw[List.take_of_length_le (by rw[FY b.len];exact Be _)];exact o)) ?_
 rintro _ A ⟨rfl,B,g⟩
 refine⟨_,D,?_⟩
 have i:Below Aj v A:=g.toBelow (Bs An d.size) (fun k C=>C.elim (fun q=>by omega) (fun q=>by omega))
 have S:=S.trans g (fun _ h _=>h)
 have d:=d.trans i
 clear i b;have b:=B
 refine I D<|BC D D<|BC D D<|O D<|O D<|M<|G<|K<|K<|N<|I D<|Dn D<|M<|G<|BS D<|K<|N<|O D<|M<|G<|AA<|AX<|AZ D<|?_
 exact⟨D,b,S,d⟩
theorem SM{u:Fr.Ch}(An:Aj≤w.heap.size)(b:B9 Aj A6 AL n c w l u)(hn:n≤1048576)(V:256*(p+1)≤n){j:Nat}(t:Fr.Di p (BB l p)=false)(x:Af.last (Af.Eb 252) (Af.Cj (BB l p) 252)=some j)(W:j<2048)(y:Fr.Di p (BB (Af.bit l (2048*p+j)) p)=true):
 Calls Tryz.prog 20 #[AB A6,E p] w fun e w'=>e=.returned (.bool true)∧B9 Aj A6 AL n c w' (Af.bit l (2048*p+j)) u∧Bd (E2 A6 AL) w w'∧Below Aj w w':=by
 have d:Below Aj w w:=Bu _ _
 have S:Bd (E2 A6 AL) w w:=Bd.refl _ _
 have X:=b.cap
 have Y:=b.low
 have hlen:=b.len
 refine Bx Mn D 47 ?_
 refine K<|N<|O D<|M<|G<|K<|N<|I D<|I D<|AS HJ D (Il (p:=p) b) ?_
 rintro _ _ ⟨rfl,rfl⟩
 refine⟨_,D,?_⟩
 refine O D<|M<|G<|K<|K<|N<|I D<|I D<|?_
 intro z f
 have A:=b.FW (p:=p) (by omega)
 refine Bj D (fun Aa g=>B0 f #[E p,F (some ⟨AL,256*p,none⟩) 256 (c - 256*p)] H6 (O5 _ _ p _ _ t A (FY b.len)) ?_)
 rintro _ B ⟨Z,aa,C,rfl,H,i⟩
 refine⟨_,D,?_⟩
 intro a J
 have S:=S.below i
 have b:=b.below i
 have d:=BH d i An
 refine g _ _ ?_;revert a
 refine I D<|BC D D<|BC D D<|BC D D<|O D<|O D<|O D<|M<|G<|K<|N<|I D<|?_
 have L:¬((C:Int)=((0:Nat):Int)):=(fun e=>H (by simpa using e))
 refine E0 L D D<|M<|G<|BE D<|AE<|G<|K<|N<|I D<|Bt D<|Am HL 6 D<|I D<|AS Kt D (P9 (p:=p) (k:=252) (m:=256) (j:=j) b (.inl ⟨D,D,D⟩) (by omega) (by rw[List.take_of_length_le (by rw[FY b.len];exact Be _)];exact x) (by omega)) ?_
 rintro _ P ⟨ab,rfl,Q,r⟩
 refine⟨_,D,?_⟩
 have s:Below Aj B P:=r.toBelow (Bs An d.size) (fun k R=>R.elim (fun q=>by omega) (fun q=>by omega))
 have S:=S.trans r (fun _ h _=>h)
 have d:=d.trans s
 clear s b;have b:=Q
 refine I D<|BC D D<|BC D D<|O D<|O D<|M<|G<|K<|K<|N<|I D<|Dn D<|M<|G<|BE D<|AE<|G<|K<|K<|N<|I D<|I D<|?_
 intro z f
 have T:=b.FW (p:=p) (by omega)
 refine Bj D (fun Aa g=>B0 f #[E p,F (some ⟨AL,256*p,none⟩) 256 (c - 256*p)] H6 (RX _ _ p _ _ y T (FY b.len)) ?_)
 rintro _ ad ⟨ae,af,rfl,o⟩
 refine⟨_,D,?_⟩
 intro a J
 have S:=S.below o
 have b:=b.below o
 have d:=BH d o An
 refine g _ _ ?_;revert a
 refine I D<|BC D D<|BC D D<|BC D D<|O D<|O D<|O (v:=(E 0)) D<|M<|G<|K<|N<|I (v:=(E 0)) D<|?_
 have U:(((0:Nat):Int)=((0:Nat):Int)):=D
 refine Dr U D D<|M<|G<|BE D<|AE<|G<|K<|N<|O D<|M<|G<|AA<|AZ D<|?_
 exact⟨D,b,S,d⟩
end Go.Proofs.YtcdaflcjhimimaaGreatDoor
namespace Go.Proofs.YtcdaflcjhimimaaGreatDoor
open Go.RowKit
open D7 (Cs)
variable {mk n p:Nat} {l x:List UInt8} {J:List Nat}
structure Gv (g l:List UInt8) (mk:Nat) (J:List Nat):Prop where
 e:l=Cs g J
 aa:J.Nodup
 lt:∀t∈J,t<2048*mk
 c:∀p,El J p≤3
theorem Gi.g{g:List UInt8}{f0 f1:Nat}{Gq:List Nat}(h:Gi g mk J l Gq f0 f1):Gv g l mk J:=⟨h.e,h.aa,h.lt,h.c⟩
theorem Gv.zero(g:List UInt8)(mk:Nat):Gv g g mk []:=⟨D,List.nodup_nil,(fun t a=>by cases a),fun p=>Nat.zero_le _⟩
theorem Gv.Ak{g:List UInt8}(h:Gv g l mk J)(p:Nat):BB l p=Cs (BB g p) (FC J p):=by rw[h.e,VZ]
theorem Gv.len{g:List UInt8}(h:Gv g l mk J):l.length=g.length:=by rw[h.e,D7.UJ]
def HP(J:List Nat)(i:Nat):Nat:=if i<2 then Ek J i else El J i
structure F7 (g l:List UInt8) (J:List Nat) (x:List UInt8) (p:Nat):Prop where
 len:x.length=g.length
 ZS:∀i,i<p→(HP J i≤1∧BB x i=BB g i)∨(2≤HP J i∧BB x i=BB l i)
 bl:∀i,p≤i→BB x i=BB l i
theorem F7.zero{g:List UInt8}(h:Gv g l mk J):F7 g l J l 0:=⟨h.len,fun i a=>by omega,fun i _=>rfl⟩
theorem F7.next{g a:List UInt8}(h:F7 g l J x p)(d:a.length=x.length)(b:∀i,i≠p→BB a i=BB x i)(f:(HP J p≤1∧BB a p=BB g p)∨(2≤HP J p∧BB a p=BB l p)):F7 g l J a (p+1):=by
 refine⟨d.trans h.len,fun i c=>?_,fun i c=>(b i (by omega)).trans (h.bl i (by omega))⟩
 by_cases e:i=p
 ·subst e;exact f
 ·rw[b i e];exact h.ZS i (by omega)
theorem Fh.slot{g:List UInt8}(h:Fh g n mk)(a:p<2):∃s,EU (BB g p) s:=by
 obtain⟨x,y,u,_,_,_,_,b,c,_⟩:=h.aY
 match p,a with
 |0,_=>exact⟨x,b⟩
 |1,_=>exact⟨y,c⟩
theorem Fh.two{g:List UInt8}(h:Fh g n mk):2≤mk∧256*mk≤n∧n≤1048576∧768≤n∧∃P,n=256*P:=by
 obtain⟨x,y,u,a,b,c,d,_⟩:=h.aY
 exact⟨by omega,by omega,by omega,by omega,u.p,a⟩
theorem Ny{g:List UInt8}(h:Fh g n mk)(a:p<2):(BB g p).take 64++List.replicate 192 0=BB g p:=by
 rw[←h.a3 p a]
 exact List.take_append_drop 64 (BB g p)
theorem PG{Aj A6 AL c:Nat}{g:List UInt8}{u:Fr.Ch}{w:World}(a:Fh g n mk)(E:Gv g l mk J)(d:F7 g l J x p)(k:p<2)(An:Aj≤w.heap.size)(A:B9 Aj A6 AL n c w x u):
 Calls Tryz.prog 18 #[.pointer (some ⟨A6,0,none⟩),.int .i64 ((p:Nat):Int)] w fun e w'=>∃B4 H,e=.returned (.bool B4)∧(El J p≤1→B4=decide (0<El J p))∧F7 g l J H (p+1)∧B9 Aj A6 AL n c w' H u∧Bd (E2 A6 AL) w w'∧Below Aj w w':=by
 obtain⟨t1,t2,t3,t4,P,t5⟩:=a.two
 have ae:=A.len
 have B:256*(p+1)≤n:=by omega
 obtain⟨s,I⟩:=a.slot k
 have m:BB x p=Cs (BB g p) (FC J p):=by rw[d.bl p (Be _),E.Ak]
 have af:HP J p=((FC J p).filter (fun j=>decide (j<512))).length:=by unfold HP;rw[if_pos k,MY]
 have K:=I.DX
 rcases Rh I (Mx E.aa) (by rw[GQ];exact E.c p)with⟨F,e⟩|⟨R,j,S,e,b,r⟩|⟨ah,b,r⟩
 ·rw[←m]at e
  have hu:Fr.DX (BB x p)=some s:=by rw[RL e];exact K
  refine(W' An A t3 B hu).mono ?_
  rintro L w' ⟨B4,rfl,T,U,t,f,v⟩
  refine⟨B4,_,D,fun V=>?_,d.next Nb (fun i o=>Rg (by omega) o) (.inl ⟨by omega,?_⟩),t,f,v⟩
  ·have W:=FY (n:=n) a.len B
   have M:∀i,64≤i→i<256→(BB g p)[i]? =some 0:=by
    intro i C y
    rw[←Ny a k,List.getElem?_append_right (by rw[List.length_take];omega),List.length_take,W,List.getElem?_replicate,if_pos (by omega)]
   have N:∀i,i<256→x.getD (256*p+i) 0=((BB x p)[i]?).getD 0:=by
    intro i y
    rw[H3,if_pos y,List.getD_eq_getElem?_getD]
   rcases Nat.lt_or_ge 0 (El J p)with q|q
   ·rw[decide_eq_true q]
    have X:(FC J p).length=1:=by rw[GQ];omega
    obtain⟨j,G⟩:=List.length_eq_one_iff.1 X
    have ai:j<2048:=MP j (by rw[G];exact List.mem_singleton.2 D)
    have aj:512≤j:=by
     rw[G]at F
     apply Classical.byContradiction
     intro hn
     rw[List.filter_cons,if_pos (by simp;omega)]at F
     simp at F
    cases B4 with
    |true=>rfl
    |false=>
     exfalso
     have z:=U D (j/8) (by omega) (by omega)
     rw[N _ (by omega),m,G]at z
     have Y:=M (j/8) (by omega) (by omega)
     rw[show Cs (BB g p) [j]=Af.bit (BB g p) j from D]at z
     unfold Af.bit at z
     rw[Lp,if_pos D,Y]at z
     have O:(0:UInt8)^^^UInt8.ofNat (2^(j % 8))=0:=z
     rw[UInt8.zero_xor]at O
     have C:=congrArg UInt8.toNat O
     have ak:2^(j % 8)≤2^7:=Nat.pow_le_pow_right (by decide) (by omega)
     have al:0<2^(j % 8):=Nat.two_pow_pos _
     change 2^(j % 8) % 256=0 at C
     omega
   ·rw[decide_eq_false (by omega)]
    have Z:FC J p=[]:=List.eq_nil_of_length_eq_zero (by rw[GQ];omega)
    cases B4 with
    |false=>rfl
    |true=>
     obtain⟨i,C,y,aa⟩:=T D
     exfalso
     apply aa
     rw[N i y,m,Z,show Cs (BB g p) []=BB g p from D,M i C y]
     rfl
  ·rw[RN (by omega),e,Ny a k]
 ·rw[←m]at e b r
  have ab:=NZ b
  have Q:(BB (Af.bit x (2048*p+j)) p).take 64=(BB g p).take 64:=by
   rw[KZ,if_pos (by omega),show(2048*p+j) % 2048=j by omega]
   unfold Af.bit at e⊢
   rw[Af.MR _ _ _ _ (by omega),e]
   exact Af.QX _ _ _
  have hu:Fr.DX (BB (Af.bit x (2048*p+j)) p)=some s:=by rw[RL Q];exact K
  refine(UB An A t3 B ab r S hu).mono ?_
  rintro L w' ⟨rfl,t,f,v⟩
  have ad:(Af.bit x (2048*p+j)).length=x.length:=Af.Jw _ _
  refine⟨true,_,D,fun V=>?_,d.next ((Nb).trans ad) (fun i o=>?_) (.inl ⟨by omega,?_⟩),t,f,v⟩
  ·have hle:=List.length_filter_le (fun j=>decide (j<512)) (FC J p)
   rw[R,GQ]at hle
   rw[decide_eq_true (by omega)]
  ·rw[Rg (by omega) o,KZ,if_neg (by omega)]
  ·rw[RN (by omega),Q,Ny a k]
 ·rw[←m]at b r
  refine(Us An A t3 B b r (NZ b)).mono ?_
  rintro L w' ⟨rfl,t,f,v⟩
  have hle:=List.length_filter_le (fun j=>decide (j<512)) (FC J p)
  rw[GQ]at hle
  exact⟨false,x,D,fun h=>by omega,d.next D (fun i _=>rfl) (.inr ⟨by omega,d.bl p (Be _)⟩),t,f,v⟩
theorem V9{Aj A6 AL c:Nat}{g:List UInt8}{u:Fr.Ch}{w:World}(z:Fh g n mk)(s:Gv g l mk J)(b:F7 g l J x p)(A:2≤p∧p<mk)(An:Aj≤w.heap.size)(q:B9 Aj A6 AL n c w x u):
 Calls Tryz.prog 20 #[.pointer (some ⟨A6,0,none⟩),.int .i64 ((p:Nat):Int)] w fun e w'=>∃B4 B,e=.returned (.bool B4)∧(El J p≤1→B4=decide (0<El J p))∧F7 g l J B (p+1)∧B9 Aj A6 AL n c w' B u∧Bd (E2 A6 AL) w w'∧Below Aj w w':=by
 obtain⟨t1,t2,t3,t4,P,t5⟩:=z.two
 have R:=q.len
 have t:256*(p+1)≤n:=by omega
 obtain⟨I,K,r,L,M,N⟩:=z.Ak p A.1 A.2
 change BB g p=_ at r
 have d:BB x p=Cs (Ref.Fe I p K) (FC J p):=by rw[b.bl p (Be _),s.Ak,r]
 have E:HP J p=(FC J p).length:=by unfold HP;rw[if_neg (by omega),GQ]
 rcases Rr (p:=p) (by omega) L M N (Mx s.aa) MP (by rw[GQ];exact s.c p)with⟨v,a⟩|⟨j,y,O,a,k,F⟩|⟨Q,a,k⟩
 ·rw[←d]at a
  refine(TJ An q t3 t a).mono ?_
  rintro G w' ⟨rfl,m,f,o⟩
  refine⟨false,x,D,fun _=>by rw[←GQ,v];rfl,b.next D (fun i _=>rfl) (.inl ⟨by rw[E,v];exact Nat.zero_le _,?_⟩),m,f,o⟩
  rw[d,v,r]
  rfl
 ·rw[←d]at a k F
  have H:BB (Af.bit x (2048*p+j)) p=Af.bit (BB x p) j:=by
   rw[KZ,if_pos (by omega),show(2048*p+j) % 2048=j by omega]
  refine(SM An q t3 t a k O (by rw[H];exact F)).mono ?_
  rintro G w' ⟨rfl,m,f,o⟩
  refine⟨true,_,D,fun T=>?_,b.next (Af.Jw _ _) (fun i C=>?_) (.inl ⟨by rw[E,y];exact Be _,?_⟩),m,f,o⟩
  ·rw[←GQ,y];rfl
  ·rw[KZ,if_neg (by omega)]
  ·rw[H,d,y,r]
   exact Af.Pj _ _
 ·rw[←d]at a k
  refine(Th An q t3 t a k).mono ?_
  rintro G w' ⟨rfl,m,f,o⟩
  exact⟨false,x,D,fun h=>by rw[GQ]at Q;omega,b.next D (fun i _=>rfl) (.inr ⟨by omega,b.bl p (Be _)⟩),m,f,o⟩
theorem S1{g:List UInt8}(h:Fh g n mk)(f:F7 g l J x 2)(v:Ek J 0≤1)(w:Ek J 1≤1):∃u,Fr.choose (BB x 0) (BB x 1)=.ok u∧u.m=mk∧n=256*u.p:=by
 have i:BB x 0=BB g 0:=by
  rcases f.ZS 0 (by omega)with q|q
  ·exact q.2
  ·have:2≤Ek J 0:=q.1;omega
 have k:BB x 1=BB g 1:=by
  rcases f.ZS 1 (by omega)with q|q
  ·exact q.2
  ·have:2≤Ek J 1:=q.1;omega
 obtain⟨a,b,u,d1,d2,d3,d4,d5,d6,d7,d8,d9,d10,d11⟩:=h.aY
 refine⟨u,?_,d4,d1⟩
 have o:Fr.DX (BB g 0)=some a:=EU.DX d5
 have r:Fr.DX (BB g 1)=some b:=EU.DX d6
 rw[i,k]
 unfold Fr.choose
 rw[o,r]
 have t:Fr.E3 a b=some u:=by
  unfold Fr.E3
  rw[if_neg (by omega)]
  obtain⟨z,A,am,B,ap⟩:=a
  obtain⟨C,E,Mp,F,G⟩:=b
  simp only at d7 d8 d9 d10
  subst d9
  subst d10
  rcases d11 with⟨c,d,e⟩|⟨c,d,e⟩
  ·simp only at c d
   subst c
   rw[if_neg (by simp only;omega),if_pos ⟨D,d⟩,e]
  ·simp only at c d
   subst c
   rw[if_pos (by simp only;omega),if_pos ⟨D,d⟩,e]
 show(match Fr.E3 a b with|some s=>Except.ok s|none=>Except.error 4)=_
 rw[t]
theorem Y5{g:List UInt8}(f:Fh g n mk)(a:Gv g l mk J)(i:F7 g l J x 2)(h:2≤Ek J 0∨2≤Ek J 1):Fr.choose (BB x 0) (BB x 1)=.error 4:=by
 have bad:∀p,p<2→2≤Ek J p→Fr.DX (BB x p)=none:=by
  intro p d r
  obtain⟨s,b⟩:=f.slot d
  have t:HP J p=Ek J p:=by unfold HP;rw[if_pos d]
  have e:BB x p=Cs (BB g p) (FC J p):=by
   rcases i.ZS p d with q|q
   ·omega
   ·rw[q.2,a.Ak]
  rcases Rh b (Mx a.aa) (by rw[GQ];exact a.c p)with⟨k,_⟩|⟨m,_⟩|⟨_,o,_⟩
  ·rw[MY]at k;omega
  ·rw[MY]at m;omega
  ·rw[e];exact NZ o
 have full:Fr.J3 (BB x 1)=false:=by
  obtain⟨s,b⟩:=f.slot (p:=1) (by omega)
  rcases i.ZS 1 (by omega)with q|q
  ·rw[q.2];exact Qj (J:=[]) b (Nat.zero_le _)
  ·rw[q.2,a.Ak];exact Qj b (by rw[GQ];exact a.c 1)
 unfold Fr.choose
 rcases h with h|h
 ·rw[bad 0 (by omega) h,full]
  rfl
 ·rw[bad 1 (by omega) h,full]
  cases Fr.DX (BB x 0)<;>rfl
theorem Qe{a b:List UInt8}{P:Nat}(d:a.length=256*P)(e:b.length=a.length)(c:Nat)(h:∀p,c≤p→BB a p=BB b p):a.drop (256*c)=b.drop (256*c):=by
 apply List.ext_getElem?
 intro i
 rw[List.getElem?_drop,List.getElem?_drop]
 have:=congrArg (fun l=>l[i % 256]?) (h (c+i/256) (by omega))
 simp only[H3]at this
 rw[if_pos (Nat.mod_lt _ (by decide)),if_pos (Nat.mod_lt _ (by decide)),show 256*(c+i/256)+i % 256=256*c+i by omega]at this
 exact this
theorem Pv{g:List UInt8}(k:Fh g n mk)(f:Gv g l mk J)(e:F7 g l J x mk)(G:Ek J 0≤1)(H:Ek J 1≤1):
 (∀i,i<mk→BB x i=BB g i∨(2≤i∧Fr.Di i (BB x i)=false))∧x.drop (256*mk)=g.drop (256*mk)∧(J=[]→x=g):=by
 obtain⟨t1,t2,t3,t4,P,t5⟩:=k.two
 have key:∀i,i<mk→BB x i=BB g i∨(2≤i∧2≤El J i∧BB x i=BB l i):=by
  intro i d
  rcases e.ZS i d with q|q
  ·exact .inl q.2
  ·right
   have h:=q.1
   unfold HP at h
   split at h
   ·rename_i m
    have:i=0∨i=1:=by omega
    rcases this with rfl|rfl<;>omega
   ·exact⟨by omega,h,q.2⟩
 have m:∀i,mk≤i→FC J i=[]:=by
  intro i d
  unfold FC
  rw[List.map_eq_nil_iff,List.filter_eq_nil_iff]
  intro t v
  have:=f.lt t v
  simp
  omega
 have o:∀i,mk≤i→BB x i=BB g i:=by
  intro i d
  rw[e.bl i d,f.Ak,m i d]
  rfl
 refine⟨fun i d=>?_,Qe (P:=P) (by rw[e.len,k.len];exact t5) e.len.symm mk o,fun w=>?_⟩
 ·rcases key i d with q|⟨s,h,q⟩
  ·exact .inl q
  ·right
   refine⟨s,?_⟩
   obtain⟨K,L,u,y,z,A⟩:=k.Ak i s d
   change BB g i=_ at u
   rw[q,f.Ak,u]
   rcases Rr (p:=i) (by omega) y z A (Mx f.aa) MP (by rw[GQ];exact f.c i)with⟨B,_⟩|⟨j,C,_⟩|⟨_,E,_⟩
   ·have:=GQ J i;rw[B]at this;simp at this;omega
   ·have:=GQ J i;rw[C]at this;simp at this;omega
   ·exact E
 ·subst w
  have F:∀i,0≤i→BB x i=BB g i:=by
   intro i _
   rcases Nat.lt_or_ge i mk with q|q
   ·rcases key i q with r|⟨_,h,_⟩
    ·exact r
    ·have:El [] i=0:=D
     omega
   ·exact o i q
  have:=Qe (P:=P) (a:=x) (b:=g) (by rw[e.len,k.len];exact t5) e.len.symm 0 F
  simpa using this
theorem Zp{g:List UInt8}(c:Fh g n mk)(e:Gv g l mk J)(a:F7 g l J x mk)(b:∀p,El J p≤1):x=g:=by
 obtain⟨t1,t2,t3,t4,P,t5⟩:=c.two
 have h:=Qb J 0
 have j:=Qb J 1
 have k:=b 0
 have m:=b 1
 obtain⟨_,Ab,_⟩:=Pv c e a (by omega) (by omega)
 have key:∀i,i<mk→BB x i=BB g i:=by
  intro i f
  rcases a.ZS i f with q|q
  ·exact q.2
  ·exfalso
   have d:=q.1
   unfold HP at d
   have:=Qb J i
   have:=b i
   split at d<;>omega
 have hlen:x.length=g.length:=a.len
 apply List.ext_getElem?
 intro i
 rcases Nat.lt_or_ge i (256*mk)with q|q
 ·have:=congrArg (fun l=>l[i % 256]?) (key (i/256) (by omega))
  simp only[H3]at this
  rw[if_pos (Nat.mod_lt _ (by decide)),if_pos (Nat.mod_lt _ (by decide)),show 256*(i/256)+i % 256=i by omega]at this
  exact this
 ·have:=congrArg (fun l=>l[i - 256*mk]?) Ab
  simp only[List.getElem?_drop]at this
  rw[show 256*mk+(i - 256*mk)=i by omega]at this
  exact this
end Go.Proofs.YtcdaflcjhimimaaGreatDoor
namespace Go.Proofs.YtcdaflcjhimimaaGreatDoor
open Go.RowKit
set_option maxRecDepth 100000
set_option maxHeartbeats 1000000
variable {n c:Nat} {l:List UInt8} {w:World}
theorem Tw{Aj A6 AL:Nat}{u:Fr.Ch}(An:Aj≤w.heap.size)(b:B9 Aj A6 AL n c w l u)(hn:768≤n∧n≤1048576){s:Fr.Ch}(r:Fr.choose (BB l 0) (BB l 1)=.ok s)(H:n=256*s.p):
 Calls Tryz.prog 19 #[AB A6] w fun e w'=>e=.returned (.int .i64 ((0:Nat):Int))∧B9 Aj A6 AL n c w' l s∧Bd (E2 A6 AL) w w'∧Below Aj w w':=by
 have d:Below Aj w w:=Bu _ _
 have S:Bd (E2 A6 AL) w w:=Bd.refl _ _
 have J:=b.cap
 have L:=b.low
 have hlen:=b.len
 refine Bx LJ D 28 ?_
 refine K<|N<|O (v:=(E 0)) D<|M<|G<|K<|N<|O (v:=(E 0)) D<|M<|G<|K<|N<|I D<|I D<|AS HJ D (Il (p:=0) b) ?_
 rintro _ _ ⟨rfl,rfl⟩
 refine⟨_,D,?_⟩
 refine I D<|AS HJ D (Il (p:=1) b) ?_
 rintro _ _ ⟨rfl,rfl⟩
 refine⟨_,D,?_⟩
 intro o f
 have x:=b.FW (p:=0) (by omega)
 have y:=b.FW (p:=1) (by omega)
 refine Bj D (fun Aa g=>B0 f #[F (some ⟨AL,256*0,none⟩) 256 (c - 256*0),F (some ⟨AL,256*1,none⟩) 256 (c - 256*1)] N_ (T4 _ _ _ _ _ _ _ (s:=s) r x (FY b.len) y (FY b.len)) ?_)
 rintro _ P ⟨rfl,k⟩
 refine⟨_,D,?_⟩
 intro a h
 have S:=S.below k
 have b:=b.below k
 have d:=BH d k An
 refine g _ _ ?_;revert a
 refine I D<|BC D D<|BC D D<|Bt D<|Am HL 1 D<|?_
 intro o f
 refine Bj D (fun Aa g=>R1 f b s D D (by kernel_rfl) ?_)
 intro a Q h z q
 have S:=S.B1 q
 have d:=CG d q An
 clear b;have b:=z
 refine g _ _ ?_;revert a
 refine O (v:=(E 0)) D<|M<|G<|K<|K<|?_
 intro a h
 refine C7 (fun W=>Below Aj w W∧B9 Aj A6 AL n c W l s) ?_
 intro R T m
 have S:=S.below m
 have b:=b.below m
 have d:=BH d m An
 revert a
 refine Bk 0 D (v:=(E 0)) D ⟨d,b⟩<|?_
 have A:(((0:Nat):Int)=((0:Nat):Int)):=D
 refine Ou 1 D A D D ⟨d,b⟩<|Bk 2 D D ⟨d,b⟩<|He 3 D D D D D ⟨d,b⟩<|MF 4 D D D D D ⟨d,b⟩<|H5 5 D D D D HL 1 D ⟨d,b⟩<|H5 6 D D D D Bw 5 D ⟨d,b⟩<|EV 7 D D D D (fun W B a h=>by obtain⟨d,b⟩:=B;exact D1 h D AH D b.VV) ⟨d,b⟩<|He 8 D D D D D ⟨d,b⟩<|?_
 intro o f
 refine JU (i:=9) (fuel:=2) D (I0 (j:=2) (t:=true) D D D f D) (by kernel_rfl) (by kernel_rfl) ?_
 intro Aa g
 refine B0 f #[AB A6] Rj (WU b (by omega)) ?_
 rintro _ _ ⟨rfl,rfl⟩
 refine⟨_,D,?_⟩
 intro a h
 refine g _ _ ⟨d,b⟩ ?_;revert a
 have C:(((s.p:Nat):Int)=((n/256:Nat):Int)):=by omega
 refine Ye 10 D D D D C D D ⟨d,b⟩<|Hh 11 D D D ⟨d,b⟩<|B_<|G<|BE D<|AE<|G<|K<|N<|I (v:=(E 0)) D<|O (v:=(E 0)) D<|M<|G<|AA<|AZ D<|?_
 exact⟨D,b,S,d⟩
theorem T8{Aj A6 AL:Nat}{u:Fr.Ch}(An:Aj≤w.heap.size)(b:B9 Aj A6 AL n c w l u)(hn:768≤n∧n≤1048576)(m:Fr.choose (BB l 0) (BB l 1)=.error 4):
 Calls Tryz.prog 19 #[AB A6] w fun e w'=>e=.returned (.int .i64 ((4:Nat):Int))∧B9 Aj A6 AL n c w' l ⟨0,0,0,0,0⟩∧Bd (E2 A6 AL) w w'∧Below Aj w w':=by
 have d:Below Aj w w:=Bu _ _
 have S:Bd (E2 A6 AL) w w:=Bd.refl _ _
 have x:=b.cap
 have y:=b.low
 have hlen:=b.len
 refine Bx LJ D 28 ?_
 refine K<|N<|O (v:=(E 0)) D<|M<|G<|K<|N<|O (v:=(E 0)) D<|M<|G<|K<|N<|I D<|I D<|AS HJ D (Il (p:=0) b) ?_
 rintro _ _ ⟨rfl,rfl⟩
 refine⟨_,D,?_⟩
 refine I D<|AS HJ D (Il (p:=1) b) ?_
 rintro _ _ ⟨rfl,rfl⟩
 refine⟨_,D,?_⟩
 intro o f
 have q:=b.FW (p:=0) (by omega)
 have r:=b.FW (p:=1) (by omega)
 refine Bj D (fun Aa g=>B0 f #[F (some ⟨AL,256*0,none⟩) 256 (c - 256*0),F (some ⟨AL,256*1,none⟩) 256 (c - 256*1)] N_ (Wy _ _ _ _ _ _ _ m q (FY b.len) r (FY b.len)) ?_)
 rintro _ z ⟨rfl,h⟩
 refine⟨_,D,?_⟩
 intro a j
 have S:=S.below h
 have b:=b.below h
 have d:=BH d h An
 refine g _ _ ?_;revert a
 refine I D<|BC D D<|BC D D<|Bt D<|Am HL 1 D<|?_
 intro o f
 refine Bj D (fun Aa g=>R1 f b ⟨0,0,0,0,0⟩ D D (by kernel_rfl) ?_)
 intro a A j s k
 have S:=S.B1 k
 have d:=CG d k An
 clear b;have b:=s
 refine g _ _ ?_;revert a
 refine O (v:=(E 4)) D<|M<|G<|K<|K<|?_
 intro a j
 refine C7 (fun W=>Below Aj w W∧B9 Aj A6 AL n c W l (⟨0,0,0,0,0⟩)) ?_
 intro B C i
 have S:=S.below i
 have b:=b.below i
 have d:=BH d i An
 revert a
 refine Bk 0 D (v:=(E 4)) D ⟨d,b⟩<|?_
 have t:¬(((4:Nat):Int)=((0:Nat):Int)):=by decide
 refine Oo 1 D t D D ⟨d,b⟩<|Bk 2 D D ⟨d,b⟩<|Ci 3 D D D D D D D ⟨d,b⟩<|Ci 4 D D D D D D D ⟨d,b⟩<|Ci 5 D D D D D D D ⟨d,b⟩<|Ci 6 D D D D D D D ⟨d,b⟩<|Ci 7 D D D D D D D ⟨d,b⟩<|Ci 8 D D D D D D D ⟨d,b⟩<|Ci 9 D D D D D D D ⟨d,b⟩<|Ci 10 D D D D D D D ⟨d,b⟩<|Ik 11 D D D ⟨d,b⟩<|B_<|G<|BE D<|AE<|G<|K<|N<|I (v:=(E 4)) D<|O (v:=(E 4)) D<|M<|G<|AA<|AZ D<|?_
 exact⟨D,b,S,d⟩
theorem Ru{q:Option Addr}{mk:Nat}{g:List UInt8}{J:List Nat}(Q:Fh g n mk)(U:Gv g l mk J)(ax:View w (.slice q n c) n 1 (bv l))(ay:l.length=n)(az:Ek J 0≤1)(aA:Ek J 1≤1):
 Calls Tryz.prog 6 #[F q n c] w fun e w'=>∃ad ae af X ag x,∃L:List Nat,e=.returned (.tuple #[.slice ad n ae,.slice af X ag,.int .i64 ((0:Nat):Int)])∧w'.ownsRow w.heap.size 5 1 (.slice ad n ae) n (bv x)∧F7 g l J x mk∧w'.ownsRow w.heap.size 3 1 (.slice af X ag) X (Al Ct L)∧((∀q,El J q≤1)→L=II J mk)∧Below w.heap.size w w':=by
 obtain⟨a2,a3,a4,a5,PP,aB⟩:=Q.two
 have d:Below w.heap.size w w:=Bu _ _
 refine Bx Ka D 56 ?_
 refine K<|N<|O D<|O D<|O (v:=(E 0)) D<|M<|G<|K<|N<|I D<|AS NP D (R8 _ _ _ PP _ _ ax ay aB (by omega) (by omega)) ?_
 rintro _ aC ⟨A6,AL,ci,rfl,b,aD⟩
 refine⟨_,D,?_⟩
 have d:=Ah d aD
 have a6:=b.cap
 have a7:=b.low
 refine I D<|BC D D<|BC D D<|O D<|O (v:=(E 0)) D<|M<|G<|K<|K<|N<|I (v:=(E 0)) D<|?_
 have aE:(((0:Nat):Int)=((0:Nat):Int)):=D
 refine Dr aE D D<|M<|G<|BE D<|AE<|G<|K<|N<|O D<|M<|G<|K<|K<|N<|I (v:=(E 0)) D<|M<|G<|A2<|?_
 have f:aC.ownsRow w.heap.size 3 1 (.slice none 0 0) 0 (Al Ct []):=World.ownsRow_nil _ _ _ _
 have r:Z (F none 0 0) A6:=FL
 have s:Z (F none 0 0) AL:=FL
 intro a i
 refine Cb (fun Y a W=>∃p x t u j y,Y=2 - p∧Ao 56 a (Ja (Ja (Ja (Ja (Ja (Ja Je 2 (F none 0 0)) 3 (F none 0 0)) 4 (E 0)) 5 (AB A6)) 19 (E p)) 7 (F t j u))∧p≤2∧F7 g l J x p∧((∀q,El J q≤1)→y=II J p)∧j≤p∧W.ownsRow w.heap.size 3 1 (.slice t j u) j (Al Ct y)∧Below w.heap.size w W∧B9 w.heap.size A6 AL n ci W x (⟨0,0,0,0,0⟩)∧Z (F t j u) A6∧Z (F t j u) AL) _ ⟨0,l,_,_,_,_,D,At i,by omega,F7.zero U,fun _=>rfl,Nat.zero_le _,f,d,b,T r,T s⟩ ?_
 rintro _ a ah ⟨p,x,t,u,j,y,rfl,i,aF,C,A,aG,f,d,b,r,s⟩
 revert a
 refine K<|N<|B5 (q:=(2:Nat)) D D<|M<|G<|K<|Bl D (fun aH=>?_) fun aH=>?_
 ·
  refine AE<|G<|K<|A2<|K<|N<|I D<|O D<|M<|G<|K<|N<|I D<|I D<|AS Lu D (PG Q U C (by omega) d.size b) ?_
  rintro _ aI ⟨t8,ai,rfl,aj,ak,aJ,al,a8⟩
  refine⟨_,D,?_⟩
  have z:Below w.heap.size ah aI:=al.toBelow d.size (fun k o=>o.elim (fun q=>by omega) (fun q=>by omega))
  have f:=FA f al (fun k o h=>h.elim (r k o) (s k o))
  have d:=d.trans z
  clear z b;have b:=aJ
  refine M<|G<|Ej D (fun aa=>?_) fun aa=>?_
  ·
   refine N<|I D<|I D<|D6 DK D (cs:=#[E p]) D D ?_
   intro a9 aK aL B
   have b:=b.below B
   have f:=V f B
   have d:=Ah d B
   intro an H
   refine Bj D (fun Aa P=>BK H DK f aL (by simp[Value.oneCell']) d.size (j+1) (CC y p D (En _)) ?_)
   intro a a_ a' ba i aM R
   have aN:=A9 R r b.GW
   have aO:=A9 R s b.Hl
   have b:=b.C9 R f r s
   have d:=Cm d R f
   refine P _ _ ?_;revert a
   refine O D<|M<|Bq<|G<|N<|A_ (q:=1) D D<|I D<|M<|G<|?_
   intro a i
   exact⟨_,by omega,p+1,ai,_,_,_,_,D,At i,by omega,ak,fun h=>by rw[Kp,A h,if_pos (of_decide_eq_true ((aj (h _)).symm.trans aa))],by omega,aM,d,b,T aN,T aO⟩
  ·
   refine AE<|Bq<|G<|N<|A_ (q:=1) D D<|I D<|M<|G<|?_
   intro a i
   exact⟨_,by omega,p+1,ai,_,_,_,_,D,At i,by omega,ak,fun h=>by rw[Kp,A h,if_neg (of_decide_eq_false ((aj (h _)).symm.trans aa)),List.append_nil],by omega,f,d,b,T r,T s⟩
 ·
  refine BO<|AW<|AW<|BN<|G<|K<|K<|?_
  obtain rfl:p=2:=by omega
  refine N<|I D<|?_
  intro an H
  obtain⟨ao,aP,aQ,bb⟩:=S1 Q C az aA
  refine Bj D (fun Aa P=>B0 H #[AB A6] LJ (Tw d.size b (by omega) aP (by omega)) ?_)
  rintro _ aR ⟨rfl,aS,aq,bc⟩
  refine⟨_,D,?_⟩
  intro a i
  have z:Below w.heap.size ah aR:=aq.toBelow d.size (fun k o=>o.elim (fun q=>by omega) (fun q=>by omega))
  have f:=FA f aq (fun k o h=>h.elim (r k o) (s k o))
  have d:=d.trans z
  clear z b;have b:=aS
  refine P _ _ ?_;revert a
  refine O (v:=(E 0)) D<|M<|G<|K<|N<|I (v:=(E 0)) D<|?_
  have aT:(((0:Nat):Int)=((0:Nat):Int)):=D
  refine Dr aT D D<|M<|G<|BE D<|AE<|G<|K<|K<|N<|O (v:=(E 2)) D<|M<|G<|A2<|?_
  intro a i
  refine Cb (fun Y a W=>∃p x t u j y,Y=mk - p∧Ao 56 a (Ja (Ja (Ja (Ja (Ja (Ja Je 2 (F none 0 0)) 3 (F none 0 0)) 4 (E 0)) 5 (AB A6)) 10 (E p)) 7 (F t j u))∧(2≤p∧p≤mk)∧F7 g l J x p∧((∀q,El J q≤1)→y=II J p)∧j≤p∧W.ownsRow w.heap.size 3 1 (.slice t j u) j (Al Ct y)∧Below w.heap.size w W∧B9 w.heap.size A6 AL n ci W x ao∧Z (F t j u) A6∧Z (F t j u) AL) _ ⟨2,x,_,_,_,_,D,At i,by omega,C,A,by omega,f,d,b,T r,T s⟩ ?_
  rintro _ a aU ⟨p,x,t,u,j,y,rfl,i,aF,C,A,aG,f,d,b,r,s⟩
  revert a
  refine K<|K<|N<|I D<|I D<|Bt D<|Am HL 1 D<|Am Bw 3 D<|AT (fun _ i=>Fk (D1 i D AH D b.mark) (show(E ao.m)=(E mk)from by rw[aQ]))<|B5 D D<|M<|G<|Bl D (fun aV=>?_) fun aV=>?_
  ·
   refine AE<|G<|K<|A2<|K<|N<|I D<|I D<|AS Mn D (V9 Q U C (by omega) d.size b) ?_
   rintro _ aW ⟨t30,ar,rfl,au,av,aX,aw,bd⟩
   refine⟨_,D,?_⟩
   have z:Below w.heap.size aU aW:=aw.toBelow d.size (fun k o=>o.elim (fun q=>by omega) (fun q=>by omega))
   have f:=FA f aw (fun k o h=>h.elim (r k o) (s k o))
   have d:=d.trans z
   clear z b;have b:=aX
   refine M<|G<|Ej D (fun ab=>?_) fun ab=>?_
   ·
    refine N<|I D<|I D<|D6 DK D (cs:=#[E p]) D D ?_
    intro bf aK aY B
    have b:=b.below B
    have f:=V f B
    have d:=Ah d B
    intro an H
    refine Bj D (fun Aa P=>BK H DK f aY (by simp[Value.oneCell']) d.size (j+1) (CC y p D (En _)) ?_)
    intro a bg bh bj i aZ S
    have a0:=A9 S r b.GW
    have a1:=A9 S s b.Hl
    have b:=b.C9 S f r s
    have d:=Cm d S f
    refine P _ _ ?_;revert a
    refine O D<|M<|Bq<|G<|N<|I D<|A_ (q:=1) D D<|O D<|M<|G<|?_
    intro a i
    exact⟨_,by omega,p+1,ar,_,_,_,_,D,At i,by omega,av,fun h=>by rw[Kp,A h,if_pos (of_decide_eq_true ((au (h _)).symm.trans ab))],by omega,aZ,d,b,T a0,T a1⟩
   ·
    refine AE<|Bq<|G<|N<|I D<|A_ (q:=1) D D<|O D<|M<|G<|?_
    intro a i
    exact⟨_,by omega,p+1,ar,_,_,_,_,D,At i,by omega,av,fun h=>by rw[Kp,A h,if_neg (of_decide_eq_false ((au (h _)).symm.trans ab)),List.append_nil],by omega,f,d,b,T r,T s⟩
  ·
   refine BO<|AW<|AW<|BN<|G<|K<|N<|I D<|Bt D<|Am HL 0 D<|Cg Cr b.Oh D<|I D<|O D<|O D<|O (v:=(E 0)) D<|M<|G<|AA<|?_
   intro a i
   refine Hs i D D D D ?_
   obtain rfl:p=mk:=by omega
   exact⟨_,_,_,_,_,x,y,D,b.own,C,f,A,d⟩
theorem Qp{q:Option Addr}{mk:Nat}{g:List UInt8}{J:List Nat}(A:Fh g n mk)(B:Gv g l mk J)(Y:View w (.slice q n c) n 1 (bv l))(aa:l.length=n)(ab:2≤Ek J 0∨2≤Ek J 1):
 Calls Tryz.prog 6 #[F q n c] w fun e w'=>e=.returned (.tuple #[.slice none 0 0,.slice none 0 0,.int .i64 ((4:Nat):Int)])∧Below w.heap.size w w':=by
 obtain⟨az,aA,aB,aC,PP,ad⟩:=A.two
 have b:Below w.heap.size w w:=Bu _ _
 refine Bx Ka D 56 ?_
 refine K<|N<|O D<|O D<|O (v:=(E 0)) D<|M<|G<|K<|N<|I D<|AS NP D (R8 _ _ _ PP _ _ Y aa ad (by omega) (by omega)) ?_
 rintro _ ae ⟨A6,AL,ci,rfl,d,af⟩
 refine⟨_,D,?_⟩
 have b:=Ah b af
 have aD:=d.cap
 have aE:=d.low
 refine I D<|BC D D<|BC D D<|O D<|O (v:=(E 0)) D<|M<|G<|K<|K<|N<|I (v:=(E 0)) D<|?_
 have ag:(((0:Nat):Int)=((0:Nat):Int)):=D
 refine Dr ag D D<|M<|G<|BE D<|AE<|G<|K<|N<|O D<|M<|G<|K<|K<|N<|I (v:=(E 0)) D<|M<|G<|A2<|?_
 have f:ae.ownsRow w.heap.size 3 1 (.slice none 0 0) 0 (Al Ct []):=World.ownsRow_nil _ _ _ _
 have m:Z (F none 0 0) A6:=FL
 have o:Z (F none 0 0) AL:=FL
 intro a i
 refine Cb (fun ah a W=>∃p x s t j y,ah=2 - p∧Ao 56 a (Ja (Ja (Ja (Ja (Ja (Ja Je 2 (F none 0 0)) 3 (F none 0 0)) 4 (E 0)) 5 (AB A6)) 19 (E p)) 7 (F s j t))∧p≤2∧F7 g l J x p∧((∀q,El J q≤1)→y=II J p)∧j≤p∧W.ownsRow w.heap.size 3 1 (.slice s j t) j (Al Ct y)∧Below w.heap.size w W∧B9 w.heap.size A6 AL n ci W x (⟨0,0,0,0,0⟩)∧Z (F s j t) A6∧Z (F s j t) AL) _ ⟨0,l,_,_,_,_,D,At i,by omega,F7.zero B,fun _=>rfl,Nat.zero_le _,f,b,d,T m,T o⟩ ?_
 rintro _ a L ⟨p,x,s,t,j,y,rfl,i,aF,P,Q,aG,f,b,d,m,o⟩
 revert a
 refine K<|N<|B5 (q:=(2:Nat)) D D<|M<|G<|K<|Bl D (fun ai=>?_) fun ai=>?_
 ·
  refine AE<|G<|K<|A2<|K<|N<|I D<|O D<|M<|G<|K<|N<|I D<|I D<|AS Lu D (PG A B P (by omega) b.size d) ?_
  rintro _ aj ⟨t8,R,rfl,S,U,ak,X,aH⟩
  refine⟨_,D,?_⟩
  have u:Below w.heap.size L aj:=X.toBelow b.size (fun k r=>r.elim (fun q=>by omega) (fun q=>by omega))
  have f:=FA f X (fun k r h=>h.elim (m k r) (o k r))
  have b:=b.trans u
  clear u d;have d:=ak
  refine M<|G<|Ej D (fun C=>?_) fun C=>?_
  ·
   refine N<|I D<|I D<|D6 DK D (cs:=#[E p]) D D ?_
   intro aI aJ al H
   have d:=d.below H
   have f:=V f H
   have b:=Ah b H
   intro aK an
   refine Bj D (fun Aa ao=>BK an DK f al (by simp[Value.oneCell']) b.size (j+1) (CC y p D (En _)) ?_)
   intro a aL aM aN i aq z
   have ar:=A9 z m d.GW
   have au:=A9 z o d.Hl
   have d:=d.C9 z f m o
   have b:=Cm b z f
   refine ao _ _ ?_;revert a
   refine O D<|M<|Bq<|G<|N<|A_ (q:=1) D D<|I D<|M<|G<|?_
   intro a i
   exact⟨_,by omega,p+1,R,_,_,_,_,D,At i,by omega,U,fun h=>by rw[Kp,Q h,if_pos (of_decide_eq_true ((S (h _)).symm.trans C))],by omega,aq,b,d,T ar,T au⟩
  ·
   refine AE<|Bq<|G<|N<|A_ (q:=1) D D<|I D<|M<|G<|?_
   intro a i
   exact⟨_,by omega,p+1,R,_,_,_,_,D,At i,by omega,U,fun h=>by rw[Kp,Q h,if_neg (of_decide_eq_false ((S (h _)).symm.trans C)),List.append_nil],by omega,f,b,d,T m,T o⟩
 ·
  refine BO<|AW<|AW<|BN<|G<|K<|K<|?_
  obtain rfl:p=2:=by omega
  refine N<|I D<|AS LJ D (T8 b.size d (by omega) (Y5 A B P ab)) ?_
  rintro _ av ⟨rfl,aw,ax,aO⟩
  refine⟨_,D,?_⟩
  have u:Below w.heap.size L av:=ax.toBelow b.size (fun k r=>r.elim (fun q=>by omega) (fun q=>by omega))
  have b:=b.trans u
  clear u d;have d:=aw
  refine O (v:=(E 4)) D<|M<|G<|K<|N<|I (v:=(E 4)) D<|?_
  have ay:¬(((4:Nat):Int)=((0:Nat):Int)):=by decide
  refine F6 ay D D<|M<|G<|BS D<|K<|N<|I (v:=(E 4)) D<|O D<|O D<|O (v:=(E 4)) D<|M<|G<|AA<|AX<|?_
  intro a i
  refine Hs i D D D D ?_
  exact⟨D,b⟩
end Go.Proofs.YtcdaflcjhimimaaGreatDoor
namespace Go.Proofs.YtcdaflcjhimimaaGreatDoor
open Go.RowKit
theorem Rk{wd first Ak:Nat}{q:Option Addr}{n c:Nat}{DQ:List EN}{w:World}(d:CT w)(hw:1≤wd∧wd≤32)(f:first≤4294967296)(hn:n≤100000000)(i:Ak≤1000000000)(j:View w (.slice q n c) n 1 (Al IP DQ))(l:DQ.length=n)(r:∀x∈DQ,EN.ok w x)(s:Ii (DQ.map (fun x=>A7 x.L))):
 Calls Tryz.prog 14 #[Value.int .i64 ((wd:Nat):Int),Value.int .i64 ((first:Nat):Int),Value.slice q n c,Value.int .i64 ((Ak:Nat):Int)] w fun e w'=>∃p m k,∃L:List UInt8,e=.returned (.slice p m k)∧w'.ownsRow w.heap.size 5 1 (.slice p m k) m (bv L)∧(p=none∨∃mk,Fh L m mk)∧((Dm (DQ.map (fun x=>A7 x.L))).2.2≤Ak∧3≤Ak∧Ak≤4096→∃mk,Fh L m mk)∧m≤1048576∧Below w.heap.size w w':=by
 refine(YB d f hn i j l r s).mono fun e w' h=>?_
 obtain⟨⟨L,mark,hm,u,h|⟨h,t,p,k,rfl,o⟩⟩,a⟩:=h
 ·obtain⟨h,rfl⟩:=h
  exact⟨none,0,0,[],D,World.ownsRow_nil _ _ _ _,.inl D,fun q=>absurd (hm▸q) h,Nat.zero_le _,a⟩
 ·have b:=XE (g:=1+n) (Dt:=(Dm ((DQ.map (fun x=>A7 x.L)).take (n - 1))).2.2) hw (by omega) ⟨M8 _,by rw[hm];exact QI _ _⟩ h t
  exact⟨p,256*Ak,k,_,D,o,.inr ⟨mark,b⟩,fun _=>⟨mark,b⟩,by omega,a⟩
theorem L6{l:List UInt8}{b:UInt8}{i j:Nat}(h:i+256≤j:=by omega):((l.set j b).drop i).take 256=(l.drop i).take 256:=by
 apply List.ext_getElem?
 intro m
 rw[List.getElem?_take,List.getElem?_take]
 split
 ·rw[List.getElem?_drop,List.getElem?_drop,List.getElem?_set_ne (by omega)]
 ·rfl
theorem Fh.set{l:List UInt8}{b:UInt8}{n mk j:Nat}(h:Fh l n mk)(q:256*mk≤j):Fh (l.set j b) n mk:=by
 obtain⟨d,⟨x,y,u,e,f,g,k,m,o,p⟩,len,Ak⟩:=h
 have c:2≤mk:=by omega
 refine⟨fun i a=>by rw[L6];exact d i a,⟨x,y,u,e,f,g,k,?_,?_,p⟩,by rw[List.length_set];exact len,fun i c a=>?_⟩
 ·rw[L6];exact m
 ·rw[L6];exact o
 ·rw[L6];exact Ak i c a
end Go.Proofs.YtcdaflcjhimimaaGreatDoor
namespace Go.Proofs.YtcdaflcjhimimaaGreatDoor
open Go.RowKit
set_option maxRecDepth 100000
set_option maxHeartbeats 1000000
theorem XK:Ii [[(Bh.l,[7])]]:=by
 intro i m hm
 cases i with
 |zero=>
  simp only[List.getElem?_cons_zero,Option.some.injEq]at hm
  subst hm
  have e:CZ (Dm (([[(Bh.l,[7])]]:List CY).take 0)) [(Bh.l,[7])]=(2,3,[(0,2,Bh.l)]):=D
  refine⟨by show(1:Nat)≤_;decide,by show(0:Nat)≤_;decide,?_,?_,?_⟩
  ·rw[e];show(1:Nat)≤_;decide
  ·rw[e];show(3:Nat)≤2+_;decide
  ·rw[e];show(3:Nat)≤_;decide
 |succ i=>simp at hm
theorem VS{w:World}(n:CT w):
 Calls Tryz.prog 15 #[] w fun e w'=>∃p m k,∃L:List UInt8,∃mk,e=.returned (.slice p m k)∧w'.ownsRow w.heap.size 5 1 (.slice p m k) m (bv L)∧Fh L m mk∧m≤1048576∧Below w.heap.size w w':=by
 have a:Below w.heap.size w w:=Bu _ _
 refine Bx Ri D 6 ?_
 refine K<|N<|O D<|M<|G<|K<|N<|D6 A0 D (cs:=#[Value.int .u8 (((7:Nat):Int):Int)]) D D ?_
 intro c h v2 b
 have a:=Ah a b
 have v2:View c (F (some ⟨w.heap.size,0,none⟩) 1 1) 1 1 (bv [7]):=v2
 refine AT (fun _ o=>CE o (Bf:=[(1,(F (some ⟨w.heap.size,0,none⟩) 1 1))]) D (v:=Value.agg (flat [Av 32,[F (some ⟨w.heap.size,0,none⟩) 1 1]])) (run_build _ _ _ _ (by kernel_rfl)))<|E8 DH [Av 32,[F (some ⟨w.heap.size,0,none⟩) 1 1]] ?_
 intro i h v4 b
 have v2:=v2.below b
 have a:=Ah a b
 refine D6 I3 D (cs:=#[F (some ⟨c.heap.size,0,none⟩) 1 1]) D D ?_
 intro f h v6 b
 have v2:=v2.below b
 have v4:=v4.below b
 have a:=Ah a b
 have q:View f (.slice (some ⟨i.heap.size,0,none⟩) 1 1) 1 1 (Al IP [⟨some ⟨c.heap.size,0,none⟩,[⟨Bh,⟨some ⟨w.heap.size,0,none⟩,[7],1⟩⟩],1⟩]):=v6
 have r:∀x∈([⟨some ⟨c.heap.size,0,none⟩,[⟨Bh,⟨some ⟨w.heap.size,0,none⟩,[7],1⟩⟩],1⟩]:List EN),EN.ok f x:=by
  intro x j
  simp only[List.mem_singleton]at j
  subst j
  refine⟨v4,?_,List.pairwise_singleton _ _,?_⟩
  all_goals
   intro e he
   simp only[List.mem_singleton]at he
   subst he
  ·exact v2
  ·show(1:Nat)≤128
   decide
 refine AS MS (l:=[E 3,E 0,F (some ⟨i.heap.size,0,none⟩) 1 1,E 5]) D (Rk (DQ:=[⟨some ⟨c.heap.size,0,none⟩,[⟨Bh,⟨some ⟨w.heap.size,0,none⟩,[7],1⟩⟩],1⟩]) (n.below a (Be _)) (by omega) (by omega) (by omega) (by omega) q D r XK) ?_
 rintro _ y ⟨z,A,B,C,rfl,g,H,s,I,d⟩
 refine⟨_,D,?_⟩
 have t:w.heap.size≤f.heap.size:=a.size
 have v2:=v2.below d
 have v4:=v4.below d
 have v6:=v6.below d
 have a:=Ah a d
 have g:=CB g t
 refine O D<|M<|G<|AA<|AZ D<|?_
 obtain⟨mk,u⟩:=s ⟨by show(4:Nat)≤5;decide,by decide,by decide⟩
 exact⟨_,_,_,_,mk,D,g,u,by omega,a⟩
end Go.Proofs.YtcdaflcjhimimaaGreatDoor
