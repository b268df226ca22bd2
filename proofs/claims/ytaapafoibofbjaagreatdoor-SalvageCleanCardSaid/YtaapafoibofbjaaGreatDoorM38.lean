/- Laws and walks on the road to SalvageClean (part M38). No conditions beyond each law's own. -/
import Derived.Test.YtaapafoibofbjaaGreatDoorM01
import Derived.Test.YtaapafoibofbjaaGreatDoorM37
import Derived.Test.YtaapafoibofbjaaGreatDoorM07
import Derived.Test.YtaapafoibofbjaaGreatDoorM29
import Derived.Test.YtaapafoibofbjaaGreatDoorM12
import Derived.Test.YtaapafoibofbjaaGreatDoorM32
import Derived.Test.YtaapafoibofbjaaGreatDoorM33
set_option linter.unusedVariables false
namespace Go.Proofs.YtaapafoibofbjaaGreatDoor
open Go.RowKit
set_option maxRecDepth 100000
set_option maxHeartbeats 1000000
variable {Bj AK ib n c p j:Nat} {l:List UInt8} {w:World}
theorem Ib{u:Fr.Bu}(d:BS Bj AK ib n c w l u)(f:256*(p+1)≤n∧n≤1048576:=by omega):
 Calls Tryz.prog 35 #[S AK,E p] w fun e w'=>e=.returned (.slice (some ⟨ib,256*p,none⟩) 256 (c - 256*p))∧w=w':=by
 have g:=d.cap
 refine DZ Fy D 15 ?_
 refine Ao<|AD<|AV D<|Aw<|Ai<|Ao<|AD<|Az D<|QJ D<|Gt F_ 0 D<|D8 Co d.QY D<|Az D<|Nv (q:=256) D D<|?_
 intro a b
 replace b:=b.RF 10 D (show(E (p*256))=(E (256*p))from by rw[Nat.mul_comm])
 revert a
 refine Az D<|Dz (q:=1) D D<|Nv (q:=256) D D<|?_
 intro a b
 replace b:=b.RF 13 D (show(E ((p+1)*256))=(E (256*(p+1)))from by rw[Nat.mul_comm])
 revert a
 refine Cc (fun _ b=>iw b D (256*p) (256*(p+1)) (k:=.i64) (k':=.i64) (p:=some ⟨ib,256*p,none⟩) (m:=256) (G5:=c - 256*p) D D (fun W k k'=>Z2 ib 0 n c (256*p) (256*(p+1)) (256*p) 256 (by omega) (by omega) (by omega) (by omega) (by omega) W k k'))<|AV D<|Aw<|Ai<|C0<|EE D<|?_
 exact⟨D,D⟩
theorem g5{u:Fr.Bu}(t:Bj≤w.heap.size)(d:BS Bj AK ib n c w l u)(ai:n≤1048576)(aj:256*(p+1)≤n){s:Fr.Bu}(P:Fr.DP (Dc l p)=some s):
 Calls Tryz.prog 17 #[S AK,E p] w fun e w'=>∃ch,e=.returned (.bool ch)∧(ch=true→∃i,64≤i∧i<256∧¬l.getD (256*p+i) 0=0)∧(ch=false→∀i,64≤i→i<256→l.getD (256*p+i) 0=0)∧BS Bj AK ib n c w' (GW l p 192) u∧Cu (EM AK ib) w w'∧Below Bj w w':=by
 have f:Below Bj w w:=Cn _ _
 have BC:Cu (EM AK ib) w w:=Cu.refl _ _
 have ak:=d.cap
 have al:=d.low
 have hlen:=d.len
 refine DZ Ms D 70 ?_
 refine Ao<|AD<|AV D<|Aw<|Ai<|Ao<|AD<|Az D<|Az D<|CL Fy D (Ib (p:=p) d) ?_
 rintro _ _ ⟨rfl,rfl⟩
 refine⟨_,D,?_⟩
 refine AV D<|AV D<|Aw<|Ai<|Ao<|Ao<|AD<|Az D<|?_
 intro Q y
 have Cd:=d.CW (p:=p) (by omega)
 refine Cp D (fun K z=>Ee y #[I (some ⟨ib,256*p,none⟩) 256 (c - 256*p)] FW (KR _ _ _ _ (s:=s) P Cd (F0 d.len)) ?_)
 rintro _ an ⟨rfl,H⟩
 refine⟨_,D,?_⟩
 intro a r
 have BC:=BC.below H
 have d:=d.below H
 have f:=Et f H t
 refine z _ _ ?_;revert a
 refine Az D<|CH D D<|CH D D<|D4 [[E 0],[E 0],[E 0],[E 0],[E 0]] ?_
 intro L ao B M R J
 have aq:=C8 f B
 have ar:AK<L∧ib<L:=by have:=d.G2;have:=d.Hi;omega
 have BC:=BC.below J
 have d:=d.below J
 have f:=Et f J t
 refine CK 0 5 R D D ?_
 intro au M o N
 have BC:=BC.Ia N
 have d:=d.grown N (by omega) (by omega) ⟨_,_,R⟩
 have f:=Ii f N t
 refine AV (v:=(E 0)) D<|Aw<|Ai<|Ao<|AD<|Az (v:=(E 0)) D<|?_
 have aa:(((0:Nat):Int)=((0:Nat):Int)):=D
 refine Mg aa D D<|Aw<|Ai<|FQ D<|CA<|Ai<|Ao<|Ao<|AD<|Az D<|?_
 intro Q y
 have ab:=d.CW (p:=p) (by omega)
 refine Cp D (fun K z=>Ee y #[I (some ⟨ib,256*p,none⟩) 256 (c - 256*p)] FW (KR _ _ _ _ (s:=s) P ab (F0 d.len)) ?_)
 rintro _ av ⟨rfl,C⟩
 refine⟨_,D,?_⟩
 intro a r
 have BC:=BC.below C
 have d:=d.below C
 have o:=Bl o C
 have f:=Et f C t
 refine z _ _ ?_;revert a
 refine Az D<|CH D D<|CH D D<|D4 [[E 0],[E 0],[E 0],[E 0],[E 0]] ?_
 intro O aw B M T J
 have ax:=C8 f B
 have ay:AK<O∧ib<O:=by have:=d.G2;have:=d.Hi;omega
 have az:=C6 o B
 have BC:=BC.below J
 have d:=d.below J
 have o:=Bl o J
 have f:=Et f J t
 refine CK 0 5 T D D ?_
 intro aA M x F
 have BC:=BC.Ia F
 have d:=d.grown F (by omega) (by omega) ⟨_,_,T⟩
 have o:=Bn F o (by omega)
 have f:=Ii f F t
 refine AV (v:=(E 0)) D<|Aw<|Ai<|Ao<|AD<|Az (v:=(E 0)) D<|?_
 have ad:(((0:Nat):Int)=((0:Nat):Int)):=D
 refine Mg ad D D<|Aw<|Ai<|FQ D<|CA<|Ai<|Ao<|Ao<|AD<|Az D<|Cc (fun _ r=>VH r D 64 (k:=.i64) (p:=some ⟨ib,256*p+64,none⟩) (m:=192) (G5:=c - 256*p - 64) D (fun W k=>Xe ib (256*p) 256 (c - 256*p) 64 (256*p+64) 192 (by omega) (by omega) (by omega) (by omega) (by omega) W k))<|HT Co D<|Az (v:=(E 0)) D<|Aw<|Ai<|B'<|?_
 rw[←Wn l p]at d
 have aB:l.length=n:=by first|exact hlen|(rw[At.Tz];exact hlen)
 intro a r
 refine Ec (fun ae a W=>∃k ch,ae=192 - k∧AH 70 a (Jb (Jb (Jb (Jb (Jb (Jb Jk 4 (C' false)) 5 (I (some ⟨ib,256*p,none⟩) 256 (c - 256*p))) 55 (I (some ⟨ib,256*p+64,none⟩) 192 (c - 256*p - 64))) 56 (E 192)) 57 (E k)) 6 (C' ch))∧k≤192∧(ch=true→∃i,64≤i∧i<256∧¬l.getD (256*p+i) 0=0)∧(ch=false→∀i,64≤i→i<64+k→l.getD (256*p+i) 0=0)∧Below Bj w W∧BS Bj AK ib n c W (GW l p k) u∧Cu (EM AK ib) w W∧CY W L [[E s.w],[E s.g],[E s.m],[E s.h],[E s.p]] 68∧CY W O [[E s.w],[E s.g],[E s.m],[E s.h],[E s.p]] 68) _ ⟨0,false,D,AY r,by omega,(fun h=>by cases h),fun _ i h1 U=>by omega,f,d,BC,o,x⟩ ?_
 rintro _ a aC ⟨k,ch,rfl,r,aD,V,X,f,d,BC,o,x⟩
 revert a
 refine Ao<|AD<|D_ (q:=(192:Nat)) D D<|Aw<|Ai<|Ao<|DU D (fun af=>?_) fun af=>?_
 ·
  refine CA<|Ai<|Ao<|B'<|Ao<|AD<|Az D<|?_
  have ag:=d.cell (i:=256*p+64+k) (by omega)
  refine Ou A3 k (256*p+64+k) D D<|D8 BV ag D<|AV D<|AV D<|Aw<|Ai<|Ao<|AD<|Az D<|Rq D D<|Aw<|Ai<|OM D (fun A=>?_) fun A=>?_
  ·
   rw[QK]at A
   have ah:¬l.getD (256*p+64+k) 0=0:=fun e=>A (by rw[e];rfl)
   refine AD<|Az D<|Az D<|Dz (p:=64) D D<|Ou A3 (64+k) (256*p+(64+k)) D D<|?_
   intro Q y
   refine Cp D (fun K z=>VT y d (j:=256*p+(64+k)) (b:=0) D (by omega) D (by kernel_rfl) ?_)
   intro a aE r Y G
   rw[Y5 (by omega)]at Y
   have BC:=BC.Ia G
   have o:=Bn G o (by omega)
   have x:=Bn G x (by omega)
   have f:=Ii f G t
   clear d;have d:=Y
   refine z _ _ ?_;revert a
   refine AV D<|Aw<|DN<|Ai<|AD<|Dz (q:=1) D D<|Az D<|Aw<|Ai<|?_
   intro a r
   exact⟨_,by omega,k+1,true,D,AY r,by omega,fun _=>⟨64+k,by omega,by omega,by rw[←Nat.add_assoc];exact ah⟩,(fun h=>by cases h),f,d,BC,o,x⟩
  ·
   rw[QK]at A
   have Z:l.getD (256*p+64+k) 0=0:=UInt8.toNat_inj.1 (by have:=A;simpa using this)
   rw[Y2 (by omega) Z]at d
   refine CA<|DN<|Ai<|AD<|Dz (q:=1) D D<|Az D<|Aw<|Ai<|?_
   intro a r
   exact⟨_,by omega,k+1,ch,D,AY r,by omega,V,fun h i h1 U=>(Nat.lt_or_ge i (64+k)).elim (X h i h1) (fun q=>by rw[show i=64+k by omega,←Nat.add_assoc];exact Z),f,d,BC,o,x⟩
 ·
  refine Dv<|BY<|BY<|Ds<|Ai<|Ao<|AD<|Az D<|AV D<|Aw<|Ai<|C0<|EE D<|?_
  obtain rfl:k=192:=by omega
  exact⟨ch,D,V,fun h i h1 U=>X h i h1 (by omega),d,BC,f⟩
theorem fx{u:Fr.Bu}(g:Bj≤w.heap.size)(d:BS Bj AK ib n c w l u)(ab:n≤1048576)(ad:256*(p+1)≤n)(M:At.last (At.EG 60) (At.C5 ((Dc l p).take 64) 60)=none)(B:Fr.DP (Dc l p)=none):
 Calls Tryz.prog 17 #[S AK,E p] w fun e w'=>e=.returned (.bool false)∧BS Bj AK ib n c w' l u∧Cu (EM AK ib) w w'∧Below Bj w w':=by
 have b:Below Bj w w:=Cn _ _
 have BC:Cu (EM AK ib) w w:=Cu.refl _ _
 have ae:=d.cap
 have af:=d.low
 have hlen:=d.len
 refine DZ Ms D 70 ?_
 refine Ao<|AD<|AV D<|Aw<|Ai<|Ao<|AD<|Az D<|Az D<|CL Fy D (Ib (p:=p) d) ?_
 rintro _ _ ⟨rfl,rfl⟩
 refine⟨_,D,?_⟩
 refine AV D<|AV D<|Aw<|Ai<|Ao<|Ao<|AD<|Az D<|?_
 intro C i
 have Cd:=d.CW (p:=p) (by omega)
 refine Cp D (fun K j=>Ee i #[I (some ⟨ib,256*p,none⟩) 256 (c - 256*p)] FW (IX _ _ _ _ B Cd (F0 d.len)) ?_)
 rintro _ ag ⟨N,rfl,O,v⟩
 refine⟨_,D,?_⟩
 intro a o
 have BC:=BC.below v
 have d:=d.below v
 have b:=Et b v g
 refine j _ _ ?_;revert a
 refine Az D<|CH D D<|CH D D<|D4 [[E 0],[E 0],[E 0],[E 0],[E 0]] ?_
 intro x ah r s F J
 have ai:=C8 b r
 have aj:AK<x∧ib<x:=by have:=d.G2;have:=d.Hi;omega
 have BC:=BC.below J
 have d:=d.below J
 have b:=Et b J g
 refine CK 0 5 F D D ?_
 intro ak s f y
 have BC:=BC.Ia y
 have d:=d.grown y (by omega) (by omega) ⟨_,_,F⟩
 have b:=Ii b y g
 refine AV D<|Aw<|Ai<|Ao<|AD<|Az D<|?_
 have P:¬((N:Int)=((0:Nat):Int)):=(fun e=>O (by simpa using e))
 refine Ky P D D<|Aw<|Ai<|Gf D<|Ao<|?_
 intro a o
 refine KB (fun W=>Below Bj w W∧CY W x [[E 0],[E 0],[E 0],[E 0],[E 0]] 68) ?_
 intro Q s J
 have BC:=BC.below J
 have d:=d.below J
 have f:=Bl f J
 have b:=Et b J g
 revert a
 refine Hc 0 D D ⟨b,f⟩<|RU 1 D D ⟨b,f⟩<|G_ 2 D F_ 10 D ⟨b,f⟩<|Hc 3 D D ⟨b,f⟩<|C4 4 D (fun W R a o=>by obtain⟨b,f⟩:=R;exact Rm o A3 D 64 (k:=.i64) D) ⟨b,f⟩<|?_
 intro C i
 refine Gh 5 5 D D ?_
 intro K j
 refine Ee i #[A2 AK 10,I (some ⟨ib,256*p,none⟩) 64 (c - 256*p),E 60] Lm (X1 (p:=p) (k:=60) (m:=64) d (.inr ⟨D,D,D⟩) (by omega) M) ?_
 rintro _ T ⟨rfl,U,z⟩
 refine⟨_,D,?_⟩
 intro a o
 have G:Below Bj Q T:=z.toBelow (Eg g b.size) (fun k V=>V.elim (fun q=>by omega) (fun q=>by omega))
 have f:=z.Bn f (by rintro(h|h)<;>omega)
 have BC:=BC.trans z (fun _ h _=>h)
 have b:=b.trans G
 clear G d;have d:=U
 refine j _ _ ⟨b,f⟩ ?_;revert a
 refine Hc 6 D D ⟨b,f⟩<|No 7 D D D ⟨b,f⟩<|No 8 D D D ⟨b,f⟩<|I' 9 D D ⟨b,f⟩<|I' 10 D D ⟨b,f⟩<|KC<|Ai<|Ao<|AD<|Az D<|Aw<|Ai<|FQ D<|CA<|Ai<|Ao<|Ao<|AD<|Az D<|?_
 intro C i
 have X:=d.CW (p:=p) (by omega)
 refine Cp D (fun K j=>Ee i #[I (some ⟨ib,256*p,none⟩) 256 (c - 256*p)] FW (IX _ _ _ _ B X (F0 d.len)) ?_)
 rintro _ al ⟨Y,rfl,Z,t⟩
 refine⟨_,D,?_⟩
 intro a o
 have BC:=BC.below t
 have d:=d.below t
 have f:=Bl f t
 have b:=Et b t g
 refine j _ _ ?_;revert a
 refine Az D<|CH D D<|CH D D<|D4 [[E 0],[E 0],[E 0],[E 0],[E 0]] ?_
 intro H an r s L J
 have ao:=C8 b r
 have aq:AK<H∧ib<H:=by have:=d.G2;have:=d.Hi;omega
 have ar:=C6 f r
 have BC:=BC.below J
 have d:=d.below J
 have b:=Et b J g
 refine CK 0 5 L D D ?_
 intro au s av A
 have BC:=BC.Ia A
 have d:=d.grown A (by omega) (by omega) ⟨_,_,L⟩
 have b:=Ii b A g
 refine AV D<|Aw<|Ai<|Ao<|AD<|Az D<|?_
 have aa:¬((Y:Int)=((0:Nat):Int)):=(fun e=>Z (by simpa using e))
 refine Ky aa D D<|Aw<|Ai<|Gf D<|Ao<|AD<|Az D<|AV D<|Aw<|Ai<|C0<|DK<|EE D<|?_
 exact⟨D,d,BC,b⟩
theorem bJ{u:Fr.Bu}(x:Bj≤w.heap.size)(d:BS Bj AK ib n c w l u)(aB:n≤1048576)(aC:256*(p+1)≤n){s:Fr.Bu}(ag:Fr.DP (Dc l p)=none)(ah:At.last (At.EG 60) (At.C5 ((Dc l p).take 64) 60)=some j)(hj:j<512)(X:Fr.DP (Dc (At.bit l (2048*p+j)) p)=some s):
 Calls Tryz.prog 17 #[S AK,E p] w fun e w'=>e=.returned (.bool true)∧BS Bj AK ib n c w' (GW (At.bit l (2048*p+j)) p 192) u∧Cu (EM AK ib) w w'∧Below Bj w w':=by
 have f:Below Bj w w:=Cn _ _
 have BC:Cu (EM AK ib) w w:=Cu.refl _ _
 have aD:=d.cap
 have aE:=d.low
 have hlen:=d.len
 refine DZ Ms D 70 ?_
 refine Ao<|AD<|AV D<|Aw<|Ai<|Ao<|AD<|Az D<|Az D<|CL Fy D (Ib (p:=p) d) ?_
 rintro _ _ ⟨rfl,rfl⟩
 refine⟨_,D,?_⟩
 refine AV D<|AV D<|Aw<|Ai<|Ao<|Ao<|AD<|Az D<|?_
 intro M y
 have Cd:=d.CW (p:=p) (by omega)
 refine Cp D (fun K z=>Ee y #[I (some ⟨ib,256*p,none⟩) 256 (c - 256*p)] FW (IX _ _ _ _ ag Cd (F0 d.len)) ?_)
 rintro _ aF ⟨ai,rfl,aj,Q⟩
 refine⟨_,D,?_⟩
 intro a r
 have BC:=BC.below Q
 have d:=d.below Q
 have f:=Et f Q x
 refine z _ _ ?_;revert a
 refine Az D<|CH D D<|CH D D<|D4 [[E 0],[E 0],[E 0],[E 0],[E 0]] ?_
 intro N aG A B Y J
 have aH:=C8 f A
 have aI:AK<N∧ib<N:=by have:=d.G2;have:=d.Hi;omega
 have BC:=BC.below J
 have d:=d.below J
 have f:=Et f J x
 refine CK 0 5 Y D D ?_
 intro aJ B o R
 have BC:=BC.Ia R
 have d:=d.grown R (by omega) (by omega) ⟨_,_,Y⟩
 have f:=Ii f R x
 refine AV D<|Aw<|Ai<|Ao<|AD<|Az D<|?_
 have ak:¬((ai:Int)=((0:Nat):Int)):=(fun e=>aj (by simpa using e))
 refine Ky ak D D<|Aw<|Ai<|Gf D<|Ao<|?_
 intro a r
 refine KB (fun W=>Below Bj w W∧CY W N [[E 0],[E 0],[E 0],[E 0],[E 0]] 68) ?_
 intro al B J
 have BC:=BC.below J
 have d:=d.below J
 have o:=Bl o J
 have f:=Et f J x
 revert a
 refine Hc 0 D D ⟨f,o⟩<|RU 1 D D ⟨f,o⟩<|G_ 2 D F_ 10 D ⟨f,o⟩<|Hc 3 D D ⟨f,o⟩<|C4 4 D (fun W an a r=>by obtain⟨f,o⟩:=an;exact Rm r A3 D 64 (k:=.i64) D) ⟨f,o⟩<|?_
 intro M y
 refine Gh 5 5 D D ?_
 intro K z
 refine Ee y #[A2 AK 10,I (some ⟨ib,256*p,none⟩) 64 (c - 256*p),E 60] Lm (Qq (p:=p) (k:=60) (m:=64) (j:=j) d (.inr ⟨D,D,D⟩) (by omega) ah) ?_
 rintro _ ao ⟨aK,rfl,aq,T, -⟩
 refine⟨_,D,?_⟩
 intro a r
 have Z:Below Bj al ao:=T.toBelow (Eg x f.size) (fun k aa=>aa.elim (fun q=>by omega) (fun q=>by omega))
 have o:=T.Bn o (by rintro(h|h)<;>omega)
 have BC:=BC.trans T (fun _ h _=>h)
 have f:=f.trans Z
 clear Z d;have d:=aq
 refine z _ _ ⟨f,o⟩ ?_;revert a
 refine Hc 6 D D ⟨f,o⟩<|No 7 D D D ⟨f,o⟩<|No 8 D D D ⟨f,o⟩<|I' 9 D D ⟨f,o⟩<|I' 10 D D ⟨f,o⟩<|KC<|Ai<|Ao<|AD<|Az D<|Aw<|Ai<|Gf D<|Ao<|AD<|Az D<|?_
 intro M y
 have ar:=d.CW (p:=p) (by omega)
 refine Cp D (fun K z=>Ee y #[I (some ⟨ib,256*p,none⟩) 256 (c - 256*p)] FW (KR _ _ _ _ (s:=s) X ar (F0 d.len)) ?_)
 rintro _ aL ⟨rfl,O⟩
 refine⟨_,D,?_⟩
 intro a r
 have BC:=BC.below O
 have d:=d.below O
 have o:=Bl o O
 have f:=Et f O x
 refine z _ _ ?_;revert a
 refine Az D<|CH D D<|CH D D<|D4 [[E 0],[E 0],[E 0],[E 0],[E 0]] ?_
 intro U aM A B ab J
 have aN:=C8 f A
 have aO:AK<U∧ib<U:=by have:=d.G2;have:=d.Hi;omega
 have aP:=C6 o A
 have BC:=BC.below J
 have d:=d.below J
 have o:=Bl o J
 have f:=Et f J x
 refine CK 0 5 ab D D ?_
 intro aQ B t P
 have BC:=BC.Ia P
 have d:=d.grown P (by omega) (by omega) ⟨_,_,ab⟩
 have o:=Bn P o (by omega)
 have f:=Ii f P x
 refine AV (v:=(E 0)) D<|Aw<|Ai<|Ao<|AD<|Az (v:=(E 0)) D<|?_
 have au:(((0:Nat):Int)=((0:Nat):Int)):=D
 refine Mg au D D<|Aw<|Ai<|FQ D<|AD<|AV D<|Aw<|Ai<|Ao<|Ao<|AD<|Az D<|?_
 intro M y
 have av:=d.CW (p:=p) (by omega)
 refine Cp D (fun K z=>Ee y #[I (some ⟨ib,256*p,none⟩) 256 (c - 256*p)] FW (KR _ _ _ _ (s:=s) X av (F0 d.len)) ?_)
 rintro _ aR ⟨rfl,F⟩
 refine⟨_,D,?_⟩
 intro a r
 have BC:=BC.below F
 have d:=d.below F
 have o:=Bl o F
 have t:=Bl t F
 have f:=Et f F x
 refine z _ _ ?_;revert a
 refine Az D<|CH D D<|CH D D<|D4 [[E 0],[E 0],[E 0],[E 0],[E 0]] ?_
 intro V aS A B ad J
 have aT:=C8 f A
 have aU:AK<V∧ib<V:=by have:=d.G2;have:=d.Hi;omega
 have aV:=C6 o A
 have aW:=C6 t A
 have BC:=BC.below J
 have d:=d.below J
 have o:=Bl o J
 have t:=Bl t J
 have f:=Et f J x
 refine CK 0 5 ad D D ?_
 intro aX B C G
 have BC:=BC.Ia G
 have d:=d.grown G (by omega) (by omega) ⟨_,_,ad⟩
 have o:=Bn G o (by omega)
 have t:=Bn G t (by omega)
 have f:=Ii f G x
 refine AV (v:=(E 0)) D<|Aw<|Ai<|Ao<|AD<|Az (v:=(E 0)) D<|?_
 have aw:(((0:Nat):Int)=((0:Nat):Int)):=D
 refine Mg aw D D<|Aw<|Ai<|FQ D<|CA<|Ai<|Ao<|Ao<|AD<|Az D<|Cc (fun _ r=>VH r D 64 (k:=.i64) (p:=some ⟨ib,256*p+64,none⟩) (m:=192) (G5:=c - 256*p - 64) D (fun W k=>Xe ib (256*p) 256 (c - 256*p) 64 (256*p+64) 192 (by omega) (by omega) (by omega) (by omega) (by omega) W k))<|HT Co D<|Az (v:=(E 0)) D<|Aw<|Ai<|B'<|?_
 rw[←Wn (At.bit l (2048*p+j)) p]at d
 have aY:(At.bit l (2048*p+j)).length=n:=by first|exact hlen|(rw[At.Tz];exact hlen)
 intro a r
 refine Ec (fun ax a W=>∃k ch,ax=192 - k∧AH 70 a (Jb (Jb (Jb (Jb (Jb (Jb Jk 4 (C' false)) 5 (I (some ⟨ib,256*p,none⟩) 256 (c - 256*p))) 55 (I (some ⟨ib,256*p+64,none⟩) 192 (c - 256*p - 64))) 56 (E 192)) 57 (E k)) 6 (C' ch))∧k≤192∧ch=true∧Below Bj w W∧BS Bj AK ib n c W (GW (At.bit l (2048*p+j)) p k) u∧Cu (EM AK ib) w W∧CY W N [[E 0],[E 0],[E 0],[E 0],[E 0]] 68∧CY W U [[E s.w],[E s.g],[E s.m],[E s.h],[E s.p]] 68∧CY W V [[E s.w],[E s.g],[E s.m],[E s.h],[E s.p]] 68) _ ⟨0,true,D,AY r,by omega,D,f,d,BC,o,t,C⟩ ?_
 rintro _ a aZ ⟨k,ch,rfl,r,aa,ae,f,d,BC,o,t,C⟩
 revert a
 refine Ao<|AD<|D_ (q:=(192:Nat)) D D<|Aw<|Ai<|Ao<|DU D (fun ay=>?_) fun ay=>?_
 ·
  refine CA<|Ai<|Ao<|B'<|Ao<|AD<|Az D<|?_
  have az:=d.cell (i:=256*p+64+k) (by omega)
  refine Ou A3 k (256*p+64+k) D D<|D8 BV az D<|AV D<|AV D<|Aw<|Ai<|Ao<|AD<|Az D<|Rq D D<|Aw<|Ai<|OM D (fun H=>?_) fun H=>?_
  ·
   rw[QK]at H
   have a0:¬(At.bit l (2048*p+j)).getD (256*p+64+k) 0=0:=fun e=>H (by rw[e];rfl)
   refine AD<|Az D<|Az D<|Dz (p:=64) D D<|Ou A3 (64+k) (256*p+(64+k)) D D<|?_
   intro M y
   refine Cp D (fun K z=>VT y d (j:=256*p+(64+k)) (b:=0) D (by omega) D (by kernel_rfl) ?_)
   intro a a1 r af L
   rw[Y5 (by omega)]at af
   have BC:=BC.Ia L
   have o:=Bn L o (by omega)
   have t:=Bn L t (by omega)
   have C:=Bn L C (by omega)
   have f:=Ii f L x
   clear d;have d:=af
   refine z _ _ ?_;revert a
   refine AV D<|Aw<|DN<|Ai<|AD<|Dz (q:=1) D D<|Az D<|Aw<|Ai<|?_
   intro a r
   exact⟨_,by omega,k+1,true,D,AY r,by omega,D,f,d,BC,o,t,C⟩
  ·
   rw[QK]at H
   have aA:(At.bit l (2048*p+j)).getD (256*p+64+k) 0=0:=UInt8.toNat_inj.1 (by have:=H;simpa using this)
   rw[Y2 (by omega) aA]at d
   refine CA<|DN<|Ai<|AD<|Dz (q:=1) D D<|Az D<|Aw<|Ai<|?_
   intro a r
   exact⟨_,by omega,k+1,ch,D,AY r,by omega,ae,f,d,BC,o,t,C⟩
 ·
  refine Dv<|BY<|BY<|Ds<|Ai<|Ao<|AD<|Az D<|AV D<|Aw<|Ai<|C0<|EE D<|?_
  obtain rfl:k=192:=by omega
  subst ae
  exact⟨D,d,BC,f⟩
theorem eB{u:Fr.Bu}(g:Bj≤w.heap.size)(b:BS Bj AK ib n c w l u)(aa:n≤1048576)(az:256*(p+1)≤n)(Q:Fr.DP (Dc l p)=none)(ab:At.last (At.EG 60) (At.C5 ((Dc l p).take 64) 60)=some j)(hj:j<512)(ad:Fr.DP (Dc (At.bit l (2048*p+j)) p)=none):
 Calls Tryz.prog 17 #[S AK,E p] w fun e w'=>e=.returned (.bool false)∧BS Bj AK ib n c w' l u∧Cu (EM AK ib) w w'∧Below Bj w w':=by
 have d:Below Bj w w:=Cn _ _
 have BC:Cu (EM AK ib) w w:=Cu.refl _ _
 have aA:=b.cap
 have aB:=b.low
 have hlen:=b.len
 refine DZ Ms D 70 ?_
 refine Ao<|AD<|AV D<|Aw<|Ai<|Ao<|AD<|Az D<|Az D<|CL Fy D (Ib (p:=p) b) ?_
 rintro _ _ ⟨rfl,rfl⟩
 refine⟨_,D,?_⟩
 refine AV D<|AV D<|Aw<|Ai<|Ao<|Ao<|AD<|Az D<|?_
 intro F o
 have Cd:=b.CW (p:=p) (by omega)
 refine Cp D (fun K r=>Ee o #[I (some ⟨ib,256*p,none⟩) 256 (c - 256*p)] FW (IX _ _ _ _ Q Cd (F0 b.len)) ?_)
 rintro _ aC ⟨ae,rfl,af,H⟩
 refine⟨_,D,?_⟩
 intro a v
 have BC:=BC.below H
 have b:=b.below H
 have d:=Et d H g
 refine r _ _ ?_;revert a
 refine Az D<|CH D D<|CH D D<|D4 [[E 0],[E 0],[E 0],[E 0],[E 0]] ?_
 intro L aD i x R J
 have aE:=C8 d i
 have aF:AK<L∧ib<L:=by have:=b.G2;have:=b.Hi;omega
 have BC:=BC.below J
 have b:=b.below J
 have d:=Et d J g
 refine CK 0 5 R D D ?_
 intro aG x f M
 have BC:=BC.Ia M
 have b:=b.grown M (by omega) (by omega) ⟨_,_,R⟩
 have d:=Ii d M g
 refine AV D<|Aw<|Ai<|Ao<|AD<|Az D<|?_
 have ag:¬((ae:Int)=((0:Nat):Int)):=(fun e=>af (by simpa using e))
 refine Ky ag D D<|Aw<|Ai<|Gf D<|Ao<|?_
 intro a v
 refine KB (fun W=>Below Bj w W∧CY W L [[E 0],[E 0],[E 0],[E 0],[E 0]] 68) ?_
 intro ah x J
 have BC:=BC.below J
 have b:=b.below J
 have f:=Bl f J
 have d:=Et d J g
 revert a
 refine Hc 0 D D ⟨d,f⟩<|RU 1 D D ⟨d,f⟩<|G_ 2 D F_ 10 D ⟨d,f⟩<|Hc 3 D D ⟨d,f⟩<|C4 4 D (fun W ai a v=>by obtain⟨d,f⟩:=ai;exact Rm v A3 D 64 (k:=.i64) D) ⟨d,f⟩<|?_
 intro F o
 refine Gh 5 5 D D ?_
 intro K r
 refine Ee o #[A2 AK 10,I (some ⟨ib,256*p,none⟩) 64 (c - 256*p),E 60] Lm (Qq (p:=p) (k:=60) (m:=64) (j:=j) b (.inr ⟨D,D,D⟩) (by omega) ab) ?_
 rintro _ aj ⟨_,rfl,ak,N,Ac,T,rfl,aH,aI,s,t⟩
 refine⟨_,D,?_⟩
 intro a v
 have aJ:=b.G2
 have aK:=b.Hi
 have aL:Ac≠AK∧Ac≠ib∧T≠AK∧T≠ib:=by omega
 have A:Below Bj ah aj:=N.toBelow (Eg g d.size) (fun k O=>O.elim (fun q=>by omega) (fun q=>by omega))
 have f:=N.Bn f (by rintro(h|h)<;>omega)
 have BC:=BC.trans N (fun _ h _=>h)
 have d:=d.trans A
 clear A b;have b:=ak
 refine r _ _ ⟨d,f⟩ ?_;revert a
 refine Hc 6 D D ⟨d,f⟩<|No 7 D D D ⟨d,f⟩<|No 8 D D D ⟨d,f⟩<|I' 9 D D ⟨d,f⟩<|I' 10 D D ⟨d,f⟩<|KC<|Ai<|Ao<|AD<|Az D<|Aw<|Ai<|Gf D<|Ao<|AD<|Az D<|?_
 intro F o
 have al:=b.CW (p:=p) (by omega)
 refine Cp D (fun K r=>Ee o #[I (some ⟨ib,256*p,none⟩) 256 (c - 256*p)] FW (IX _ _ _ _ ad al (F0 b.len)) ?_)
 rintro _ aM ⟨an,rfl,ao,y⟩
 refine⟨_,D,?_⟩
 intro a v
 have BC:=BC.below y
 have b:=b.below y
 have f:=Bl f y
 have s:=Bl s y
 have t:=Bl t y
 have d:=Et d y g
 refine r _ _ ?_;revert a
 refine Az D<|CH D D<|CH D D<|D4 [[E 0],[E 0],[E 0],[E 0],[E 0]] ?_
 intro U aN i x V J
 have aO:=C8 d i
 have aP:AK<U∧ib<U:=by have:=b.G2;have:=b.Hi;omega
 have aQ:=C6 f i
 have aR:=C6 s i
 have aS:=C6 t i
 have BC:=BC.below J
 have b:=b.below J
 have f:=Bl f J
 have s:=Bl s J
 have t:=Bl t J
 have d:=Et d J g
 refine CK 0 5 V D D ?_
 intro aq x B z
 have BC:=BC.Ia z
 have b:=b.grown z (by omega) (by omega) ⟨_,_,V⟩
 have f:=Bn z f (by omega)
 have s:=Bn z s (by omega)
 have t:=Bn z t (by omega)
 have d:=Ii d z g
 refine AV D<|Aw<|Ai<|Ao<|AD<|Az D<|?_
 have ar:¬((an:Int)=((0:Nat):Int)):=(fun e=>ao (by simpa using e))
 refine Ky ar D D<|Aw<|Ai<|Gf D<|AD<|Az D<|?_
 intro F o
 refine Cp D (fun K r=>WQ o D D TM (by kernel_rfl) (by kernel_rfl) (Us (p:=p) (m:=64) (j:=j) b (by omega) (by omega) D aa (by omega) s t) ?_)
 rintro _ au ⟨rfl,X,G⟩
 refine⟨_,D,?_⟩
 intro a v
 rw[At.Zk]at X
 have A:Below Bj aq au:=G.toBelow (Eg g d.size) (fun k O=>O.elim (fun q=>by omega) (fun q=>by omega))
 have f:=G.Bn f (by rintro(h|h)<;>omega)
 have B:=G.Bn B (by rintro(h|h)<;>omega)
 have BC:=BC.trans G (fun _ h _=>h)
 have d:=d.trans A
 clear A b;have b:=X
 refine r _ _ ?_;revert a
 refine Aw<|Ai<|Ao<|Ao<|AD<|Az D<|?_
 intro F o
 have av:=b.CW (p:=p) (by omega)
 refine Cp D (fun K r=>Ee o #[I (some ⟨ib,256*p,none⟩) 256 (c - 256*p)] FW (IX _ _ _ _ Q av (F0 b.len)) ?_)
 rintro _ aT ⟨aw,rfl,ax,C⟩
 refine⟨_,D,?_⟩
 intro a v
 have BC:=BC.below C
 have b:=b.below C
 have f:=Bl f C
 have B:=Bl B C
 have d:=Et d C g
 refine r _ _ ?_;revert a
 refine Az D<|CH D D<|CH D D<|D4 [[E 0],[E 0],[E 0],[E 0],[E 0]] ?_
 intro Y Da i x Z J
 have aU:=C8 d i
 have aV:AK<Y∧ib<Y:=by have:=b.G2;have:=b.Hi;omega
 have aW:=C6 f i
 have aX:=C6 B i
 have BC:=BC.below J
 have b:=b.below J
 have d:=Et d J g
 refine CK 0 5 Z D D ?_
 intro aY x aZ P
 have BC:=BC.Ia P
 have b:=b.grown P (by omega) (by omega) ⟨_,_,Z⟩
 have d:=Ii d P g
 refine AV D<|Aw<|Ai<|Ao<|AD<|Az D<|?_
 have ay:¬((aw:Int)=((0:Nat):Int)):=(fun e=>ax (by simpa using e))
 refine Ky ay D D<|Aw<|Ai<|Gf D<|Ao<|AD<|Az D<|AV D<|Aw<|Ai<|C0<|DK<|EE D<|?_
 exact⟨D,b,BC,d⟩
theorem gO{u:Fr.Bu}(g:Bj≤w.heap.size)(b:BS Bj AK ib n c w l u)(m:n≤1048576)(o:256*(p+1)≤n)(h:Fr.CZ p (Dc l p)=true):
 Calls Tryz.prog 19 #[S AK,E p] w fun e w'=>e=.returned (.bool false)∧BS Bj AK ib n c w' l u∧Cu (EM AK ib) w w'∧Below Bj w w':=by
 have d:Below Bj w w:=Cn _ _
 have BC:Cu (EM AK ib) w w:=Cu.refl _ _
 have q:=b.cap
 have r:=b.low
 have hlen:=b.len
 refine DZ NK D 47 ?_
 refine Ao<|AD<|AV D<|Aw<|Ai<|Ao<|AD<|Az D<|Az D<|CL Fy D (Ib (p:=p) b) ?_
 rintro _ _ ⟨rfl,rfl⟩
 refine⟨_,D,?_⟩
 refine AV D<|Aw<|Ai<|Ao<|Ao<|AD<|Az D<|Az D<|?_
 intro s i
 have Cd:=b.CW (p:=p) (by omega)
 refine Cp D (fun K j=>Ee i #[E p,I (some ⟨ib,256*p,none⟩) 256 (c - 256*p)] E4 (Zi _ _ p _ _ h Cd (F0 b.len)) ?_)
 rintro _ t ⟨x,y,rfl,f⟩
 refine⟨_,D,?_⟩
 intro a z
 have BC:=BC.below f
 have b:=b.below f
 have d:=Et d f g
 refine j _ _ ?_;revert a
 refine Az D<|CH D D<|CH D D<|CH D D<|AV D<|AV D<|AV (v:=(E 0)) D<|Aw<|Ai<|Ao<|AD<|Az (v:=(E 0)) D<|?_
 have k:(((0:Nat):Int)=((0:Nat):Int)):=D
 refine MD k D D<|Aw<|Ai<|Gf D<|Ao<|AD<|AV D<|Aw<|Ai<|C0<|DK<|EE D<|?_
 exact⟨D,b,BC,d⟩
theorem c_{u:Fr.Bu}(g:Bj≤w.heap.size)(b:BS Bj AK ib n c w l u)(F:n≤1048576)(G:256*(p+1)≤n)(o:Fr.CZ p (Dc l p)=false)(r:At.last (At.EG 252) (At.C5 (Dc l p) 252)=none):
 Calls Tryz.prog 19 #[S AK,E p] w fun e w'=>e=.returned (.bool false)∧BS Bj AK ib n c w' l u∧Cu (EM AK ib) w w'∧Below Bj w w':=by
 have d:Below Bj w w:=Cn _ _
 have BC:Cu (EM AK ib) w w:=Cu.refl _ _
 have H:=b.cap
 have J:=b.low
 have hlen:=b.len
 refine DZ NK D 47 ?_
 refine Ao<|AD<|AV D<|Aw<|Ai<|Ao<|AD<|Az D<|Az D<|CL Fy D (Ib (p:=p) b) ?_
 rintro _ _ ⟨rfl,rfl⟩
 refine⟨_,D,?_⟩
 refine AV D<|Aw<|Ai<|Ao<|Ao<|AD<|Az D<|Az D<|?_
 intro L s
 have Cd:=b.CW (p:=p) (by omega)
 refine Cp D (fun K t=>Ee s #[E p,I (some ⟨ib,256*p,none⟩) 256 (c - 256*p)] E4 (Q9 _ _ p _ _ o Cd (F0 b.len)) ?_)
 rintro _ v ⟨M,N,x,rfl,y,f⟩
 refine⟨_,D,?_⟩
 intro a O
 have BC:=BC.below f
 have b:=b.below f
 have d:=Et d f g
 refine t _ _ ?_;revert a
 refine Az D<|CH D D<|CH D D<|CH D D<|AV D<|AV D<|AV D<|Aw<|Ai<|Ao<|AD<|Az D<|?_
 have z:¬((x:Int)=((0:Nat):Int)):=(fun e=>y (by simpa using e))
 refine Kr z D D<|Aw<|Ai<|FQ D<|CA<|Ai<|Ao<|AD<|Az D<|QJ D<|Gt F_ 6 D<|Az D<|CL Lm D (X1 (p:=p) (k:=252) (m:=256) b (.inl ⟨D,D,D⟩) (by omega) (by rw[List.take_of_length_le (by rw[F0 b.len];exact Br _)];exact r)) ?_
 rintro _ A ⟨rfl,B,i⟩
 refine⟨_,D,?_⟩
 have j:Below Bj v A:=i.toBelow (Eg g d.size) (fun k C=>C.elim (fun q=>by omega) (fun q=>by omega))
 have BC:=BC.trans i (fun _ h _=>h)
 have d:=d.trans j
 clear j b;have b:=B
 refine Az D<|CH D D<|CH D D<|AV D<|AV D<|Aw<|Ai<|Ao<|Ao<|AD<|Az D<|M5 D<|Aw<|Ai<|Gf D<|Ao<|AD<|AV D<|Aw<|Ai<|C0<|DK<|EE D<|?_
 exact⟨D,b,BC,d⟩
theorem iF{u:Fr.Bu}(f:Bj≤w.heap.size)(b:BS Bj AK ib n c w l u)(P:n≤1048576)(Q:256*(p+1)≤n)(x:Fr.CZ p (Dc l p)=false)(y:At.last (At.EG 252) (At.C5 (Dc l p) 252)=some j)(hj:j<2048)(z:Fr.CZ p (Dc (At.bit l (2048*p+j)) p)=true):
 Calls Tryz.prog 19 #[S AK,E p] w fun e w'=>e=.returned (.bool true)∧BS Bj AK ib n c w' (At.bit l (2048*p+j)) u∧Cu (EM AK ib) w w'∧Below Bj w w':=by
 have d:Below Bj w w:=Cn _ _
 have BC:Cu (EM AK ib) w w:=Cu.refl _ _
 have R:=b.cap
 have T:=b.low
 have hlen:=b.len
 refine DZ NK D 47 ?_
 refine Ao<|AD<|AV D<|Aw<|Ai<|Ao<|AD<|Az D<|Az D<|CL Fy D (Ib (p:=p) b) ?_
 rintro _ _ ⟨rfl,rfl⟩
 refine⟨_,D,?_⟩
 refine AV D<|Aw<|Ai<|Ao<|Ao<|AD<|Az D<|Az D<|?_
 intro A g
 have Cd:=b.CW (p:=p) (by omega)
 refine Cp D (fun K i=>Ee g #[E p,I (some ⟨ib,256*p,none⟩) 256 (c - 256*p)] E4 (Q9 _ _ p _ _ x Cd (F0 b.len)) ?_)
 rintro _ B ⟨U,V,C,rfl,F,o⟩
 refine⟨_,D,?_⟩
 intro a G
 have BC:=BC.below o
 have b:=b.below o
 have d:=Et d o f
 refine i _ _ ?_;revert a
 refine Az D<|CH D D<|CH D D<|CH D D<|AV D<|AV D<|AV D<|Aw<|Ai<|Ao<|AD<|Az D<|?_
 have H:¬((C:Int)=((0:Nat):Int)):=(fun e=>F (by simpa using e))
 refine Kr H D D<|Aw<|Ai<|FQ D<|CA<|Ai<|Ao<|AD<|Az D<|QJ D<|Gt F_ 6 D<|Az D<|CL Lm D (Qq (p:=p) (k:=252) (m:=256) (j:=j) b (.inl ⟨D,D,D⟩) (by omega) (by rw[List.take_of_length_le (by rw[F0 b.len];exact Br _)];exact y)) ?_
 rintro _ J ⟨W,rfl,L,s, -⟩
 refine⟨_,D,?_⟩
 have t:Below Bj B J:=s.toBelow (Eg f d.size) (fun k M=>M.elim (fun q=>by omega) (fun q=>by omega))
 have BC:=BC.trans s (fun _ h _=>h)
 have d:=d.trans t
 clear t b;have b:=L
 refine Az D<|CH D D<|CH D D<|AV D<|AV D<|Aw<|Ai<|Ao<|Ao<|AD<|Az D<|M5 D<|Aw<|Ai<|FQ D<|CA<|Ai<|Ao<|Ao<|AD<|Az D<|Az D<|?_
 intro A g
 have N:=b.CW (p:=p) (by omega)
 refine Cp D (fun K i=>Ee g #[E p,I (some ⟨ib,256*p,none⟩) 256 (c - 256*p)] E4 (Zi _ _ p _ _ z N (F0 b.len)) ?_)
 rintro _ X ⟨Y,Z,rfl,r⟩
 refine⟨_,D,?_⟩
 intro a G
 have BC:=BC.below r
 have b:=b.below r
 have d:=Et d r f
 refine i _ _ ?_;revert a
 refine Az D<|CH D D<|CH D D<|CH D D<|AV D<|AV D<|AV (v:=(E 0)) D<|Aw<|Ai<|Ao<|AD<|Az (v:=(E 0)) D<|?_
 have O:(((0:Nat):Int)=((0:Nat):Int)):=D
 refine Mg O D D<|Aw<|Ai<|FQ D<|CA<|Ai<|Ao<|AD<|AV D<|Aw<|Ai<|C0<|EE D<|?_
 exact⟨D,b,BC,d⟩
theorem ed{u:Fr.Bu}(r:Bj≤w.heap.size)(b:BS Bj AK ib n c w l u)(G:n≤1048576)(Z:256*(p+1)≤n)(H:Fr.CZ p (Dc l p)=false)(J:At.last (At.EG 252) (At.C5 (Dc l p) 252)=some j)(hj:j<2048)(L:Fr.CZ p (Dc (At.bit l (2048*p+j)) p)=false):
 Calls Tryz.prog 19 #[S AK,E p] w fun e w'=>e=.returned (.bool false)∧BS Bj AK ib n c w' l u∧Cu (EM AK ib) w w'∧Below Bj w w':=by
 have d:Below Bj w w:=Cn _ _
 have BC:Cu (EM AK ib) w w:=Cu.refl _ _
 have aa:=b.cap
 have ab:=b.low
 have hlen:=b.len
 refine DZ NK D 47 ?_
 refine Ao<|AD<|AV D<|Aw<|Ai<|Ao<|AD<|Az D<|Az D<|CL Fy D (Ib (p:=p) b) ?_
 rintro _ _ ⟨rfl,rfl⟩
 refine⟨_,D,?_⟩
 refine AV D<|Aw<|Ai<|Ao<|Ao<|AD<|Az D<|Az D<|?_
 intro y f
 have Cd:=b.CW (p:=p) (by omega)
 refine Cp D (fun K g=>Ee f #[E p,I (some ⟨ib,256*p,none⟩) 256 (c - 256*p)] E4 (Q9 _ _ p _ _ H Cd (F0 b.len)) ?_)
 rintro _ M ⟨ad,ae,N,rfl,O,s⟩
 refine⟨_,D,?_⟩
 intro a z
 have BC:=BC.below s
 have b:=b.below s
 have d:=Et d s r
 refine g _ _ ?_;revert a
 refine Az D<|CH D D<|CH D D<|CH D D<|AV D<|AV D<|AV D<|Aw<|Ai<|Ao<|AD<|Az D<|?_
 have P:¬((N:Int)=((0:Nat):Int)):=(fun e=>O (by simpa using e))
 refine Kr P D D<|Aw<|Ai<|FQ D<|CA<|Ai<|Ao<|AD<|Az D<|QJ D<|Gt F_ 6 D<|Az D<|CL Lm D (Qq (p:=p) (k:=252) (m:=256) (j:=j) b (.inl ⟨D,D,D⟩) (by omega) (by rw[List.take_of_length_le (by rw[F0 b.len];exact Br _)];exact J)) ?_
 rintro _ Q ⟨_,rfl,R,A,Ac,B,rfl,af,ag,t,v⟩
 refine⟨_,D,?_⟩
 have ah:=b.G2
 have ai:=b.Hi
 have aj:Ac≠AK∧Ac≠ib∧B≠AK∧B≠ib:=by omega
 have i:Below Bj M Q:=A.toBelow (Eg r d.size) (fun k x=>x.elim (fun q=>by omega) (fun q=>by omega))
 have BC:=BC.trans A (fun _ h _=>h)
 have d:=d.trans i
 clear i b;have b:=R
 refine Az D<|CH D D<|CH D D<|AV D<|AV D<|Aw<|Ai<|Ao<|Ao<|AD<|Az D<|M5 D<|Aw<|Ai<|FQ D<|CA<|Ai<|Ao<|Ao<|AD<|Az D<|Az D<|?_
 intro y f
 have T:=b.CW (p:=p) (by omega)
 refine Cp D (fun K g=>Ee f #[E p,I (some ⟨ib,256*p,none⟩) 256 (c - 256*p)] E4 (Q9 _ _ p _ _ L T (F0 b.len)) ?_)
 rintro _ U ⟨ak,al,V,rfl,W,o⟩
 refine⟨_,D,?_⟩
 intro a z
 have BC:=BC.below o
 have b:=b.below o
 have t:=Bl t o
 have v:=Bl v o
 have d:=Et d o r
 refine g _ _ ?_;revert a
 refine Az D<|CH D D<|CH D D<|CH D D<|AV D<|AV D<|AV D<|Aw<|Ai<|Ao<|AD<|Az D<|?_
 have X:¬((V:Int)=((0:Nat):Int)):=(fun e=>W (by simpa using e))
 refine Ky X D D<|Aw<|Ai<|Gf D<|Ao<|AD<|Az D<|?_
 intro y f
 refine Cp D (fun K g=>WQ f D D TM (by kernel_rfl) (by kernel_rfl) (Us (p:=p) (m:=256) (j:=j) b (by omega) (by omega) D G (by omega) t v) ?_)
 rintro _ Y ⟨rfl,C,F⟩
 refine⟨_,D,?_⟩
 intro a z
 rw[At.Zk]at C
 have i:Below Bj U Y:=F.toBelow (Eg r d.size) (fun k x=>x.elim (fun q=>by omega) (fun q=>by omega))
 have BC:=BC.trans F (fun _ h _=>h)
 have d:=d.trans i
 clear i b;have b:=C
 refine g _ _ ?_;revert a
 refine Aw<|Ai<|Ao<|AD<|AV D<|Aw<|Ai<|C0<|DK<|EE D<|?_
 exact⟨D,b,BC,d⟩
end Go.Proofs.YtaapafoibofbjaaGreatDoor
