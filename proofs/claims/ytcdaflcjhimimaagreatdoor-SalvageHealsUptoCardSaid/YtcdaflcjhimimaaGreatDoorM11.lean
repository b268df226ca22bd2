/- Laws and walks on the road to SalvageNever and SalvageHeals (part M11). No conditions beyond each law's own. -/
import Derived.Test.YtcdaflcjhimimaaGreatDoorM01
import Derived.Test.YtcdaflcjhimimaaGreatDoorM08
import Derived.Test.YtcdaflcjhimimaaGreatDoorM04
import Derived.Test.YtcdaflcjhimimaaGreatDoorM07
import Derived.Test.YtcdaflcjhimimaaGreatDoorM10
import Derived.Test.YtcdaflcjhimimaaGreatDoorM05
set_option linter.unusedVariables false
namespace Go.Proofs.YtcdaflcjhimimaaGreatDoor
open Go.RowKit
set_option maxRecDepth 100000
set_option maxHeartbeats 1000000
theorem N7(z:Int)(h:Nat)(w:World):
 Calls Tryz.prog 118 #[Value.int .i64 (z:Int),E 0,E h] w fun e w'=>∃r:Nat,r≤h∧e=.returned (.int .i64 ((r:Nat):Int))∧w=w':=by
 refine Bx Mt D 16 ?_
 refine K<|N<|O (v:=(E 0)) D<|M<|G<|K<|K<|N<|I D<|I (v:=(E 0)) D<|B5 (q:=(0:Nat)) D D<|M<|G<|Bl D (fun a=>?_) fun a=>?_
 ·
  refine K<|N<|I (v:=(E 0)) D<|O (v:=(E 0)) D<|M<|G<|AA<|AX<|AZ D<|?_
  exact⟨0,Nat.zero_le _,D,D⟩
 ·
  refine AE<|G<|K<|K<|N<|I D<|I D<|Ip D D<|M<|G<|Bl D (fun b=>?_) fun b=>?_
  ·
   refine K<|N<|I D<|O D<|M<|G<|AA<|AX<|AZ D<|?_
   exact⟨h,Be _,D,D⟩
  ·
   refine AE<|G<|K<|N<|I D<|O D<|M<|G<|AA<|AZ D<|?_
   exact⟨z.toNat,by omega,by rw[Int.toNat_of_nonneg (by omega)],D⟩
theorem X9(x:Jd)(q:Option Addr)(n c:Nat)(l:List UInt8)(w:World)(hn:n≤1000000)(C:View w (.slice q n c) n 1 (bv l))(ai:l.length=n):
 Calls Tryz.prog 132 #[Value.agg (flat [bv x.l]),F q n c] w fun e w'=>∃p k,∃L:List UInt8,e=.returned (.slice p (33+n) k)∧w'.ownsRow w.heap.size 5 1 (.slice p (33+n) k) (33+n) (bv L)∧Below w.heap.size w w':=by
 have b:Below w.heap.size w w:=Bu _ _
 refine Bx Sr D 33 ?_
 refine K<|N<|CW D ?_
 intro b2 aj R y d f
 have ak:=Bg b R
 have b:=Ah b f
 refine O D<|M<|G<|K<|N<|?_
 intro H t
 refine Bj D (fun Aa u=>N6 t D A0 (v:=(Value.int .u8 (((0:Nat):Int):Int))) D (cs:=#[Value.int .u8 (((0:Nat):Int):Int)]) D D (Nat.le_of_ble_eq_true D) w.heap.size b.size ?_)
 intro a J S g y own T f
 have own:S.ownsRow w.heap.size 5 1 (F J 1 1) 1 (bv [0]):=own
 have r:Z (F J 1 1) b2:=fun k U=>by have:=T k U;have:=Ar d;omega
 have d:=Q d f
 have b:=Ah b f
 refine u _ _ ?_;revert a
 refine O D<|M<|G<|K<|K<|N<|O (v:=(E 0)) D<|M<|G<|A2<|?_
 intro a g
 refine Cb (fun z a W=>∃i j m s,z=32 - i∧Ao 33 a (Ja (Ja (Ja (Ja (Ja Je 1 (F q n c)) 2 (AB b2)) 4 (F none 0 0)) 6 (E i)) 5 (F j (1+i) m))∧i≤32∧W.ownsRow w.heap.size 5 1 (.slice j (1+i) m) (1+i) (bv s)∧Below w.heap.size w W∧Ai W b2 [bv x.l] 51∧Z (F j (1+i) m) b2) _ ⟨0,_,_,_,D,At g,by omega,own,b,d,r⟩ ?_
 rintro _ a al ⟨i,j,m,s,rfl,g,X,own,b,d,r⟩
 revert a
 refine K<|K<|N<|I D<|B5 (q:=(32:Nat)) D D<|M<|G<|Bl D (fun Y=>?_) fun Y=>?_
 ·
  refine AE<|G<|K<|A2<|N<|I D<|I D<|Dg Ce 1 i i D D<|Cg BA (Ib d x.h i) D<|D6 A0 D (cs:=#[Value.int .u8 ((((x.l.getD i 0).toNat:Nat):Int):Int)]) D D ?_
  intro an y aa f
  have own:=V own f
  have d:=Q d f
  have b:=Ah b f
  intro H t
  refine Bj D (fun Aa u=>BK t A0 own aa (by simp[Value.oneCell']) b.size ((1+i)+1) (zs:=bv (s++[x.l.getD i 0])) (by simp[bv]) ?_)
  intro a ao aq ar g ab A
  have ad:=A9 A r (Ar d)
  have d:=A' d A r
  have b:=Cm b A own
  refine u _ _ ?_;revert a
  refine O D<|M<|Bq<|G<|N<|I D<|A_ (q:=1) D D<|O D<|M<|G<|?_
  intro a g
  exact⟨_,by omega,i+1,_,_,_,D,At g,by omega,ab,b,d,ad⟩
 ·
  obtain rfl:i=32:=by omega
  refine BO<|AW<|AW<|BN<|G<|K<|K<|N<|O (v:=(E 0)) D<|M<|G<|A2<|?_
  intro a g
  refine Cb (fun z a W=>∃i j m s,z=n - i∧Ao 33 a (Ja (Ja (Ja (Ja Je 1 (F q n c)) 4 (F none 0 0)) 7 (E i)) 5 (F j (33+i) m))∧i≤n∧W.ownsRow w.heap.size 5 1 (.slice j (33+i) m) (33+i) (bv s)∧Below w.heap.size w W∧Ai W b2 [bv x.l] 51∧Z (F j (33+i) m) b2) _ ⟨0,_,_,_,D,At g,by omega,own,b,d,r⟩ ?_
  rintro _ a au ⟨i,j,m,s,rfl,g,X,own,b,d,r⟩
  revert a
  refine K<|K<|N<|I D<|I D<|BY Cr D<|B5 D D<|M<|G<|Bl D (fun ae=>?_) fun ae=>?_
  ·
   refine AE<|G<|K<|A2<|N<|I D<|I D<|I D<|?_
   obtain⟨av,P,rfl⟩:=Ca (C.below b)
   have af:=De (C.below b) i (o:=P+i*1)
   refine Cn A0 i (P+i*1) D D<|Cg BA af D<|D6 A0 D (cs:=#[Value.int .u8 ((((l.getD i 0).toNat:Nat):Int):Int)]) D D ?_
   intro aw y v20 f
   have own:=V own f
   have d:=Q d f
   have b:=Ah b f
   intro H t
   refine Bj D (fun Aa u=>BK t A0 own v20 (by simp[Value.oneCell']) b.size ((33+i)+1) (zs:=bv (s++[l.getD i 0])) (by simp[bv]) ?_)
   intro a ax ay az g ag B
   have ah:=A9 B r (Ar d)
   have d:=A' d B r
   have b:=Cm b B own
   refine u _ _ ?_;revert a
   refine O D<|M<|Bq<|G<|N<|I D<|A_ (q:=1) D D<|O D<|M<|G<|?_
   intro a g
   exact⟨_,by omega,i+1,_,_,_,D,At g,by omega,ag,b,d,ah⟩
  ·
   obtain rfl:n=i:=by omega
   refine BO<|AW<|AW<|BN<|G<|K<|N<|I D<|O D<|M<|G<|AA<|AZ D<|?_
   exact⟨_,_,_,D,own,b⟩
theorem Uk(z:Int)(x y:Jd)(w:World):
 Calls Tryz.prog 90 #[Value.int .i64 (z:Int),Value.agg (flat [bv x.l]),Value.agg (flat [bv y.l])] w fun e w'=>∃p k n,∃L:List UInt8,e=.returned (.slice p n k)∧n≤65∧w'.ownsRow w.heap.size 5 1 (.slice p n k) n (bv L)∧Below w.heap.size w w':=by
 have b:Below w.heap.size w w:=Bu _ _
 refine Bx O7 D 37 ?_
 refine K<|N<|CW D ?_
 intro B ao R S c f
 have aq:=Bg b R
 have b:=Ah b f
 refine CW D ?_
 intro u ar R S d f
 have au:=Bg b R
 have av:=AP c R
 have c:=Q c f
 have b:=Ah b f
 refine O D<|M<|G<|K<|N<|I D<|AS Mt D (N7 (z:Int) 32 _) ?_
 rintro _ _ ⟨r,aw,rfl,rfl⟩
 refine⟨_,D,?_⟩
 refine O D<|M<|G<|K<|N<|?_
 intro Y C
 refine Bj D (fun Aa H=>N6 C D A0 (v:=(Value.int .u8 (((1:Nat):Int):Int))) D (cs:=#[Value.int .u8 (((1:Nat):Int):Int)]) D D (Nat.le_of_ble_eq_true D) w.heap.size b.size ?_)
 intro a T ab g S own aa f
 have own:ab.ownsRow w.heap.size 5 1 (F T 1 1) 1 (bv [1]):=own
 have s:Z (F T 1 1) B:=fun k U=>by have:=aa k U;have:=Ar c;omega
 have t:Z (F T 1 1) u:=fun k U=>by have:=aa k U;have:=Ar d;omega
 have c:=Q c f
 have d:=Q d f
 have b:=Ah b f
 refine H _ _ ?_;revert a
 refine O D<|M<|G<|K<|K<|N<|O (v:=(E 0)) D<|M<|G<|A2<|?_
 intro a g
 refine Cb (fun X a W=>∃i m o A,X=r - i∧Ao 37 a (Ja (Ja (Ja (Ja (Ja (Ja Je 4 (AB B)) 5 (AB u)) 6 (F none 0 0)) 7 (E r)) 9 (E i)) 8 (F m (1+i) o))∧i≤r∧W.ownsRow w.heap.size 5 1 (.slice m (1+i) o) (1+i) (bv A)∧Below w.heap.size w W∧Ai W B [bv x.l] 125∧Ai W u [bv y.l] 125∧Z (F m (1+i) o) B∧Z (F m (1+i) o) u) _ ⟨0,_,_,_,D,At g,by omega,own,b,c,d,s,t⟩ ?_
 rintro _ a ax ⟨i,m,o,A,rfl,g,ad,own,b,c,d,s,t⟩
 revert a
 refine K<|K<|N<|I D<|I D<|B5 D D<|M<|G<|Bl D (fun ae=>?_) fun ae=>?_
 ·
  refine AE<|G<|K<|A2<|N<|I D<|I D<|Dg BZ 1 i i D D<|Cg BA (Ib c x.h i) D<|D6 A0 D (cs:=#[Value.int .u8 ((((x.l.getD i 0).toNat:Nat):Int):Int)]) D D ?_
  intro ay S v11 f
  have own:=V own f
  have c:=Q c f
  have d:=Q d f
  have b:=Ah b f
  intro Y C
  refine Bj D (fun Aa H=>BK C A0 own v11 (by simp[Value.oneCell']) b.size ((1+i)+1) (zs:=bv (A++[x.l.getD i 0])) (by simp[bv]) ?_)
  intro a az aA aB g af J
  have ag:=A9 J s (Ar c)
  have ah:=A9 J t (Ar d)
  have c:=A' c J s
  have d:=A' d J t
  have b:=Cm b J own
  refine H _ _ ?_;revert a
  refine O D<|M<|Bq<|G<|N<|I D<|A_ (q:=1) D D<|O D<|M<|G<|?_
  intro a g
  exact⟨_,by omega,i+1,_,_,_,D,At g,by omega,af,b,c,d,ag,ah⟩
 ·
  obtain rfl:r=i:=by omega
  refine BO<|AW<|AW<|BN<|G<|K<|K<|N<|O (v:=(E 0)) D<|M<|G<|A2<|?_
  intro a g
  refine Cb (fun X a W=>∃j m o A,X=r - j∧Ao 37 a (Ja (Ja (Ja (Ja (Ja Je 5 (AB u)) 6 (F none 0 0)) 7 (E r)) 10 (E j)) 8 (F m (1+r+j) o))∧j≤r∧W.ownsRow w.heap.size 5 1 (.slice m (1+r+j) o) (1+r+j) (bv A)∧Below w.heap.size w W∧Ai W B [bv x.l] 125∧Ai W u [bv y.l] 125∧Z (F m (1+r+j) o) B∧Z (F m (1+r+j) o) u) _ ⟨0,_,_,_,D,At g,by omega,own,b,c,d,s,t⟩ ?_
  rintro _ a aC ⟨j,m,o,A,rfl,g,ad,own,b,c,d,s,t⟩
  revert a
  refine K<|K<|N<|I D<|I D<|B5 D D<|M<|G<|Bl D (fun ai=>?_) fun ai=>?_
  ·
   refine AE<|G<|K<|A2<|N<|I D<|I D<|Dg BZ 1 j j D D<|Cg BA (Ib d y.h j) D<|D6 A0 D (cs:=#[Value.int .u8 ((((y.l.getD j 0).toNat:Nat):Int):Int)]) D D ?_
   intro aD S aj f
   have own:=V own f
   have c:=Q c f
   have d:=Q d f
   have b:=Ah b f
   intro Y C
   refine Bj D (fun Aa H=>BK C A0 own aj (by simp[Value.oneCell']) b.size ((1+r+j)+1) (zs:=bv (A++[y.l.getD j 0])) (by simp[bv]) ?_)
   intro a aE aF aG g ak P
   have al:=A9 P s (Ar c)
   have an:=A9 P t (Ar d)
   have c:=A' c P s
   have d:=A' d P t
   have b:=Cm b P own
   refine H _ _ ?_;revert a
   refine O D<|M<|Bq<|G<|N<|I D<|A_ (q:=1) D D<|O D<|M<|G<|?_
   intro a g
   exact⟨_,by omega,j+1,_,_,_,D,At g,by omega,ak,b,c,d,al,an⟩
  ·
   refine BO<|AW<|AW<|BN<|G<|K<|N<|I D<|O D<|M<|G<|AA<|AZ D<|?_
   exact⟨_,_,_,_,D,by omega,own,b⟩
theorem Nu(q:Option Addr)(n c:Nat)(l:List UInt8)(z:Int)(w:World)(t:CT w)(hn:n≤100000000)(u:View w (.slice q n c) n 1 (bv l))(v:l.length=n):
 Calls Tryz.prog 55 #[F q n c,Value.int .i64 (z:Int)] w fun e w'=>∃d:Jd,e=.returned (.agg (flat [bv d.l]))∧Below w.heap.size w w':=by
 have b:Below w.heap.size w w:=Bu _ _
 refine Bx LR D 11 ?_
 refine K<|N<|BQ [Av 32] ?_
 intro H J g j f i
 have L:=Bg b g
 have b:=Ah b i
 rw[Du]at f
 refine M<|G<|K<|N<|I D<|AS Q2 D (SS _ _ _ _ _ (t.below b (Be _)) (by omega) (u.below b) v) ?_
 rintro _ O ⟨d2,x,rfl,k⟩
 refine⟨_,D,?_⟩
 have f:=Q f k
 have b:=Ah b k
 obtain⟨m,rfl⟩:∃q:Jd,q.l=d2:=⟨⟨d2,x⟩,D⟩
 refine BQ [Av 32] ?_
 intro P R g j o i
 have S:=Bg b g
 have T:=AP f g
 have f:=Q f i
 have b:=Ah b i
 rw[Du]at o
 refine Bi 0 1 o D D ?_
 intro U j y p
 have f:=Ag p f (by omega)
 have b:=A1 b p
 refine M<|G<|K<|N<|BP BZ y D<|I D<|AS OC D (Pg m.l (z:Int) _ m.h) ?_
 rintro _ V ⟨d9,A,rfl,r⟩
 refine⟨_,D,?_⟩
 have f:=Q f r
 have b:=Ah b r
 obtain⟨s,rfl⟩:∃q:Jd,q.l=d9:=⟨⟨d9,A⟩,D⟩
 refine Bi 0 1 f D D ?_
 intro W j B C
 have b:=A1 b C
 refine M<|G<|AA<|?_
 intro a E
 refine E4 E D D B BZ D (Cf 32) ?_
 exact⟨⟨s.l,s.h⟩,D,b⟩
theorem NF(z:Int)(x:Jd)(q:Option Addr)(n c:Nat)(l:List UInt8)(w:World)(s:CT w)(hn:n≤1000000)(t:View w (.slice q n c) n 1 (bv l))(u:l.length=n):
 Calls Tryz.prog 113 #[Value.int .i64 (z:Int),Value.agg (flat [bv x.l]),F q n c] w fun e w'=>∃d:Jd,e=.returned (.agg (flat [bv d.l]))∧Below w.heap.size w w':=by
 have b:Below w.heap.size w w:=Bu _ _
 refine Bx My D 14 ?_
 refine K<|N<|CW D ?_
 intro v H i o g j
 have J:=Bg b i
 have b:=Ah b j
 refine BQ [Av 32] ?_
 intro y m i o f j
 have L:=Bg b i
 have P:=AP g i
 have g:=Q g j
 have b:=Ah b j
 rw[Du]at f
 refine M<|G<|K<|N<|BP Ce g D<|I D<|AS Sr D (X9 x _ _ _ _ _ (by omega) (t.below b) u) ?_
 rintro _ R ⟨S,T,U,rfl,k,p⟩
 refine⟨_,D,?_⟩
 have A:w.heap.size≤m.heap.size:=b.size
 have V:v<m.heap.size:=Ar g
 have W:y<m.heap.size:=Ar f
 have f:=Q f p
 have b:=Ah b p
 have k:=CB k A
 refine O D<|M<|G<|K<|N<|I D<|I D<|AS LR D (Nu _ _ _ _ (z:Int) _ (s.below b (Be _)) (by omega) (View.own k) (CS k)) ?_
 rintro _ X ⟨d11,rfl,r⟩
 refine⟨_,D,?_⟩
 have f:=Q f r
 have b:=Ah b r
 refine Bi 0 1 f D D ?_
 intro Y o B C
 have b:=A1 b C
 refine M<|G<|AA<|?_
 intro a E
 refine E4 E D D B BZ D (Cf 32) ?_
 exact⟨⟨d11.l,d11.h⟩,D,b⟩
theorem JM(z:Int)(x y:Jd)(w:World)(q:CT w):
 Calls Tryz.prog 56 #[Value.int .i64 (z:Int),Value.agg (flat [bv x.l]),Value.agg (flat [bv y.l])] w fun e w'=>∃d:Jd,e=.returned (.agg (flat [bv d.l]))∧Below w.heap.size w w':=by
 have b:Below w.heap.size w w:=Bu _ _
 refine Bx I6 D 15 ?_
 refine K<|N<|CW D ?_
 intro r C c n f g
 have E:=Bg b c
 have b:=Ah b g
 refine CW D ?_
 intro s F c n j g
 have H:=Bg b c
 have J:=AP f c
 have f:=Q f g
 have b:=Ah b g
 refine BQ [Av 32] ?_
 intro t k c n i g
 have L:=Bg b c
 have P:=AP f c
 have R:=AP j c
 have f:=Q f g
 have j:=Q j g
 have b:=Ah b g
 rw[Du]at i
 refine M<|G<|K<|N<|I D<|BP BZ f D<|BP BZ j D<|AS O7 D (Uk (z:Int) x y _) ?_
 rintro _ S ⟨T,U,V,W,rfl,X,m,o⟩
 refine⟨_,D,?_⟩
 have u:w.heap.size≤k.heap.size:=b.size
 have Y:r<k.heap.size:=Ar f
 have Z:s<k.heap.size:=Ar j
 have aa:t<k.heap.size:=Ar i
 have i:=Q i o
 have b:=Ah b o
 have m:=CB m u
 refine O D<|M<|G<|K<|N<|I D<|I D<|AS LR D (Nu _ _ _ _ (z:Int) _ (q.below b (Be _)) (by omega) (View.own m) (CS m)) ?_
 rintro _ ab ⟨d15,rfl,p⟩
 refine⟨_,D,?_⟩
 have i:=Q i p
 have b:=Ah b p
 refine Bi 0 1 i D D ?_
 intro ad n v A
 have b:=A1 b A
 refine M<|G<|AA<|?_
 intro a B
 refine E4 B D D v BZ D (Cf 32) ?_
 exact⟨⟨d15.l,d15.h⟩,D,b⟩
theorem Qu(z:Int)(w:World)(y:CT w):
 Calls Tryz.prog 28 #[Value.int .i64 (z:Int)] w fun e w'=>∃p k,∃L:List Jd,e=.returned (.slice p 257 k)∧w'.ownsRow w.heap.size 125 32 (.slice p 257 k) 257 (Al Ex L)∧Below w.heap.size w w':=by
 have b:Below w.heap.size w w:=Bu _ _
 refine Bx N' D 24 ?_
 refine K<|N<|O D<|M<|G<|K<|N<|D6 A0 D (cs:=#[Value.int .u8 (((2:Nat):Int):Int)]) D D ?_
 intro H h v2 d
 have b:=Ah b d
 have v2:View H (F (some ⟨w.heap.size,0,none⟩) 1 1) 1 1 (bv [2]):=v2
 refine I D<|AS LR D (Nu _ _ _ _ (z:Int) _ (y.below b (Be _)) (by omega) v2 (by rfl)) ?_
 rintro _ af ⟨d3,rfl,A⟩
 refine⟨_,D,?_⟩
 have v2:=v2.below A
 have b:=Ah b A
 refine BQ [Av 32] ?_
 intro m ag J h c d
 have ah:=Bg b J
 have v2:=v2.below d
 have b:=Ah b d
 rw[Du]at c
 refine Bi 0 1 c D D ?_
 intro ai h P R
 have b:=A1 b R
 have c:=P
 refine M<|G<|K<|N<|BP BZ c D<|?_
 intro S r
 refine Bj D (fun Aa s=>N6 r D HF (v:=(Value.agg (flat [bv d3.l]))) D (cs:=(flat [bv d3.l])) D (R5 (Jb.row d3.row Jb.nil)) (Nat.le_of_ble_eq_true D) w.heap.size b.size ?_)
 intro a B T g h own U d
 have own:T.ownsRow w.heap.size 125 32 (F B 1 1) 1 (Al Ex [d3]):=by simpa[Al,Ex,flat]using own
 have j:Z (F B 1 1) m:=fun k X=>by have:=U k X;have:=Ar c;omega
 have c:=Q c d
 have b:=Ah b d
 refine s _ _ ?_;revert a
 refine O D<|M<|G<|K<|K<|N<|O (v:=(E 0)) D<|M<|G<|A2<|?_
 intro a g
 refine Cb (fun Y a W=>∃i,∃BU:Jd,∃n o t,Y=256 - i∧Ao 24 a (Ja (Ja (Ja (Ja (Ja Je 0 (Value.int .i64 (z:Int))) 2 (F none 0 0)) 3 (AB m)) 5 (E i)) 4 (F n (1+i) o))∧i≤256∧W.ownsRow w.heap.size 125 32 (.slice n (1+i) o) (1+i) (Al Ex t)∧Below w.heap.size w W∧Ai W m [bv BU.l] 125∧Z (F n (1+i) o) m) _ ⟨0,_,_,_,_,D,At g,by omega,own,b,c,j⟩ ?_
 rintro _ a aj ⟨i,BU,n,o,t,rfl,g,ak,own,b,c,j⟩
 revert a
 refine K<|K<|N<|I D<|B5 (q:=(256:Nat)) D D<|M<|G<|Bl D (fun aa=>?_) fun aa=>?_
 ·
  refine AE<|G<|K<|A2<|K<|N<|I D<|BP BZ c D<|BP BZ c D<|AS I6 D (JM (z:Int) BU BU _ (y.below b (Be _))) ?_
  rintro _ al ⟨d15,rfl,u⟩
  refine⟨_,D,?_⟩
  have own:=V own u
  have c:=Q c u
  have b:=Ah b u
  refine Bi 0 1 c D D ?_
  intro an h f C
  have own:=Ax own C j
  have b:=A1 b C
  refine M<|G<|N<|I D<|BP BZ f D<|E8 HF [bv d15.l] ?_
  intro ao h ab d
  have own:=V own d
  have f:=Q f d
  have b:=Ah b d
  intro S r
  refine Bj D (fun Aa s=>BK r HF own ab C8 b.size ((1+i)+1) (CC t d15 D (G8 _)) ?_)
  intro a aq ar au g ad x
  have ae:=A9 x j (Ar f)
  have f:=A' f x j
  have b:=Cm b x own
  refine s _ _ ?_;revert a
  refine O D<|M<|Bq<|G<|N<|I D<|A_ (q:=1) D D<|O D<|M<|G<|?_
  intro a g
  exact⟨_,by omega,i+1,_,_,_,_,D,At g,by omega,ad,b,f,ae⟩
 ·
  obtain rfl:i=256:=by omega
  refine BO<|AW<|AW<|BN<|G<|K<|N<|I D<|O D<|M<|G<|AA<|AZ D<|?_
  exact⟨_,_,_,D,own,b⟩
theorem UH(x:Jd)(i:Nat)(w:World)(o:i<256):
 Calls Tryz.prog 130 #[Value.agg (flat [bv x.l]),E i] w fun e w'=>∃r:Nat,e=.returned (.int .i64 ((r:Nat):Int))∧Below w.heap.size w w':=by
 have c:Below w.heap.size w w:=Bu _ _
 refine Bx QC D 22 ?_
 refine K<|N<|CW D ?_
 intro b2 d f s g j
 have t:=Bg c f
 have c:=Ah c j
 refine O (v:=(E 0)) D<|M<|G<|K<|N<|I D<|FK (q:=8) D D<|Dg Ce 1 (i/8) (i/8) D D<|Cg BA (Ib g x.h (i/8)) D<|AT (fun _ b=>C3 b (p:=((((x.l.getD (i/8) 0).toNat:Nat):Int):Int)) (r:=(((x.l.getD (i/8) 0).toNat:Nat):Int)) D BA AH (GR ((x.l.getD (i/8) 0).toNat) (Nat.lt_trans (UInt8.toNat_lt _) (by decide))))<|O D<|M<|G<|K<|K<|N<|I D<|EM (q:=8) D D<|O D<|M<|G<|A2<|?_
 intro a b
 refine Cb (fun m a W=>∃k v,m=7 - k∧W=d∧Ao 22 a (Ja (Ja (Ja Je 4 (E 0)) 5 (E v)) 6 (E k))∧v<256) _ ⟨_,_,D,D,At b,UInt8.toNat_lt _⟩ ?_
 rintro _ a d ⟨k,v,rfl,rfl,b,u⟩
 revert a
 refine K<|K<|N<|I D<|B5 (q:=(7:Nat)) D D<|M<|G<|Bl D (fun n=>?_) fun n=>?_
 ·
  refine AE<|G<|K<|A2<|N<|I D<|FK (q:=2) D D<|O D<|M<|Bq<|G<|N<|I D<|A_ (q:=1) D D<|O D<|M<|G<|?_
  intro a b
  exact⟨_,by omega,k+1,_,D,D,At b,by omega⟩
 ·
  refine BO<|AW<|AW<|BN<|G<|K<|N<|I D<|EM (q:=2) D D<|O D<|M<|G<|AA<|AZ D<|?_
  exact⟨_,D,c⟩
theorem LS(AQ:Option Addr)(ce:Nat)(D':List Jd)(z:Int)(x:Jd)(C6:Int)(y:Jd)(to:Int)(w:World)(J:CT w)(s:View w (.slice AQ 257 ce) 257 32 (Al Ex D'))(P:D'.length=257):
 Calls Tryz.prog 110 #[F AQ 257 ce,Value.int .i64 (z:Int),Value.agg (flat [bv x.l]),Value.int .i64 (C6:Int),Value.agg (flat [bv y.l]),Value.int .i64 (to:Int)] w fun e w'=>∃d:Jd,e=.returned (.agg (flat [bv d.l]))∧Below w.heap.size w w':=by
 have b:Below w.heap.size w w:=Bu _ _
 refine Bx Lo D 51 ?_
 refine K<|N<|CW D ?_
 intro R aq n r c k
 have ar:=Bg b n
 have b:=Ah b k
 refine CW D ?_
 intro S au n r f k
 have av:=Bg b n
 have aw:=AP c n
 have c:=Q c k
 have b:=Ah b k
 refine BQ [Av 32] ?_
 intro T ax n r g k
 have ay:=Bg b n
 have az:=AP c n
 have aA:=AP f n
 have c:=Q c k
 have f:=Q f k
 have b:=Ah b k
 rw[Du]at g
 refine M<|G<|K<|N<|I D<|AS Mt D (N7 (C6:Int) 256 _) ?_
 rintro _ _ ⟨Hp,aB,rfl,rfl⟩
 refine⟨_,D,?_⟩
 refine O D<|M<|G<|K<|N<|I D<|AS Mt D (N7 (to:Int) 256 _) ?_
 rintro _ _ ⟨Z,aC,rfl,rfl⟩
 refine⟨_,D,?_⟩
 refine O D<|M<|G<|K<|N<|BP BZ f D<|I D<|AS OC D (Pg y.l (z:Int) _ y.h) ?_
 rintro _ aD ⟨d8,aa,rfl,t⟩
 refine⟨_,D,?_⟩
 have c:=Q c t
 have f:=Q f t
 have g:=Q g t
 have b:=Ah b t
 obtain⟨aE,rfl⟩:∃q:Jd,q.l=d8:=⟨⟨d8,aa⟩,D⟩
 refine Bi 0 1 f D D ?_
 intro aF r ab B
 have c:=Ag B c (by omega)
 have g:=Ag B g (by omega)
 have b:=A1 b B
 have f:=ab
 refine M<|G<|K<|K<|N<|I D<|O D<|M<|G<|A2<|?_
 intro a m
 refine Cb (fun ad a W=>∃i,∃BU:Jd,ad=256 - i∧Ao 51 a (Ja (Ja (Ja (Ja (Ja (Ja (Ja Je 0 (F AQ 257 ce)) 1 (Value.int .i64 (z:Int))) 8 (AB R)) 10 (AB S)) 12 (AB T)) 14 (E Z)) 15 (E i))∧i≤256∧Below w.heap.size w W∧Ai W R [bv x.l] 51∧Ai W T [bv (List.replicate 32 0)] 125∧Ai W S [bv BU.l] 125) _ ⟨_,_,D,At m,by omega,b,c,g,f⟩ ?_
 rintro _ a aG ⟨i,BU,rfl,m,aH,b,c,g,f⟩
 revert a
 refine K<|K<|N<|I D<|I D<|B5 D D<|M<|G<|Bl D (fun ae=>?_) fun ae=>?_
 ·
  refine AE<|G<|K<|A2<|K<|N<|BP Ce c D<|I D<|E' (p:=255) D D<|AS QC D (UH x (255 - i) _ (by omega)) ?_
  rintro _ aI ⟨aJ,rfl,u⟩
  refine⟨_,D,?_⟩
  have c:=Q c u
  have g:=Q g u
  have f:=Q f u
  have b:=Ah b u
  refine O D<|M<|G<|K<|N<|I D<|Dk (q:=(0:Nat)) D D<|M<|G<|Bl D (fun af=>?_) fun af=>?_
  ·
   intro a m
   refine EJ 6 ?_
   intro aK r k
   have c:=Q c k
   have g:=Q g k
   have f:=Q f k
   have b:=Ah b k
   revert a
   refine A3 D<|Ht BZ f D<|A3 D<|A3 D<|?_
   obtain⟨aL,U,rfl⟩:=Ca (s.below b)
   obtain⟨V,ag⟩:=getD_some (L:=D') (j:=i) P (by omega)
   have ah:=BJ G8 (s.below b) ag (o:=U+i*32)
   refine C0 HF i (U+i*32) D D<|FG BZ 0 1 [bv V.l] ah D<|?_
   intro a m;refine EG ?_;revert a
   refine AS I6 D (JM (z:Int) BU V _ (J.below b (Be _))) ?_
   rintro _ aM ⟨d25,rfl,v⟩
   refine⟨_,D,?_⟩
   have c:=Q c v
   have g:=Q g v
   have f:=Q f v
   have b:=Ah b v
   refine Bi 0 1 f D D ?_
   intro aN r ai C
   have c:=Ag C c (by omega)
   have g:=Ag C g (by omega)
   have b:=A1 b C
   refine M<|Bq<|G<|N<|I D<|A_ (q:=1) D D<|O D<|M<|G<|?_
   intro a m
   exact⟨_,by omega,i+1,_,D,At m,by omega,b,c,g,ai⟩
  ·
   intro a m
   refine EJ 6 ?_
   intro aO r k
   have c:=Q c k
   have g:=Q g k
   have f:=Q f k
   have b:=Ah b k
   revert a
   refine A3 D<|A3 D<|A3 D<|?_
   obtain⟨aP,X,rfl⟩:=Ca (s.below b)
   obtain⟨Y,aj⟩:=getD_some (L:=D') (j:=i) P (by omega)
   have ak:=BJ G8 (s.below b) aj (o:=X+i*32)
   refine C0 HF i (X+i*32) D D<|FG BZ 0 1 [bv Y.l] ak D<|Ht BZ f D<|?_
   intro a m;refine EG ?_;revert a
   refine AS I6 D (JM (z:Int) Y BU _ (J.below b (Be _))) ?_
   rintro _ aQ ⟨d35,rfl,A⟩
   refine⟨_,D,?_⟩
   have c:=Q c A
   have g:=Q g A
   have f:=Q f A
   have b:=Ah b A
   refine Bi 0 1 f D D ?_
   intro aR r al H
   have c:=Ag H c (by omega)
   have g:=Ag H g (by omega)
   have b:=A1 b H
   refine M<|Bq<|G<|N<|I D<|A_ (q:=1) D D<|O D<|M<|G<|?_
   intro a m
   exact⟨_,by omega,i+1,_,D,At m,by omega,b,c,g,al⟩
 ·
  refine BO<|AW<|AW<|BN<|G<|K<|N<|BP BZ f D<|Bi 0 1 g D D ?_
  intro aS r an ao
  have b:=A1 b ao
  refine M<|G<|AA<|?_
  intro a m
  refine E4 m D D an BZ D (Cf 32) ?_
  exact⟨⟨BU.l,BU.h⟩,D,b⟩
end Go.Proofs.YtcdaflcjhimimaaGreatDoor
