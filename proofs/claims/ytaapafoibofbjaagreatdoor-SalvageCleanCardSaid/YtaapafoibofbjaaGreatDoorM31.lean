/- Laws and walks on the road to SalvageClean (part M31). No conditions beyond each law's own. -/
import Derived.Test.YtaapafoibofbjaaGreatDoorM01
import Derived.Test.YtaapafoibofbjaaGreatDoorM29
import Derived.Test.YtaapafoibofbjaaGreatDoorM07
import Derived.Test.YtaapafoibofbjaaGreatDoorM30
import Derived.Test.YtaapafoibofbjaaGreatDoorM12
import Derived.Test.YtaapafoibofbjaaGreatDoorM15
set_option linter.unusedVariables false
namespace Go.Proofs.YtaapafoibofbjaaGreatDoor
open Go.RowKit
set_option maxRecDepth 100000
set_option maxHeartbeats 1000000
theorem RZ(z:Int)(h:Nat)(w:World):
 Calls Tryz.prog 167 #[Value.int .i64 (z:Int),E 0,E h] w fun e w'=>∃r:Nat,r≤h∧e=.returned (.int .i64 ((r:Nat):Int))∧w=w':=by
 refine DZ Qy D 16 ?_
 refine Ao<|AD<|AV (v:=(E 0)) D<|Aw<|Ai<|Ao<|Ao<|AD<|Az D<|Az (v:=(E 0)) D<|D_ (q:=(0:Nat)) D D<|Aw<|Ai<|DU D (fun a=>?_) fun a=>?_
 ·
  refine Ao<|AD<|Az (v:=(E 0)) D<|AV (v:=(E 0)) D<|Aw<|Ai<|C0<|DK<|EE D<|?_
  exact⟨0,Nat.zero_le _,D,D⟩
 ·
  refine CA<|Ai<|Ao<|Ao<|AD<|Az D<|Az D<|h4 D D<|Aw<|Ai<|DU D (fun b=>?_) fun b=>?_
  ·
   refine Ao<|AD<|Az D<|AV D<|Aw<|Ai<|C0<|DK<|EE D<|?_
   exact⟨h,Br _,D,D⟩
  ·
   refine CA<|Ai<|Ao<|AD<|Az D<|AV D<|Aw<|Ai<|C0<|EE D<|?_
   exact⟨z.toNat,by omega,by rw[Int.toNat_of_nonneg (by omega)],D⟩
theorem fY(x:Jc)(q:Option Addr)(n c:Nat)(l:List UInt8)(w:World)(aa:n≤1000000)(V:View w (.slice q n c) n 1 (bv l))(hl:l.length=n):
 Calls Tryz.prog 172 #[Value.agg (flat [bv x.l]),I q n c] w fun e w'=>∃p k,∃L:List UInt8,e=.returned (.slice p (33+n) k)∧w'.ownsRow w.heap.size 5 1 (.slice p (33+n) k) (33+n) (bv L)∧Below w.heap.size w w':=by
 have b:Below w.heap.size w w:=Cn _ _
 refine DZ XB D 33 ?_
 refine Ao<|AD<|Hf D ?_
 intro r ab G u H2 J
 have ad:=C8 b G
 have b:=BG b J
 refine AV D<|Aw<|Ai<|Ao<|AD<|?_
 intro B s
 refine Cp D (fun K t=>Ry s D A3 (v:=(Value.int .u8 (((0:Nat):Int):Int))) D (cs:=#[Value.int .u8 (((0:Nat):Int):Int)]) D D (Nat.le_of_ble_eq_true D) w.heap.size b.size ?_)
 intro a C H d u own M J
 have own:H.ownsRow w.heap.size 5 1 (I C 1 1) 1 (bv [0]):=own
 have j:GZ (I C 1 1) r:=fun k N=>by have:=M k N;have:=DC H2;omega
 have H2:=Bl H2 J
 have b:=BG b J
 refine t _ _ ?_;revert a
 refine AV D<|Aw<|Ai<|Ao<|Ao<|AD<|AV (v:=(E 0)) D<|Aw<|Ai<|B'<|?_
 intro a d
 refine Ec (fun y a W=>∃i f g m,y=32 - i∧AH 33 a (Jb (Jb (Jb (Jb (Jb Jk 1 (I q n c)) 2 (S r)) 4 (I none 0 0)) 6 (E i)) 5 (I f (1+i) g))∧i≤32∧W.ownsRow w.heap.size 5 1 (.slice f (1+i) g) (1+i) (bv m)∧Below w.heap.size w W∧CY W r [bv x.l] 57∧GZ (I f (1+i) g) r) _ ⟨0,_,_,_,D,AY d,by omega,own,b,H2,j⟩ ?_
 rintro _ a ae ⟨i,f,g,m,rfl,d,O,own,b,H2,j⟩
 revert a
 refine Ao<|Ao<|AD<|Az D<|D_ (q:=(32:Nat)) D D<|Aw<|Ai<|DU D (fun P=>?_) fun P=>?_
 ·
  refine CA<|Ai<|Ao<|B'<|AD<|Az D<|Az D<|E' Em 1 i i D D<|D8 BV (Qh H2 x.h i) D<|K2 A3 D (cs:=#[Value.int .u8 ((((x.l.getD i 0).toNat:Nat):Int):Int)]) D D ?_
  intro af u Q J
  have own:=EN own J
  have H2:=Bl H2 J
  have b:=BG b J
  intro B s
  refine Cp D (fun K t=>Gn s A3 own Q (by simp[Value.oneCell']) b.size ((1+i)+1) (zs:=bv (m++[x.l.getD i 0])) (by simp[bv]) ?_)
  intro a ag ah ai d R z
  have T:=Ml z j (DC H2)
  have H2:=Mx H2 z j
  have b:=F' b z own
  refine t _ _ ?_;revert a
  refine AV D<|Aw<|DN<|Ai<|AD<|Az D<|Dz (q:=1) D D<|AV D<|Aw<|Ai<|?_
  intro a d
  exact⟨_,by omega,i+1,_,_,_,D,AY d,by omega,R,b,H2,T⟩
 ·
  obtain rfl:i=32:=by omega
  refine Dv<|BY<|BY<|Ds<|Ai<|Ao<|Ao<|AD<|AV (v:=(E 0)) D<|Aw<|Ai<|B'<|?_
  intro a d
  refine Ec (fun y a W=>∃i f g m,y=n - i∧AH 33 a (Jb (Jb (Jb (Jb Jk 1 (I q n c)) 4 (I none 0 0)) 7 (E i)) 5 (I f (33+i) g))∧i≤n∧W.ownsRow w.heap.size 5 1 (.slice f (33+i) g) (33+i) (bv m)∧Below w.heap.size w W∧CY W r [bv x.l] 57∧GZ (I f (33+i) g) r) _ ⟨0,_,_,_,D,AY d,by omega,own,b,H2,j⟩ ?_
  rintro _ a aj ⟨i,f,g,m,rfl,d,O,own,b,H2,j⟩
  revert a
  refine Ao<|Ao<|AD<|Az D<|Az D<|HT Co D<|D_ D D<|Aw<|Ai<|DU D (fun U=>?_) fun U=>?_
  ·
   refine CA<|Ai<|Ao<|B'<|AD<|Az D<|Az D<|Az D<|?_
   obtain⟨ak,F,rfl⟩:=IW (V.below b)
   have X:=GH (V.below b) i (o:=F+i*1)
   refine Ou A3 i (F+i*1) D D<|D8 BV X D<|K2 A3 D (cs:=#[Value.int .u8 ((((l.getD i 0).toNat:Nat):Int):Int)]) D D ?_
   intro al u v20 J
   have own:=EN own J
   have H2:=Bl H2 J
   have b:=BG b J
   intro B s
   refine Cp D (fun K t=>Gn s A3 own v20 (by simp[Value.oneCell']) b.size ((33+i)+1) (zs:=bv (m++[l.getD i 0])) (by simp[bv]) ?_)
   intro a an ao aq d Y A
   have Z:=Ml A j (DC H2)
   have H2:=Mx H2 A j
   have b:=F' b A own
   refine t _ _ ?_;revert a
   refine AV D<|Aw<|DN<|Ai<|AD<|Az D<|Dz (q:=1) D D<|AV D<|Aw<|Ai<|?_
   intro a d
   exact⟨_,by omega,i+1,_,_,_,D,AY d,by omega,Y,b,H2,Z⟩
  ·
   obtain rfl:n=i:=by omega
   refine Dv<|BY<|BY<|Ds<|Ai<|Ao<|AD<|Az D<|AV D<|Aw<|Ai<|C0<|EE D<|?_
   exact⟨_,_,_,D,own,b⟩
theorem dZ(z:Int)(x y:Jc)(w:World):
 Calls Tryz.prog 135 #[Value.int .i64 (z:Int),Value.agg (flat [bv x.l]),Value.agg (flat [bv y.l])] w fun e w'=>∃p k n,∃L:List UInt8,e=.returned (.slice p n k)∧n≤65∧w'.ownsRow w.heap.size 5 1 (.slice p n k) n (bv L)∧Below w.heap.size w w':=by
 have b:Below w.heap.size w w:=Cn _ _
 refine DZ U5 D 37 ?_
 refine Ao<|AD<|Hf D ?_
 intro A ag H M c J
 have ah:=C8 b H
 have b:=BG b J
 refine Hf D ?_
 intro t ai H M d J
 have aj:=C8 b H
 have ak:=C6 c H
 have c:=Bl c J
 have b:=BG b J
 refine AV D<|Aw<|Ai<|Ao<|AD<|Az D<|CL Qy D (RZ (z:Int) 32 _) ?_
 rintro _ _ ⟨r,hr,rfl,rfl⟩
 refine⟨_,D,?_⟩
 refine AV D<|Aw<|Ai<|Ao<|AD<|?_
 intro Q B
 refine Cp D (fun K C=>Ry B D A3 (v:=(Value.int .u8 (((1:Nat):Int):Int))) D (cs:=#[Value.int .u8 (((1:Nat):Int):Int)]) D D (Nat.le_of_ble_eq_true D) w.heap.size b.size ?_)
 intro a N T f M own R J
 have own:T.ownsRow w.heap.size 5 1 (I N 1 1) 1 (bv [1]):=own
 have o:GZ (I N 1 1) A:=fun k O=>by have:=R k O;have:=DC c;omega
 have s:GZ (I N 1 1) t:=fun k O=>by have:=R k O;have:=DC d;omega
 have c:=Bl c J
 have d:=Bl d J
 have b:=BG b J
 refine C _ _ ?_;revert a
 refine AV D<|Aw<|Ai<|Ao<|Ao<|AD<|AV (v:=(E 0)) D<|Aw<|Ai<|B'<|?_
 intro a f
 refine Ec (fun P a W=>∃i g m u,P=r - i∧AH 37 a (Jb (Jb (Jb (Jb (Jb (Jb Jk 4 (S A)) 5 (S t)) 6 (I none 0 0)) 7 (E r)) 9 (E i)) 8 (I g (1+i) m))∧i≤r∧W.ownsRow w.heap.size 5 1 (.slice g (1+i) m) (1+i) (bv u)∧Below w.heap.size w W∧CY W A [bv x.l] 51∧CY W t [bv y.l] 51∧GZ (I g (1+i) m) A∧GZ (I g (1+i) m) t) _ ⟨0,_,_,_,D,AY f,by omega,own,b,c,d,o,s⟩ ?_
 rintro _ a al ⟨i,g,m,u,rfl,f,U,own,b,c,d,o,s⟩
 revert a
 refine Ao<|Ao<|AD<|Az D<|Az D<|D_ D D<|Aw<|Ai<|DU D (fun V=>?_) fun V=>?_
 ·
  refine CA<|Ai<|Ao<|B'<|AD<|Az D<|Az D<|E' B5 1 i i D D<|D8 BV (Qh c x.h i) D<|K2 A3 D (cs:=#[Value.int .u8 ((((x.l.getD i 0).toNat:Nat):Int):Int)]) D D ?_
  intro an M v11 J
  have own:=EN own J
  have c:=Bl c J
  have d:=Bl d J
  have b:=BG b J
  intro Q B
  refine Cp D (fun K C=>Gn B A3 own v11 (by simp[Value.oneCell']) b.size ((1+i)+1) (zs:=bv (u++[x.l.getD i 0])) (by simp[bv]) ?_)
  intro a ao aq ar f X F
  have Y:=Ml F o (DC c)
  have Z:=Ml F s (DC d)
  have c:=Mx c F o
  have d:=Mx d F s
  have b:=F' b F own
  refine C _ _ ?_;revert a
  refine AV D<|Aw<|DN<|Ai<|AD<|Az D<|Dz (q:=1) D D<|AV D<|Aw<|Ai<|?_
  intro a f
  exact⟨_,by omega,i+1,_,_,_,D,AY f,by omega,X,b,c,d,Y,Z⟩
 ·
  obtain rfl:r=i:=by omega
  refine Dv<|BY<|BY<|Ds<|Ai<|Ao<|Ao<|AD<|AV (v:=(E 0)) D<|Aw<|Ai<|B'<|?_
  intro a f
  refine Ec (fun P a W=>∃j g m u,P=r - j∧AH 37 a (Jb (Jb (Jb (Jb (Jb Jk 5 (S t)) 6 (I none 0 0)) 7 (E r)) 10 (E j)) 8 (I g (1+r+j) m))∧j≤r∧W.ownsRow w.heap.size 5 1 (.slice g (1+r+j) m) (1+r+j) (bv u)∧Below w.heap.size w W∧CY W A [bv x.l] 51∧CY W t [bv y.l] 51∧GZ (I g (1+r+j) m) A∧GZ (I g (1+r+j) m) t) _ ⟨0,_,_,_,D,AY f,by omega,own,b,c,d,o,s⟩ ?_
  rintro _ a au ⟨j,g,m,u,rfl,f,U,own,b,c,d,o,s⟩
  revert a
  refine Ao<|Ao<|AD<|Az D<|Az D<|D_ D D<|Aw<|Ai<|DU D (fun aa=>?_) fun aa=>?_
  ·
   refine CA<|Ai<|Ao<|B'<|AD<|Az D<|Az D<|E' B5 1 j j D D<|D8 BV (Qh d y.h j) D<|K2 A3 D (cs:=#[Value.int .u8 ((((y.l.getD j 0).toNat:Nat):Int):Int)]) D D ?_
   intro av M ab J
   have own:=EN own J
   have c:=Bl c J
   have d:=Bl d J
   have b:=BG b J
   intro Q B
   refine Cp D (fun K C=>Gn B A3 own ab (by simp[Value.oneCell']) b.size ((1+r+j)+1) (zs:=bv (u++[y.l.getD j 0])) (by simp[bv]) ?_)
   intro a aw ax ay f ad G
   have ae:=Ml G o (DC c)
   have af:=Ml G s (DC d)
   have c:=Mx c G o
   have d:=Mx d G s
   have b:=F' b G own
   refine C _ _ ?_;revert a
   refine AV D<|Aw<|DN<|Ai<|AD<|Az D<|Dz (q:=1) D D<|AV D<|Aw<|Ai<|?_
   intro a f
   exact⟨_,by omega,j+1,_,_,_,D,AY f,by omega,ad,b,c,d,ae,af⟩
  ·
   refine Dv<|BY<|BY<|Ds<|Ai<|Ao<|AD<|Az D<|AV D<|Aw<|Ai<|C0<|EE D<|?_
   exact⟨_,_,_,_,D,by omega,own,b⟩
theorem Rx(q:Option Addr)(n c:Nat)(l:List UInt8)(z:Int)(w:World)(s:DA w)(B:n≤100000000)(V:View w (.slice q n c) n 1 (bv l))(hl:l.length=n):
 Calls Tryz.prog 104 #[I q n c,Value.int .i64 (z:Int)] w fun e w'=>∃d:Jc,e=.returned (.agg (flat [bv d.l]))∧Below w.heap.size w w':=by
 have b:Below w.heap.size w w:=Cn _ _
 refine DZ Po D 11 ?_
 refine Ao<|AD<|D4 [Ak 32] ?_
 intro C E g i f J
 have F:=C8 b g
 have b:=BG b J
 rw[KG]at f
 refine Aw<|Ai<|Ao<|AD<|Az D<|CL Vj D (hs _ _ _ _ _ (s.below b (Br _)) (by omega) (V.below b) hl) ?_
 rintro _ G ⟨d2,t,rfl,j⟩
 refine⟨_,D,?_⟩
 have f:=Bl f j
 have b:=BG b j
 obtain⟨k,rfl⟩:∃q:Jc,q.l=d2:=⟨⟨d2,t⟩,D⟩
 refine D4 [Ak 32] ?_
 intro H K g i m J
 have L:=C8 b g
 have M:=C6 f g
 have f:=Bl f J
 have b:=BG b J
 rw[KG]at m
 refine CK 0 1 m D D ?_
 intro N i u o
 have f:=Bn o f (by omega)
 have b:=CJ b o
 refine Aw<|Ai<|Ao<|AD<|Ef B5 u D<|Az D<|CL Th D (YB k.l (z:Int) _ k.h) ?_
 rintro _ O ⟨d9,v,rfl,p⟩
 refine⟨_,D,?_⟩
 have f:=Bl f p
 have b:=BG b p
 obtain⟨r,rfl⟩:∃q:Jc,q.l=d9:=⟨⟨d9,v⟩,D⟩
 refine CK 0 1 f D D ?_
 intro P i x y
 have b:=CJ b y
 refine Aw<|Ai<|C0<|?_
 intro a A
 refine Kj A D D x B5 D (ME 32) ?_
 exact⟨⟨r.l,r.h⟩,D,b⟩
theorem Y8(z:Int)(x:Jc)(q:Option Addr)(n c:Nat)(l:List UInt8)(w:World)(r:DA w)(B:n≤1000000)(V:View w (.slice q n c) n 1 (bv l))(hl:l.length=n):
 Calls Tryz.prog 145 #[Value.int .i64 (z:Int),Value.agg (flat [bv x.l]),I q n c] w fun e w'=>∃d:Jc,e=.returned (.agg (flat [bv d.l]))∧Below w.heap.size w w':=by
 have b:Below w.heap.size w w:=Cn _ _
 refine DZ TE D 14 ?_
 refine Ao<|AD<|Hf D ?_
 intro s C i m g J
 have E:=C8 b i
 have b:=BG b J
 refine D4 [Ak 32] ?_
 intro t k i m f J
 have F:=C8 b i
 have G:=C6 g i
 have g:=Bl g J
 have b:=BG b J
 rw[KG]at f
 refine Aw<|Ai<|Ao<|AD<|Ef Em g D<|Az D<|CL XB D (fY x _ _ _ _ _ (by omega) (V.below b) hl) ?_
 rintro _ H ⟨K,L,M,rfl,j,o⟩
 refine⟨_,D,?_⟩
 have u:w.heap.size≤k.heap.size:=b.size
 have N:s<k.heap.size:=DC g
 have O:t<k.heap.size:=DC f
 have f:=Bl f o
 have b:=BG b o
 have j:=Ew j u
 refine AV D<|Aw<|Ai<|Ao<|AD<|Az D<|Az D<|CL Po D (Rx _ _ _ _ (z:Int) _ (r.below b (Br _)) (by omega) (View.own j) (De j)) ?_
 rintro _ P ⟨d11,rfl,p⟩
 refine⟨_,D,?_⟩
 have f:=Bl f p
 have b:=BG b p
 refine CK 0 1 f D D ?_
 intro Q m v y
 have b:=CJ b y
 refine Aw<|Ai<|C0<|?_
 intro a A
 refine Kj A D D v B5 D (ME 32) ?_
 exact⟨⟨d11.l,d11.h⟩,D,b⟩
theorem SA(z:Int)(x y:Jc)(w:World)(p:DA w):
 Calls Tryz.prog 105 #[Value.int .i64 (z:Int),Value.agg (flat [bv x.l]),Value.agg (flat [bv y.l])] w fun e w'=>∃d:Jc,e=.returned (.agg (flat [bv d.l]))∧Below w.heap.size w w':=by
 have b:Below w.heap.size w w:=Cn _ _
 refine DZ Qo D 15 ?_
 refine Ao<|AD<|Hf D ?_
 intro q B c m f J
 have C:=C8 b c
 have b:=BG b J
 refine Hf D ?_
 intro r E c m i J
 have F:=C8 b c
 have G:=C6 f c
 have f:=Bl f J
 have b:=BG b J
 refine D4 [Ak 32] ?_
 intro s j c m g J
 have H:=C8 b c
 have I:=C6 f c
 have K:=C6 i c
 have f:=Bl f J
 have i:=Bl i J
 have b:=BG b J
 rw[KG]at g
 refine Aw<|Ai<|Ao<|AD<|Az D<|Ef B5 f D<|Ef B5 i D<|CL U5 D (dZ (z:Int) x y _) ?_
 rintro _ L ⟨M,N,O,P,rfl,Q,k,n⟩
 refine⟨_,D,?_⟩
 have t:w.heap.size≤j.heap.size:=b.size
 have R:q<j.heap.size:=DC f
 have S:r<j.heap.size:=DC i
 have T:s<j.heap.size:=DC g
 have g:=Bl g n
 have b:=BG b n
 have k:=Ew k t
 refine AV D<|Aw<|Ai<|Ao<|AD<|Az D<|Az D<|CL Po D (Rx _ _ _ _ (z:Int) _ (p.below b (Br _)) (by omega) (View.own k) (De k)) ?_
 rintro _ U ⟨d15,rfl,o⟩
 refine⟨_,D,?_⟩
 have g:=Bl g o
 have b:=BG b o
 refine CK 0 1 g D D ?_
 intro V m u v
 have b:=CJ b v
 refine Aw<|Ai<|C0<|?_
 intro a A
 refine Kj A D D u B5 D (ME 32) ?_
 exact⟨⟨d15.l,d15.h⟩,D,b⟩
theorem XF(z:Int)(w:World)(x:DA w):
 Calls Tryz.prog 60 #[Value.int .i64 (z:Int)] w fun e w'=>∃p k,∃L:List Jc,e=.returned (.slice p 257 k)∧w'.ownsRow w.heap.size 51 32 (.slice p 257 k) 257 (Aq EJ L)∧Below w.heap.size w w':=by
 have b:Below w.heap.size w w:=Cn _ _
 refine DZ TN D 24 ?_
 refine Ao<|AD<|AV D<|Aw<|Ai<|Ao<|AD<|K2 A3 D (cs:=#[Value.int .u8 (((2:Nat):Int):Int)]) D D ?_
 intro C g v2 J
 have b:=BG b J
 have v2:View C (I (some ⟨w.heap.size,0,none⟩) 1 1) 1 1 (bv [2]):=v2
 refine Az D<|CL Po D (Rx _ _ _ _ (z:Int) _ (x.below b (Br _)) (by omega) v2 (by rfl)) ?_
 rintro _ X ⟨d3,rfl,y⟩
 refine⟨_,D,?_⟩
 have v2:=v2.below y
 have b:=BG b y
 refine D4 [Ak 32] ?_
 intro j Y F g c J
 have Z:=C8 b F
 have v2:=v2.below J
 have b:=BG b J
 rw[KG]at c
 refine CK 0 1 c D D ?_
 intro aa g G H
 have b:=CJ b H
 have c:=G
 refine Aw<|Ai<|Ao<|AD<|Ef B5 c D<|?_
 intro M o
 refine Cp D (fun K r=>Ry o D Kt (v:=(Value.agg (flat [bv d3.l]))) D (cs:=(flat [bv d3.l])) D (Zm (Ja.row d3.row Ja.nil)) (Nat.le_of_ble_eq_true D) w.heap.size b.size ?_)
 intro a A N f g own O J
 have own:N.ownsRow w.heap.size 51 32 (I A 1 1) 1 (Aq EJ [d3]):=by simpa[Aq,EJ,flat]using own
 have h:GZ (I A 1 1) j:=fun k P=>by have:=O k P;have:=DC c;omega
 have c:=Bl c J
 have b:=BG b J
 refine r _ _ ?_;revert a
 refine AV D<|Aw<|Ai<|Ao<|Ao<|AD<|AV (v:=(E 0)) D<|Aw<|Ai<|B'<|?_
 intro a f
 refine Ec (fun Q a W=>∃i,∃BB:Jc,∃m n s,Q=256 - i∧AH 24 a (Jb (Jb (Jb (Jb (Jb Jk 0 (Value.int .i64 (z:Int))) 2 (I none 0 0)) 3 (S j)) 5 (E i)) 4 (I m (1+i) n))∧i≤256∧W.ownsRow w.heap.size 51 32 (.slice m (1+i) n) (1+i) (Aq EJ s)∧Below w.heap.size w W∧CY W j [bv BB.l] 51∧GZ (I m (1+i) n) j) _ ⟨0,_,_,_,_,D,AY f,by omega,own,b,c,h⟩ ?_
 rintro _ a ab ⟨i,BB,m,n,s,rfl,f,ad,own,b,c,h⟩
 revert a
 refine Ao<|Ao<|AD<|Az D<|D_ (q:=(256:Nat)) D D<|Aw<|Ai<|DU D (fun R=>?_) fun R=>?_
 ·
  refine CA<|Ai<|Ao<|B'<|Ao<|AD<|Az D<|Ef B5 c D<|Ef B5 c D<|CL Qo D (SA (z:Int) BB BB _ (x.below b (Br _))) ?_
  rintro _ ae ⟨d15,rfl,t⟩
  refine⟨_,D,?_⟩
  have own:=EN own t
  have c:=Bl c t
  have b:=BG b t
  refine CK 0 1 c D D ?_
  intro af g d B
  have own:=PH own B h
  have b:=CJ b B
  refine Aw<|Ai<|AD<|Az D<|Ef B5 d D<|dv Kt [bv d15.l] ?_
  intro ag g T J
  have own:=EN own J
  have d:=Bl d J
  have b:=BG b J
  intro M o
  refine Cp D (fun K r=>Gn o Kt own T cW b.size ((1+i)+1) (g7 s d15 D (Hh _)) ?_)
  intro a ah ai aj f U u
  have V:=Ml u h (DC d)
  have d:=Mx d u h
  have b:=F' b u own
  refine r _ _ ?_;revert a
  refine AV D<|Aw<|DN<|Ai<|AD<|Az D<|Dz (q:=1) D D<|AV D<|Aw<|Ai<|?_
  intro a f
  exact⟨_,by omega,i+1,_,_,_,_,D,AY f,by omega,U,b,d,V⟩
 ·
  obtain rfl:i=256:=by omega
  refine Dv<|BY<|BY<|Ds<|Ai<|Ao<|AD<|Az D<|AV D<|Aw<|Ai<|C0<|EE D<|?_
  exact⟨_,_,_,D,own,b⟩
theorem fF(x:Jc)(i:Nat)(w:World)(m:i<256):
 Calls Tryz.prog 170 #[Value.agg (flat [bv x.l]),E i] w fun e w'=>∃r:Nat,e=.returned (.int .i64 ((r:Nat):Int))∧Below w.heap.size w w':=by
 have c:Below w.heap.size w w:=Cn _ _
 refine DZ U4 D 22 ?_
 refine Ao<|AD<|Hf D ?_
 intro n d f o H2 J
 have s:=C8 c f
 have c:=BG c J
 refine AV (v:=(E 0)) D<|Aw<|Ai<|Ao<|AD<|Az D<|Qe (q:=8) D D<|E' Em 1 (i/8) (i/8) D D<|D8 BV (Qh H2 x.h (i/8)) D<|Cc (fun _ b=>Ex b (p:=((((x.l.getD (i/8) 0).toNat:Nat):Int):Int)) (r:=(((x.l.getD (i/8) 0).toNat:Nat):Int)) D BV AF (JG ((x.l.getD (i/8) 0).toNat) (Nat.lt_trans (UInt8.toNat_lt _) (by decide))))<|AV D<|Aw<|Ai<|Ao<|Ao<|AD<|Az D<|Mz (q:=8) D D<|AV D<|Aw<|Ai<|B'<|?_
 intro a b
 refine Ec (fun g a W=>∃k v,g=7 - k∧W=d∧AH 22 a (Jb (Jb (Jb Jk 4 (E 0)) 5 (E v)) 6 (E k))∧v<256) _ ⟨_,_,D,D,AY b,UInt8.toNat_lt _⟩ ?_
 rintro _ a d ⟨k,v,rfl,rfl,b,t⟩
 revert a
 refine Ao<|Ao<|AD<|Az D<|D_ (q:=(7:Nat)) D D<|Aw<|Ai<|DU D (fun j=>?_) fun j=>?_
 ·
  refine CA<|Ai<|Ao<|B'<|AD<|Az D<|Qe (q:=2) D D<|AV D<|Aw<|DN<|Ai<|AD<|Az D<|Dz (q:=1) D D<|AV D<|Aw<|Ai<|?_
  intro a b
  exact⟨_,by omega,k+1,_,D,D,AY b,by omega⟩
 ·
  refine Dv<|BY<|BY<|Ds<|Ai<|Ao<|AD<|Az D<|Mz (q:=2) D D<|AV D<|Aw<|Ai<|C0<|EE D<|?_
  exact⟨_,D,c⟩
theorem c1(Du:Option Addr)(ce:Nat)(r:List Jc)(z:Int)(x:Jc)(fr:Int)(y:Jc)(to:Int)(w:World)(F:DA w)(V:View w (.slice Du 257 ce) 257 32 (Aq EJ r))(hl:r.length=257):
 Calls Tryz.prog 142 #[I Du 257 ce,Value.int .i64 (z:Int),Value.agg (flat [bv x.l]),Value.int .i64 (fr:Int),Value.agg (flat [bv y.l]),Value.int .i64 (to:Int)] w fun e w'=>∃d:Jc,e=.returned (.agg (flat [bv d.l]))∧Below w.heap.size w w':=by
 have b:Below w.heap.size w w:=Cn _ _
 refine DZ Vq D 51 ?_
 refine Ao<|AD<|Hf D ?_
 intro G ai m n c J
 have aj:=C8 b m
 have b:=BG b J
 refine Hf D ?_
 intro H ak m n f J
 have al:=C8 b m
 have an:=C6 c m
 have c:=Bl c J
 have b:=BG b J
 refine D4 [Ak 32] ?_
 intro K ao m n g J
 have aq:=C8 b m
 have ar:=C6 c m
 have au:=C6 f m
 have c:=Bl c J
 have f:=Bl f J
 have b:=BG b J
 rw[KG]at g
 refine Aw<|Ai<|Ao<|AD<|Az D<|CL Qy D (RZ (fr:Int) 256 _) ?_
 rintro _ _ ⟨HQ,av,rfl,rfl⟩
 refine⟨_,D,?_⟩
 refine AV D<|Aw<|Ai<|Ao<|AD<|Az D<|CL Qy D (RZ (to:Int) 256 _) ?_
 rintro _ _ ⟨Q,aw,rfl,rfl⟩
 refine⟨_,D,?_⟩
 refine AV D<|Aw<|Ai<|Ao<|AD<|Ef B5 f D<|Az D<|CL Th D (YB y.l (z:Int) _ y.h) ?_
 rintro _ ax ⟨d8,R,rfl,s⟩
 refine⟨_,D,?_⟩
 have c:=Bl c s
 have f:=Bl f s
 have g:=Bl g s
 have b:=BG b s
 obtain⟨ay,rfl⟩:∃q:Jc,q.l=d8:=⟨⟨d8,R⟩,D⟩
 refine CK 0 1 f D D ?_
 intro az n T A
 have c:=Bn A c (by omega)
 have g:=Bn A g (by omega)
 have b:=CJ b A
 have f:=T
 refine Aw<|Ai<|Ao<|Ao<|AD<|Az D<|AV D<|Aw<|Ai<|B'<|?_
 intro a k
 refine Ec (fun U a W=>∃i,∃BB:Jc,U=256 - i∧AH 51 a (Jb (Jb (Jb (Jb (Jb (Jb (Jb Jk 0 (I Du 257 ce)) 1 (Value.int .i64 (z:Int))) 8 (S G)) 10 (S H)) 12 (S K)) 14 (E Q)) 15 (E i))∧i≤256∧Below w.heap.size w W∧CY W G [bv x.l] 57∧CY W K [bv (List.replicate 32 0)] 51∧CY W H [bv BB.l] 51) _ ⟨_,_,D,AY k,by omega,b,c,g,f⟩ ?_
 rintro _ a aA ⟨i,BB,rfl,k,aB,b,c,g,f⟩
 revert a
 refine Ao<|Ao<|AD<|Az D<|Az D<|D_ D D<|Aw<|Ai<|DU D (fun X=>?_) fun X=>?_
 ·
  refine CA<|Ai<|Ao<|B'<|Ao<|AD<|Ef Em c D<|Az D<|Rv (p:=255) D D<|CL U4 D (fF x (255 - i) _ (by omega)) ?_
  rintro _ aC ⟨aD,rfl,t⟩
  refine⟨_,D,?_⟩
  have c:=Bl c t
  have g:=Bl g t
  have f:=Bl f t
  have b:=BG b t
  refine AV D<|Aw<|Ai<|Ao<|AD<|Az D<|XY (q:=(0:Nat)) D D<|Aw<|Ai<|DU D (fun Y=>?_) fun Y=>?_
  ·
   intro a k
   refine Mf 6 ?_
   intro aE n J
   have c:=Bl c J
   have g:=Bl g J
   have f:=Bl f J
   have b:=BG b J
   revert a
   refine D7 D<|YA B5 f D<|D7 D<|D7 D<|?_
   obtain⟨aF,M,rfl⟩:=IW (V.below b)
   obtain⟨N,Z⟩:=getD_some (L:=r) (j:=i) hl (by omega)
   have aa:=QC Hh (V.below b) Z (o:=M+i*32) (by first|rfl|omega)
   refine M3 Kt i (M+i*32) D D<|VG B5 0 1 [bv N.l] aa D<|?_
   intro a k;refine LP ?_;revert a
   refine CL Qo D (SA (z:Int) BB N _ (F.below b (Br _))) ?_
   rintro _ aG ⟨d25,rfl,u⟩
   refine⟨_,D,?_⟩
   have c:=Bl c u
   have g:=Bl g u
   have f:=Bl f u
   have b:=BG b u
   refine CK 0 1 f D D ?_
   intro aH n ab B
   have c:=Bn B c (by omega)
   have g:=Bn B g (by omega)
   have b:=CJ b B
   refine Aw<|DN<|Ai<|AD<|Az D<|Dz (q:=1) D D<|AV D<|Aw<|Ai<|?_
   intro a k
   exact⟨_,by omega,i+1,_,D,AY k,by omega,b,c,g,ab⟩
  ·
   intro a k
   refine Mf 6 ?_
   intro aI n J
   have c:=Bl c J
   have g:=Bl g J
   have f:=Bl f J
   have b:=BG b J
   revert a
   refine D7 D<|D7 D<|D7 D<|?_
   obtain⟨aJ,O,rfl⟩:=IW (V.below b)
   obtain⟨P,ad⟩:=getD_some (L:=r) (j:=i) hl (by omega)
   have ae:=QC Hh (V.below b) ad (o:=O+i*32) (by first|rfl|omega)
   refine M3 Kt i (O+i*32) D D<|VG B5 0 1 [bv P.l] ae D<|YA B5 f D<|?_
   intro a k;refine LP ?_;revert a
   refine CL Qo D (SA (z:Int) P BB _ (F.below b (Br _))) ?_
   rintro _ aK ⟨d35,rfl,v⟩
   refine⟨_,D,?_⟩
   have c:=Bl c v
   have g:=Bl g v
   have f:=Bl f v
   have b:=BG b v
   refine CK 0 1 f D D ?_
   intro aL n af C
   have c:=Bn C c (by omega)
   have g:=Bn C g (by omega)
   have b:=CJ b C
   refine Aw<|DN<|Ai<|AD<|Az D<|Dz (q:=1) D D<|AV D<|Aw<|Ai<|?_
   intro a k
   exact⟨_,by omega,i+1,_,D,AY k,by omega,b,c,g,af⟩
 ·
  refine Dv<|BY<|BY<|Ds<|Ai<|Ao<|AD<|Ef B5 f D<|CK 0 1 g D D ?_
  intro aM n ag ah
  have b:=CJ b ah
  refine Aw<|Ai<|C0<|?_
  intro a k
  refine Kj k D D ag B5 D (ME 32) ?_
  exact⟨⟨BB.l,BB.h⟩,D,b⟩
theorem Q'(v:Nat)(w:World)(V:v≤4611686018427387904:=by omega):
 Calls Tryz.prog 108 #[E v] w fun e w'=>∃p k,∃L:List UInt8,e=.returned (.slice p 4 k)∧w'.ownsRow w.heap.size 5 1 (.slice p 4 k) 4 (bv L)∧Below w.heap.size w w':=by
 refine Cg w OX D 19<|M ?_
 refine Af (GG (q:=256) D D)<|Af (Iv AF BV D)<|Jd D<|Af (Iy (q:=256) D D)<|Af (GG (q:=256) D D)<|Af (Iv AF BV D)<|Jd D<|Af (Iy (q:=65536) D D)<|Af (GG (q:=256) D D)<|Af (Iv AF BV D)<|Jd D<|Af (Iy (q:=16777216) D D)<|Af (GG (q:=256) D D)<|Af (Iv AF BV D)<|U<|RY 5 [(0,(Be .u8 ((UInt8.ofNat (v % 256)).toNat))),(1,(Be .u8 ((UInt8.ofNat ((v/256) % 256)).toNat))),(2,(Be .u8 ((UInt8.ofNat ((v/65536) % 256)).toNat))),(3,(Be .u8 ((UInt8.ofNat ((v/16777216) % 256)).toNat)))] (bv [UInt8.ofNat (v % 256),UInt8.ofNat ((v/256) % 256),UInt8.ofNat ((v/65536) % 256),UInt8.ofNat ((v/16777216) % 256)]) D fun b=>A7 ?_
 exact fun W a=>⟨_,_,_,D,a.DQ 0,a.A0⟩
theorem Ox(Bj:Nat)(g:Option Addr)(b h:Nat)(d:List UInt8)(q:Option Addr)(n c:Nat)(l:List UInt8)(w:World)(x:b+n≤1000000)(t:Bj≤w.heap.size)(own:w.ownsRow Bj 5 1 (.slice g b h) b (bv d))(V:Ls w (.slice g b h) q n c 1 (bv l))(hl:l.length=n):
 Calls Tryz.prog 107 #[I g b h,I q n c] w fun e w'=>∃p k,e=.returned (.slice p (b+n) k)∧w'.ownsRow Bj 5 1 (.slice p (b+n) k) (b+n) (bv (d++l))∧D0 w w' (.slice g b h) (.slice p (b+n) k):=by
 refine Cb (BE.one (A:=Ae 5 1 (I g b h) b (bv d)) (Ew own (Nat.zero_le _))) Nb D 20 fun F o=>M ?_
 refine Tf 0 (bv d) (bv (d++l.take 0)) (by simp)<|M ?_
 refine DL (fun u a W=>∃i r s,u=n - i∧AH 20 a (Jb (Jb (Jb (Jb Jk 1 (I q n c)) 4 (I none 0 0)) 5 (E i)) 0 (I r (b+i) s))∧Sat F w [Ae 5 1 (I r (b+i) s) (b+i) (bv (d++l.take i))] W∧i≤n) (fun a W j f=>⟨0,_,_,D,AY j,f.pick [0],by omega⟩) ?_
 rintro _ a W ⟨i,r,s,rfl,j,f,y⟩;revert a W
 refine M ?_
 refine Cr Co D<|Ej D D<|Jg<|Jf<|Cz D (fun v=>?_) fun v=>?_
 ·
  refine M ?_
  refine Af (Dj A3 i i (V.z o) D D)<|Af (Fj BV i (V.z o) D)<|U<|Ey A3 (bv [l.getD i 0]) D D D fun B=>U<|DI (m:=1) A3 1 (bv (d++l.take i++([l.getD i 0]))) D D D (BZ 0) (Eo _) (EL (l':=[l.getD i 0]) D) D fun C G=>Js D<|Jg<|Tf 1 (bv (d++l.take i++([l.getD i 0]))) (bv (d++l.take (i+1))) (by rw[List.append_assoc,dA l i (by omega)])<|M ?_
  refine B6 (q:=1) D D<|M ?_
  exact fun a W j f=>⟨_,by omega,i+1,_,_,D,AY j,f.pick [1],by omega⟩
 obtain rfl:n=i:=by omega
 refine A7 ?_
 intro W f
 rw[List.take_of_length_le (Nat.le_of_eq hl)]at f
 subst o
 exact⟨_,_,D,f.Xt own t 0,f.Xm 0⟩
theorem ec(x:Bf)(w:World)(CM:x.s.ok w)(Z:x.s.v.length≤128)(h1:x.l≤4611686018427387904)(aa:x.r≤4611686018427387904)(ab:x.lc≤4611686018427387904)(ad:x.rc≤4611686018427387904):
 Calls Tryz.prog 63 #[Value.agg (flat [[E x.kd],[E x.l],[E x.r],[E x.lc],[E x.rc],bv x.ls.l,bv x.rs.l,bv x.k.l,[I x.s.p x.s.v.length x.s.c]])] w fun e w'=>∃p k n,∃L:List UInt8,e=.returned (.slice p n k)∧n≤160∧w'.ownsRow w.heap.size 5 1 (.slice p n k) n (bv L)∧Below w.heap.size w w':=by
 have V:View w (.slice x.s.p x.s.v.length x.s.c) x.s.v.length 1 (bv x.s.v):=CM
 refine Cg w Ut D 68<|Je<|Jh<|U<|Cv D fun o=>M ?_
 refine Dr 5 1 (bv [])<|M ?_
 refine AG B7 0 D<|AZ AF 1 0 D D D<|E2 D D<|Jg<|Jf<|Cz D (fun y=>?_) fun y=>?_
 ·
  refine M ?_
  refine DL (fun t a W=>∃i f g h,t=32 - i∧AH 68 a (Jb (Jb (Jb (Jb Jk 1 (S o)) 2 (I none 0 0)) 4 (E i)) 3 (I f i g))∧Sat C1 w [Ae 5 1 (I f i g) i (bv h),O o [[E x.kd],[E x.l],[E x.r],[E x.lc],[E x.rc],bv x.ls.l,bv x.rs.l,bv x.k.l,[I x.s.p x.s.v.length x.s.c]] 99] W∧i≤32) (fun a W d b=>⟨0,_,_,_,D,AY d,b.pick [0,1],by omega⟩) ?_
  rintro _ a W ⟨i,f,g,h,rfl,d,b,u⟩;revert a W
  refine M ?_
  refine Ej D D<|Jg<|Jf<|Cz D (fun z=>?_) fun z=>?_
  ·
   refine M ?_
   refine AG B7 69 D<|Af (D9 Em 1 i (69+i) D D)<|Af (K3 BV 1 7 i D D D)<|U<|Ey A3 (bv [x.k.l.getD i 0]) D D D fun ae=>U<|DI (m:=1) A3 1 (bv (h++([x.k.l.getD i 0]))) D D D (BZ 0) (Eo _) (EL (l':=[x.k.l.getD i 0]) D) D fun af ag=>M ?_
   refine B6 (q:=1) D D<|M ?_
   exact fun a W d b=>⟨_,by omega,i+1,_,_,_,D,AY d,b.pick [1,2],by omega⟩
  obtain rfl:i=32:=by omega
  refine M ?_
  refine AG B7 101 D<|AZ Co 1 8 D D D<|U<|Ba Nb D (fun w b=>Ox _ _ _ _ _ _ _ _ _ _ (by omega) (Nat.zero_le _) (b.rw 0) (b.gQ 0 V) D) fun _ e W b q=>?_
  obtain⟨ah,ai,rfl,j,A⟩:=q;refine⟨_,_,D,b.IF 0 j A,?_⟩
  refine A7 ?_
  exact fun W b=>⟨_,_,_,_,D,by omega,b.DQ 0,b.A0⟩
 refine M ?_
 refine AG B7 1 D<|AZ AF 1 1 D D D<|U<|Ba OX D (fun w b=>Q' x.l _) fun _ e W b q=>?_
 obtain⟨aj,ak,al,rfl,B,C⟩:=q;refine⟨_,_,D,b.own B C,?_⟩
 refine U<|Ba Nb D (fun w b=>Ox _ _ _ _ _ _ _ _ _ _ (by omega) (Nat.zero_le _) (b.rw 1) (b.Q5 1 0) (De (b.rw 0))) fun _ e W b q=>?_
 obtain⟨an,ao,rfl,j,F⟩:=q;refine⟨_,_,D,b.IF 1 j F,?_⟩
 refine M ?_
 refine AG B7 2 D<|AZ AF 2 2 D D D<|U<|Ba OX D (fun w b=>Q' x.r _) fun _ e W b q=>?_
 obtain⟨aq,ar,au,rfl,G,H⟩:=q;refine⟨_,_,D,b.own G H,?_⟩
 refine U<|Ba Nb D (fun w b=>Ox _ _ _ _ _ _ _ _ _ _ (by omega) (Nat.zero_le _) (b.rw 2) (b.Q5 2 0) (De (b.rw 0))) fun _ e W b q=>?_
 obtain⟨av,aw,rfl,j,J⟩:=q;refine⟨_,_,D,b.IF 2 j J,?_⟩
 refine M ?_
 refine AG B7 3 D<|AZ AF 3 3 D D D<|U<|Ba OX D (fun w b=>Q' x.lc _) fun _ e W b q=>?_
 obtain⟨ax,ay,az,rfl,K,N⟩:=q;refine⟨_,_,D,b.own K N,?_⟩
 refine U<|Ba Nb D (fun w b=>Ox _ _ _ _ _ _ _ _ _ _ (by omega) (Nat.zero_le _) (b.rw 3) (b.Q5 3 0) (De (b.rw 0))) fun _ e W b q=>?_
 obtain⟨aA,aB,rfl,j,P⟩:=q;refine⟨_,_,D,b.IF 3 j P,?_⟩
 refine M ?_
 refine AG B7 4 D<|AZ AF 4 4 D D D<|U<|Ba OX D (fun w b=>Q' x.rc _) fun _ e W b q=>?_
 obtain⟨aC,aD,aE,rfl,Q,R⟩:=q;refine⟨_,_,D,b.own Q R,?_⟩
 refine U<|Ba Nb D (fun w b=>Ox _ _ _ _ _ _ _ _ _ _ (by omega) (Nat.zero_le _) (b.rw 4) (b.Q5 4 0) (De (b.rw 0))) fun _ e W b q=>?_
 obtain⟨aF,aG,rfl,j,T⟩:=q;refine⟨_,_,D,b.IF 4 j T,?_⟩
 refine M ?_
 refine DL (fun t a W=>∃i f g h,t=32 - i∧AH 68 a (Jb (Jb (Jb (Jb Jk 1 (S o)) 2 (I none 0 0)) 5 (E i)) 3 (I f (16+i) g))∧Sat C1 w [Ae 5 1 (I f (16+i) g) (16+i) (bv h),O o [[E x.kd],[E x.l],[E x.r],[E x.lc],[E x.rc],bv x.ls.l,bv x.rs.l,bv x.k.l,[I x.s.p x.s.v.length x.s.c]] 99] W∧i≤32) (fun a W d b=>⟨0,_,_,_,D,AY d,b.pick [4,5],by omega⟩) ?_
 rintro _ a W ⟨i,f,g,h,rfl,d,b,u⟩;revert a W
 refine M ?_
 refine Ej D D<|Jg<|Jf<|Cz D (fun X=>?_) fun X=>?_
 ·
  refine M ?_
  refine AG B7 5 D<|Af (D9 B5 1 i (5+i) D D)<|Af (K3 BV 1 5 i D D D)<|U<|Ey A3 (bv [x.ls.l.getD i 0]) D D D fun aH=>U<|DI (m:=1) A3 1 (bv (h++([x.ls.l.getD i 0]))) D D D (BZ 0) (Eo _) (EL (l':=[x.ls.l.getD i 0]) D) D fun aI aJ=>M ?_
  refine B6 (q:=1) D D<|M ?_
  exact fun a W d b=>⟨_,by omega,i+1,_,_,_,D,AY d,b.pick [1,2],by omega⟩
 obtain rfl:i=32:=by omega
 refine M ?_
 refine DL (fun t a W=>∃i f g h,t=32 - i∧AH 68 a (Jb (Jb (Jb (Jb Jk 1 (S o)) 2 (I none 0 0)) 6 (E i)) 3 (I f (48+i) g))∧Sat C1 w [Ae 5 1 (I f (48+i) g) (48+i) (bv h),O o [[E x.kd],[E x.l],[E x.r],[E x.lc],[E x.rc],bv x.ls.l,bv x.rs.l,bv x.k.l,[I x.s.p x.s.v.length x.s.c]] 99] W∧i≤32) (fun a W d b=>⟨0,_,_,_,D,AY d,b.pick [0,1],by omega⟩) ?_
 rintro _ a W ⟨i,f,g,h,rfl,d,b,u⟩;revert a W
 refine M ?_
 refine Ej D D<|Jg<|Jf<|Cz D (fun Y=>?_) fun Y=>?_
 ·
  refine M ?_
  refine AG B7 37 D<|Af (D9 B5 1 i (37+i) D D)<|Af (K3 BV 1 6 i D D D)<|U<|Ey A3 (bv [x.rs.l.getD i 0]) D D D fun aK=>U<|DI (m:=1) A3 1 (bv (h++([x.rs.l.getD i 0]))) D D D (BZ 0) (Eo _) (EL (l':=[x.rs.l.getD i 0]) D) D fun aL aM=>M ?_
  refine B6 (q:=1) D D<|M ?_
  exact fun a W d b=>⟨_,by omega,i+1,_,_,_,D,AY d,b.pick [1,2],by omega⟩
 obtain rfl:i=32:=by omega
 refine A7 ?_
 exact fun W b=>⟨_,_,_,_,D,by omega,b.DQ 0,b.A0⟩
end Go.Proofs.YtaapafoibofbjaaGreatDoor
