/- Laws and walks on the road to SalvageNever and SalvageHeals (part M09). No conditions beyond each law's own. -/
import Derived.Test.YtcdaflcjhimimaaGreatDoorM01
import Derived.Test.YtcdaflcjhimimaaGreatDoorM08
import Derived.Test.YtcdaflcjhimimaaGreatDoorM04
import Derived.Test.YtcdaflcjhimimaaGreatDoorM07
import Derived.Test.YtcdaflcjhimimaaGreatDoorM05
set_option linter.unusedVariables false
namespace Go.Proofs.YtcdaflcjhimimaaGreatDoor
open Go.RowKit
set_option maxHeartbeats 1000000
theorem Qg(f g:Nat)(q:Option Addr)(n c:Nat)(l:List UInt8)(w:World)(B:CT w)(T:g≤4611686018427387904)(hn:n≤100000)(C:View w (.slice q n c) n 1 (bv l))(t:l.length=n):
 Calls Tryz.prog 44 #[E f,E g,F q n c] w fun e w'=>∃p k,e=.returned (.slice p 256 k)∧w'.ownsRow w.heap.size 5 1 (.slice p 256 k) 256 (bv (Ref.Fe f g l))∧Below w.heap.size w w':=by
 have b:Below w.heap.size w w:=Bu _ _
 refine Bx MK D 24 ?_
 refine K<|N<|O D<|M<|G<|K<|N<|I D<|AT (fun _ h=>C3 h (p:=((f:Nat):Int)) (r:=(((UInt8.ofNat f).toNat:Nat):Int)) D AH BA (Fw f))<|I D<|BY Cr D<|AT (fun _ h=>C3 h (p:=((n:Nat):Int)) (r:=(((UInt8.ofNat n).toNat:Nat):Int)) D AH BA (Fw n))<|?_
 intro U H
 refine Bj D (fun Aa J=>Mb H D (e:=5) (Bf:=[(0,(Value.int .u8 ((((UInt8.ofNat f).toNat:Nat):Int):Int))),(1,(Value.int .u8 ((((UInt8.ofNat n).toNat:Nat):Int):Int)))]) D (cs:=#[Value.int .u8 ((((UInt8.ofNat f).toNat:Nat):Int):Int),Value.int .u8 ((((UInt8.ofNat n).toNat:Nat):Int):Int)]) D (by unfold maxLen;omega) (by kernel_rfl) ?_)
 intro a u h V v2 L
 have v2:View u (F (some ⟨w.heap.size,0,none⟩) 2 2) 2 1 (bv [UInt8.ofNat f,UInt8.ofNat n]):=v2
 have b:=Ah b L
 refine J _ _ ?_;revert a
 refine O D<|M<|G<|K<|N<|I D<|I D<|AS KA D (KH g 4 _) ?_
 rintro _ P ⟨W,X,rfl,i,v⟩
 refine⟨_,D,?_⟩
 have d:w.heap.size≤u.heap.size:=b.size
 have v2:=v2.below v
 have b:=Ah b v
 have i:=CB i d
 refine AS JI D (J6 _ _ _ _ _ _ _ _ _ (by omega) v2 (by rfl) (View.own i) (CS i)) ?_
 rintro _ Q ⟨Y,Z,rfl,j,x⟩
 refine⟨_,D,?_⟩
 have d:w.heap.size≤P.heap.size:=b.size
 have v2:=v2.below x
 have b:=Ah b x
 have j:=CB j d
 refine O D<|M<|G<|K<|N<|I D<|I D<|AS JI D (J6 _ _ _ _ _ _ _ _ _ (by omega) (View.own j) (CS j) (C.below b) t) ?_
 rintro _ R ⟨aa,ab,rfl,m,y⟩
 refine⟨_,D,?_⟩
 have d:w.heap.size≤Q.heap.size:=b.size
 have v2:=v2.below y
 have b:=Ah b y
 have m:=CB m d
 refine O D<|M<|G<|K<|N<|I D<|AS Lm D (LI _ _ _ 252 _ _ (by omega) (by omega) (View.own m) (CS m)) ?_
 rintro _ S ⟨ad,ae,rfl,o,z⟩
 refine⟨_,D,?_⟩
 have d:w.heap.size≤R.heap.size:=b.size
 have v2:=v2.below z
 have b:=Ah b z
 have o:=CB o d
 refine AS MD D (ON _ _ _ _ _ (B.below b (Be _)) (by omega) (View.own o) (CS o)) ?_
 rintro _ af ⟨ag,ah,rfl,s,A⟩
 refine⟨_,D,?_⟩
 have d:w.heap.size≤S.heap.size:=b.size
 have v2:=v2.below A
 have b:=Ah b A
 have s:=CB s d
 refine O D<|M<|G<|AA<|AZ D<|?_
 exact⟨_,_,D,by unfold Ref.Fe;rw[t];exact s,b⟩
theorem RF(s:Fr.Ch)(w:World)(Y:CT w)(ar:s.g≤4611686018427387904)(au:s.m≤4611686018427387904)(av:s.h≤4611686018427387904)(aw:s.p≤4611686018427387904):
 Calls Tryz.prog 26 #[Value.agg (flat [[E s.w],[E s.g],[E s.m],[E s.h],[E s.p]])] w fun e w'=>∃p k,e=.returned (.slice p 256 k)∧w'.ownsRow w.heap.size 5 1 (.slice p 256 k) 256 (bv (Ref.D0 s))∧Below w.heap.size w w':=by
 have b:Below w.heap.size w w:=Bu _ _
 refine Bx Oa D 32 ?_
 refine K<|N<|CW D ?_
 intro b2 Z aa ab f n
 have ax:=Bg b aa
 have b:=Ah b n
 refine O D<|M<|G<|K<|N<|Am Bw 0 D<|AK AH 0 f D D<|AT (fun _ R=>C3 R (p:=((s.w:Nat):Int)) (r:=(((UInt8.ofNat s.w).toNat:Nat):Int)) D AH BA (Fw s.w))<|?_
 intro ay ad
 refine Bj D (fun Aa ae=>Mb ad D (e:=5) (Bf:=[(0,(Value.int .u8 (((76:Nat):Int):Int))),(1,(Value.int .u8 (((68:Nat):Int):Int))),(2,(Value.int .u8 (((71:Nat):Int):Int))),(3,(Value.int .u8 (((49:Nat):Int):Int))),(4,(Value.int .u8 ((((UInt8.ofNat s.w).toNat:Nat):Int):Int))),(5,(Value.int .u8 (((0:Nat):Int):Int))),(6,(Value.int .u8 (((0:Nat):Int):Int))),(7,(Value.int .u8 (((0:Nat):Int):Int)))]) D (cs:=#[Value.int .u8 (((76:Nat):Int):Int),Value.int .u8 (((68:Nat):Int):Int),Value.int .u8 (((71:Nat):Int):Int),Value.int .u8 (((49:Nat):Int):Int),Value.int .u8 ((((UInt8.ofNat s.w).toNat:Nat):Int):Int),Value.int .u8 (((0:Nat):Int):Int),Value.int .u8 (((0:Nat):Int):Int),Value.int .u8 (((0:Nat):Int):Int)]) D (by unfold maxLen;omega) (by kernel_rfl) ?_)
 intro a S R ab c n
 have c:View S (F (some ⟨Z.heap.size,0,none⟩) 8 8) 8 1 (bv [76,68,71,49,UInt8.ofNat s.w,0,0,0]):=c
 have f:=Q f n
 have b:=Ah b n
 refine ae _ _ ?_;revert a
 refine O D<|M<|G<|K<|N<|I D<|Am Bw 1 D<|AK AH 1 f D D<|AS KA D (KH s.g 8 _) ?_
 rintro _ af ⟨az,aA,rfl,o,B⟩
 refine⟨_,D,?_⟩
 have d:w.heap.size≤S.heap.size:=b.size
 have f:=Q f B
 have c:=c.below B
 have b:=Ah b B
 have o:=CB o d
 refine AS JI D (J6 _ _ _ _ _ _ _ _ _ (by omega) c (by rfl) (View.own o) (CS o)) ?_
 rintro _ ag ⟨aB,aC,rfl,i,C⟩
 refine⟨_,D,?_⟩
 have d:w.heap.size≤af.heap.size:=b.size
 have f:=Q f C
 have c:=c.below C
 have b:=Ah b C
 have i:=CB i d
 refine O D<|M<|G<|K<|N<|I D<|Am Bw 2 D<|AK AH 2 f D D<|AS KA D (KH s.m 4 _) ?_
 rintro _ ah ⟨aD,aE,rfl,q,t⟩
 refine⟨_,D,?_⟩
 have d:w.heap.size≤ag.heap.size:=b.size
 have f:=Q f t
 have c:=c.below t
 have i:=V i t
 have b:=Ah b t
 have q:=CB q d
 refine AS JI D (J6 _ _ _ _ _ _ _ _ _ (by omega) (View.own i) (CS i) (View.own q) (CS q)) ?_
 rintro _ ai ⟨aF,aG,rfl,j,H⟩
 refine⟨_,D,?_⟩
 have d:w.heap.size≤ah.heap.size:=b.size
 have f:=Q f H
 have c:=c.below H
 have b:=Ah b H
 have j:=CB j d
 refine O D<|M<|G<|K<|N<|I D<|Am Bw 3 D<|AK AH 3 f D D<|AS KA D (KH s.h 4 _) ?_
 rintro _ aj ⟨aH,aI,rfl,u,v⟩
 refine⟨_,D,?_⟩
 have d:w.heap.size≤ai.heap.size:=b.size
 have f:=Q f v
 have c:=c.below v
 have j:=V j v
 have b:=Ah b v
 have u:=CB u d
 refine AS JI D (J6 _ _ _ _ _ _ _ _ _ (by omega) (View.own j) (CS j) (View.own u) (CS u)) ?_
 rintro _ ak ⟨aJ,aK,rfl,l,J⟩
 refine⟨_,D,?_⟩
 have d:w.heap.size≤aj.heap.size:=b.size
 have f:=Q f J
 have c:=c.below J
 have b:=Ah b J
 have l:=CB l d
 refine O D<|M<|G<|K<|N<|I D<|Am Bw 4 D<|AK AH 4 f D D<|AS KA D (KH s.p 4 _) ?_
 rintro _ al ⟨aL,aM,rfl,x,L⟩
 refine⟨_,D,?_⟩
 have d:w.heap.size≤ak.heap.size:=b.size
 have c:=c.below L
 have l:=V l L
 have b:=Ah b L
 have x:=CB x d
 refine AS JI D (J6 _ _ _ _ _ _ _ _ _ (by omega) (View.own l) (CS l) (View.own x) (CS x)) ?_
 rintro _ an ⟨aN,aO,rfl,y,T⟩
 refine⟨_,D,?_⟩
 have d:w.heap.size≤al.heap.size:=b.size
 have c:=c.below T
 have b:=Ah b T
 have y:=CB y d
 refine O D<|M<|G<|K<|N<|I D<|AS Lm D (LI _ _ _ 60 _ _ (by omega) (by omega) (View.own y) (CS y)) ?_
 rintro _ ao ⟨aP,aQ,rfl,z,U⟩
 refine⟨_,D,?_⟩
 have d:w.heap.size≤an.heap.size:=b.size
 have c:=c.below U
 have b:=Ah b U
 have z:=CB z d
 refine AS MD D (ON _ _ _ _ _ (Y.below b (Be _)) (by omega) (View.own z) (CS z)) ?_
 rintro _ aq ⟨aR,aS,rfl,A,W⟩
 refine⟨_,D,?_⟩
 have d:w.heap.size≤ao.heap.size:=b.size
 have c:=c.below W
 have b:=Ah b W
 have A:=CB A d
 refine AS Lm D (LI _ _ _ 256 _ _ (by omega) (by omega) (View.own A) (CS A)) ?_
 rintro _ aT ⟨aU,aV,rfl,P,X⟩
 refine⟨_,D,?_⟩
 have d:w.heap.size≤aq.heap.size:=b.size
 have c:=c.below X
 have b:=Ah b X
 have P:=CB P d
 refine O D<|M<|G<|AA<|AZ D<|?_
 exact⟨_,_,D,by unfold Ref.D0;exact P,b⟩
theorem N8(l:List UInt8)(n:Nat):Af.Cj l n=0↔∀i,i<4→l.getD (n+i) 0=UInt8.ofNat (Af.sum (l.take n)/2^(8*i)):=by
 rw[Af.OL,Af.Na]
 have g:=Af.GP (l.take n)
 generalize Af.sum (l.take n)=s at*
 have key:∀(b:UInt8) (x:Nat),b=UInt8.ofNat x↔b.toNat=x % 256:=by
  intro b x
  rw[←UInt8.toNat_inj]
  simp
 have j:=(l.getD n 0).toNat_lt
 have b1:=(l.getD (n+1) 0).toNat_lt
 have b2:=(l.getD (n+2) 0).toNat_lt
 have k:=(l.getD (n+3) 0).toNat_lt
 constructor
 ·intro h i e
  rw[key]
  match i,e with
  |0,_=>simp only[Nat.add_zero,Nat.mul_zero,Nat.pow_zero,Nat.div_one];omega
  |1,_=>show _=s/256 % 256;omega
  |2,_=>show _=s/65536 % 256;omega
  |3,_=>show _=s/16777216 % 256;omega
 ·intro h
  have f:=(key _ _).1 (h 0 (by decide))
  have a:=(key _ _).1 (h 1 (by decide))
  have c:=(key _ _).1 (h 2 (by decide))
  have d:=(key _ _).1 (h 3 (by decide))
  simp only[Nat.add_zero,Nat.mul_zero,Nat.pow_zero,Nat.div_one]at f
  have a:(l.getD (n+1) 0).toNat=s/256 % 256:=a
  have c:(l.getD (n+2) 0).toNat=s/65536 % 256:=c
  have d:(l.getD (n+3) 0).toNat=s/16777216 % 256:=d
  omega
theorem Tz(q:Option Addr)(m c n:Nat)(l:List UInt8)(w:World)(C:CT w)(V:m=n+4)(hn:n≤100000000)(h:View w (.slice q m c) m 1 (bv l))(H:l.length=m):
 Calls Tryz.prog 74 #[F q m c] w fun e w'=>e=.returned (.bool (decide (Af.Cj l n=0)))∧Below w.heap.size w w':=by
 have d:Below w.heap.size w w:=Bu _ _
 refine Bx Oi D 32 ?_
 refine K<|N<|O D<|M<|G<|K<|N<|I D<|BY Cr D<|AT (fun _ b=>Lg b (p:=m) (q:=4) (r:=n) D D (by omega) (by omega))<|O D<|M<|G<|K<|K<|N<|I D<|?_
 have J:¬(((n:Nat):Int)<((0:Nat):Int)):=by omega
 refine DO J D D<|M<|G<|BE D<|AE<|G<|K<|N<|I D<|I D<|?_
 have hcap:=h.cap
 have u:=Kl h n
 simp only[Nat.mul_one,Hf]at u
 have L:(l.take n).length=n:=by have:=H;simp only[List.length_take];omega
 refine AT (fun _ b=>IW b A0 D n (k:=.i64) D)<|AS M5 D (Sq _ _ _ _ _ C (by omega) u L) ?_
 rintro _ P ⟨rfl,Q⟩
 refine⟨_,D,?_⟩
 have d:=Ah d Q
 refine O D<|M<|G<|K<|K<|N<|O (v:=(E 0)) D<|M<|G<|A2<|?_
 intro a b
 refine Cb (fun R a W=>∃i,R=4 - i∧W=P∧Ao 32 a (Ja (Ja (Ja (Ja Je 0 (F q m c)) 3 (E n)) 4 (Value.int .u32 ((((Af.sum (l.take n)):Nat):Int):Int))) 5 (E i))∧i≤4∧Hid (∀j,j<i→l.getD (n+j) 0=UInt8.ofNat (Af.sum (l.take n)/2^(8*j)))) _ ⟨0,D,D,At b,Nat.zero_le _,Aw (fun j x=>by omega)⟩ ?_
 rintro _ a _ ⟨i,rfl,rfl,b,X,y⟩
 revert a
 refine K<|K<|N<|I D<|B5 (q:=(4:Nat)) D D<|M<|G<|Bl D (fun S=>?_) fun S=>?_
 ·
  have Y:i<4:=by omega
  refine AE<|G<|K<|A2<|K<|N<|I D<|I D<|I D<|A_ D D<|?_
  obtain⟨Z,z,rfl⟩:=Ca (h.below d)
  have T:=De (h.below d) (n+i) (o:=z+(n+i)*1)
  refine Cn A0 (n+i) (z+(n+i)*1) D D<|Cg BA T D<|I D<|I D<|FT (p:=8) D D<|AT (fun _ b=>C3 b (p:=((8*i:Nat):Int)) (r:=((8*i:Nat):Int)) D AH Iz (HY (8*i)))<|?_
  obtain⟨f,s⟩:∃g:Nat,g=(Af.sum (l.take n))/2^(8*i):=⟨_,D⟩
  have aa:f<4294967296:=by rw[s];exact Nat.lt_of_le_of_lt (Nat.div_le_self _ _) (Af.GP _)
  refine AT (fun _ b=>HQ b (k:=.u32) (p:=(Af.sum (l.take n))) (n:=8*i) (r:=f) D D (by simp only[IntKind.bits];omega) s.symm)<|AT (fun _ b=>C3 b (p:=(((f:Nat):Int):Int)) (r:=(((UInt8.ofNat f).toNat:Nat):Int)) D Tryz.underlying75 Tryz.underlying5 (Fw f))<|Fi D D<|M<|G<|E7 D (fun A=>?_) fun A=>?_
  ·
   have t:¬Af.Cj l n=0:=fun q=>by
    have B:=(N8 l n).1 q i (by omega)
    rw[←s]at B
    rw[B]at A
    omega
   refine K<|N<|O D<|M<|G<|AA<|C1<|AX<|AX<|C1<|AX<|AZ D<|?_
   exact⟨by rw[decide_eq_false t],d⟩
  ·
   have U:Hid (∀j,j<i+1→l.getD (n+j) 0=UInt8.ofNat (Af.sum (l.take n)/2^(8*j))):=Aw (fun j x=>by
    rcases Nat.lt_or_ge j i with q|q
    ·exact y.out j q
    ·obtain rfl:j=i:=by omega
     apply UInt8.toNat_inj.1
     rw[←s]
     omega)
   refine AE<|Bq<|G<|N<|I D<|A_ (q:=1) D D<|O D<|M<|G<|?_
   intro a b
   exact⟨_,by omega,i+1,D,D,At b,by omega,U⟩
 ·
  refine BO<|AW<|AW<|BN<|G<|K<|N<|O D<|M<|G<|AA<|AZ D<|?_
  have t:Af.Cj l n=0:=(N8 l n).2 (fun j x=>y.out j (by omega))
  exact⟨by rw[decide_eq_true t],d⟩
theorem QS(l:List UInt8)(k:Nat)(h:k<l.length):Fr.le (l.drop k)=(l.getD k 0).toNat+256*Fr.le (l.drop (k+1)):=by
 rw[List.drop_eq_getElem_cons h]
 have:l.getD k 0=l[k]:=by rw[List.getD_eq_getElem?_getD,List.getElem?_eq_getElem h];rfl
 rw[this]
 rfl
theorem TL(l:List UInt8)(k:Nat):Fr.le (l.drop (k+1))≤Fr.le (l.drop k):=by
 rcases Nat.lt_or_ge k l.length with h|h
 ·rw[QS l k h];omega
 ·rw[List.drop_of_length_le h,List.drop_of_length_le (by omega)];exact Be _
theorem V3(l:List UInt8)(i n k:Nat)(a:k<n):((l.drop i).take n).getD k 0=l.getD (i+k) 0:=by
 simp only[List.getD_eq_getElem?_getD,List.getElem?_take,if_pos a,List.getElem?_drop]
theorem GC(i n:Nat)(q:Option Addr)(m c:Nat)(l:List UInt8)(w:World)(H:1≤n)(J:i+n≤m)(hm:m≤1000)(h:Hid ((∀k,k<n→Fr.le (((l.drop i).take n).drop (n - k))≤35184372088832)∧Fr.le (((l.drop i).take n).drop 1)≤35184372088832))(f:View w (.slice q m c) m 1 (bv l))(L:l.length=m):
 Calls Tryz.prog 76 #[F q m c,E i,E n] w fun e w'=>e=.returned (.int .i64 ((Fr.le ((l.drop i).take n):Nat):Int))∧w=w':=by
 refine Bx Gt D 28 ?_
 refine K<|N<|O (v:=(E 0)) D<|M<|G<|K<|N<|O (v:=(E 0)) D<|M<|G<|K<|K<|N<|I D<|E' (q:=1) D D<|O D<|M<|G<|A2<|?_
 intro a b
 refine Cb (fun s a W=>∃k x j,s=n - k∧W=w∧Ao 28 a (Ja (Ja (Ja (Ja Je 0 (F q m c)) 1 (E i)) 7 (E x)) 8 (Value.int .i64 (j:Int)))∧k≤n∧j=(n:Int) - 1 - k∧Hid (x=Fr.le (((l.drop i).take n).drop (n - k)))∧x≤9007199254741248) _ ⟨0,0,_,D,D,At b,Nat.zero_le _,by omega,Aw (by rw[List.drop_of_length_le (by rw[List.length_take];omega)];rfl),by omega⟩ ?_
 rintro _ a _ ⟨k,x,j,rfl,rfl,b,P,Q,d,R⟩
 revert a
 refine K<|K<|N<|I D<|JT (q:=(0:Nat)) D D<|M<|G<|Bl D (fun t=>?_) fun t=>?_
 ·
  have S:x≤35184372088832:=by rw[d.out];exact h.out.1 k (by omega)
  refine AE<|G<|K<|A2<|K<|K<|N<|I D<|?_
  have u:¬(((35184372088832:Nat):Int)<((x:Nat):Int)):=by omega
  refine FV u D D<|M<|G<|BE D<|AE<|G<|N<|I D<|FT (q:=256) D D<|I D<|I D<|I D<|?_
  obtain⟨y,z⟩:∃y:Nat,y=i+(n - (k+1)):=⟨_,D⟩
  have A:IntKind.i64.wrap ((i:Int)+j)=(y:Int):=by rw[IntWalk.i64_in _ (by omega)];omega
  refine AT (fun _ b=>Gz b (k:=.i64) (p:=((i:Nat):Int)) (q:=j) D D A)<|?_
  obtain⟨T,g,rfl⟩:=Ca f
  have B:=De f y (o:=g+y*1)
  refine Cn A0 y (g+y*1) D D<|Cg BA B D<|AT (fun _ b=>C3 b (p:=((((l.getD y 0).toNat:Nat):Int):Int)) (r:=(((l.getD y 0).toNat:Nat):Int)) D BA AH (GR ((l.getD y 0).toNat) (Nat.lt_trans (UInt8.toNat_lt _) (by decide))))<|?_
  have U:=(l.getD y 0).toNat_lt
  refine A_ D D<|?_
  have C:Hid ((x*256)+((l.getD y 0).toNat)=Fr.le (((l.drop i).take n).drop (n - (k+1)))):=Aw (by rw[QS _ (n - (k+1)) (by simp;omega),show n - (k+1)+1=n - k by omega,←d.out,z,V3 l i n (n - (k+1)) (by omega)];omega)
  refine O D<|M<|Bq<|G<|N<|I D<|AT (fun _ b=>LY b (k:=.i64) (p:=(j:Int)) (q:=((1:Nat):Int)) D D D)<|O D<|M<|G<|?_
  intro a b
  exact⟨_,by omega,k+1,_,_,D,D,At b,by omega,by rw[IntWalk.i64_in _ (by omega)];omega,C,by omega⟩
 ·
  obtain rfl:n=k:=by omega
  refine BO<|AW<|AW<|BN<|G<|K<|N<|I D<|O D<|M<|G<|AA<|AZ D<|?_
  exact⟨by rw[d.out,Nat.sub_self,List.drop_zero],D⟩
theorem QV(q:Option Addr)(m c n:Nat)(l:List UInt8)(w:World)(a:CT w)(d:m=n+4)(hn:n≤100000000)(f:View w (.slice q m c) m 1 (bv l))(g:l.length=m):
 Calls Tryz.prog 74 #[.slice q m c] w fun e w'=>∃b,b=decide (Af.Cj l n=0)∧e=.returned (.bool b)∧Below w.heap.size w w':=(Tz q m c n l w a d hn f g).mono fun _ _ h=>⟨_,D,h.1,h.2⟩
theorem NN(i j:Nat)(q:Option Addr)(n c:Nat)(l:List UInt8)(w:World)(a:View w (.slice q n c) n 1 (bv l))(d:l.length=n)(f:i≤j:=by omega)(g:j≤n:=by omega)(hn:n≤1000000000:=by omega):
 Calls Tryz.prog 75 #[.slice q n c,.int .i64 i,.int .i64 j] w fun e w'=>∃b,b=Fr.Dq ((l.drop i).take (j - i))∧e=.returned (.bool b)∧w=w':=(Vd i j q n c l w a d f g hn).mono fun _ _ h=>⟨_,D,h.1,h.2⟩
theorem Hk(l:List UInt8)(i:Nat):Hid ((∀k,k<4→Fr.le (((l.drop i).take 4).drop (4 - k))≤35184372088832)∧Fr.le (((l.drop i).take 4).drop 1)≤35184372088832):=by
 have key:∀k,Fr.le (((l.drop i).take 4).drop k)≤35184372088832:=by
  intro k
  have b:=Fr.Jv (((l.drop i).take 4).drop k)
  have a:(((l.drop i).take 4).drop k).length≤4:=by simp;omega
  have c:256^(((l.drop i).take 4).drop k).length≤256^4:=Nat.pow_le_pow_right (by decide) a
  omega
 exact Aw ⟨fun k _=>key _,key _⟩
theorem Hs{P:Program}{w:World}{a:Act}{U:Nat}{f:Db}{fn:Func}{R:Ending→World→Prop}(b:Ao U a f){t u x:Nat}(j:fn.results=#[.tmp t,.tmp u,.tmp x]){v BL c:Value}(k:f t=some v)(hu:f u=some BL)(l:f x=some c)(h:R (.returned (.tuple #[v,BL,c])) w):bodyPost P fn R .ret a w:=by
 refine⟨b.d,.tuple #[v,BL,c],?_,h⟩
 have e:=b.h t v k
 have g:=b.h u BL hu
 have i:=b.h x c l
 simp only[Array.getD_eq_getD_getElem?]at e g i
 simp[results,j,e,g,i]
theorem QD(p:Nat)(l:List UInt8)(a:2≤p∧p<4096)(b:1≤(l.getD 0 0).toNat)(c:(l.getD 0 0).toNat≤3)(d:(l.getD 1 0).toNat≤246)(e:Fr.le ((l.drop 2).take 4)=p)(f:Af.Cj l 252=0)(g:Fr.Dq ((l.drop (6+(l.getD 1 0).toNat)).take (252 - (6+(l.getD 1 0).toNat)))=true):Fr.Di p l=true:=by
 unfold Fr.Di
 rw[g,decide_eq_true a.1,decide_eq_true a.2,decide_eq_true f,decide_eq_true b,decide_eq_true c,decide_eq_true d,decide_eq_true e]
 rfl
theorem TC(p:Nat)(l:List UInt8)(h:¬Af.Cj l 252=0):Fr.Di p l=false:=by unfold Fr.Di;rw[decide_eq_false h];simp
theorem OO(p:Nat)(l:List UInt8)(h:(l.getD 0 0).toNat<1∨3<(l.getD 0 0).toNat):Fr.Di p l=false:=by
 unfold Fr.Di
 rcases h with h|h
 ·rw[decide_eq_false (show¬1≤(l.getD 0 0).toNat by omega)];simp
 ·rw[decide_eq_false (show¬(l.getD 0 0).toNat≤3 by omega)];simp
theorem Zk(p:Nat)(l:List UInt8)(h:246<(l.getD 1 0).toNat):Fr.Di p l=false:=by unfold Fr.Di;rw[decide_eq_false (show¬(l.getD 1 0).toNat≤246 by omega)];simp
theorem MU(p:Nat)(l:List UInt8)(h:¬Fr.le ((l.drop 2).take 4)=p:=by omega):Fr.Di p l=false:=by unfold Fr.Di;rw[decide_eq_false h];simp
theorem OP(p:Nat)(l:List UInt8)(h:Fr.Dq ((l.drop (6+(l.getD 1 0).toNat)).take (252 - (6+(l.getD 1 0).toNat)))=false):Fr.Di p l=false:=by unfold Fr.Di;rw[h];simp
theorem Vb(l:List UInt8)(i n:Nat)(h:((l.drop i).take n).length=n):Ref.fill ((l.drop i).take n) n=(l.drop i).take n:=by
 unfold Ref.fill
 rw[h,Nat.sub_self,List.take_of_length_le (Nat.le_of_eq h)]
 simp
theorem Ro(p:Nat)(q:Option Addr)(c:Nat)(l:List UInt8)(w:World)(u:CT w)(y:2≤p∧p<4096)(f:View w (.slice q 256 c) 256 1 (bv l))(g:l.length=256):
 Calls Tryz.prog 40 #[E p,F q 256 c] w fun e w'=>(∃k,∃q:Option Addr,∃c x:Nat,e=.returned (.tuple #[.int .i64 ((k:Nat):Int),.slice q ((l.getD 1 0).toNat) c,.int .i64 ((x:Nat):Int)])∧k=(l.getD 0 0).toNat∧x=0∧Fr.Di p l=true∧w'.ownsRow w.heap.size 5 1 (.slice q ((l.getD 1 0).toNat) c) ((l.getD 1 0).toNat) (bv ((l.drop 6).take ((l.getD 1 0).toNat))))∧Below w.heap.size w w'∨(∃x:Nat,e=.returned (.tuple #[.int .i64 0,.slice none 0 0,.int .i64 ((x:Nat):Int)])∧x≠0∧Fr.Di p l=false)∧Below w.heap.size w w':=by
 have d:Below w.heap.size w w:=Bu _ _
 refine Bx MQ D 53 ?_
 refine K<|N<|O (v:=(E 0)) D<|O D<|O (v:=(E 0)) D<|M<|G<|K<|K<|N<|I D<|?_
 by_cases m:((p:Nat):Int)<((2:Nat):Int)
 ·
  refine D8 m D D<|I D<|Ae D D D D<|Ae D D D D<|Bn D D<|M<|G<|BS D<|K<|N<|O (v:=(E 0)) D<|O D<|O (v:=(E 54)) D<|M<|G<|AA<|AX<|?_
  intro a b
  refine Hs b D D D D ?_
  first
   |exact .inr ⟨⟨54,rfl,by decide,MU p l⟩,d⟩
   |(exfalso;omega)
 ·
  refine DO m D D<|I D<|Ad D D D<|I D<|?_
  by_cases n:((4096:Nat):Int)≤((p:Nat):Int)
  ·
   refine Ad D D D<|Gy n D D<|Ba D D<|M<|G<|BS D<|K<|N<|O (v:=(E 0)) D<|O D<|O (v:=(E 54)) D<|M<|G<|AA<|AX<|?_
   intro a b
   refine Hs b D D D D ?_
   first
    |exact .inr ⟨⟨54,rfl,by decide,MU p l⟩,d⟩
    |(exfalso;omega)
  ·
   refine Ad D D D<|GL n D D<|Ba D D<|M<|G<|BE D<|AE<|G<|K<|K<|N<|I D<|BY Cr D<|Fi (p:=(256:Nat)) (q:=(256:Nat)) D D<|M<|G<|E7 D (fun z=>?_) fun z=>?_
   ·
    refine K<|N<|O (v:=(E 0)) D<|O D<|O (v:=(E 53)) D<|M<|G<|AA<|AX<|?_
    intro a b
    refine Hs b D D D D ?_
    first
     |exact .inr ⟨⟨53,rfl,by decide,OP p l (Eq.symm (by assumption))⟩,d⟩
     |(exfalso;omega)
   ·
    refine AE<|G<|K<|K<|N<|I D<|AS Oi D (QV _ 256 _ 252 _ _ u (by omega) (by omega) f g) ?_
    rintro _ A ⟨B,V,rfl,C⟩
    refine⟨_,D,?_⟩
    have d:=Ah d C
    cases B with
    |true=>
     refine Dn D<|M<|G<|BE D<|AE<|G<|K<|N<|I D<|?_
     obtain⟨W,h,rfl⟩:=Ca (f.below d)
     have H:=De (f.below d) 0 (o:=h+0*1)
     refine Cn A0 0 (h+0*1) D D<|Cg BA H D<|AT (fun _ b=>C3 b (p:=((((l.getD 0 0).toNat:Nat):Int):Int)) (r:=(((l.getD 0 0).toNat:Nat):Int)) D BA AH (GR ((l.getD 0 0).toNat) (Nat.lt_trans (UInt8.toNat_lt _) (by decide))))<|O D<|M<|G<|K<|N<|I D<|?_
     have J:=De (f.below d) 1 (o:=h+1*1)
     refine Cn A0 1 (h+1*1) D D<|Cg BA J D<|AT (fun _ b=>C3 b (p:=((((l.getD 1 0).toNat:Nat):Int):Int)) (r:=(((l.getD 1 0).toNat:Nat):Int)) D BA AH (GR ((l.getD 1 0).toNat) (Nat.lt_trans (UInt8.toNat_lt _) (by decide))))<|O D<|M<|G<|K<|K<|N<|I D<|?_
     by_cases s:(((l.getD 0 0).toNat:Nat):Int)<((1:Nat):Int)
     ·
      refine D8 s D D<|I D<|Ae D D D D<|Ae D D D D<|Bn D D<|M<|G<|BS D<|K<|N<|O (v:=(E 0)) D<|O D<|O (v:=(E 50)) D<|M<|G<|AA<|AX<|?_
      intro a b
      refine Hs b D D D D ?_
      first
       |exact .inr ⟨⟨50,rfl,by decide,OO p l (by omega)⟩,d⟩
       |(exfalso;omega)
     ·
      refine DO s D D<|I D<|Ad D D D<|I D<|?_
      by_cases t:((3:Nat):Int)<(((l.getD 0 0).toNat:Nat):Int)
      ·
       refine Ad D D D<|Gp t D D<|Ba D D<|M<|G<|BS D<|K<|N<|O (v:=(E 0)) D<|O D<|O (v:=(E 50)) D<|M<|G<|AA<|AX<|?_
       intro a b
       refine Hs b D D D D ?_
       first
        |exact .inr ⟨⟨50,rfl,by decide,OO p l (by omega)⟩,d⟩
        |(exfalso;omega)
      ·
       refine Ad D D D<|FV t D D<|Ba D D<|M<|G<|BE D<|AE<|G<|K<|K<|N<|I D<|Ip (q:=(246:Nat)) D D<|M<|G<|Bl D (fun L=>?_) fun L=>?_
       ·
        refine K<|N<|O (v:=(E 0)) D<|O D<|O (v:=(E 51)) D<|M<|G<|AA<|AX<|?_
        intro a b
        refine Hs b D D D D ?_
        first
         |exact .inr ⟨⟨51,rfl,by decide,Zk p l (by omega)⟩,d⟩
         |(exfalso;omega)
       ·
        refine AE<|G<|K<|K<|N<|I D<|AS Gt D (GC 2 4 _ _ _ _ _ (by omega) (by omega) (by omega) (Hk l 2) (f.below d) g) ?_
        rintro _ _ ⟨rfl,rfl⟩
        refine⟨_,D,?_⟩
        refine I D<|Fi D D<|M<|G<|E7 D (fun P=>?_) fun P=>?_
        ·
         refine K<|N<|O (v:=(E 0)) D<|O D<|O (v:=(E 54)) D<|M<|G<|AA<|AX<|?_
         intro a b
         refine Hs b D D D D ?_
         first
          |exact .inr ⟨⟨54,rfl,by decide,MU p l⟩,d⟩
          |(exfalso;omega)
        ·
         refine AE<|G<|K<|K<|N<|I D<|I D<|A_ (p:=6) D D<|AS LM D (NN (6+((l.getD 1 0).toNat)) 252 _ _ _ _ _ (f.below d) g) ?_
         rintro _ _ ⟨Q,X,rfl,rfl⟩
         refine⟨_,D,?_⟩
         cases Q with
         |true=>
          refine Dn D<|M<|G<|BE D<|AE<|G<|K<|N<|I D<|I D<|I D<|A_ (p:=6) D D<|?_
          obtain⟨Y,R,i,Z⟩:=Li A0 f 6 (6+((l.getD 1 0).toNat))
          have i:=i _ f
          simp only[Nat.mul_one,Ge,Hf]at i
          have S:((l.drop 6).take ((6+((l.getD 1 0).toNat)) - 6)).length=(6+((l.getD 1 0).toNat)) - 6:=by have:=g;simp only[List.length_take,List.length_drop];omega
          refine AT (fun _ b=>Ke b D 6 (6+((l.getD 1 0).toNat)) (k:=.i64) (k':=.i64) D D R)<|I D<|AS Lm D (LI _ _ _ ((l.getD 1 0).toNat) _ _ (by omega) (by omega) (i.below d) S) ?_
          rintro _ aa ⟨ab,ad,rfl,j,T⟩
          refine⟨_,D,?_⟩
          have U:w.heap.size≤A.heap.size:=d.size
          have d:=Ah d T
          have j:=CB j U
          refine O D<|O D<|O (v:=(E 0)) D<|M<|G<|AA<|?_
          intro a b
          refine Hs b D D D D ?_
          refine .inl ⟨⟨_,_,_,_,D,D,D,?_,?_⟩,d⟩
          ·exact QD p l y (by omega) (by omega) (by omega) (by omega) (of_decide_eq_true (Eq.symm (by assumption))) (Eq.symm (by assumption))
          ·have q:=j
           rw[show 6+(l.getD 1 0).toNat - 6=(l.getD 1 0).toNat by omega,Vb _ _ _ (by rw[List.length_take,List.length_drop];omega)]at q
           exact q
         |false=>
          refine Dn D<|M<|G<|BS D<|K<|N<|O (v:=(E 0)) D<|O D<|O (v:=(E 53)) D<|M<|G<|AA<|AX<|?_
          intro a b
          refine Hs b D D D D ?_
          first
           |exact .inr ⟨⟨53,rfl,by decide,OP p l (Eq.symm (by assumption))⟩,d⟩
           |(exfalso;omega)
    |false=>
     refine Dn D<|M<|G<|BS D<|K<|N<|O (v:=(E 0)) D<|O D<|O (v:=(E 52)) D<|M<|G<|AA<|AX<|?_
     intro a b
     refine Hs b D D D D ?_
     first
      |exact .inr ⟨⟨52,rfl,by decide,TC p l (of_decide_eq_false (Eq.symm (by assumption)))⟩,d⟩
      |(exfalso;omega)
theorem TD(x y:Fr.Ch)(w:World)(B:x.g % 2=0)(C:y.g % 2=1)(F:x.w=y.w)(H:x.p=y.p)(J:x.g=y.g+1)(L:y.m≤x.m)(P:x.g≤4611686018427387904)(R:y.g≤4611686018427387904):
 Calls Tryz.prog 86 #[Value.agg (flat [[E x.w],[E x.g],[E x.m],[E x.h],[E x.p]]),Value.agg (flat [[E y.w],[E y.g],[E y.m],[E y.h],[E y.p]])] w fun e w'=>e=.returned (.tuple #[Value.agg (flat [[E x.w],[E x.g],[E x.m],[E x.h],[E x.p]]),.int .i64 0])∧Below w.heap.size w w':=by
 have b:Below w.heap.size w w:=Bu _ _
 refine Bx MC D 60 ?_
 refine K<|N<|CW D ?_
 intro b2 S d j c f
 have T:=Bg b d
 have b:=Ah b f
 refine CW D ?_
 intro U V d j i f
 have W:=Bg b d
 have X:=AP c d
 have c:=Q c f
 have b:=Ah b f
 refine BQ [[E 0],[E 0],[E 0],[E 0],[E 0]] ?_
 intro Y Z d j k f
 have aa:=Bg b d
 have ab:=AP c d
 have ad:=AP i d
 have c:=Q c f
 have i:=Q i f
 have b:=Ah b f
 refine O (v:=(E 0)) D<|M<|G<|K<|K<|N<|Am Bw 1 D<|AK AH 1 c D D<|EM (q:=2) D D<|?_
 have l:(((x.g % 2:Nat):Int)=((0:Nat):Int)):=by omega
 refine Dr l D D<|I D<|Ad D D D<|Am Bw 1 D<|Ad D D D<|AK AH 1 i D D<|Ad D D D<|EM (q:=2) D D<|?_
 have n:(((y.g % 2:Nat):Int)=((1:Nat):Int)):=by omega
 refine Ad D D D<|Dr n D D<|Ba D D<|I D<|Ad D D D<|Am Bw 0 D<|Ad D D D<|AK AH 0 c D D<|Ad D D D<|Am Bw 0 D<|Ad D D D<|AK AH 0 i D D<|?_
 have o:(((x.w:Nat):Int)=((y.w:Nat):Int)):=by omega
 refine Ad D D D<|Dr o D D<|Ba D D<|I D<|Ad D D D<|Am Bw 4 D<|Ad D D D<|AK AH 4 c D D<|Ad D D D<|Am Bw 4 D<|Ad D D D<|AK AH 4 i D D<|?_
 have r:(((x.p:Nat):Int)=((y.p:Nat):Int)):=by omega
 refine Ad D D D<|Dr r D D<|Ba D D<|M<|G<|BE D<|AE<|G<|K<|K<|N<|Am Bw 1 D<|AK AH 1 c D D<|Am Bw 1 D<|AK AH 1 i D D<|A_ (q:=1) D D<|?_
 have s:(((x.g:Nat):Int)=((y.g+1:Nat):Int)):=by omega
 refine D5 s D D<|I D<|Ad D D D<|Am Bw 2 D<|Ad D D D<|AK AH 2 c D D<|Ad D D D<|Am Bw 2 D<|Ad D D D<|AK AH 2 i D D<|?_
 have t:(((y.m:Nat):Int)≤((x.m:Nat):Int)):=by omega
 refine Ad D D D<|Gy t D D<|Bn D D<|M<|G<|BS D<|K<|N<|BP Bw c D<|Bi 0 5 k D D ?_
 intro ae j u z
 have b:=A1 b z
 refine O (v:=(E 0)) D<|M<|G<|AA<|AX<|?_
 intro a A
 refine DG A D D D u Bw D (by kernel_rfl) ?_
 exact⟨D,b⟩
theorem S6(x y:Fr.Ch)(w:World)(C:x.g % 2=0)(F:y.g % 2=1)(H:x.w=y.w)(J:x.p=y.p)(L:y.g=x.g+1)(P:x.m≤y.m)(R:x.g≤4611686018427387904)(S:y.g≤4611686018427387904):
 Calls Tryz.prog 86 #[Value.agg (flat [[E x.w],[E x.g],[E x.m],[E x.h],[E x.p]]),Value.agg (flat [[E y.w],[E y.g],[E y.m],[E y.h],[E y.p]])] w fun e w'=>e=.returned (.tuple #[Value.agg (flat [[E y.w],[E y.g],[E y.m],[E y.h],[E y.p]]),.int .i64 0])∧Below w.heap.size w w':=by
 have b:Below w.heap.size w w:=Bu _ _
 refine Bx MC D 60 ?_
 refine K<|N<|CW D ?_
 intro b2 T f j c i
 have U:=Bg b f
 have b:=Ah b i
 refine CW D ?_
 intro V W f j d i
 have X:=Bg b f
 have Y:=AP c f
 have c:=Q c i
 have b:=Ah b i
 refine BQ [[E 0],[E 0],[E 0],[E 0],[E 0]] ?_
 intro Z aa f j k i
 have ab:=Bg b f
 have ad:=AP c f
 have ae:=AP d f
 have c:=Q c i
 have d:=Q d i
 have b:=Ah b i
 refine O (v:=(E 0)) D<|M<|G<|K<|K<|N<|Am Bw 1 D<|AK AH 1 c D D<|EM (q:=2) D D<|?_
 have l:(((x.g % 2:Nat):Int)=((0:Nat):Int)):=by omega
 refine Dr l D D<|I D<|Ad D D D<|Am Bw 1 D<|Ad D D D<|AK AH 1 d D D<|Ad D D D<|EM (q:=2) D D<|?_
 have n:(((y.g % 2:Nat):Int)=((1:Nat):Int)):=by omega
 refine Ad D D D<|Dr n D D<|Ba D D<|I D<|Ad D D D<|Am Bw 0 D<|Ad D D D<|AK AH 0 c D D<|Ad D D D<|Am Bw 0 D<|Ad D D D<|AK AH 0 d D D<|?_
 have o:(((x.w:Nat):Int)=((y.w:Nat):Int)):=by omega
 refine Ad D D D<|Dr o D D<|Ba D D<|I D<|Ad D D D<|Am Bw 4 D<|Ad D D D<|AK AH 4 c D D<|Ad D D D<|Am Bw 4 D<|Ad D D D<|AK AH 4 d D D<|?_
 have r:(((x.p:Nat):Int)=((y.p:Nat):Int)):=by omega
 refine Ad D D D<|Dr r D D<|Ba D D<|M<|G<|BE D<|AE<|G<|K<|K<|N<|Am Bw 1 D<|AK AH 1 c D D<|Am Bw 1 D<|AK AH 1 d D D<|A_ (q:=1) D D<|?_
 have s:¬(((x.g:Nat):Int)=((y.g+1:Nat):Int)):=by omega
 refine E0 s D D<|I D<|Ae D D D D<|Ae D D D D<|Ae D D D D<|Ae D D D D<|Ae D D D D<|Ba D D<|M<|G<|BE D<|AE<|G<|K<|K<|N<|Am Bw 1 D<|AK AH 1 d D D<|Am Bw 1 D<|AK AH 1 c D D<|A_ (q:=1) D D<|?_
 have t:(((y.g:Nat):Int)=((x.g+1:Nat):Int)):=by omega
 refine D5 t D D<|I D<|Ad D D D<|Am Bw 2 D<|Ad D D D<|AK AH 2 d D D<|Ad D D D<|Am Bw 2 D<|Ad D D D<|AK AH 2 c D D<|?_
 have u:(((x.m:Nat):Int)≤((y.m:Nat):Int)):=by omega
 refine Ad D D D<|Gy u D D<|Bn D D<|M<|G<|BS D<|K<|N<|BP Bw d D<|Bi 0 5 k D D ?_
 intro af j z A
 have b:=A1 b A
 refine O (v:=(E 0)) D<|M<|G<|AA<|AX<|?_
 intro a B
 refine DG B D D D z Bw D (by kernel_rfl) ?_
 exact⟨D,b⟩
theorem Xm(a a1 a2 b c:Nat)(w:World)(h:Fr.Ei ⟨a,a1,a2,b,c⟩=true)(d:a1≤9223372036854775807):
 Calls Tryz.prog 77 #[Value.agg (flat [[E a],[E a1],[E a2],[E b],[E c]])] w fun e w'=>e=.returned (.bool true)∧Below w.heap.size w w':=by
 have:=W2 ⟨a,a1,a2,b,c⟩ w d
 rw[h]at this
 exact this
theorem Ve(q:Option Addr)(c:Nat)(l:List UInt8)(w:World)(Z:CT w)(aa:Af.Cj (l.take 64) 60=0)(aN:(l.getD 0 0).toNat=76)(aO:(l.getD 1 0).toNat=68)(aP:(l.getD 2 0).toNat=71)(aQ:(l.getD 3 0).toNat=49)(ab:Fr.Dq ((l.drop 5).take (8 - 5))=true)(ad:Fr.Dq ((l.drop 28).take (60 - 28))=true)(hvalid:Fr.Ei ⟨(l.getD 4 0).toNat,Fr.le ((l.drop 8).take 8),Fr.le ((l.drop 16).take 4),Fr.le ((l.drop 20).take 4),Fr.le ((l.drop 24).take 4)⟩=true)(H:Hid ((∀k,k<8→Fr.le (((l.drop 8).take 8).drop (8 - k))≤35184372088832)∧Fr.le (((l.drop 8).take 8).drop 1)≤35184372088832))(aR:Fr.le ((l.drop 8).take 8)≤9223372036854775807)(i:View w (.slice q 256 c) 256 1 (bv l))(s:l.length=256):
 Calls Tryz.prog 39 #[F q 256 c] w fun e w'=>e=.returned (.tuple #[Value.agg (flat [[E ((l.getD 4 0).toNat)],[E (Fr.le ((l.drop 8).take 8))],[E (Fr.le ((l.drop 16).take 4))],[E (Fr.le ((l.drop 20).take 4))],[E (Fr.le ((l.drop 24).take 4))]]),.int .i64 0])∧Below w.heap.size w w':=by
 have b:Below w.heap.size w w:=Bu _ _
 refine Bx KO D 65 ?_
 refine K<|N<|BQ [[E 0],[E 0],[E 0],[E 0],[E 0]] ?_
 intro b2 aS t y d m
 have aT:=Bg b t
 have b:=Ah b m
 refine O (v:=(E 0)) D<|M<|?_
 have d:=d;clear d
 refine G<|K<|K<|N<|I D<|BY Cr D<|?_
 have ae:(((256:Nat):Int)=((256:Nat):Int)):=by omega
 refine Dr ae D D<|M<|G<|BE D<|AE<|G<|K<|K<|N<|I D<|?_
 have hcap:=(i.below b).cap
 have J:=Kl i 64
 simp only[Nat.mul_one,Hf]at J
 have af:(l.take 64).length=64:=by have:=s;simp only[List.length_take];omega
 refine AT (fun _ f=>IW f A0 D 64 (k:=.i64) D)<|AS Oi D (QV _ 64 _ 60 _ _ (Z.below b (Be _)) (by omega) (by omega) (J.below b) af) ?_
 rintro _ aU ⟨ag,L,rfl,P⟩
 refine⟨_,D,?_⟩
 have d:=Q d P
 have b:=Ah b P
 cases ag with
 |true=>
  refine Dn D<|M<|G<|BE D<|AE<|G<|K<|K<|N<|I D<|?_
  obtain⟨u,j,rfl⟩:=Ca (i.below b)
  have ah:=De (i.below b) 0 (o:=j+0*1)
  refine Cn A0 0 (j+0*1) D D<|Cg BA ah D<|?_
  have ai:(((((l.getD 0 0).toNat:Nat):Int):Int)=(((76:Nat):Int):Int)):=by omega
  refine Dr ai D D<|I D<|Ad D D D<|I D<|?_
  have aj:=De (i.below b) 1 (o:=j+1*1)
  refine Ad D D D<|Cn A0 1 (j+1*1) D D<|Ad D D D<|Cg BA aj D<|?_
  have ak:(((((l.getD 1 0).toNat:Nat):Int):Int)=(((68:Nat):Int):Int)):=by omega
  refine Ad D D D<|Dr ak D D<|Ba D D<|I D<|Ad D D D<|I D<|?_
  have al:=De (i.below b) 2 (o:=j+2*1)
  refine Ad D D D<|Cn A0 2 (j+2*1) D D<|Ad D D D<|Cg BA al D<|?_
  have an:(((((l.getD 2 0).toNat:Nat):Int):Int)=(((71:Nat):Int):Int)):=by omega
  refine Ad D D D<|Dr an D D<|Ba D D<|I D<|Ad D D D<|I D<|?_
  have ao:=De (i.below b) 3 (o:=j+3*1)
  refine Ad D D D<|Cn A0 3 (j+3*1) D D<|Ad D D D<|Cg BA ao D<|?_
  have aq:(((((l.getD 3 0).toNat:Nat):Int):Int)=(((49:Nat):Int):Int)):=by omega
  refine Ad D D D<|Dr aq D D<|Ba D D<|I D<|Ad D D D<|I D<|Ad D D D<|AS LM D (NN 5 8 _ _ _ _ _ (i.below b) s) ?_
  rintro _ _ ⟨ar,R,rfl,rfl⟩
  refine⟨_,D,?_⟩
  cases ar with
  |true=>
   refine Ad D D D<|Dn D<|Ba D D<|I D<|Ad D D D<|I D<|Ad D D D<|AS LM D (NN 28 60 _ _ _ _ _ (i.below b) s) ?_
   rintro _ _ ⟨au,S,rfl,rfl⟩
   refine⟨_,D,?_⟩
   cases au with
   |true=>
    refine Ad D D D<|Dn D<|Ba D D<|M<|G<|BE D<|AE<|G<|?_
    intro a f
    refine ES (fun a W=>∃A,Ao 65 a (Ja (Ja Je 2 (AB b2)) 4 (AB A))∧Below w.heap.size w W∧Ai W b2 [[E 0],[E 0],[E 0],[E 0],[E 0]] 59∧Ai W A [[E ((l.getD 4 0).toNat)],[E (Fr.le ((l.drop 8).take 8))],[E (Fr.le ((l.drop 16).take 4))],[E (Fr.le ((l.drop 20).take 4))],[E (Fr.le ((l.drop 24).take 4))]] 59∧(b2<A∨A<b2)∧w.heap.size≤b2∧w.heap.size≤A) ?_ ?_
    ·
     refine C7 (fun W=>Below w.heap.size w W∧Ai W b2 [[E 0],[E 0],[E 0],[E 0],[E 0]] 59) ?_
     intro aV y m
     have d:=Q d m
     have b:=Ah b m
     revert a
     refine Bk 0 D D ⟨b,d⟩<|GY 1 D A0 4 (j+4*1) D D ⟨b,d⟩<|A5 2 D (fun W x a f=>by obtain⟨b,d⟩:=x;have av:=De (i.below b) 4 (o:=j+4*1);exact D1 f D BA D av) ⟨b,d⟩<|A5 3 D (fun W x a f=>by obtain⟨b,d⟩:=x;exact C3 f (p:=((((l.getD 4 0).toNat:Nat):Int):Int)) (r:=(((l.getD 4 0).toNat:Nat):Int)) D BA AH (GR ((l.getD 4 0).toNat) (Nat.lt_trans (UInt8.toNat_lt _) (by decide)))) ⟨b,d⟩<|Bk 4 D D ⟨b,d⟩<|Bk 6 D D ⟨b,d⟩<|Bk 8 D D ⟨b,d⟩<|Bk 10 D D ⟨b,d⟩<|?_
     intro n h
     refine EW 5 13 6 D D D D ?_ ?_
     ·
      intro Aa g
      refine B0 h #[F (some ⟨u,j,none⟩) 256 c,E 8,E 8] Gt (GC 8 8 _ _ _ _ _ (by omega) (by omega) (by omega) H (i.below b) s) ?_
      rintro _ _ ⟨rfl,rfl⟩
      refine⟨_,D,?_⟩
      intro a f
      refine g _ _ ⟨b,d⟩ ?_;revert a
      intro n h
      refine EW 7 13 5 D D D D ?_ ?_
      ·
       intro Aa g
       refine B0 h #[F (some ⟨u,j,none⟩) 256 c,E 16,E 4] Gt (GC 16 4 _ _ _ _ _ (by omega) (by omega) (by omega) (Hk l 16) (i.below b) s) ?_
       rintro _ _ ⟨rfl,rfl⟩
       refine⟨_,D,?_⟩
       intro a f
       refine g _ _ ⟨b,d⟩ ?_;revert a
       intro n h
       refine EW 9 13 4 D D D D ?_ ?_
       ·
        intro Aa g
        refine B0 h #[F (some ⟨u,j,none⟩) 256 c,E 20,E 4] Gt (GC 20 4 _ _ _ _ _ (by omega) (by omega) (by omega) (Hk l 20) (i.below b) s) ?_
        rintro _ _ ⟨rfl,rfl⟩
        refine⟨_,D,?_⟩
        intro a f
        refine g _ _ ⟨b,d⟩ ?_;revert a
        intro n h
        refine EW 11 13 3 D D D D ?_ ?_
        ·
         intro Aa g
         refine B0 h #[F (some ⟨u,j,none⟩) 256 c,E 24,E 4] Gt (GC 24 4 _ _ _ _ _ (by omega) (by omega) (by omega) (Hk l 24) (i.below b) s) ?_
         rintro _ _ ⟨rfl,rfl⟩
         refine⟨_,D,?_⟩
         intro a f
         refine g _ _ ⟨b,d⟩ ?_;revert a
         refine A5 12 D (fun W x a f=>by obtain⟨b,d⟩:=x;exact CE f (Bf:=[(0,(E ((l.getD 4 0).toNat))),(1,(E (Fr.le ((l.drop 8).take 8)))),(2,(E (Fr.le ((l.drop 16).take 4)))),(3,(E (Fr.le ((l.drop 20).take 4)))),(4,(E (Fr.le ((l.drop 24).take 4))))]) D (v:=Value.agg (flat [[E ((l.getD 4 0).toNat)],[E (Fr.le ((l.drop 8).take 8))],[E (Fr.le ((l.drop 16).take 4))],[E (Fr.le ((l.drop 20).take 4))],[E (Fr.le ((l.drop 24).take 4))]])) (run_build _ _ _ _ (by kernel_rfl))) ⟨b,d⟩<|?_
         intro n h
         refine A8 13 1 D D ?_
         intro Aa g
         refine Fq h D (z:=(Value.agg (flat [[E 0],[E 0],[E 0],[E 0],[E 0]]))) (by kernel_rfl) (ss:=[[E 0],[E 0],[E 0],[E 0],[E 0]]) D ?_
         intro a aw aW t f y ax m
         have aX:=Bg b t
         have aY:=AP d t
         have d:=Q d m
         have b:=Ah b m
         refine g _ _ ⟨b,d⟩ ?_;revert a
         intro n h
         refine A8 14 0 D D ?_
         intro Aa g
         refine Iu h 0 5 ax D D ?_
         intro a aZ f y ay T
         have d:=Ag T d (by omega)
         have b:=A1 b T
         refine g _ _ ⟨b,d⟩ ?_;revert a
         refine B_<|G<|?_
         intro a f
         exact⟨aw,At f,b,d,ay,by omega,by omega,by omega⟩
        ·
         intro Aa g
         refine Fq h D (z:=(Value.agg (flat [[E 0],[E 0],[E 0],[E 0],[E 0]]))) (by kernel_rfl) (ss:=[[E 0],[E 0],[E 0],[E 0],[E 0]]) D ?_
         intro a az a0 t f y aA m
         have a1:=Bg b t
         have a2:=AP d t
         have d:=Q d m
         have b:=Ah b m
         refine g _ _ ⟨b,d⟩ ?_;revert a
         intro n h
         refine A8 11 2 D D ?_
         intro Aa g
         refine B0 h #[F (some ⟨u,j,none⟩) 256 c,E 24,E 4] Gt (GC 24 4 _ _ _ _ _ (by omega) (by omega) (by omega) (Hk l 24) (i.below b) s) ?_
         rintro _ _ ⟨rfl,rfl⟩
         refine⟨_,D,?_⟩
         intro a f
         refine g _ _ ⟨b,d⟩ ?_;revert a
         refine A5 12 D (fun W x a f=>by obtain⟨b,d⟩:=x;exact CE f (Bf:=[(0,(E ((l.getD 4 0).toNat))),(1,(E (Fr.le ((l.drop 8).take 8)))),(2,(E (Fr.le ((l.drop 16).take 4)))),(3,(E (Fr.le ((l.drop 20).take 4)))),(4,(E (Fr.le ((l.drop 24).take 4))))]) D (v:=Value.agg (flat [[E ((l.getD 4 0).toNat)],[E (Fr.le ((l.drop 8).take 8))],[E (Fr.le ((l.drop 16).take 4))],[E (Fr.le ((l.drop 20).take 4))],[E (Fr.le ((l.drop 24).take 4))]])) (run_build _ _ _ _ (by kernel_rfl))) ⟨b,d⟩<|?_
         intro n h
         refine A8 14 0 D D ?_
         intro Aa g
         refine Iu h 0 5 aA D D ?_
         intro a a3 f y aB U
         have d:=Ag U d (by omega)
         have b:=A1 b U
         refine g _ _ ⟨b,d⟩ ?_;revert a
         refine B_<|G<|?_
         intro a f
         exact⟨az,At f,b,d,aB,by omega,by omega,by omega⟩
       ·
        intro Aa g
        refine Fq h D (z:=(Value.agg (flat [[E 0],[E 0],[E 0],[E 0],[E 0]]))) (by kernel_rfl) (ss:=[[E 0],[E 0],[E 0],[E 0],[E 0]]) D ?_
        intro a aC a4 t f y aD m
        have a5:=Bg b t
        have a6:=AP d t
        have d:=Q d m
        have b:=Ah b m
        refine g _ _ ⟨b,d⟩ ?_;revert a
        intro n h
        refine A8 9 3 D D ?_
        intro Aa g
        refine B0 h #[F (some ⟨u,j,none⟩) 256 c,E 20,E 4] Gt (GC 20 4 _ _ _ _ _ (by omega) (by omega) (by omega) (Hk l 20) (i.below b) s) ?_
        rintro _ _ ⟨rfl,rfl⟩
        refine⟨_,D,?_⟩
        intro a f
        refine g _ _ ⟨b,d⟩ ?_;revert a
        intro n h
        refine A8 11 2 D D ?_
        intro Aa g
        refine B0 h #[F (some ⟨u,j,none⟩) 256 c,E 24,E 4] Gt (GC 24 4 _ _ _ _ _ (by omega) (by omega) (by omega) (Hk l 24) (i.below b) s) ?_
        rintro _ _ ⟨rfl,rfl⟩
        refine⟨_,D,?_⟩
        intro a f
        refine g _ _ ⟨b,d⟩ ?_;revert a
        refine A5 12 D (fun W x a f=>by obtain⟨b,d⟩:=x;exact CE f (Bf:=[(0,(E ((l.getD 4 0).toNat))),(1,(E (Fr.le ((l.drop 8).take 8)))),(2,(E (Fr.le ((l.drop 16).take 4)))),(3,(E (Fr.le ((l.drop 20).take 4)))),(4,(E (Fr.le ((l.drop 24).take 4))))]) D (v:=Value.agg (flat [[E ((l.getD 4 0).toNat)],[E (Fr.le ((l.drop 8).take 8))],[E (Fr.le ((l.drop 16).take 4))],[E (Fr.le ((l.drop 20).take 4))],[E (Fr.le ((l.drop 24).take 4))]])) (run_build _ _ _ _ (by kernel_rfl))) ⟨b,d⟩<|?_
        intro n h
        refine A8 14 0 D D ?_
        intro Aa g
        refine Iu h 0 5 aD D D ?_
        intro a a7 f y aE V
        have d:=Ag V d (by omega)
        have b:=A1 b V
        refine g _ _ ⟨b,d⟩ ?_;revert a
        refine B_<|G<|?_
        intro a f
        exact⟨aC,At f,b,d,aE,by omega,by omega,by omega⟩
      ·
       intro Aa g
       refine Fq h D (z:=(Value.agg (flat [[E 0],[E 0],[E 0],[E 0],[E 0]]))) (by kernel_rfl) (ss:=[[E 0],[E 0],[E 0],[E 0],[E 0]]) D ?_
       intro a aF a8 t f y aG m
       have a9:=Bg b t
       have a_:=AP d t
       have d:=Q d m
       have b:=Ah b m
       refine g _ _ ⟨b,d⟩ ?_;revert a
       intro n h
       refine A8 7 4 D D ?_
       intro Aa g
       refine B0 h #[F (some ⟨u,j,none⟩) 256 c,E 16,E 4] Gt (GC 16 4 _ _ _ _ _ (by omega) (by omega) (by omega) (Hk l 16) (i.below b) s) ?_
       rintro _ _ ⟨rfl,rfl⟩
       refine⟨_,D,?_⟩
       intro a f
       refine g _ _ ⟨b,d⟩ ?_;revert a
       intro n h
       refine A8 9 3 D D ?_
       intro Aa g
       refine B0 h #[F (some ⟨u,j,none⟩) 256 c,E 20,E 4] Gt (GC 20 4 _ _ _ _ _ (by omega) (by omega) (by omega) (Hk l 20) (i.below b) s) ?_
       rintro _ _ ⟨rfl,rfl⟩
       refine⟨_,D,?_⟩
       intro a f
       refine g _ _ ⟨b,d⟩ ?_;revert a
       intro n h
       refine A8 11 2 D D ?_
       intro Aa g
       refine B0 h #[F (some ⟨u,j,none⟩) 256 c,E 24,E 4] Gt (GC 24 4 _ _ _ _ _ (by omega) (by omega) (by omega) (Hk l 24) (i.below b) s) ?_
       rintro _ _ ⟨rfl,rfl⟩
       refine⟨_,D,?_⟩
       intro a f
       refine g _ _ ⟨b,d⟩ ?_;revert a
       refine A5 12 D (fun W x a f=>by obtain⟨b,d⟩:=x;exact CE f (Bf:=[(0,(E ((l.getD 4 0).toNat))),(1,(E (Fr.le ((l.drop 8).take 8)))),(2,(E (Fr.le ((l.drop 16).take 4)))),(3,(E (Fr.le ((l.drop 20).take 4)))),(4,(E (Fr.le ((l.drop 24).take 4))))]) D (v:=Value.agg (flat [[E ((l.getD 4 0).toNat)],[E (Fr.le ((l.drop 8).take 8))],[E (Fr.le ((l.drop 16).take 4))],[E (Fr.le ((l.drop 20).take 4))],[E (Fr.le ((l.drop 24).take 4))]])) (run_build _ _ _ _ (by kernel_rfl))) ⟨b,d⟩<|?_
       intro n h
       refine A8 14 0 D D ?_
       intro Aa g
       refine Iu h 0 5 aG D D ?_
       intro a a' f y aH X
       have d:=Ag X d (by omega)
       have b:=A1 b X
       refine g _ _ ⟨b,d⟩ ?_;revert a
       refine B_<|G<|?_
       intro a f
       exact⟨aF,At f,b,d,aH,by omega,by omega,by omega⟩
     ·
      intro Aa g
      refine Fq h D (z:=(Value.agg (flat [[E 0],[E 0],[E 0],[E 0],[E 0]]))) (by kernel_rfl) (ss:=[[E 0],[E 0],[E 0],[E 0],[E 0]]) D ?_
      intro a aI ba t f y aJ m
      have bb:=Bg b t
      have bc:=AP d t
      have d:=Q d m
      have b:=Ah b m
      refine g _ _ ⟨b,d⟩ ?_;revert a
      intro n h
      refine A8 5 5 D D ?_
      intro Aa g
      refine B0 h #[F (some ⟨u,j,none⟩) 256 c,E 8,E 8] Gt (GC 8 8 _ _ _ _ _ (by omega) (by omega) (by omega) H (i.below b) s) ?_
      rintro _ _ ⟨rfl,rfl⟩
      refine⟨_,D,?_⟩
      intro a f
      refine g _ _ ⟨b,d⟩ ?_;revert a
      intro n h
      refine A8 7 4 D D ?_
      intro Aa g
      refine B0 h #[F (some ⟨u,j,none⟩) 256 c,E 16,E 4] Gt (GC 16 4 _ _ _ _ _ (by omega) (by omega) (by omega) (Hk l 16) (i.below b) s) ?_
      rintro _ _ ⟨rfl,rfl⟩
      refine⟨_,D,?_⟩
      intro a f
      refine g _ _ ⟨b,d⟩ ?_;revert a
      intro n h
      refine A8 9 3 D D ?_
      intro Aa g
      refine B0 h #[F (some ⟨u,j,none⟩) 256 c,E 20,E 4] Gt (GC 20 4 _ _ _ _ _ (by omega) (by omega) (by omega) (Hk l 20) (i.below b) s) ?_
      rintro _ _ ⟨rfl,rfl⟩
      refine⟨_,D,?_⟩
      intro a f
      refine g _ _ ⟨b,d⟩ ?_;revert a
      intro n h
      refine A8 11 2 D D ?_
      intro Aa g
      refine B0 h #[F (some ⟨u,j,none⟩) 256 c,E 24,E 4] Gt (GC 24 4 _ _ _ _ _ (by omega) (by omega) (by omega) (Hk l 24) (i.below b) s) ?_
      rintro _ _ ⟨rfl,rfl⟩
      refine⟨_,D,?_⟩
      intro a f
      refine g _ _ ⟨b,d⟩ ?_;revert a
      refine A5 12 D (fun W x a f=>by obtain⟨b,d⟩:=x;exact CE f (Bf:=[(0,(E ((l.getD 4 0).toNat))),(1,(E (Fr.le ((l.drop 8).take 8)))),(2,(E (Fr.le ((l.drop 16).take 4)))),(3,(E (Fr.le ((l.drop 20).take 4)))),(4,(E (Fr.le ((l.drop 24).take 4))))]) D (v:=Value.agg (flat [[E ((l.getD 4 0).toNat)],[E (Fr.le ((l.drop 8).take 8))],[E (Fr.le ((l.drop 16).take 4))],[E (Fr.le ((l.drop 20).take 4))],[E (Fr.le ((l.drop 24).take 4))]])) (run_build _ _ _ _ (by kernel_rfl))) ⟨b,d⟩<|?_
      intro n h
      refine A8 14 0 D D ?_
      intro Aa g
      refine Iu h 0 5 aJ D D ?_
      intro a bd f y aK Y
      have d:=Ag Y d (by omega)
      have b:=A1 b Y
      refine g _ _ ⟨b,d⟩ ?_;revert a
      refine B_<|G<|?_
      intro a f
      exact⟨aI,At f,b,d,aK,by omega,by omega,by omega⟩
    ·
     rintro a bf ⟨A,f,b,d,B,bg,bh,bj⟩
     revert a
     refine K<|K<|N<|BP Bw B D<|AS Q_ D (Xm _ _ _ _ _ _ hvalid (by omega)) ?_
     rintro _ bk ⟨rfl,C⟩
     refine⟨_,D,?_⟩
     have d:=Q d C
     have B:=Q B C
     have b:=Ah b C
     refine Dn D<|M<|G<|BE D<|AE<|G<|K<|N<|BP Bw B D<|Bi 0 5 d D D ?_
     intro bl y aL aM
     have b:=A1 b aM
     refine O (v:=(E 0)) D<|M<|G<|AA<|?_
     intro a f
     refine DG f D D D aL Bw D (by kernel_rfl) ?_
     exact⟨D,b⟩
   |false=>
    rw[ad]at S;cases S
  |false=>
   rw[ab]at R;cases R
 |false=>
  rw[decide_eq_true aa]at L;cases L
structure EU (l:List UInt8) (s:Fr.Ch):Prop where
 len:l.length=256
 Cj:Af.Cj (l.take 64) 60=0
 ab:(l.getD 0 0).toNat=76
 aN:(l.getD 1 0).toNat=68
 aL:(l.getD 2 0).toNat=71
 aP:(l.getD 3 0).toNat=49
 aE:Fr.Dq ((l.drop 5).take (8 - 5))=true
 aX:Fr.Dq ((l.drop 28).take (60 - 28))=true
 w:(l.getD 4 0).toNat=s.w
 g:Fr.le ((l.drop 8).take 8)=s.g
 m:Fr.le ((l.drop 16).take 4)=s.m
 h:Fr.le ((l.drop 20).take 4)=s.h
 p:Fr.le ((l.drop 24).take 4)=s.p
 valid:Fr.Ei s=true
theorem EU.F8{l:List UInt8}{s:Fr.Ch}(h:EU l s):s.g≤1099511627776:=by
 have:=h.valid
 simp only[Fr.Ei,Bool.and_eq_true,decide_eq_true_eq]at this
 omega
theorem LL(q:Option Addr)(c:Nat)(l:List UInt8)(w:World){s:Fr.Ch}(b:CT w)(h:EU l s)(d:View w (.slice q 256 c) 256 1 (bv l)):
 Calls Tryz.prog 39 #[.slice q 256 c] w fun e w'=>e=.returned (.tuple #[Value.agg (flat [[E s.w],[E s.g],[E s.m],[E s.h],[E s.p]]),.int .i64 0])∧Below w.heap.size w w':=by
 have i:=h.F8
 have a:∀k,Fr.le (((l.drop 8).take 8).drop k)≤Fr.le ((l.drop 8).take 8):=by
  intro k
  induction k with
  |zero=>exact Be _
  |succ k f=>exact Bs (TL _ _) f
 have j:=h.g
 have:=Ve q c l w b h.Cj h.ab h.aN h.aL h.aP h.aE h.aX (by rw[h.w,h.g,h.m,h.h,h.p];exact h.valid) (Aw ⟨fun k _=>Bs (a _) (by omega),Bs (a 1) (by omega)⟩) (by omega) d h.len
 rw[h.w,h.g,h.m,h.h,h.p]at this
 exact this
theorem XD(q r:Option Addr)(c c':Nat)(l s:List UInt8)(x y:Fr.Ch)(w:World)(t:CT w)(H:View w (.slice q 256 c) 256 1 (bv l))(u:EU l x)(J:View w (.slice r 256 c') 256 1 (bv s))(z:EU s y)(L:x.g % 2=0)(P:y.g % 2=1)(R:x.w=y.w)(S:x.p=y.p)(T:x.g=y.g+1)(U:y.m≤x.m):
 Calls Tryz.prog 53 #[F q 256 c,F r 256 c'] w fun e w'=>e=.returned (.tuple #[Value.agg (flat [[E x.w],[E x.g],[E x.m],[E x.h],[E x.p]]),.int .i64 0])∧Below w.heap.size w w':=by
 have b:Below w.heap.size w w:=Bu _ _
 refine Bx Ns D 48 ?_
 refine K<|N<|BQ [[E 0],[E 0],[E 0],[E 0],[E 0]] ?_
 intro b2 ae f k d i
 have af:=Bg b f
 have b:=Ah b i
 refine O (v:=(E 0)) D<|M<|G<|K<|N<|I D<|AS KO D (LL _ _ _ _ (t.below b (Be _)) u (H.below b)) ?_
 rintro _ ag ⟨rfl,A⟩
 refine⟨_,D,?_⟩
 have d:=Q d A
 have b:=Ah b A
 refine I D<|BC D D<|BC D D<|BQ [[E 0],[E 0],[E 0],[E 0],[E 0]] ?_
 intro ah ai f k V i
 have aj:=Bg b f
 have ak:=AP d f
 have d:=Q d i
 have b:=Ah b i
 refine Bi 0 5 V D D ?_
 intro al k j B
 have d:=Ag B d (by omega)
 have b:=A1 b B
 refine O (v:=(E 0)) D<|M<|G<|K<|N<|I D<|AS KO D (LL _ _ _ _ (t.below b (Be _)) z (J.below b)) ?_
 rintro _ an ⟨rfl,n⟩
 refine⟨_,D,?_⟩
 have d:=Q d n
 have j:=Q j n
 have b:=Ah b n
 refine I D<|BC D D<|BC D D<|BQ [[E 0],[E 0],[E 0],[E 0],[E 0]] ?_
 intro ao aq f k W i
 have ar:=Bg b f
 have au:=AP d f
 have av:=AP j f
 have d:=Q d i
 have j:=Q j i
 have b:=Ah b i
 refine Bi 0 5 W D D ?_
 intro aw k X o
 have d:=Ag o d (by omega)
 have j:=Ag o j (by omega)
 have b:=A1 b o
 refine O (v:=(E 0)) D<|M<|G<|K<|K<|N<|I (v:=(E 0)) D<|?_
 have Y:(((0:Nat):Int)=((0:Nat):Int)):=by omega
 refine D5 Y D D<|I D<|Ad D D D<|I (v:=(E 0)) D<|?_
 have Z:(((0:Nat):Int)=((0:Nat):Int)):=by omega
 refine Ad D D D<|D5 Z D D<|Bn D D<|M<|G<|BS D<|K<|N<|BP Bw j D<|BP Bw X D<|AS MC D (TD x y _ L P R S T U (by have:=u.F8;omega) (by have:=z.F8;omega)) ?_
 rintro _ ax ⟨rfl,C⟩
 refine⟨_,D,?_⟩
 have d:=Q d C
 have b:=Ah b C
 refine BC D D<|BC D D<|Bi 0 5 d D D ?_
 intro ay k aa ab
 have b:=A1 b ab
 refine O (v:=(E 0)) D<|M<|G<|AA<|AX<|?_
 intro a ad
 refine DG ad D D D aa Bw D (by kernel_rfl) ?_
 exact⟨D,b⟩
theorem Vy(q r:Option Addr)(c c':Nat)(l s:List UInt8)(x y:Fr.Ch)(w:World)(t:CT w)(H:View w (.slice q 256 c) 256 1 (bv l))(u:EU l x)(J:View w (.slice r 256 c') 256 1 (bv s))(z:EU s y)(L:x.g % 2=0)(P:y.g % 2=1)(R:x.w=y.w)(S:x.p=y.p)(T:y.g=x.g+1)(U:x.m≤y.m):
 Calls Tryz.prog 53 #[F q 256 c,F r 256 c'] w fun e w'=>e=.returned (.tuple #[Value.agg (flat [[E y.w],[E y.g],[E y.m],[E y.h],[E y.p]]),.int .i64 0])∧Below w.heap.size w w':=by
 have b:Below w.heap.size w w:=Bu _ _
 refine Bx Ns D 48 ?_
 refine K<|N<|BQ [[E 0],[E 0],[E 0],[E 0],[E 0]] ?_
 intro b2 ae f k d i
 have af:=Bg b f
 have b:=Ah b i
 refine O (v:=(E 0)) D<|M<|G<|K<|N<|I D<|AS KO D (LL _ _ _ _ (t.below b (Be _)) u (H.below b)) ?_
 rintro _ ag ⟨rfl,A⟩
 refine⟨_,D,?_⟩
 have d:=Q d A
 have b:=Ah b A
 refine I D<|BC D D<|BC D D<|BQ [[E 0],[E 0],[E 0],[E 0],[E 0]] ?_
 intro ah ai f k V i
 have aj:=Bg b f
 have ak:=AP d f
 have d:=Q d i
 have b:=Ah b i
 refine Bi 0 5 V D D ?_
 intro al k j B
 have d:=Ag B d (by omega)
 have b:=A1 b B
 refine O (v:=(E 0)) D<|M<|G<|K<|N<|I D<|AS KO D (LL _ _ _ _ (t.below b (Be _)) z (J.below b)) ?_
 rintro _ an ⟨rfl,n⟩
 refine⟨_,D,?_⟩
 have d:=Q d n
 have j:=Q j n
 have b:=Ah b n
 refine I D<|BC D D<|BC D D<|BQ [[E 0],[E 0],[E 0],[E 0],[E 0]] ?_
 intro ao aq f k W i
 have ar:=Bg b f
 have au:=AP d f
 have av:=AP j f
 have d:=Q d i
 have j:=Q j i
 have b:=Ah b i
 refine Bi 0 5 W D D ?_
 intro aw k X o
 have d:=Ag o d (by omega)
 have j:=Ag o j (by omega)
 have b:=A1 b o
 refine O (v:=(E 0)) D<|M<|G<|K<|K<|N<|I (v:=(E 0)) D<|?_
 have Y:(((0:Nat):Int)=((0:Nat):Int)):=by omega
 refine D5 Y D D<|I D<|Ad D D D<|I (v:=(E 0)) D<|?_
 have Z:(((0:Nat):Int)=((0:Nat):Int)):=by omega
 refine Ad D D D<|D5 Z D D<|Bn D D<|M<|G<|BS D<|K<|N<|BP Bw j D<|BP Bw X D<|AS MC D (S6 x y _ L P R S T U (by have:=u.F8;omega) (by have:=z.F8;omega)) ?_
 rintro _ ax ⟨rfl,C⟩
 refine⟨_,D,?_⟩
 have d:=Q d C
 have b:=Ah b C
 refine BC D D<|BC D D<|Bi 0 5 d D D ?_
 intro ay k aa ab
 have b:=A1 b ab
 refine O (v:=(E 0)) D<|M<|G<|AA<|AX<|?_
 intro a ad
 refine DG ad D D D aa Bw D (by kernel_rfl) ?_
 exact⟨D,b⟩
end Go.Proofs.YtcdaflcjhimimaaGreatDoor
