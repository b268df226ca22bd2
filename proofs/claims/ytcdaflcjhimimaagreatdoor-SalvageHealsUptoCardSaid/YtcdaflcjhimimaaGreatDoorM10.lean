/- Laws and walks on the road to SalvageNever and SalvageHeals (part M10). No conditions beyond each law's own. -/
import Derived.Test.YtcdaflcjhimimaaGreatDoorM01
import Derived.Test.YtcdaflcjhimimaaGreatDoorM09
import Derived.Test.YtcdaflcjhimimaaGreatDoorM04
import Derived.Test.YtcdaflcjhimimaaGreatDoorM07
import Derived.Test.YtcdaflcjhimimaaGreatDoorM06
import Derived.Test.YtcdaflcjhimimaaGreatDoorM05
set_option linter.unusedVariables false
namespace Go.Proofs.YtcdaflcjhimimaaGreatDoor
open Go.RowKit
set_option maxRecDepth 100000
set_option maxHeartbeats 1000000
theorem Ic(x n:Nat)(w:World)(o:x<4294967296)(hn:n≤32:=by omega):
 Calls Tryz.prog 134 #[Value.int .u32 (((x:Nat):Int):Int),Value.int .u64 (((n:Nat):Int):Int)] w fun e w'=>∃r:Nat,r<4294967296∧e=.returned (.int .u32 ((r:Nat):Int))∧w=w':=by
 refine Bx H0 D 13 ?_
 refine K<|N<|O (v:=(Value.int .u32 (((0:Nat):Int):Int))) D<|M<|G<|K<|N<|I D<|I D<|?_
 obtain⟨b,f⟩:∃g:Nat,g=x/2^n:=⟨_,D⟩
 have h:b<4294967296:=by rw[f];exact Nat.lt_of_le_of_lt (Nat.div_le_self _ _) (by first|assumption|omega)
 refine AT (fun _ a=>HQ a (k:=.u32) (p:=x) (n:=n) (r:=b) D D (by simp only[IntKind.bits];omega) f.symm)<|I D<|I D<|AT (fun _ a=>LY a (k:=.u64) (p:=((32:Nat):Int)) (q:=((n:Nat):Int)) (r:=((32 - n:Nat):Int)) D D (Uq 32 n (by omega) (by omega)))<|?_
 obtain⟨c,i⟩:∃g:Nat,g=(x*2^(32 - n)) % 4294967296:=⟨_,D⟩
 have j:c<4294967296:=by rw[i];exact Nat.mod_lt _ (by decide)
 refine AT (fun _ a=>JC a (k:=.u32) (p:=x) (n:=32 - n) (r:=((c:Nat):Int)) D D (by simp only[IntKind.bits];omega) (by rw[i];exact wrap_u32 _))<|?_
 obtain⟨d,l⟩:∃g:Nat,g=b|||c:=⟨_,D⟩
 have m:d<4294967296:=by rw[l];exact Nat.or_lt_two_pow (n:=32) h j
 refine AT (fun _ a=>Eh a (k:=.u32) (p:=((b:Nat):Int)) (q:=((c:Nat):Int)) (r:=((d:Nat):Int)) (.inr (.inl D)) D D (by rw[l];exact u32_or_nat _ _ h j))<|O D<|M<|G<|AA<|AZ D<|?_
 exact⟨d,m,D,D⟩
theorem U5(q:Option Addr)(n c:Nat)(l:List UInt8)(w:World)(hn:n≤1000000000)(C:View w (.slice q n c) n 1 (bv l))(H:l.length=n):
 Calls Tryz.prog 115 #[F q n c] w fun e w'=>∃p k U L,e=.returned (.slice p U k)∧w'.ownsRow w.heap.size 5 1 (.slice p U k) U (bv L)∧U % 64=0∧U≤n+200∧Below w.heap.size w w':=by
 have b:Below w.heap.size w w:=Bu _ _
 refine Bx R_ D 38 ?_
 refine K<|N<|O D<|M<|G<|K<|N<|O D<|?_
 have own:w.ownsRow w.heap.size 5 1 (.slice none 0 0) 0 (bv []):=World.ownsRow_nil _ _ _ _
 refine M<|G<|K<|N<|I D<|I D<|?_
 intro u j
 refine Bj D (fun Aa o=>BK j A0 own C (G4 _) b.size (0+n) (zs:=bv ([]++l)) (by rw[Nat.mul_one,List.take_of_length_le (by rw[D_];exact Nat.le_of_eq H),Hv]) ?_)
 intro a ae af ag d f J
 have b:=Cm b J own
 refine o _ _ ?_;revert a
 refine O D<|M<|G<|K<|N<|I D<|D6 A0 D (cs:=#[Value.int .u8 (((128:Nat):Int):Int)]) D D ?_
 intro ah z v6 h
 have f:=V f h
 have b:=Ah b h
 intro u j
 refine Bj D (fun Aa o=>BK j A0 f v6 (by simp[Value.oneCell']) b.size ((0+n)+1) (zs:=bv ([]++l++[128])) (by simp[bv]) ?_)
 intro a ai aj ak d P Q
 have b:=Cm b Q f
 have f:=P
 refine o _ _ ?_;revert a
 refine O D<|M<|G<|K<|A2<|?_
 intro a d
 refine Cb (fun x a W=>∃k p s L,x=(120 - k % 64) % 64∧Ao 38 a (Ja (Ja Je 0 (F q n c)) 3 (F p k s))∧n+1≤k∧k+(120 - k % 64) % 64≤n+64∧W.ownsRow w.heap.size 5 1 (.slice p k s) k (bv L)∧Below w.heap.size w W) _ ⟨_,_,_,_,D,At d,by omega,by omega,f,b⟩ ?_
 rintro _ a al ⟨k,p,s,L,rfl,d,an,ao,f,b⟩
 revert a
 refine K<|K<|N<|I D<|BY Cr D<|EM (q:=64) D D<|Fi (q:=(56:Nat)) D D<|M<|G<|E7 D (fun R=>?_) fun R=>?_
 ·
  refine AE<|G<|A2<|N<|I D<|D6 A0 D (cs:=#[Value.int .u8 (((0:Nat):Int):Int)]) D D ?_
  intro aq z S h
  have f:=V f h
  have b:=Ah b h
  intro u j
  refine Bj D (fun Aa o=>BK j A0 f S (by simp[Value.oneCell']) b.size (k+1) (zs:=bv (L++[0])) (by simp[bv]) ?_)
  intro a ar au av d T X
  have b:=Cm b X f
  refine o _ _ ?_;revert a
  refine O D<|M<|Bq<|G<|?_
  intro a d
  exact⟨_,by omega,k+1,_,_,_,D,At d,by omega,by omega,T,b⟩
 ·
  refine BO<|AW<|AW<|BN<|G<|K<|N<|I D<|BY Cr D<|AT (fun _ d=>C3 d (p:=((n:Nat):Int)) (r:=((n:Nat):Int)) D AH UO (HY n))<|?_
  obtain⟨y,A⟩:∃g:Nat,g=(n*8) % 18446744073709551616:=⟨_,D⟩
  have Y:y<18446744073709551616:=by rw[A];exact Nat.mod_lt _ (by decide)
  refine AT (fun _ d=>OM d (k:=.u64) (p:=((n:Nat):Int)) (q:=((8:Nat):Int)) (r:=((y:Nat):Int)) D D (by rw[A,←wrap_u64];simp))<|O D<|M<|?_
  have aw:=Y;generalize y=m at*
  refine G<|K<|K<|N<|O (v:=(E 0)) D<|M<|G<|A2<|?_
  intro a d
  refine Cb (fun x a W=>∃i p s L,x=8 - i∧Ao 38 a (Ja (Ja (Ja Je 3 (F p (k+i) s)) 4 (Value.int .u64 (((m:Nat):Int):Int))) 5 (E i))∧i≤8∧W.ownsRow w.heap.size 5 1 (.slice p (k+i) s) (k+i) (bv L)∧Below w.heap.size w W) _ ⟨0,_,_,_,D,At d,Nat.zero_le _,f,b⟩ ?_
  rintro _ a ax ⟨i,p,s,L,rfl,d,ay,f,b⟩
  revert a
  refine K<|K<|N<|I D<|B5 (q:=(8:Nat)) D D<|M<|G<|Bl D (fun Z=>?_) fun Z=>?_
  ·
   refine AE<|G<|K<|A2<|N<|I D<|I D<|I D<|FT (p:=8) D D<|E' (p:=56) D D<|AT (fun _ d=>C3 d (p:=((56 - (8*i):Nat):Int)) (r:=((56 - (8*i):Nat):Int)) D AH Iz (HY (56 - (8*i))))<|?_
   obtain⟨t,B⟩:∃g:Nat,g=m/2^(56 - (8*i)):=⟨_,D⟩
   have az:t<18446744073709551616:=by rw[B];exact Nat.lt_of_le_of_lt (Nat.div_le_self _ _) (by first|assumption|omega)
   refine AT (fun _ d=>HQ d (k:=.u64) (p:=m) (n:=56 - (8*i)) (r:=t) D D (by simp only[IntKind.bits];omega) B.symm)<|AT (fun _ d=>C3 d (p:=(((t:Nat):Int):Int)) (r:=(((UInt8.ofNat t).toNat:Nat):Int)) D Tryz.underlying208 Tryz.underlying5 (Fw t))<|D6 A0 D (cs:=#[Value.int .u8 ((((UInt8.ofNat t).toNat:Nat):Int):Int)]) D D ?_
   intro aA z aa h
   have f:=V f h
   have b:=Ah b h
   intro u j
   refine Bj D (fun Aa o=>BK j A0 f aa (by simp[Value.oneCell']) b.size ((k+i)+1) (zs:=bv (L++[UInt8.ofNat t])) (by simp[bv]) ?_)
   intro a aB aC aD d ab ad
   have b:=Cm b ad f
   refine o _ _ ?_;revert a
   refine O D<|M<|Bq<|G<|N<|I D<|A_ (q:=1) D D<|O D<|M<|G<|?_
   intro a d
   exact⟨_,by omega,i+1,_,_,_,D,At d,by omega,ab,b⟩
  ·
   obtain rfl:i=8:=by omega
   refine BO<|AW<|AW<|BN<|G<|K<|N<|I D<|O D<|M<|G<|AA<|AZ D<|?_
   exact⟨_,_,_,_,D,f,by omega,by omega,b⟩
theorem Vc(q:Option Addr)(n c at_:Nat)(l:List UInt8)(w:World)(hn:n≤2000000000)(a_:at_+64≤n)(H:View w (.slice q n c) n 1 (bv l))(a':l.length=n):
 Calls Tryz.prog 116 #[F q n c,E at_] w fun e w'=>∃xs,Jf 64 xs∧e=.returned (.agg (flat [CM xs]))∧Below w.heap.size w w':=by
 have b:Below w.heap.size w w:=Bu _ _
 refine Bx OK D 104 ?_
 refine K<|N<|BQ [Ir 64] ?_
 intro z ba T A h t
 have bb:=Bg b T
 have b:=Ah b t
 rw[J2]at h
 refine M<|G<|K<|N<|BQ [Ir 64] ?_
 intro B bc T A f t
 have bd:=Bg b T
 have bf:=AP h T
 have h:=Q h t
 have b:=Ah b t
 rw[J2]at f
 refine M<|G<|K<|K<|N<|O (v:=(E 0)) D<|M<|G<|A2<|?_
 intro a d
 refine Cb (fun ag a W=>∃i,∃xs:List Nat,ag=16 - i∧Ao 104 a (Ja (Ja (Ja (Ja (Ja Je 0 (F q n c)) 1 (E at_)) 4 (AB z)) 5 (AB B)) 6 (E i))∧i≤16∧Jf 64 xs∧z<B∧w.heap.size≤z∧Ai W z [CM (List.replicate 64 0)] 196∧Ai W B [CM xs] 196∧Below w.heap.size w W) _ ⟨0,_,D,At d,Nat.zero_le _,Jf.zero 64,by omega,by omega,h,f,b⟩ ?_
 rintro _ a bg ⟨i,xs,rfl,d,aV,s,U,lw,h,f,b⟩
 revert a
 refine K<|K<|N<|I D<|B5 (q:=(16:Nat)) D D<|M<|G<|Bl D (fun aW=>?_) fun aW=>?_
 ·
  refine AE<|G<|K<|A2<|K<|N<|I D<|I D<|FT (p:=4) D D<|A_ D D<|O D<|M<|G<|?_
  intro a d
  refine EJ 31 ?_
  intro bh A t
  have h:=Q h t
  have f:=Q f t
  have b:=Ah b t
  revert a
  refine A3 D<|A3 D<|A3 D<|?_
  obtain⟨bj,C,rfl⟩:=Ca (H.below b)
  have aX:=De (H.below b) (at_+(4*i)) (o:=C+(at_+(4*i))*1)
  refine C0 A0 (at_+(4*i)) (C+(at_+(4*i))*1) D D<|Dw BA aX D<|Cz (fun _ d=>C3 d (p:=((((l.getD (at_+(4*i)) 0).toNat:Nat):Int):Int)) (r:=(((l.getD (at_+(4*i)) 0).toNat:Nat):Int)) D BA Ev (KE ((l.getD (at_+(4*i)) 0).toNat) (Af.Jm _)))<|?_
  obtain⟨V,aj⟩:∃g:Nat,g=(((l.getD (at_+(4*i)) 0).toNat)*2^24) % 4294967296:=⟨_,D⟩
  have ak:V<4294967296:=by rw[aj];exact Nat.mod_lt _ (by decide)
  refine Cz (fun _ d=>JC d (k:=.u32) (p:=(l.getD (at_+(4*i)) 0).toNat) (n:=24) (r:=((V:Nat):Int)) D D (by simp only[IntKind.bits];omega) (by rw[aj];exact wrap_u32 _))<|A3 D<|A3 D<|Fv (q:=1) D D<|?_
  have aY:=De (H.below b) ((at_+(4*i))+1) (o:=C+((at_+(4*i))+1)*1)
  refine C0 A0 ((at_+(4*i))+1) (C+((at_+(4*i))+1)*1) D D<|Dw BA aY D<|Cz (fun _ d=>C3 d (p:=((((l.getD ((at_+(4*i))+1) 0).toNat:Nat):Int):Int)) (r:=(((l.getD ((at_+(4*i))+1) 0).toNat:Nat):Int)) D BA Ev (KE ((l.getD ((at_+(4*i))+1) 0).toNat) (Af.Jm _)))<|?_
  obtain⟨X,al⟩:∃g:Nat,g=(((l.getD ((at_+(4*i))+1) 0).toNat)*2^16) % 4294967296:=⟨_,D⟩
  have an:X<4294967296:=by rw[al];exact Nat.mod_lt _ (by decide)
  refine Cz (fun _ d=>JC d (k:=.u32) (p:=(l.getD ((at_+(4*i))+1) 0).toNat) (n:=16) (r:=((X:Nat):Int)) D D (by simp only[IntKind.bits];omega) (by rw[al];exact wrap_u32 _))<|?_
  obtain⟨Y,ao⟩:∃g:Nat,g=V|||X:=⟨_,D⟩
  have aq:Y<4294967296:=by rw[ao];exact Nat.or_lt_two_pow (n:=32) ak an
  refine Cz (fun _ d=>Eh d (k:=.u32) (p:=((V:Nat):Int)) (q:=((X:Nat):Int)) (r:=((Y:Nat):Int)) (.inr (.inl D)) D D (by rw[ao];exact u32_or_nat _ _ ak an))<|A3 D<|A3 D<|Fv (q:=2) D D<|?_
  have aZ:=De (H.below b) ((at_+(4*i))+2) (o:=C+((at_+(4*i))+2)*1)
  refine C0 A0 ((at_+(4*i))+2) (C+((at_+(4*i))+2)*1) D D<|Dw BA aZ D<|Cz (fun _ d=>C3 d (p:=((((l.getD ((at_+(4*i))+2) 0).toNat:Nat):Int):Int)) (r:=(((l.getD ((at_+(4*i))+2) 0).toNat:Nat):Int)) D BA Ev (KE ((l.getD ((at_+(4*i))+2) 0).toNat) (Af.Jm _)))<|?_
  obtain⟨Z,ar⟩:∃g:Nat,g=(((l.getD ((at_+(4*i))+2) 0).toNat)*2^8) % 4294967296:=⟨_,D⟩
  have au:Z<4294967296:=by rw[ar];exact Nat.mod_lt _ (by decide)
  refine Cz (fun _ d=>JC d (k:=.u32) (p:=(l.getD ((at_+(4*i))+2) 0).toNat) (n:=8) (r:=((Z:Nat):Int)) D D (by simp only[IntKind.bits];omega) (by rw[ar];exact wrap_u32 _))<|?_
  obtain⟨aa,av⟩:∃g:Nat,g=Y|||Z:=⟨_,D⟩
  have aw:aa<4294967296:=by rw[av];exact Nat.or_lt_two_pow (n:=32) aq au
  refine Cz (fun _ d=>Eh d (k:=.u32) (p:=((Y:Nat):Int)) (q:=((Z:Nat):Int)) (r:=((aa:Nat):Int)) (.inr (.inl D)) D D (by rw[av];exact u32_or_nat _ _ aq au))<|A3 D<|A3 D<|Fv (q:=3) D D<|?_
  have a0:=De (H.below b) ((at_+(4*i))+3) (o:=C+((at_+(4*i))+3)*1)
  refine C0 A0 ((at_+(4*i))+3) (C+((at_+(4*i))+3)*1) D D<|Dw BA a0 D<|Cz (fun _ d=>C3 d (p:=((((l.getD ((at_+(4*i))+3) 0).toNat:Nat):Int):Int)) (r:=(((l.getD ((at_+(4*i))+3) 0).toNat:Nat):Int)) D BA Ev (KE ((l.getD ((at_+(4*i))+3) 0).toNat) (Af.Jm _)))<|?_
  obtain⟨ah,ax⟩:∃g:Nat,g=aa|||((l.getD ((at_+(4*i))+3) 0).toNat):=⟨_,D⟩
  have a1:ah<4294967296:=by rw[ax];exact Nat.or_lt_two_pow (n:=32) aw (Af.Jm _)
  refine Cz (fun _ d=>Eh d (k:=.u32) (p:=((aa:Nat):Int)) (q:=(((l.getD ((at_+(4*i))+3) 0).toNat:Nat):Int)) (r:=((ah:Nat):Int)) (.inr (.inl D)) D D (by rw[ax];exact u32_or_nat _ _ aw (Af.Jm _)))<|GJ Tryz.underlying196 1 i i D D<|?_
  intro a d;refine EG ?_;revert a
  intro J x
  refine Bj D (fun Aa y=>Nv x (j:=i) D f s (by omega) (u:=ah) D (by kernel_rfl) ?_)
  intro a bk d A a2 ay
  have h:=Ag ay h (by omega)
  have b:=A1 b ay
  have a3:=s.set i a1
  refine y _ _ ?_;revert a
  refine M<|Bq<|G<|N<|I D<|A_ (q:=1) D D<|O D<|M<|G<|?_
  intro a d
  exact⟨_,by omega,i+1,_,D,At d,by omega,a3,U,lw,h,a2,b⟩
 ·
  refine BO<|AW<|AW<|BN<|G<|K<|K<|N<|O (v:=(E 16)) D<|M<|G<|A2<|?_
  intro a d
  refine Cb (fun ag a W=>∃i,∃xs:List Nat,ag=64 - i∧Ao 104 a (Ja (Ja (Ja Je 4 (AB z)) 5 (AB B)) 8 (E i))∧(16≤i∧i≤64)∧Jf 64 xs∧z<B∧w.heap.size≤z∧Ai W z [CM (List.replicate 64 0)] 196∧Ai W B [CM xs] 196∧Below w.heap.size w W) _ ⟨16,_,D,At d,by omega,s,U,lw,h,f,b⟩ ?_
  rintro _ a bl ⟨i,xs,rfl,d,aV,s,U,lw,h,f,b⟩
  revert a
  refine K<|K<|N<|I D<|B5 (q:=(64:Nat)) D D<|M<|G<|Bl D (fun a4=>?_) fun a4=>?_
  ·
   refine AE<|G<|K<|A2<|K<|?_
   intro a d
   refine C7 (fun W=>Ai W z [CM (List.replicate 64 0)] 196∧Ai W B [CM xs] 196∧Below w.heap.size w W) ?_
   intro bm A t
   have h:=Q h t
   have f:=Q f t
   have b:=Ah b t
   revert a
   refine Bk 0 D D ⟨h,f,b⟩<|Ko 1 D (q:=2) D D ⟨h,f,b⟩<|A5 2 D (fun W m a d=>by obtain⟨h,f,b⟩:=m;exact G6 d Hr (size:=1) (by kernel_rfl) D (i:=((i - 2:Nat):Int)) D (i - 2) (o:=i - 2)) ⟨h,f,b⟩<|A5 3 D (fun W m a d=>by obtain⟨h,f,b⟩:=m;exact D1 d D Ev D (DN f s (i - 2))) ⟨h,f,b⟩<|Bk 5 D D ⟨h,f,b⟩<|Ko 6 D (q:=2) D D ⟨h,f,b⟩<|A5 7 D (fun W m a d=>by obtain⟨h,f,b⟩:=m;exact G6 d Hr (size:=1) (by kernel_rfl) D (i:=((i - 2:Nat):Int)) D (i - 2) (o:=i - 2)) ⟨h,f,b⟩<|A5 8 D (fun W m a d=>by obtain⟨h,f,b⟩:=m;exact D1 d D Ev D (DN f s (i - 2))) ⟨h,f,b⟩<|Bk 11 D D ⟨h,f,b⟩<|Ko 12 D (q:=2) D D ⟨h,f,b⟩<|A5 13 D (fun W m a d=>by obtain⟨h,f,b⟩:=m;exact G6 d Hr (size:=1) (by kernel_rfl) D (i:=((i - 2:Nat):Int)) D (i - 2) (o:=i - 2)) ⟨h,f,b⟩<|A5 14 D (fun W m a d=>by obtain⟨h,f,b⟩:=m;exact D1 d D Ev D (DN f s (i - 2))) ⟨h,f,b⟩<|?_
   obtain⟨ab,az⟩:∃g:Nat,g=(xs.getD (i - 2) 0)/2^10:=⟨_,D⟩
   have aA:ab<4294967296:=by rw[az];exact Nat.lt_of_le_of_lt (Nat.div_le_self _ _) (s.at _)
   refine A5 15 D (fun W m a d=>by obtain⟨h,f,b⟩:=m;exact HQ d (k:=.u32) (p:=(xs.getD (i - 2) 0)) (n:=10) (r:=ab) D D (by simp only[IntKind.bits];omega) az.symm) ⟨h,f,b⟩<|?_
   intro J x
   refine A8 4 4 D D ?_
   intro Aa y
   refine B0 x #[Value.int .u32 ((((xs.getD (i - 2) 0):Nat):Int):Int),Value.int .u64 (((17:Nat):Int):Int)] H0 (Ic _ _ _ (s.at _)) ?_
   rintro _ _ ⟨aB,aC,rfl,rfl⟩
   refine⟨_,D,?_⟩
   intro a d
   refine y _ _ ⟨h,f,b⟩ ?_;revert a
   intro J x
   refine A8 9 3 D D ?_
   intro Aa y
   refine B0 x #[Value.int .u32 ((((xs.getD (i - 2) 0):Nat):Int):Int),Value.int .u64 (((19:Nat):Int):Int)] H0 (Ic _ _ _ (s.at _)) ?_
   rintro _ _ ⟨aD,aE,rfl,rfl⟩
   refine⟨_,D,?_⟩
   intro a d
   refine y _ _ ⟨h,f,b⟩ ?_;revert a
   obtain⟨ad,aF⟩:∃g:Nat,g=aB^^^aD:=⟨_,D⟩
   have aG:ad<4294967296:=by rw[aF];exact Nat.xor_lt_two_pow (n:=32) aC aE
   refine A5 10 D (fun W m a d=>by obtain⟨h,f,b⟩:=m;exact Eh d (k:=.u32) (p:=((aB:Nat):Int)) (q:=((aD:Nat):Int)) (r:=((ad:Nat):Int)) (.inr (.inr D)) D D (by rw[aF];exact u32_xor_nat _ _ aC aE)) ⟨h,f,b⟩<|?_
   obtain⟨L,aH⟩:∃g:Nat,g=ad^^^ab:=⟨_,D⟩
   have bn:L<4294967296:=by rw[aH];exact Nat.xor_lt_two_pow (n:=32) aG aA
   refine A5 16 D (fun W m a d=>by obtain⟨h,f,b⟩:=m;exact Eh d (k:=.u32) (p:=((ad:Nat):Int)) (q:=((ab:Nat):Int)) (r:=((L:Nat):Int)) (.inr (.inr D)) D D (by rw[aH];exact u32_xor_nat _ _ aG aA)) ⟨h,f,b⟩<|EY 17 D D ⟨h,f,b⟩<|B_<|G<|K<|?_
   intro a d
   refine C7 (fun W=>Ai W z [CM (List.replicate 64 0)] 196∧Ai W B [CM xs] 196∧Below w.heap.size w W) ?_
   intro bo A t
   have h:=Q h t
   have f:=Q f t
   have b:=Ah b t
   revert a
   refine Bk 0 D D ⟨h,f,b⟩<|Ko 1 D (q:=15) D D ⟨h,f,b⟩<|A5 2 D (fun W m a d=>by obtain⟨h,f,b⟩:=m;exact G6 d Hr (size:=1) (by kernel_rfl) D (i:=((i - 15:Nat):Int)) D (i - 15) (o:=i - 15)) ⟨h,f,b⟩<|A5 3 D (fun W m a d=>by obtain⟨h,f,b⟩:=m;exact D1 d D Ev D (DN f s (i - 15))) ⟨h,f,b⟩<|Bk 5 D D ⟨h,f,b⟩<|Ko 6 D (q:=15) D D ⟨h,f,b⟩<|A5 7 D (fun W m a d=>by obtain⟨h,f,b⟩:=m;exact G6 d Hr (size:=1) (by kernel_rfl) D (i:=((i - 15:Nat):Int)) D (i - 15) (o:=i - 15)) ⟨h,f,b⟩<|A5 8 D (fun W m a d=>by obtain⟨h,f,b⟩:=m;exact D1 d D Ev D (DN f s (i - 15))) ⟨h,f,b⟩<|Bk 11 D D ⟨h,f,b⟩<|Ko 12 D (q:=15) D D ⟨h,f,b⟩<|A5 13 D (fun W m a d=>by obtain⟨h,f,b⟩:=m;exact G6 d Hr (size:=1) (by kernel_rfl) D (i:=((i - 15:Nat):Int)) D (i - 15) (o:=i - 15)) ⟨h,f,b⟩<|A5 14 D (fun W m a d=>by obtain⟨h,f,b⟩:=m;exact D1 d D Ev D (DN f s (i - 15))) ⟨h,f,b⟩<|?_
   obtain⟨ae,aI⟩:∃g:Nat,g=(xs.getD (i - 15) 0)/2^3:=⟨_,D⟩
   have aJ:ae<4294967296:=by rw[aI];exact Nat.lt_of_le_of_lt (Nat.div_le_self _ _) (s.at _)
   refine A5 15 D (fun W m a d=>by obtain⟨h,f,b⟩:=m;exact HQ d (k:=.u32) (p:=(xs.getD (i - 15) 0)) (n:=3) (r:=ae) D D (by simp only[IntKind.bits];omega) aI.symm) ⟨h,f,b⟩<|?_
   intro J x
   refine A8 4 4 D D ?_
   intro Aa y
   refine B0 x #[Value.int .u32 ((((xs.getD (i - 15) 0):Nat):Int):Int),Value.int .u64 (((7:Nat):Int):Int)] H0 (Ic _ _ _ (s.at _)) ?_
   rintro _ _ ⟨aK,aL,rfl,rfl⟩
   refine⟨_,D,?_⟩
   intro a d
   refine y _ _ ⟨h,f,b⟩ ?_;revert a
   intro J x
   refine A8 9 3 D D ?_
   intro Aa y
   refine B0 x #[Value.int .u32 ((((xs.getD (i - 15) 0):Nat):Int):Int),Value.int .u64 (((18:Nat):Int):Int)] H0 (Ic _ _ _ (s.at _)) ?_
   rintro _ _ ⟨aM,aN,rfl,rfl⟩
   refine⟨_,D,?_⟩
   intro a d
   refine y _ _ ⟨h,f,b⟩ ?_;revert a
   obtain⟨af,aO⟩:∃g:Nat,g=aK^^^aM:=⟨_,D⟩
   have aP:af<4294967296:=by rw[aO];exact Nat.xor_lt_two_pow (n:=32) aL aN
   refine A5 10 D (fun W m a d=>by obtain⟨h,f,b⟩:=m;exact Eh d (k:=.u32) (p:=((aK:Nat):Int)) (q:=((aM:Nat):Int)) (r:=((af:Nat):Int)) (.inr (.inr D)) D D (by rw[aO];exact u32_xor_nat _ _ aL aN)) ⟨h,f,b⟩<|?_
   obtain⟨P,aQ⟩:∃g:Nat,g=af^^^ae:=⟨_,D⟩
   have bp:P<4294967296:=by rw[aQ];exact Nat.xor_lt_two_pow (n:=32) aP aJ
   refine A5 16 D (fun W m a d=>by obtain⟨h,f,b⟩:=m;exact Eh d (k:=.u32) (p:=((af:Nat):Int)) (q:=((ae:Nat):Int)) (r:=((P:Nat):Int)) (.inr (.inr D)) D D (by rw[aQ];exact u32_xor_nat _ _ aP aJ)) ⟨h,f,b⟩<|EY 17 D D ⟨h,f,b⟩<|B_<|G<|?_
   intro a d
   refine EJ 15 ?_
   intro bq A t
   have h:=Q h t
   have f:=Q f t
   have b:=Ah b t
   revert a
   refine A3 D<|A3 D<|A3 D<|HI (q:=7) D D<|GJ Hr 1 (i - 7) (i - 7) D D<|Dw Ev (DN f s (i - 7)) D<|?_
   obtain⟨R,aR⟩:∃g:Nat,g=(L+(xs.getD (i - 7) 0)) % 4294967296:=⟨_,D⟩
   have br:R<4294967296:=by rw[aR];exact Nat.mod_lt _ (by decide)
   refine Cz (fun _ d=>Gz d (k:=.u32) (p:=((L:Nat):Int)) (q:=(((xs.getD (i - 7) 0):Nat):Int)) (r:=((R:Nat):Int)) D D (by rw[aR];exact wrap_u32 (L+(xs.getD (i - 7) 0))))<|A3 D<|?_
   obtain⟨S,aS⟩:∃g:Nat,g=(R+P) % 4294967296:=⟨_,D⟩
   have bs:S<4294967296:=by rw[aS];exact Nat.mod_lt _ (by decide)
   refine Cz (fun _ d=>Gz d (k:=.u32) (p:=((R:Nat):Int)) (q:=((P:Nat):Int)) (r:=((S:Nat):Int)) D D (by rw[aS];exact wrap_u32 (R+P)))<|A3 D<|HI (q:=16) D D<|GJ Tryz.underlying196 1 (i - 16) (i - 16) D D<|Dw Tryz.underlying75 (DN f s (i - 16)) D<|?_
   obtain⟨ai,aT⟩:∃g:Nat,g=(S+(xs.getD (i - 16) 0)) % 4294967296:=⟨_,D⟩
   have a5:ai<4294967296:=by rw[aT];exact Nat.mod_lt _ (by decide)
   refine Cz (fun _ d=>Gz d (k:=.u32) (p:=((S:Nat):Int)) (q:=(((xs.getD (i - 16) 0):Nat):Int)) (r:=((ai:Nat):Int)) D D (by rw[aT];exact wrap_u32 (S+(xs.getD (i - 16) 0))))<|GJ Tryz.underlying196 1 i i D D<|?_
   intro a d;refine EG ?_;revert a
   intro J x
   refine Bj D (fun Aa y=>Nv x (j:=i) D f s (by omega) (u:=ai) D (by kernel_rfl) ?_)
   intro a bt d A a6 aU
   have h:=Ag aU h (by omega)
   have b:=A1 b aU
   have a7:=s.set i a5
   refine y _ _ ?_;revert a
   refine M<|Bq<|G<|N<|I D<|A_ (q:=1) D D<|O D<|M<|G<|?_
   intro a d
   exact⟨_,by omega,i+1,_,D,At d,by omega,a7,U,lw,h,a6,b⟩
  ·
   refine BO<|AW<|AW<|BN<|G<|K<|N<|BP Hr f D<|Bi 0 1 h D D ?_
   intro bu A a8 a9
   have b:=A1 b a9
   refine M<|G<|AA<|?_
   intro a d
   refine E4 d D D a8 Hr D (Cf 64) ?_
   exact⟨_,s,D,b⟩
theorem Ud(F ws:List Nat)(w:World)(bc:CT w)(ay:Jf 8 F)(hw:Jf 64 ws):
 Calls Tryz.prog 117 #[Value.agg (flat [CM F]),Value.agg (flat [CM ws])] w fun e w'=>∃v,Jf 8 v∧e=.returned (.agg (flat [CM v]))∧Below w.heap.size w w':=by
 have d:Below w.heap.size w w:=Bu _ _
 refine Bx Qy D 119 ?_
 refine K<|N<|CW D ?_
 intro b2 bu y B f t
 have bw:=Bg d y
 have d:=Ah d t
 refine CW D ?_
 intro H bx y B l t
 have bz:=Bg d y
 have bA:=AP f y
 have f:=Q f t
 have d:=Ah d t
 refine BQ [Ir 8] ?_
 intro C bB y B m t
 have bC:=Bg d y
 have bD:=AP f y
 have bE:=AP l y
 have f:=Q f t
 have l:=Q l t
 have d:=Ah d t
 rw[J2]at m
 refine M<|G<|K<|N<|BP FF f D<|BQ [Ir 8] ?_
 intro J bF y B c t
 have bG:=Bg d y
 have bH:=AP f y
 have bI:=AP l y
 have bJ:=AP m y
 have f:=Q f t
 have l:=Q l t
 have m:=Q m t
 have d:=Ah d t
 rw[J2]at c
 refine Bi 0 1 c D D ?_
 intro bK B bd ad
 have f:=Ag ad f (by omega)
 have l:=Ag ad l (by omega)
 have m:=Ag ad m (by omega)
 have d:=A1 d ad
 have c:=bd
 refine M<|G<|K<|K<|N<|O (v:=(E 0)) D<|M<|G<|A2<|?_
 intro a b
 refine Cb (fun av a W=>∃i,∃v:List Nat,av=64 - i∧Ao 119 a (Ja (Ja (Ja (Ja (Ja Je 2 (AB b2)) 3 (AB H)) 4 (AB C)) 5 (AB J)) 6 (E i))∧i≤64∧Jf 8 v∧b2<H∧H<C∧C<J∧w.heap.size≤b2∧Ai W b2 [CM F] 181∧Ai W H [CM ws] 196∧Ai W C [CM (List.replicate 8 0)] 181∧Ai W J [CM v] 181∧Below w.heap.size w W) _ ⟨0,_,D,At b,Nat.zero_le _,ay,by omega,by omega,by omega,by omega,f,l,m,c,d⟩ ?_
 rintro _ a bL ⟨i,v,rfl,b,bf,s,ae,af,ag,lw,f,l,m,c,d⟩
 revert a
 refine K<|K<|N<|I D<|B5 (q:=(64:Nat)) D D<|M<|G<|Bl D (fun bg=>?_) fun bg=>?_
 ·
  refine AE<|G<|K<|A2<|K<|?_
  intro a b
  refine C7 (fun W=>Ai W b2 [CM F] 181∧Ai W H [CM ws] 196∧Ai W C [CM (List.replicate 8 0)] 181∧Ai W J [CM v] 181∧Below w.heap.size w W) ?_
  intro bM B t
  have f:=Q f t
  have l:=Q l t
  have m:=Q m t
  have c:=Q c t
  have d:=Ah d t
  revert a
  refine A5 0 D (fun W x a b=>by obtain⟨f,l,m,c,d⟩:=x;exact G6 b FF (size:=1) (by kernel_rfl) D (i:=((4:Nat):Int)) D 4 (o:=4)) ⟨f,l,m,c,d⟩<|A5 1 D (fun W x a b=>by obtain⟨f,l,m,c,d⟩:=x;exact D1 b D Ev D (DN c s 4)) ⟨f,l,m,c,d⟩<|A5 3 D (fun W x a b=>by obtain⟨f,l,m,c,d⟩:=x;exact G6 b FF (size:=1) (by kernel_rfl) D (i:=((4:Nat):Int)) D 4 (o:=4)) ⟨f,l,m,c,d⟩<|A5 4 D (fun W x a b=>by obtain⟨f,l,m,c,d⟩:=x;exact D1 b D Ev D (DN c s 4)) ⟨f,l,m,c,d⟩<|A5 7 D (fun W x a b=>by obtain⟨f,l,m,c,d⟩:=x;exact G6 b FF (size:=1) (by kernel_rfl) D (i:=((4:Nat):Int)) D 4 (o:=4)) ⟨f,l,m,c,d⟩<|A5 8 D (fun W x a b=>by obtain⟨f,l,m,c,d⟩:=x;exact D1 b D Ev D (DN c s 4)) ⟨f,l,m,c,d⟩<|?_
  intro P z
  refine A8 2 5 D D ?_
  intro Aa A
  refine B0 z #[Value.int .u32 ((((v.getD 4 0):Nat):Int):Int),Value.int .u64 (((6:Nat):Int):Int)] H0 (Ic _ _ _ (s.at _)) ?_
  rintro _ _ ⟨az,aA,rfl,rfl⟩
  refine⟨_,D,?_⟩
  intro a b
  refine A _ _ ⟨f,l,m,c,d⟩ ?_;revert a
  intro P z
  refine A8 5 4 D D ?_
  intro Aa A
  refine B0 z #[Value.int .u32 ((((v.getD 4 0):Nat):Int):Int),Value.int .u64 (((11:Nat):Int):Int)] H0 (Ic _ _ _ (s.at _)) ?_
  rintro _ _ ⟨aB,aC,rfl,rfl⟩
  refine⟨_,D,?_⟩
  intro a b
  refine A _ _ ⟨f,l,m,c,d⟩ ?_;revert a
  obtain⟨ah,aD⟩:∃g:Nat,g=az^^^aB:=⟨_,D⟩
  have aE:ah<4294967296:=by rw[aD];exact Nat.xor_lt_two_pow (n:=32) aA aC
  refine A5 6 D (fun W x a b=>by obtain⟨f,l,m,c,d⟩:=x;exact Eh b (k:=.u32) (p:=((az:Nat):Int)) (q:=((aB:Nat):Int)) (r:=((ah:Nat):Int)) (.inr (.inr D)) D D (by rw[aD];exact u32_xor_nat _ _ aA aC)) ⟨f,l,m,c,d⟩<|?_
  intro P z
  refine A8 9 2 D D ?_
  intro Aa A
  refine B0 z #[Value.int .u32 ((((v.getD 4 0):Nat):Int):Int),Value.int .u64 (((25:Nat):Int):Int)] H0 (Ic _ _ _ (s.at _)) ?_
  rintro _ _ ⟨aF,aG,rfl,rfl⟩
  refine⟨_,D,?_⟩
  intro a b
  refine A _ _ ⟨f,l,m,c,d⟩ ?_;revert a
  obtain⟨R,aH⟩:∃g:Nat,g=ah^^^aF:=⟨_,D⟩
  have bN:R<4294967296:=by rw[aH];exact Nat.xor_lt_two_pow (n:=32) aE aG
  refine A5 10 D (fun W x a b=>by obtain⟨f,l,m,c,d⟩:=x;exact Eh b (k:=.u32) (p:=((ah:Nat):Int)) (q:=((aF:Nat):Int)) (r:=((R:Nat):Int)) (.inr (.inr D)) D D (by rw[aH];exact u32_xor_nat _ _ aE aG)) ⟨f,l,m,c,d⟩<|EY 11 D D ⟨f,l,m,c,d⟩<|B_<|G<|K<|N<|Dg Tryz.underlying181 1 4 4 D D<|Cg Tryz.underlying75 (DN c s 4) D<|Dg Tryz.underlying181 1 5 5 D D<|Cg Tryz.underlying75 (DN c s 5) D<|?_
  obtain⟨ai,aI⟩:∃g:Nat,g=(v.getD 4 0)&&&(v.getD 5 0):=⟨_,D⟩
  have aJ:ai<4294967296:=by rw[aI];exact Nat.lt_of_le_of_lt Nat.and_le_right (s.at _)
  refine AT (fun _ b=>Eh b (k:=.u32) (p:=(((v.getD 4 0):Nat):Int)) (q:=(((v.getD 5 0):Nat):Int)) (r:=((ai:Nat):Int)) (.inl D) D D (by rw[aI];exact u32_and_nat _ _ (s.at _) (s.at _)))<|Dg Tryz.underlying181 1 4 4 D D<|Cg Tryz.underlying75 (DN c s 4) D<|?_
  obtain⟨aw,aK⟩:∃g:Nat,g=Af.inv (v.getD 4 0):=⟨_,D⟩
  have bh:aw<4294967296:=by rw[aK];exact Af.K5 _
  refine AT (fun _ b=>aK▸OT b (p:=(v.getD 4 0)) D (s.at _))<|Dg FF 1 6 6 D D<|Cg Ev (DN c s 6) D<|?_
  obtain⟨aj,aL⟩:∃g:Nat,g=aw&&&(v.getD 6 0):=⟨_,D⟩
  have aM:aj<4294967296:=by rw[aL];exact Nat.lt_of_le_of_lt Nat.and_le_right (s.at _)
  refine AT (fun _ b=>Eh b (k:=.u32) (p:=((aw:Nat):Int)) (q:=(((v.getD 6 0):Nat):Int)) (r:=((aj:Nat):Int)) (.inl D) D D (by rw[aL];exact u32_and_nat _ _ bh (s.at _)))<|?_
  obtain⟨S,aN⟩:∃g:Nat,g=ai^^^aj:=⟨_,D⟩
  have bO:S<4294967296:=by rw[aN];exact Nat.xor_lt_two_pow (n:=32) aJ aM
  refine AT (fun _ b=>Eh b (k:=.u32) (p:=((ai:Nat):Int)) (q:=((aj:Nat):Int)) (r:=((S:Nat):Int)) (.inr (.inr D)) D D (by rw[aN];exact u32_xor_nat _ _ aJ aM))<|O D<|M<|G<|K<|?_
  intro a b
  refine Gm (by kernel_rfl) (by kernel_rfl) ?_
  intro bP B t
  have f:=Q f t
  have l:=Q l t
  have m:=Q m t
  have c:=Q c t
  have d:=Ah d t
  revert a
  refine GJ FF 1 7 7 D D<|Dw Ev (DN c s 7) D<|A3 D<|?_
  obtain⟨T,aO⟩:∃g:Nat,g=((v.getD 7 0)+R) % 4294967296:=⟨_,D⟩
  have bQ:T<4294967296:=by rw[aO];exact Nat.mod_lt _ (by decide)
  refine Cz (fun _ b=>Gz b (k:=.u32) (p:=(((v.getD 7 0):Nat):Int)) (q:=((R:Nat):Int)) (r:=((T:Nat):Int)) D D (by rw[aO];exact wrap_u32 ((v.getD 7 0)+R)))<|A3 D<|?_
  obtain⟨U,aP⟩:∃g:Nat,g=(T+S) % 4294967296:=⟨_,D⟩
  have bR:U<4294967296:=by rw[aP];exact Nat.mod_lt _ (by decide)
  refine Cz (fun _ b=>Gz b (k:=.u32) (p:=((T:Nat):Int)) (q:=((S:Nat):Int)) (r:=((U:Nat):Int)) D D (by rw[aP];exact wrap_u32 (T+S)))<|A3 D<|?_
  have bj:=(bc.below d (Be _)).SE i (by omega) (o:=i*1) (by first|rfl|omega)
  refine GJ Hr 1 i (i*1) D D<|Dw Ev bj D<|?_
  obtain⟨V,aQ⟩:∃g:Nat,g=(U+(IB.getD i 0)) % 4294967296:=⟨_,D⟩
  have bS:V<4294967296:=by rw[aQ];exact Nat.mod_lt _ (by decide)
  refine Cz (fun _ b=>Gz b (k:=.u32) (p:=((U:Nat):Int)) (q:=(((IB.getD i 0):Nat):Int)) (r:=((V:Nat):Int)) D D (by rw[aQ];exact wrap_u32 (U+(IB.getD i 0))))<|A3 D<|GJ Tryz.underlying196 1 i i D D<|Dw Tryz.underlying75 (DN l hw i) D<|?_
  obtain⟨L,aR⟩:∃g:Nat,g=(V+(ws.getD i 0)) % 4294967296:=⟨_,D⟩
  have bT:L<4294967296:=by rw[aR];exact Nat.mod_lt _ (by decide)
  refine Cz (fun _ b=>Gz b (k:=.u32) (p:=((V:Nat):Int)) (q:=(((ws.getD i 0):Nat):Int)) (r:=((L:Nat):Int)) D D (by rw[aR];exact wrap_u32 (V+(ws.getD i 0))))<|Ff D<|Er<|G<|K<|?_
  intro a b
  refine C7 (fun W=>Ai W b2 [CM F] 181∧Ai W H [CM ws] 196∧Ai W C [CM (List.replicate 8 0)] 181∧Ai W J [CM v] 181∧Below w.heap.size w W) ?_
  intro bU B t
  have f:=Q f t
  have l:=Q l t
  have m:=Q m t
  have c:=Q c t
  have d:=Ah d t
  revert a
  refine A5 0 D (fun W x a b=>by obtain⟨f,l,m,c,d⟩:=x;exact G6 b FF (size:=1) (by kernel_rfl) D (i:=((0:Nat):Int)) D 0 (o:=0)) ⟨f,l,m,c,d⟩<|A5 1 D (fun W x a b=>by obtain⟨f,l,m,c,d⟩:=x;exact D1 b D Ev D (DN c s 0)) ⟨f,l,m,c,d⟩<|A5 3 D (fun W x a b=>by obtain⟨f,l,m,c,d⟩:=x;exact G6 b FF (size:=1) (by kernel_rfl) D (i:=((0:Nat):Int)) D 0 (o:=0)) ⟨f,l,m,c,d⟩<|A5 4 D (fun W x a b=>by obtain⟨f,l,m,c,d⟩:=x;exact D1 b D Ev D (DN c s 0)) ⟨f,l,m,c,d⟩<|A5 7 D (fun W x a b=>by obtain⟨f,l,m,c,d⟩:=x;exact G6 b FF (size:=1) (by kernel_rfl) D (i:=((0:Nat):Int)) D 0 (o:=0)) ⟨f,l,m,c,d⟩<|A5 8 D (fun W x a b=>by obtain⟨f,l,m,c,d⟩:=x;exact D1 b D Ev D (DN c s 0)) ⟨f,l,m,c,d⟩<|?_
  intro P z
  refine A8 2 5 D D ?_
  intro Aa A
  refine B0 z #[Value.int .u32 ((((v.getD 0 0):Nat):Int):Int),Value.int .u64 (((2:Nat):Int):Int)] H0 (Ic _ _ _ (s.at _)) ?_
  rintro _ _ ⟨aS,aT,rfl,rfl⟩
  refine⟨_,D,?_⟩
  intro a b
  refine A _ _ ⟨f,l,m,c,d⟩ ?_;revert a
  intro P z
  refine A8 5 4 D D ?_
  intro Aa A
  refine B0 z #[Value.int .u32 ((((v.getD 0 0):Nat):Int):Int),Value.int .u64 (((13:Nat):Int):Int)] H0 (Ic _ _ _ (s.at _)) ?_
  rintro _ _ ⟨aU,aV,rfl,rfl⟩
  refine⟨_,D,?_⟩
  intro a b
  refine A _ _ ⟨f,l,m,c,d⟩ ?_;revert a
  obtain⟨ak,aW⟩:∃g:Nat,g=aS^^^aU:=⟨_,D⟩
  have aX:ak<4294967296:=by rw[aW];exact Nat.xor_lt_two_pow (n:=32) aT aV
  refine A5 6 D (fun W x a b=>by obtain⟨f,l,m,c,d⟩:=x;exact Eh b (k:=.u32) (p:=((aS:Nat):Int)) (q:=((aU:Nat):Int)) (r:=((ak:Nat):Int)) (.inr (.inr D)) D D (by rw[aW];exact u32_xor_nat _ _ aT aV)) ⟨f,l,m,c,d⟩<|?_
  intro P z
  refine A8 9 2 D D ?_
  intro Aa A
  refine B0 z #[Value.int .u32 ((((v.getD 0 0):Nat):Int):Int),Value.int .u64 (((22:Nat):Int):Int)] H0 (Ic _ _ _ (s.at _)) ?_
  rintro _ _ ⟨aY,aZ,rfl,rfl⟩
  refine⟨_,D,?_⟩
  intro a b
  refine A _ _ ⟨f,l,m,c,d⟩ ?_;revert a
  obtain⟨X,a0⟩:∃g:Nat,g=ak^^^aY:=⟨_,D⟩
  have bV:X<4294967296:=by rw[a0];exact Nat.xor_lt_two_pow (n:=32) aX aZ
  refine A5 10 D (fun W x a b=>by obtain⟨f,l,m,c,d⟩:=x;exact Eh b (k:=.u32) (p:=((ak:Nat):Int)) (q:=((aY:Nat):Int)) (r:=((X:Nat):Int)) (.inr (.inr D)) D D (by rw[a0];exact u32_xor_nat _ _ aX aZ)) ⟨f,l,m,c,d⟩<|EY 11 D D ⟨f,l,m,c,d⟩<|B_<|G<|K<|N<|Dg Tryz.underlying181 1 0 0 D D<|Cg Tryz.underlying75 (DN c s 0) D<|Dg Tryz.underlying181 1 1 1 D D<|Cg Tryz.underlying75 (DN c s 1) D<|?_
  obtain⟨al,a1⟩:∃g:Nat,g=(v.getD 0 0)&&&(v.getD 1 0):=⟨_,D⟩
  have a2:al<4294967296:=by rw[a1];exact Nat.lt_of_le_of_lt Nat.and_le_right (s.at _)
  refine AT (fun _ b=>Eh b (k:=.u32) (p:=(((v.getD 0 0):Nat):Int)) (q:=(((v.getD 1 0):Nat):Int)) (r:=((al:Nat):Int)) (.inl D) D D (by rw[a1];exact u32_and_nat _ _ (s.at _) (s.at _)))<|Dg Tryz.underlying181 1 0 0 D D<|Cg Tryz.underlying75 (DN c s 0) D<|Dg Tryz.underlying181 1 2 2 D D<|Cg Tryz.underlying75 (DN c s 2) D<|?_
  obtain⟨an,a3⟩:∃g:Nat,g=(v.getD 0 0)&&&(v.getD 2 0):=⟨_,D⟩
  have a4:an<4294967296:=by rw[a3];exact Nat.lt_of_le_of_lt Nat.and_le_right (s.at _)
  refine AT (fun _ b=>Eh b (k:=.u32) (p:=(((v.getD 0 0):Nat):Int)) (q:=(((v.getD 2 0):Nat):Int)) (r:=((an:Nat):Int)) (.inl D) D D (by rw[a3];exact u32_and_nat _ _ (s.at _) (s.at _)))<|?_
  obtain⟨ao,a5⟩:∃g:Nat,g=al^^^an:=⟨_,D⟩
  have a6:ao<4294967296:=by rw[a5];exact Nat.xor_lt_two_pow (n:=32) a2 a4
  refine AT (fun _ b=>Eh b (k:=.u32) (p:=((al:Nat):Int)) (q:=((an:Nat):Int)) (r:=((ao:Nat):Int)) (.inr (.inr D)) D D (by rw[a5];exact u32_xor_nat _ _ a2 a4))<|Dg Tryz.underlying181 1 1 1 D D<|Cg Tryz.underlying75 (DN c s 1) D<|Dg Tryz.underlying181 1 2 2 D D<|Cg Tryz.underlying75 (DN c s 2) D<|?_
  obtain⟨aq,a7⟩:∃g:Nat,g=(v.getD 1 0)&&&(v.getD 2 0):=⟨_,D⟩
  have a8:aq<4294967296:=by rw[a7];exact Nat.lt_of_le_of_lt Nat.and_le_right (s.at _)
  refine AT (fun _ b=>Eh b (k:=.u32) (p:=(((v.getD 1 0):Nat):Int)) (q:=(((v.getD 2 0):Nat):Int)) (r:=((aq:Nat):Int)) (.inl D) D D (by rw[a7];exact u32_and_nat _ _ (s.at _) (s.at _)))<|?_
  obtain⟨Y,a9⟩:∃g:Nat,g=ao^^^aq:=⟨_,D⟩
  have bW:Y<4294967296:=by rw[a9];exact Nat.xor_lt_two_pow (n:=32) a6 a8
  refine AT (fun _ b=>Eh b (k:=.u32) (p:=((ao:Nat):Int)) (q:=((aq:Nat):Int)) (r:=((Y:Nat):Int)) (.inr (.inr D)) D D (by rw[a9];exact u32_xor_nat _ _ a6 a8))<|O D<|M<|G<|N<|I D<|I D<|?_
  obtain⟨Z,a_⟩:∃g:Nat,g=(L+X) % 4294967296:=⟨_,D⟩
  have bX:Z<4294967296:=by rw[a_];exact Nat.mod_lt _ (by decide)
  refine AT (fun _ b=>Gz b (k:=.u32) (p:=((L:Nat):Int)) (q:=((X:Nat):Int)) (r:=((Z:Nat):Int)) D D (by rw[a_];exact wrap_u32 (L+X)))<|I D<|?_
  obtain⟨aa,a'⟩:∃g:Nat,g=(Z+Y) % 4294967296:=⟨_,D⟩
  have bk:aa<4294967296:=by rw[a'];exact Nat.mod_lt _ (by decide)
  refine AT (fun _ b=>Gz b (k:=.u32) (p:=((Z:Nat):Int)) (q:=((Y:Nat):Int)) (r:=((aa:Nat):Int)) D D (by rw[a'];exact wrap_u32 (Z+Y)))<|Dg Tryz.underlying181 1 0 0 D D<|Cg Tryz.underlying75 (DN c s 0) D<|Dg Tryz.underlying181 1 1 1 D D<|Cg Tryz.underlying75 (DN c s 1) D<|Dg Tryz.underlying181 1 2 2 D D<|Cg Tryz.underlying75 (DN c s 2) D<|Dg Tryz.underlying181 1 3 3 D D<|Cg Tryz.underlying75 (DN c s 3) D<|I D<|?_
  obtain⟨ab,ba⟩:∃g:Nat,g=((v.getD 3 0)+L) % 4294967296:=⟨_,D⟩
  have bl:ab<4294967296:=by rw[ba];exact Nat.mod_lt _ (by decide)
  refine AT (fun _ b=>Gz b (k:=.u32) (p:=(((v.getD 3 0):Nat):Int)) (q:=((L:Nat):Int)) (r:=((ab:Nat):Int)) D D (by rw[ba];exact wrap_u32 ((v.getD 3 0)+L)))<|Dg Tryz.underlying181 1 4 4 D D<|Cg Tryz.underlying75 (DN c s 4) D<|Dg Tryz.underlying181 1 5 5 D D<|Cg Tryz.underlying75 (DN c s 5) D<|Dg Tryz.underlying181 1 6 6 D D<|Cg Tryz.underlying75 (DN c s 6) D<|?_
  have bm:Jf 8 [aa,v.getD 0 0,v.getD 1 0,v.getD 2 0,ab,v.getD 4 0,v.getD 5 0,v.getD 6 0]:=⟨D,(List.forall_mem_cons.2 ⟨bk,(List.forall_mem_cons.2 ⟨s.at _,(List.forall_mem_cons.2 ⟨s.at _,(List.forall_mem_cons.2 ⟨s.at _,(List.forall_mem_cons.2 ⟨bl,(List.forall_mem_cons.2 ⟨s.at _,(List.forall_mem_cons.2 ⟨s.at _,(List.forall_mem_cons.2 ⟨s.at _,(fun _ h=>by cases h)⟩)⟩)⟩)⟩)⟩)⟩)⟩)⟩)⟩
  refine AT (fun _ b=>CE b (Bf:=[(0,(Value.int .u32 (((aa:Nat):Int):Int))),(1,(Value.int .u32 ((((v.getD 0 0):Nat):Int):Int))),(2,(Value.int .u32 ((((v.getD 1 0):Nat):Int):Int))),(3,(Value.int .u32 ((((v.getD 2 0):Nat):Int):Int))),(4,(Value.int .u32 (((ab:Nat):Int):Int))),(5,(Value.int .u32 ((((v.getD 4 0):Nat):Int):Int))),(6,(Value.int .u32 ((((v.getD 5 0):Nat):Int):Int))),(7,(Value.int .u32 ((((v.getD 6 0):Nat):Int):Int)))]) D (v:=Value.agg (flat [CM [aa,v.getD 0 0,v.getD 1 0,v.getD 2 0,ab,v.getD 4 0,v.getD 5 0,v.getD 6 0]])) (run_build _ _ _ _ (by kernel_rfl)))<|Bi 0 1 c D D ?_
  intro bY B bn ar
  have f:=Ag ar f (by omega)
  have l:=Ag ar l (by omega)
  have m:=Ag ar m (by omega)
  have d:=A1 d ar
  refine M<|Bq<|G<|N<|I D<|A_ (q:=1) D D<|O D<|M<|G<|?_
  intro a b
  exact⟨_,by omega,i+1,_,D,At b,by omega,bm,ae,af,ag,lw,f,l,m,bn,d⟩
 ·
  refine BO<|AW<|AW<|BN<|G<|K<|K<|N<|O (v:=(E 0)) D<|M<|G<|A2<|?_
  intro a b
  refine Cb (fun av a W=>∃i,∃v:List Nat,av=8 - i∧Ao 119 a (Ja (Ja (Ja (Ja Je 2 (AB b2)) 4 (AB C)) 5 (AB J)) 12 (E i))∧i≤8∧Jf 8 v∧b2<H∧H<C∧C<J∧w.heap.size≤b2∧Ai W b2 [CM F] 181∧Ai W H [CM ws] 196∧Ai W C [CM (List.replicate 8 0)] 181∧Ai W J [CM v] 181∧Below w.heap.size w W) _ ⟨0,_,D,At b,Nat.zero_le _,s,ae,af,ag,lw,f,l,m,c,d⟩ ?_
  rintro _ a bZ ⟨i,v,rfl,b,bf,s,ae,af,ag,lw,f,l,m,c,d⟩
  revert a
  refine K<|K<|N<|I D<|B5 (q:=(8:Nat)) D D<|M<|G<|Bl D (fun bo=>?_) fun bo=>?_
  ·
   refine AE<|G<|K<|A2<|?_
   intro a b
   refine EJ 9 ?_
   intro b0 B t
   have f:=Q f t
   have l:=Q l t
   have m:=Q m t
   have c:=Q c t
   have d:=Ah d t
   revert a
   refine A3 D<|A3 D<|GJ FF 1 i i D D<|Dw Ev (DN c s i) D<|A3 D<|GJ FF 1 i i D D<|Dw Ev (DN f ay i) D<|?_
   obtain⟨ax,bb⟩:∃g:Nat,g=((v.getD i 0)+(F.getD i 0)) % 4294967296:=⟨_,D⟩
   have bp:ax<4294967296:=by rw[bb];exact Nat.mod_lt _ (by decide)
   refine Cz (fun _ b=>Gz b (k:=.u32) (p:=(((v.getD i 0):Nat):Int)) (q:=(((F.getD i 0):Nat):Int)) (r:=((ax:Nat):Int)) D D (by rw[bb];exact wrap_u32 ((v.getD i 0)+(F.getD i 0))))<|GJ Tryz.underlying181 1 i i D D<|?_
   intro a b;refine EG ?_;revert a
   intro P z
   refine Bj D (fun Aa A=>Nv z (j:=i) D c s (by omega) (u:=ax) D (by kernel_rfl) ?_)
   intro a b1 b B bq au
   have f:=Ag au f (by omega)
   have l:=Ag au l (by omega)
   have m:=Ag au m (by omega)
   have d:=A1 d au
   have br:=s.set i bp
   refine A _ _ ?_;revert a
   refine M<|Bq<|G<|N<|I D<|A_ (q:=1) D D<|O D<|M<|G<|?_
   intro a b
   exact⟨_,by omega,i+1,_,D,At b,by omega,br,ae,af,ag,lw,f,l,m,bq,d⟩
  ·
   refine BO<|AW<|AW<|BN<|G<|K<|N<|BP FF c D<|Bi 0 1 m D D ?_
   intro b3 B bs bt
   have d:=A1 d bt
   refine M<|G<|AA<|?_
   intro a b
   refine E4 b D D bs FF D (Cf 8) ?_
   exact⟨_,s,D,d⟩
theorem SS(q:Option Addr)(n c:Nat)(l:List UInt8)(w:World)(ae:CT w)(hn:n≤1000000000)(an:View w (.slice q n c) n 1 (bv l))(ao:l.length=n):
 Calls Tryz.prog 88 #[F q n c] w fun e w'=>∃d,d.length=32∧e=.returned (.agg (flat [bv d]))∧Below w.heap.size w w':=by
 have b:Below w.heap.size w w:=Bu _ _
 refine Bx Q2 D 42 ?_
 refine K<|N<|BQ [Av 32] ?_
 intro b2 af s x f t
 have aO:=Bg b s
 have b:=Ah b t
 rw[Du]at f
 refine M<|G<|K<|N<|I D<|AS R_ D (U5 _ _ _ _ _ (by omega) (an.below b) ao) ?_
 rintro _ aP ⟨aq,ar,au,aQ,rfl,ag,S,T,ah⟩
 refine⟨_,D,?_⟩
 have av:w.heap.size≤af.heap.size:=b.size
 have aR:b2<af.heap.size:=Ar f
 have f:=Q f ah
 have b:=Ah b ah
 have aw:Z (F aq au ar) b2:=D2 ag
 have m:=CB ag av
 refine O D<|?_
 refine M<|G<|K<|N<|AT (fun _ o=>SK o D FF D Jj.row (ae.below b (Be _)).Yg (by kernel_rfl))<|BQ [Ir 8] ?_
 intro y aS s x h t
 have aT:=Bg b s
 have aU:=AP f s
 have ai:=BM m s
 have f:=Q f t
 have m:=V m t
 have b:=Ah b t
 rw[J2]at h
 refine Bi 0 1 h D D ?_
 intro aV x ax X
 have f:=Ag X f (by omega)
 have m:=Ax m X ai
 have b:=A1 b X
 have h:=ax
 refine M<|G<|K<|K<|N<|O (v:=(E 0)) D<|M<|G<|A2<|?_
 intro a o
 refine Cb (fun Y a W=>∃i U p A L,∃v:List Nat,Y=U - i∧Ao 42 a (Ja (Ja (Ja (Ja Je 2 (AB b2)) 3 (F p U A)) 4 (AB y)) 5 (E i))∧(i≤U∧i % 64=0)∧Jf 8 v∧b2<y∧w.heap.size≤b2∧U % 64=0∧U≤n+200∧Ai W b2 [bv (List.replicate 32 0)] 125∧Ai W y [CM v] 181∧W.ownsRow w.heap.size 5 1 (.slice p U A) U (bv L)∧Z (F p U A) b2∧Z (F p U A) y∧Below w.heap.size w W) _ ⟨0,_,_,_,_,_,D,At o,by omega,Jj,by omega,by omega,S,T,f,h,m,aw,ai,b⟩ ?_
 rintro _ a aW ⟨i,U,p,A,L,v,rfl,o,ay,B,H,lw,S,T,f,h,m,az,aj,b⟩
 revert a
 refine K<|K<|N<|I D<|I D<|BY Cr D<|B5 D D<|M<|G<|Bl D (fun aA=>?_) fun aA=>?_
 ·
  refine AE<|G<|K<|A2<|K<|N<|I D<|I D<|AS OK D (Vc _ _ _ i _ _ (by omega) (by omega) (View.own m) (CS m)) ?_
  rintro _ aX ⟨aY,aB,rfl,J⟩
  refine⟨_,D,?_⟩
  have f:=Q f J
  have h:=Q h J
  have m:=V m J
  have b:=Ah b J
  refine BQ [Ir 64] ?_
  intro aZ a0 s x ak t
  have a1:=Bg b s
  have a2:=AP f s
  have a3:=AP h s
  have aC:=BM m s
  have f:=Q f t
  have h:=Q h t
  have m:=V m t
  have b:=Ah b t
  rw[J2]at ak
  refine Bi 0 1 ak D D ?_
  intro a4 x aD P
  have f:=Ag P f (by omega)
  have h:=Ag P h (by omega)
  have m:=Ax m P aC
  have b:=A1 b P
  refine M<|G<|N<|BP FF h D<|BP Hr aD D<|AS Qy D (Ud _ _ _ (ae.below b (Be _)) B aB) ?_
  rintro _ a5 ⟨a6,aE,rfl,R⟩
  refine⟨_,D,?_⟩
  have f:=Q f R
  have h:=Q h R
  have m:=V m R
  have b:=Ah b R
  refine Bi 0 1 h D D ?_
  intro a7 x aF aa
  have f:=Ag aa f (by omega)
  have m:=Ax m aa aj
  have b:=A1 b aa
  refine M<|Bq<|G<|N<|I D<|A_ (q:=64) D D<|O D<|M<|G<|?_
  intro a o
  exact⟨_,by omega,i+64,U,p,A,L,_,D,At o,by omega,aE,H,lw,S,T,f,aF,m,az,aj,b⟩
 ·
  refine BO<|AW<|AW<|BN<|G<|K<|N<|BQ [Av 32] ?_
  intro ab a8 s x C t
  have a9:=Bg b s
  have a_:=AP f s
  have a':=AP h s
  have f:=Q f t
  have h:=Q h t
  have b:=Ah b t
  rw[Du]at C
  refine M<|G<|K<|K<|N<|O (v:=(E 0)) D<|M<|G<|A2<|?_
  intro a o
  refine Cb (fun Y a W=>∃i,∃d:List UInt8,∃v:List Nat,Y=32 - i∧Ao 42 a (Ja (Ja (Ja (Ja Je 2 (AB b2)) 4 (AB y)) 7 (AB ab)) 8 (E i))∧i≤32∧Jf 8 v∧b2<y∧y<ab∧w.heap.size≤b2∧d.length=32∧Ai W b2 [bv (List.replicate 32 0)] 125∧Ai W y [CM v] 181∧Ai W ab [bv d] 125∧Below w.heap.size w W) _ ⟨0,_,_,D,At o,Nat.zero_le _,B,H,by omega,lw,List.length_replicate,f,h,C,b⟩ ?_
  rintro _ a ba ⟨i,d,v,rfl,o,ay,B,H,aG,lw,Ab,f,h,C,b⟩
  revert a
  refine K<|K<|N<|I D<|B5 (q:=(32:Nat)) D D<|M<|G<|Bl D (fun aH=>?_) fun aH=>?_
  ·
   refine AE<|G<|K<|A2<|N<|I D<|I D<|FK (q:=4) D D<|Dg FF 1 (i/4) (i/4) D D<|Cg Ev (DN h B (i/4)) D<|I D<|EM (q:=4) D D<|FT (p:=8) D D<|E' (p:=24) D D<|AT (fun _ o=>C3 o (p:=((24 - (8*(i % 4)):Nat):Int)) (r:=((24 - (8*(i % 4)):Nat):Int)) D AH Iz (HY (24 - (8*(i % 4)))))<|?_
   obtain⟨z,al⟩:∃g:Nat,g=(v.getD (i/4) 0)/2^(24 - (8*(i % 4))):=⟨_,D⟩
   have bb:z<4294967296:=by rw[al];exact Nat.lt_of_le_of_lt (Nat.div_le_self _ _) (B.at _)
   refine AT (fun _ o=>HQ o (k:=.u32) (p:=(v.getD (i/4) 0)) (n:=24 - (8*(i % 4))) (r:=z) D D (by simp only[IntKind.bits];omega) al.symm)<|AT (fun _ o=>C3 o (p:=(((z:Nat):Int):Int)) (r:=(((UInt8.ofNat z).toNat:Nat):Int)) D Tryz.underlying75 Tryz.underlying5 (Fw z))<|Dg Tryz.underlying125 1 i i D D<|?_
   intro bc aI
   refine Bj D (fun Aa aJ=>Ni aI (j:=i) D C Ab (by omega) (u:=(UInt8.ofNat z)) D (by kernel_rfl) ?_)
   intro a bd o x aK ad
   have f:=Ag ad f (by omega)
   have h:=Ag ad h (by omega)
   have b:=A1 b ad
   have aL:(d.set i (UInt8.ofNat z)).length=32:=(by rw[List.length_set];exact Ab)
   refine aJ _ _ ?_;revert a
   refine M<|Bq<|G<|N<|I D<|A_ (q:=1) D D<|O D<|M<|G<|?_
   intro a o
   exact⟨_,by omega,i+1,_,_,D,At o,by omega,B,H,aG,lw,aL,f,h,aK,b⟩
  ·
   refine BO<|AW<|AW<|BN<|G<|K<|N<|BP BZ C D<|Bi 0 1 f D D ?_
   intro bf x aM aN
   have b:=A1 b aN
   refine M<|G<|AA<|?_
   intro a o
   refine E4 o D D aM BZ D (Ok 32 (Jb.row (Jh Ab) Jb.nil)) ?_
   exact⟨_,Ab,D,b⟩
theorem Pg(d0:List UInt8)(z:Int)(w:World)(p:d0.length=32):
 Calls Tryz.prog 89 #[Value.agg (flat [bv d0]),Value.int .i64 (z:Int)] w fun e w'=>∃d,d.length=32∧e=.returned (.agg (flat [bv d]))∧Below w.heap.size w w':=by
 have b:Below w.heap.size w w:=Bu _ _
 refine Bx OC D 16 ?_
 refine K<|N<|CW D ?_
 intro b2 H h l f k
 have J:=Bg b h
 have b:=Ah b k
 refine BQ [Av 32] ?_
 intro m L h l g k
 have P:=Bg b h
 have R:=AP f h
 have f:=Q f k
 have b:=Ah b k
 rw[Du]at g
 refine M<|G<|K<|K<|N<|O (v:=(E 0)) D<|M<|G<|A2<|?_
 intro a c
 refine Cb (fun r a W=>∃i,∃d:List UInt8,r=32 - i∧Ao 16 a (Ja (Ja (Ja (Ja Je 1 (Value.int .i64 (z:Int))) 2 (AB b2)) 4 (AB m)) 5 (E i))∧i≤32∧d.length=32∧b2<m∧w.heap.size≤b2∧Ai W b2 [bv d] 125∧Ai W m [bv (List.replicate 32 0)] 125∧Below w.heap.size w W) _ ⟨0,_,D,At c,Nat.zero_le _,p,by omega,by omega,f,g,b⟩ ?_
 rintro _ a S ⟨i,d,rfl,c,T,Ab,n,lw,f,g,b⟩
 revert a
 refine K<|K<|N<|I D<|B5 (q:=(32:Nat)) D D<|M<|G<|Bl D (fun s=>?_) fun s=>?_
 ·
  refine AE<|G<|K<|A2<|K<|N<|I D<|I D<|JT D D<|M<|G<|Bl D (fun t=>?_) fun t=>?_
  ·
   refine N<|I D<|Dg BZ 1 i i D D<|?_
   intro U x
   refine Bj D (fun Aa y=>Ni x (j:=i) D f Ab (by omega) (u:=0) D (by kernel_rfl) ?_)
   intro a V c l A o
   have g:=Ag o g (by omega)
   have b:=A1 b o
   have B:(d.set i 0).length=32:=(by rw[List.length_set];exact Ab)
   refine y _ _ ?_;revert a
   refine M<|Bq<|G<|N<|I D<|A_ (q:=1) D D<|O D<|M<|G<|?_
   intro a c
   exact⟨_,by omega,i+1,_,D,At c,by omega,B,n,lw,A,g,b⟩
  ·
   refine AE<|Bq<|G<|N<|I D<|A_ (q:=1) D D<|O D<|M<|G<|?_
   intro a c
   exact⟨_,by omega,i+1,_,D,At c,by omega,Ab,n,lw,f,g,b⟩
 ·
  refine BO<|AW<|AW<|BN<|G<|K<|N<|BP BZ f D<|Bi 0 1 g D D ?_
  intro X l C F
  have b:=A1 b F
  refine M<|G<|AA<|?_
  intro a c
  refine E4 c D D C BZ D (Ok 32 (Jb.row (Jh Ab) Jb.nil)) ?_
  exact⟨_,Ab,D,b⟩
end Go.Proofs.YtcdaflcjhimimaaGreatDoor
namespace Go.Proofs.YtcdaflcjhimimaaGreatDoor
open Go.RowKit
variable {x:Operand} {o:Oper}
theorem C'.Pd{w W BT:World}{v BL:Value}(h:C' w W v BL)(a:Below W.heap.size W BT):C' w BT v BL:=by
 have c:=h.ai.size
 exact⟨⟨a.os.trans h.ai.os,a.tape.trans h.ai.tape,a.output.trans h.ai.output,Bs c a.size,fun i d e=>(a.block i (by omega)).trans (h.ai.block i d e)⟩,h.at_⟩
theorem FX{P:Program}{x:Code}{Ac:Exit→Act→World→Prop}{a:Act}{w:World}(b:Act→World→Prop)(h:x.wp P (Exit.then b Ac) a w)(c:∀a w,b a w→Ac .normal a w):x.wp P Ac a w:=
 wp_mono h (fun e a w q=>by
  cases e with
  |normal=>exact c a w q
  |_=>exact q)
theorem T{q:Option Addr}{n a c c' b:Nat}(h:∀k,(Value.slice q n c).ownBlock=some k→k≠b):∀k,(Value.slice q a c').ownBlock=some k→k≠b:=by cases q<;>exact h
structure M_ (w:World) (ay:Value) (q:Option Addr) (n c size:Nat) (xs:List Value):Prop where
 v:View w (.slice q n c) n size xs
 ne:∀k,ay.ownBlock=some k→∀a,q=some a→a.block≠k
theorem M_.below{w W:World}{d BL:Value}{q:Option Addr}{n c size:Nat}{xs:List Value}(h:M_ w d q n c size xs)(f:C' w W d BL):View W (.slice q n c) n size xs:=by
 refine⟨h.v.1,?_⟩
 rcases h.v.2 with z|⟨b,off,cap,a,i,j,k,g,l⟩
 ·exact .inl z
 ·refine .inr ⟨b,off,cap,a,i,j,k,Nat.lt_of_lt_of_le g f.ai.size,?_⟩
  simp only[Value.slice.injEq]at a
  exact l.FR (f.ai.block b g (fun e=>h.ne b e.symm _ a.1 D))
section
variable {P:Program} {w w':World} {ops:Array Oper} {rest:List Oper} {a:Act} {Ac:Exit→Act→World→Prop} {U:Nat} {f:Db} {d:Nat} {ty:TypeId} {pos:String} {AF:Array Edge} {dst:Option Tmp} {g:Option (Nat×Bool)} {Aa:Act→World→Prop}
theorem N6(j:Ao U a f)(Ab:Nat.blt d U=true){t e:TypeId}{size bytes:Nat}{z:Value}(i:CN P t e size bytes z){v:Value}(l:Au f x=some v){cs:Array Value}(m:v.cells=cs)(b:cs.size=size)(n:size≤16777216)(base:Nat)(o:base≤w.heap.size)
 (h:∀c p W,Ao U c (Ja f d (.slice p 1 1))→W.heap.size=w.heap.size+1→W.ownsRow base e size (.slice p 1 1) 1 cs.toList→(∀k,(Value.slice p 1 1).ownBlock=some k→w.heap.size≤k)→Below w.heap.size w W→Aa c W):DP P ⟨some d,.buildSlice t 1 #[(0,x)],ty,pos,AF,g⟩ a w Aa Ac:=by
 subst m
 refine DI (v:=.slice (some ⟨w.heap.size,0,none⟩) 1 1) (w':=w.alloc (.cells v.cells e)) j Ab ?_ (fun c q=>h c _ _ q (by simp) ⟨by simpa using b,.inr ⟨w.heap.size,1,v.cells,D,o,heap_alloc_new w _,Be _,by decide,by simpa using b,?_⟩⟩ (fun k i=>by simp[Value.ownBlock]at i;omega) ((Bu _ _).alloc (Be _) _))
 ·have:(#[(0,x)]:Array (Nat×Operand)).map (fun p=>(p.1,a.eval p.2))=#[(0,v)]:=by simp[j.CL l]
  simp only[execOp,Sem.run_bind,Sem.run_pure,this,Sz i v b n w,Result.andThen_ok]
 ·rw[List.take_of_length_le (by simp[b])]
theorem H_(m:Ao U a f){t d e:TypeId}{z:Value}(i:CN P t e 1 1 z)(he:P.underlying e=some (.int .u8))(Ab:P.underlying d=some .string){y:Option Addr}{n c:Nat}{l:List UInt8}(o:Au f x=some (.slice y n c))(p:View w (.slice y n c) n 1 (bv l))(k:l.length=n):
 Cy P a w ⟨dst,.convert t d x,ty,pos,AF,g⟩ (.string ⟨l.toArray⟩) w:=by
 show(execOp a.eval _).run P w=_
 have q:(convert t d (.slice y n c)).run P w=.ok (.string ⟨l.toArray⟩) w:=by
  rcases p.2 with⟨h,r,s⟩|⟨b,off,cap,h,r,s,B,C,u⟩
  ·simp only[Value.slice.injEq]at h
   obtain⟨rfl,rfl,rfl⟩:=h
   obtain rfl:l=[]:=List.length_eq_zero_iff.1 k
   rw[run_convert_bytes_nil w t e i.ZJ he 0 0 d Ab]
   rfl
  ·simp only[Value.slice.injEq]at h
   obtain⟨rfl, -,rfl⟩:=h
   subst k
   exact run_convert_bytes_back w t d e ⟨b,off,none⟩ c l i.ZJ he Ab (fun j A=>by
    rw[GO]
    exact u j (.int .u8 (l[j].toNat:Nat)) (by simp[bv,A]))
 simp[execOp,m.CL o,q]
theorem UR(t:TypeId)(l m:List UInt8)(w:World):(binOp .eql t (.string ⟨l.toArray⟩) (.string ⟨m.toArray⟩)).run P w=.ok (.bool (decide (l=m))) w:=by
 by_cases e:l=m
 ·subst e;simp[binOp,Op.stringOp]
 ·simp[binOp,Op.stringOp,e]
theorem VL(t:TypeId)(l m:List UInt8)(w:World):(binOp .neq t (.string ⟨l.toArray⟩) (.string ⟨m.toArray⟩)).run P w=.ok (.bool (!decide (l=m))) w:=by
 by_cases e:l=m
 ·subst e;simp[binOp,Op.stringOp]
 ·simp[binOp,Op.stringOp,e]
theorem J8(b:Ao U a f){Az c:TypeId}{y:Operand}{l m:List UInt8}(d:Au f x=some (.string ⟨l.toArray⟩))(e:Au f y=some (.string ⟨m.toArray⟩))(r:Bool)(h:decide (l=m)=r):Cy P a w ⟨dst,.binOp .eql Az x y c,ty,pos,AF,g⟩ (.bool r) w:=by
 subst h
 exact EH b d e (by simp[eqGuard]) (UR _ _ _ _)
theorem Xd(b:Ao U a f){Az c:TypeId}{y:Operand}{l m:List UInt8}(d:Au f x=some (.string ⟨l.toArray⟩))(e:Au f y=some (.string ⟨m.toArray⟩))(r:Bool)(h:(!decide (l=m))=r):Cy P a w ⟨dst,.binOp .neq Az x y c,ty,pos,AF,g⟩ (.bool r) w:=by
 subst h
 exact EH b d e (by simp[eqGuard]) (VL _ _ _ _)
theorem I0{j:Nat}{t:Bool}(b:o.guard=some (j,t)){CX:Oper}(c:ops[j]? =some CX){k:Nat}(d:CX.dst=some k)(e:Ao U a f)(g:f k=some (.bool t)):Region.wanted o (yielded ops a.tmps)=true:=by
 have:=JV (e.h k _ g)
 simp[Region.wanted,b,yielded,c,d,this]
theorem Xt{j:Nat}{t:Bool}(b:o.guard=some (j,!t)){CX:Oper}(c:ops[j]? =some CX){k:Nat}(d:CX.dst=some k)(e:Ao U a f)(g:f k=some (.bool t)):Region.wanted o (yielded ops a.tmps)=false:=by
 have:=JV (e.h k _ g)
 cases t<;>simp[Region.wanted,b,yielded,c,d,this]
theorem TT{A4:World→Prop}{op:Op}{v:Value}{i fuel B3:Nat}{listed:Array Bool}(e:Ao U a f)(Ab:Nat.blt d U=true)(j:ops[i]? =some ⟨some d,op,ty,pos,AF,g⟩)(hw:Region.wanted ⟨some d,op,ty,pos,AF,g⟩ (yielded ops a.tmps)=true)(k:B3=fuel+1)(l:Region.noSelect ops=true)(m:Region.free .any ops listed i=true)(n:(Region.ready .any ops listed).contains i=true)
 (o:∀c (a:Act) w,Ac (.panic c) (a.put (some d) v) w→Ac (.panic c) a w)(p:∀W,A4 W→Cy P a W ⟨some d,op,ty,pos,AF,g⟩ v W)(q:A4 w)
 (h:∀b,Ao U b (Ja f d v)→wpAnyH P .any ops Ac A4 fuel (listed.setIfInBounds i true) b w):wpAnyH P .any ops Ac A4 B3 listed a w:=by
 subst k
 exact wpAnyH_take j l m n o (.inl ⟨hw,p⟩) q (h _ (e.put Ab v))
theorem Y_{A4:World→Prop}{i fuel B3:Nat}{listed:Array Bool}(g:Ao U a f)(b:o.dst=some d)(Ab:Nat.blt d U=true)(j:ops[i]? =some o)(hw:Region.wanted o (yielded ops a.tmps)=false)(k:B3=fuel+1)(l:Region.noSelect ops=true)(m:Region.free .any ops listed i=true)(n:(Region.ready .any ops listed).contains i=true)
 (p:∀c (a:Act) w,Ac (.panic c) (a.put (some d) undef) w→Ac (.panic c) a w)(q:A4 w)
 (h:∀e,Ao U e (Ja f d undef)→wpAnyH P .any ops Ac A4 fuel (listed.setIfInBounds i true) e w):wpAnyH P .any ops Ac A4 B3 listed a w:=by
 subst k
 refine wpAnyH_take j l m n (v:=undef) (by rw[b];exact p) (.inr ⟨hw,D⟩) q ?_
 rw[b]
 exact h _ (g.put Ab undef)
theorem JU{A4:World→Prop}{i fuel B3:Nat}{listed:Array Bool}(b:ops[i]? =some o)(hw:Region.wanted o (yielded ops a.tmps)=true)(c:B3=fuel+1)(d:Region.ready .any ops listed=[i])
 (h:∀Aa:Act→World→Prop,(∀a w,A4 w→wpAnyH P .any ops Ac A4 fuel (listed.setIfInBounds i true) a w→Aa a w)→DP P o a w Aa Ac):wpAnyH P .any ops Ac A4 B3 listed a w:=by
 subst c
 refine wpAnyH_ready d (by simp) (AllReadyH.cons b (fun Aa e=>?_) AllReadyH.nil)
 rw[if_pos hw]
 exact(h Aa (fun a w f hw=>e.out a w f (fun _=>hw))).out
end
end Go.Proofs.YtcdaflcjhimimaaGreatDoor
