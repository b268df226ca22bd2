/- Laws and walks on the road to SalvageClean (part M30). No conditions beyond each law's own. -/
import Derived.Test.YtaapafoibofbjaaGreatDoorM01
import Derived.Test.YtaapafoibofbjaaGreatDoorM29
import Derived.Test.YtaapafoibofbjaaGreatDoorM07
import Derived.Test.YtaapafoibofbjaaGreatDoorM09
set_option linter.unusedVariables false
namespace Go.Proofs.YtaapafoibofbjaaGreatDoor
open Go.RowKit
set_option maxRecDepth 100000
set_option maxHeartbeats 1000000
theorem JY(x n:Nat)(w:World)(o:x<4294967296)(s:n≤32:=by omega):
 Calls Tryz.prog 187 #[Value.int .u32 (((x:Nat):Int):Int),Value.int .u64 (((n:Nat):Int):Int)] w fun e w'=>∃r:Nat,r<4294967296∧e=.returned (.int .u32 ((r:Nat):Int))∧w=w':=by
 refine DZ Iz D 13 ?_
 refine Ao<|AD<|AV (v:=(Value.int .u32 (((0:Nat):Int):Int))) D<|Aw<|Ai<|Ao<|AD<|Az D<|Az D<|?_
 obtain⟨b,f⟩:∃g:Nat,g=x/2^n:=⟨_,D⟩
 have h:b<4294967296:=by rw[f];exact Nat.lt_of_le_of_lt (Nat.div_le_self _ _) (by first|assumption|omega)
 refine Cc (fun _ a=>IG a (k:=.u32) (p:=x) (n:=n) (r:=b) D D (by simp only[IntKind.bits];omega) f.symm)<|Az D<|Az D<|Cc (fun _ a=>Yx a (k:=.u64) (p:=((32:Nat):Int)) (q:=((n:Nat):Int)) (r:=((32 - n:Nat):Int)) D D (XR 32 n (by omega) (by omega)))<|?_
 obtain⟨c,i⟩:∃g:Nat,g=(x*2^(32 - n)) % 4294967296:=⟨_,D⟩
 have j:c<4294967296:=by rw[i];exact Nat.mod_lt _ (by decide)
 refine Cc (fun _ a=>Kc a (k:=.u32) (p:=x) (n:=32 - n) (r:=((c:Nat):Int)) D D (by simp only[IntKind.bits];omega) (by rw[i];exact wrap_u32 _))<|?_
 obtain⟨d,l⟩:∃g:Nat,g=b|||c:=⟨_,D⟩
 have m:d<4294967296:=by rw[l];exact Nat.or_lt_two_pow (n:=32) h j
 refine Cc (fun _ a=>D6 a (k:=.u32) (p:=((b:Nat):Int)) (q:=((c:Nat):Int)) (r:=((d:Nat):Int)) (.inr (.inl D)) D D (by rw[l];exact u32_or_nat _ _ h j))<|AV D<|Aw<|Ai<|C0<|EE D<|?_
 exact⟨d,m,D,D⟩
theorem b4(q:Option Addr)(n c:Nat)(l:List UInt8)(w:World)(U:n≤1000000000)(V:View w (.slice q n c) n 1 (bv l))(hl:l.length=n):
 Calls Tryz.prog 164 #[I q n c] w fun e w'=>∃p k N L,e=.returned (.slice p N k)∧w'.ownsRow w.heap.size 5 1 (.slice p N k) N (bv L)∧N % 64=0∧N≤n+200∧Below w.heap.size w w':=by
 have b:Below w.heap.size w w:=Cn _ _
 refine DZ Zf D 38 ?_
 refine Ao<|AD<|AV D<|Aw<|Ai<|Ao<|AD<|AV D<|?_
 have own:w.ownsRow w.heap.size 5 1 (.slice none 0 0) 0 (bv []):=World.ownsRow_nil _ _ _ _
 refine Aw<|Ai<|Ao<|AD<|Az D<|Az D<|?_
 intro t h
 refine Cp D (fun K j=>Gn h A3 own V (Eo _) b.size (0+n) (zs:=bv ([]++l)) (by rw[Nat.mul_one,List.take_of_length_le (by rw[DG];exact Nat.le_of_eq hl),Mu]) ?_)
 intro a X Y Z d f B
 have b:=F' b B own
 refine j _ _ ?_;revert a
 refine AV D<|Aw<|Ai<|Ao<|AD<|Az D<|K2 A3 D (cs:=#[Value.int .u8 (((128:Nat):Int):Int)]) D D ?_
 intro aa y v6 J
 have f:=EN f J
 have b:=BG b J
 intro t h
 refine Cp D (fun K j=>Gn h A3 f v6 (by simp[Value.oneCell']) b.size ((0+n)+1) (zs:=bv ([]++l++[128])) (by simp[bv]) ?_)
 intro a ab ad ae d C F
 have b:=F' b F f
 have f:=C
 refine j _ _ ?_;revert a
 refine AV D<|Aw<|Ai<|Ao<|B'<|?_
 intro a d
 refine Ec (fun u a W=>∃k p o L,u=(120 - k % 64) % 64∧AH 38 a (Jb (Jb Jk 0 (I q n c)) 3 (I p k o))∧n+1≤k∧k+(120 - k % 64) % 64≤n+64∧W.ownsRow w.heap.size 5 1 (.slice p k o) k (bv L)∧Below w.heap.size w W) _ ⟨_,_,_,_,D,AY d,by omega,by omega,f,b⟩ ?_
 rintro _ a af ⟨k,p,o,L,rfl,d,ag,ah,f,b⟩
 revert a
 refine Ao<|Ao<|AD<|Az D<|HT Co D<|Mz (q:=64) D D<|Rq (q:=(56:Nat)) D D<|Aw<|Ai<|OM D (fun G=>?_) fun G=>?_
 ·
  refine CA<|Ai<|B'<|AD<|Az D<|K2 A3 D (cs:=#[Value.int .u8 (((0:Nat):Int):Int)]) D D ?_
  intro ai y H J
  have f:=EN f J
  have b:=BG b J
  intro t h
  refine Cp D (fun K j=>Gn h A3 f H (by simp[Value.oneCell']) b.size (k+1) (zs:=bv (L++[0])) (by simp[bv]) ?_)
  intro a aj ak al d M O
  have b:=F' b O f
  refine j _ _ ?_;revert a
  refine AV D<|Aw<|DN<|Ai<|?_
  intro a d
  exact⟨_,by omega,k+1,_,_,_,D,AY d,by omega,by omega,M,b⟩
 ·
  refine Dv<|BY<|BY<|Ds<|Ai<|Ao<|AD<|Az D<|HT Co D<|Cc (fun _ d=>Ex d (p:=((n:Nat):Int)) (r:=((n:Nat):Int)) D AF N2 (JB n))<|?_
  obtain⟨x,z⟩:∃g:Nat,g=(n*8) % 18446744073709551616:=⟨_,D⟩
  have P:x<18446744073709551616:=by rw[z];exact Nat.mod_lt _ (by decide)
  refine Cc (fun _ d=>YM d (k:=.u64) (p:=((n:Nat):Int)) (q:=((8:Nat):Int)) (r:=((x:Nat):Int)) D D (by rw[z,←wrap_u64];simp))<|AV D<|Aw<|?_
  have an:=P;generalize x=m at*
  refine Ai<|Ao<|Ao<|AD<|AV (v:=(E 0)) D<|Aw<|Ai<|B'<|?_
  intro a d
  refine Ec (fun u a W=>∃i p o L,u=8 - i∧AH 38 a (Jb (Jb (Jb Jk 3 (I p (k+i) o)) 4 (Value.int .u64 (((m:Nat):Int):Int))) 5 (E i))∧i≤8∧W.ownsRow w.heap.size 5 1 (.slice p (k+i) o) (k+i) (bv L)∧Below w.heap.size w W) _ ⟨0,_,_,_,D,AY d,Nat.zero_le _,f,b⟩ ?_
  rintro _ a ao ⟨i,p,o,L,rfl,d,aq,f,b⟩
  revert a
  refine Ao<|Ao<|AD<|Az D<|D_ (q:=(8:Nat)) D D<|Aw<|Ai<|DU D (fun Q=>?_) fun Q=>?_
  ·
   refine CA<|Ai<|Ao<|B'<|AD<|Az D<|Az D<|Az D<|Nv (p:=8) D D<|Rv (p:=56) D D<|Cc (fun _ d=>Ex d (p:=((56 - (8*i):Nat):Int)) (r:=((56 - (8*i):Nat):Int)) D AF Kp (JB (56 - (8*i))))<|?_
   obtain⟨s,A⟩:∃g:Nat,g=m/2^(56 - (8*i)):=⟨_,D⟩
   have ar:s<18446744073709551616:=by rw[A];exact Nat.lt_of_le_of_lt (Nat.div_le_self _ _) (by first|assumption|omega)
   refine Cc (fun _ d=>IG d (k:=.u64) (p:=m) (n:=56 - (8*i)) (r:=s) D D (by simp only[IntKind.bits];omega) A.symm)<|Cc (fun _ d=>Ex d (p:=(((s:Nat):Int):Int)) (r:=(((UInt8.ofNat s).toNat:Nat):Int)) D Tryz.underlying307 Tryz.underlying5 (H5 s))<|K2 A3 D (cs:=#[Value.int .u8 ((((UInt8.ofNat s).toNat:Nat):Int):Int)]) D D ?_
   intro au y R J
   have f:=EN f J
   have b:=BG b J
   intro t h
   refine Cp D (fun K j=>Gn h A3 f R (by simp[Value.oneCell']) b.size ((k+i)+1) (zs:=bv (L++[UInt8.ofNat s])) (by simp[bv]) ?_)
   intro a av aw ax d S T
   have b:=F' b T f
   refine j _ _ ?_;revert a
   refine AV D<|Aw<|DN<|Ai<|AD<|Az D<|Dz (q:=1) D D<|AV D<|Aw<|Ai<|?_
   intro a d
   exact⟨_,by omega,i+1,_,_,_,D,AY d,by omega,S,b⟩
  ·
   obtain rfl:i=8:=by omega
   refine Dv<|BY<|BY<|Ds<|Ai<|Ao<|AD<|Az D<|AV D<|Aw<|Ai<|C0<|EE D<|?_
   exact⟨_,_,_,_,D,f,by omega,by omega,b⟩
theorem ZG(q:Option Addr)(n c at_:Nat)(l:List UInt8)(w:World)(a5:n≤2000000000)(a6:at_+64≤n)(V:View w (.slice q n c) n 1 (bv l))(hl:l.length=n):
 Calls Tryz.prog 165 #[I q n c,E at_] w fun e w'=>∃xs,Jm 64 xs∧e=.returned (.agg (flat [Da xs]))∧Below w.heap.size w w':=by
 have b:Below w.heap.size w w:=Cn _ _
 refine DZ T1 D 104 ?_
 refine Ao<|AD<|D4 [I8 64] ?_
 intro y a7 M z h J
 have a8:=C8 b M
 have b:=BG b J
 rw[MU]at h
 refine Aw<|Ai<|Ao<|AD<|D4 [I8 64] ?_
 intro A a9 M z f J
 have a_:=C8 b M
 have a':=C6 h M
 have h:=Bl h J
 have b:=BG b J
 rw[MU]at f
 refine Aw<|Ai<|Ao<|Ao<|AD<|AV (v:=(E 0)) D<|Aw<|Ai<|B'<|?_
 intro a d
 refine Ec (fun aa a W=>∃i,∃xs:List Nat,aa=16 - i∧AH 104 a (Jb (Jb (Jb (Jb (Jb Jk 0 (I q n c)) 1 (E at_)) 4 (S y)) 5 (S A)) 6 (E i))∧i≤16∧Jm 64 xs∧y<A∧w.heap.size≤y∧CY W y [Da (List.replicate 64 0)] 292∧CY W A [Da xs] 292∧Below w.heap.size w W) _ ⟨0,_,D,AY d,Nat.zero_le _,Jm.zero 64,by omega,by omega,h,f,b⟩ ?_
 rintro _ a ba ⟨i,xs,rfl,d,aQ,s,N,lw,h,f,b⟩
 revert a
 refine Ao<|Ao<|AD<|Az D<|D_ (q:=(16:Nat)) D D<|Aw<|Ai<|DU D (fun aR=>?_) fun aR=>?_
 ·
  refine CA<|Ai<|Ao<|B'<|Ao<|AD<|Az D<|Az D<|Nv (p:=4) D D<|Dz D D<|AV D<|Aw<|Ai<|?_
  intro a d
  refine Mf 31 ?_
  intro bb z J
  have h:=Bl h J
  have f:=Bl f J
  have b:=BG b J
  revert a
  refine D7 D<|D7 D<|D7 D<|?_
  obtain⟨bc,B,rfl⟩:=IW (V.below b)
  have aS:=GH (V.below b) (at_+(4*i)) (o:=B+(at_+(4*i))*1)
  refine M3 A3 (at_+(4*i)) (B+(at_+(4*i))*1) D D<|H3 BV aS D<|Fs (fun _ d=>Ex d (p:=((((l.getD (at_+(4*i)) 0).toNat:Nat):Int):Int)) (r:=(((l.getD (at_+(4*i)) 0).toNat:Nat):Int)) D BV CI (JC ((l.getD (at_+(4*i)) 0).toNat) (At.Lq _)))<|?_
  obtain⟨O,ae⟩:∃g:Nat,g=(((l.getD (at_+(4*i)) 0).toNat)*2^24) % 4294967296:=⟨_,D⟩
  have af:O<4294967296:=by rw[ae];exact Nat.mod_lt _ (by decide)
  refine Fs (fun _ d=>Kc d (k:=.u32) (p:=(l.getD (at_+(4*i)) 0).toNat) (n:=24) (r:=((O:Nat):Int)) D D (by simp only[IntKind.bits];omega) (by rw[ae];exact wrap_u32 _))<|D7 D<|D7 D<|OE (q:=1) D D<|?_
  have aT:=GH (V.below b) ((at_+(4*i))+1) (o:=B+((at_+(4*i))+1)*1)
  refine M3 A3 ((at_+(4*i))+1) (B+((at_+(4*i))+1)*1) D D<|H3 BV aT D<|Fs (fun _ d=>Ex d (p:=((((l.getD ((at_+(4*i))+1) 0).toNat:Nat):Int):Int)) (r:=(((l.getD ((at_+(4*i))+1) 0).toNat:Nat):Int)) D BV CI (JC ((l.getD ((at_+(4*i))+1) 0).toNat) (At.Lq _)))<|?_
  obtain⟨P,ag⟩:∃g:Nat,g=(((l.getD ((at_+(4*i))+1) 0).toNat)*2^16) % 4294967296:=⟨_,D⟩
  have ah:P<4294967296:=by rw[ag];exact Nat.mod_lt _ (by decide)
  refine Fs (fun _ d=>Kc d (k:=.u32) (p:=(l.getD ((at_+(4*i))+1) 0).toNat) (n:=16) (r:=((P:Nat):Int)) D D (by simp only[IntKind.bits];omega) (by rw[ag];exact wrap_u32 _))<|?_
  obtain⟨Q,ai⟩:∃g:Nat,g=O|||P:=⟨_,D⟩
  have aj:Q<4294967296:=by rw[ai];exact Nat.or_lt_two_pow (n:=32) af ah
  refine Fs (fun _ d=>D6 d (k:=.u32) (p:=((O:Nat):Int)) (q:=((P:Nat):Int)) (r:=((Q:Nat):Int)) (.inr (.inl D)) D D (by rw[ai];exact u32_or_nat _ _ af ah))<|D7 D<|D7 D<|OE (q:=2) D D<|?_
  have aU:=GH (V.below b) ((at_+(4*i))+2) (o:=B+((at_+(4*i))+2)*1)
  refine M3 A3 ((at_+(4*i))+2) (B+((at_+(4*i))+2)*1) D D<|H3 BV aU D<|Fs (fun _ d=>Ex d (p:=((((l.getD ((at_+(4*i))+2) 0).toNat:Nat):Int):Int)) (r:=(((l.getD ((at_+(4*i))+2) 0).toNat:Nat):Int)) D BV CI (JC ((l.getD ((at_+(4*i))+2) 0).toNat) (At.Lq _)))<|?_
  obtain⟨R,ak⟩:∃g:Nat,g=(((l.getD ((at_+(4*i))+2) 0).toNat)*2^8) % 4294967296:=⟨_,D⟩
  have al:R<4294967296:=by rw[ak];exact Nat.mod_lt _ (by decide)
  refine Fs (fun _ d=>Kc d (k:=.u32) (p:=(l.getD ((at_+(4*i))+2) 0).toNat) (n:=8) (r:=((R:Nat):Int)) D D (by simp only[IntKind.bits];omega) (by rw[ak];exact wrap_u32 _))<|?_
  obtain⟨T,an⟩:∃g:Nat,g=Q|||R:=⟨_,D⟩
  have ao:T<4294967296:=by rw[an];exact Nat.or_lt_two_pow (n:=32) aj al
  refine Fs (fun _ d=>D6 d (k:=.u32) (p:=((Q:Nat):Int)) (q:=((R:Nat):Int)) (r:=((T:Nat):Int)) (.inr (.inl D)) D D (by rw[an];exact u32_or_nat _ _ aj al))<|D7 D<|D7 D<|OE (q:=3) D D<|?_
  have aV:=GH (V.below b) ((at_+(4*i))+3) (o:=B+((at_+(4*i))+3)*1)
  refine M3 A3 ((at_+(4*i))+3) (B+((at_+(4*i))+3)*1) D D<|H3 BV aV D<|Fs (fun _ d=>Ex d (p:=((((l.getD ((at_+(4*i))+3) 0).toNat:Nat):Int):Int)) (r:=(((l.getD ((at_+(4*i))+3) 0).toNat:Nat):Int)) D BV CI (JC ((l.getD ((at_+(4*i))+3) 0).toNat) (At.Lq _)))<|?_
  obtain⟨ab,aq⟩:∃g:Nat,g=T|||((l.getD ((at_+(4*i))+3) 0).toNat):=⟨_,D⟩
  have aW:ab<4294967296:=by rw[aq];exact Nat.or_lt_two_pow (n:=32) ao (At.Lq _)
  refine Fs (fun _ d=>D6 d (k:=.u32) (p:=((T:Nat):Int)) (q:=(((l.getD ((at_+(4*i))+3) 0).toNat:Nat):Int)) (r:=((ab:Nat):Int)) (.inr (.inl D)) D D (by rw[aq];exact u32_or_nat _ _ ao (At.Lq _)))<|It Tryz.underlying292 1 i i D D<|?_
  intro a d;refine LP ?_;revert a
  intro C t
  refine Cp D (fun K x=>RH t (j:=i) D f s (by omega) (u:=ab) D (by kernel_rfl) ?_)
  intro a bd d z aX ar
  have h:=Bn ar h (by omega)
  have b:=CJ b ar
  have aY:=s.set i aW
  refine x _ _ ?_;revert a
  refine Aw<|DN<|Ai<|AD<|Az D<|Dz (q:=1) D D<|AV D<|Aw<|Ai<|?_
  intro a d
  exact⟨_,by omega,i+1,_,D,AY d,by omega,aY,N,lw,h,aX,b⟩
 ·
  refine Dv<|BY<|BY<|Ds<|Ai<|Ao<|Ao<|AD<|AV (v:=(E 16)) D<|Aw<|Ai<|B'<|?_
  intro a d
  refine Ec (fun aa a W=>∃i,∃xs:List Nat,aa=64 - i∧AH 104 a (Jb (Jb (Jb Jk 4 (S y)) 5 (S A)) 8 (E i))∧(16≤i∧i≤64)∧Jm 64 xs∧y<A∧w.heap.size≤y∧CY W y [Da (List.replicate 64 0)] 292∧CY W A [Da xs] 292∧Below w.heap.size w W) _ ⟨16,_,D,AY d,by omega,s,N,lw,h,f,b⟩ ?_
  rintro _ a bf ⟨i,xs,rfl,d,aQ,s,N,lw,h,f,b⟩
  revert a
  refine Ao<|Ao<|AD<|Az D<|D_ (q:=(64:Nat)) D D<|Aw<|Ai<|DU D (fun aZ=>?_) fun aZ=>?_
  ·
   refine CA<|Ai<|Ao<|B'<|Ao<|?_
   intro a d
   refine KB (fun W=>CY W y [Da (List.replicate 64 0)] 292∧CY W A [Da xs] 292∧Below w.heap.size w W) ?_
   intro bg z J
   have h:=Bl h J
   have f:=Bl f J
   have b:=BG b J
   revert a
   refine Hc 0 D D ⟨h,f,b⟩<|Ns 1 D (q:=2) D D ⟨h,f,b⟩<|C4 2 D (fun W m a d=>by obtain⟨h,f,b⟩:=m;exact Hl d FF (size:=1) (by kernel_rfl) D (i:=((i - 2:Nat):Int)) D (i - 2) (o:=i - 2)) ⟨h,f,b⟩<|C4 3 D (fun W m a d=>by obtain⟨h,f,b⟩:=m;exact Ei d D CI D (DV f s (i - 2))) ⟨h,f,b⟩<|Hc 5 D D ⟨h,f,b⟩<|Ns 6 D (q:=2) D D ⟨h,f,b⟩<|C4 7 D (fun W m a d=>by obtain⟨h,f,b⟩:=m;exact Hl d FF (size:=1) (by kernel_rfl) D (i:=((i - 2:Nat):Int)) D (i - 2) (o:=i - 2)) ⟨h,f,b⟩<|C4 8 D (fun W m a d=>by obtain⟨h,f,b⟩:=m;exact Ei d D CI D (DV f s (i - 2))) ⟨h,f,b⟩<|Hc 11 D D ⟨h,f,b⟩<|Ns 12 D (q:=2) D D ⟨h,f,b⟩<|C4 13 D (fun W m a d=>by obtain⟨h,f,b⟩:=m;exact Hl d FF (size:=1) (by kernel_rfl) D (i:=((i - 2:Nat):Int)) D (i - 2) (o:=i - 2)) ⟨h,f,b⟩<|C4 14 D (fun W m a d=>by obtain⟨h,f,b⟩:=m;exact Ei d D CI D (DV f s (i - 2))) ⟨h,f,b⟩<|?_
   obtain⟨U,au⟩:∃g:Nat,g=(xs.getD (i - 2) 0)/2^10:=⟨_,D⟩
   have av:U<4294967296:=by rw[au];exact Nat.lt_of_le_of_lt (Nat.div_le_self _ _) (s.at _)
   refine C4 15 D (fun W m a d=>by obtain⟨h,f,b⟩:=m;exact IG d (k:=.u32) (p:=(xs.getD (i - 2) 0)) (n:=10) (r:=U) D D (by simp only[IntKind.bits];omega) au.symm) ⟨h,f,b⟩<|?_
   intro C t
   refine Gh 4 4 D D ?_
   intro K x
   refine Ee t #[Value.int .u32 ((((xs.getD (i - 2) 0):Nat):Int):Int),Value.int .u64 (((17:Nat):Int):Int)] Iz (JY _ _ _ (s.at _)) ?_
   rintro _ _ ⟨aw,ax,rfl,rfl⟩
   refine⟨_,D,?_⟩
   intro a d
   refine x _ _ ⟨h,f,b⟩ ?_;revert a
   intro C t
   refine Gh 9 3 D D ?_
   intro K x
   refine Ee t #[Value.int .u32 ((((xs.getD (i - 2) 0):Nat):Int):Int),Value.int .u64 (((19:Nat):Int):Int)] Iz (JY _ _ _ (s.at _)) ?_
   rintro _ _ ⟨ay,az,rfl,rfl⟩
   refine⟨_,D,?_⟩
   intro a d
   refine x _ _ ⟨h,f,b⟩ ?_;revert a
   obtain⟨X,aA⟩:∃g:Nat,g=aw^^^ay:=⟨_,D⟩
   have aB:X<4294967296:=by rw[aA];exact Nat.xor_lt_two_pow (n:=32) ax az
   refine C4 10 D (fun W m a d=>by obtain⟨h,f,b⟩:=m;exact D6 d (k:=.u32) (p:=((aw:Nat):Int)) (q:=((ay:Nat):Int)) (r:=((X:Nat):Int)) (.inr (.inr D)) D D (by rw[aA];exact u32_xor_nat _ _ ax az)) ⟨h,f,b⟩<|?_
   obtain⟨F,aC⟩:∃g:Nat,g=X^^^U:=⟨_,D⟩
   have bh:F<4294967296:=by rw[aC];exact Nat.xor_lt_two_pow (n:=32) aB av
   refine C4 16 D (fun W m a d=>by obtain⟨h,f,b⟩:=m;exact D6 d (k:=.u32) (p:=((X:Nat):Int)) (q:=((U:Nat):Int)) (r:=((F:Nat):Int)) (.inr (.inr D)) D D (by rw[aC];exact u32_xor_nat _ _ aB av)) ⟨h,f,b⟩<|I' 17 D D ⟨h,f,b⟩<|KC<|Ai<|Ao<|?_
   intro a d
   refine KB (fun W=>CY W y [Da (List.replicate 64 0)] 292∧CY W A [Da xs] 292∧Below w.heap.size w W) ?_
   intro bj z J
   have h:=Bl h J
   have f:=Bl f J
   have b:=BG b J
   revert a
   refine Hc 0 D D ⟨h,f,b⟩<|Ns 1 D (q:=15) D D ⟨h,f,b⟩<|C4 2 D (fun W m a d=>by obtain⟨h,f,b⟩:=m;exact Hl d FF (size:=1) (by kernel_rfl) D (i:=((i - 15:Nat):Int)) D (i - 15) (o:=i - 15)) ⟨h,f,b⟩<|C4 3 D (fun W m a d=>by obtain⟨h,f,b⟩:=m;exact Ei d D CI D (DV f s (i - 15))) ⟨h,f,b⟩<|Hc 5 D D ⟨h,f,b⟩<|Ns 6 D (q:=15) D D ⟨h,f,b⟩<|C4 7 D (fun W m a d=>by obtain⟨h,f,b⟩:=m;exact Hl d FF (size:=1) (by kernel_rfl) D (i:=((i - 15:Nat):Int)) D (i - 15) (o:=i - 15)) ⟨h,f,b⟩<|C4 8 D (fun W m a d=>by obtain⟨h,f,b⟩:=m;exact Ei d D CI D (DV f s (i - 15))) ⟨h,f,b⟩<|Hc 11 D D ⟨h,f,b⟩<|Ns 12 D (q:=15) D D ⟨h,f,b⟩<|C4 13 D (fun W m a d=>by obtain⟨h,f,b⟩:=m;exact Hl d FF (size:=1) (by kernel_rfl) D (i:=((i - 15:Nat):Int)) D (i - 15) (o:=i - 15)) ⟨h,f,b⟩<|C4 14 D (fun W m a d=>by obtain⟨h,f,b⟩:=m;exact Ei d D CI D (DV f s (i - 15))) ⟨h,f,b⟩<|?_
   obtain⟨Y,aD⟩:∃g:Nat,g=(xs.getD (i - 15) 0)/2^3:=⟨_,D⟩
   have aE:Y<4294967296:=by rw[aD];exact Nat.lt_of_le_of_lt (Nat.div_le_self _ _) (s.at _)
   refine C4 15 D (fun W m a d=>by obtain⟨h,f,b⟩:=m;exact IG d (k:=.u32) (p:=(xs.getD (i - 15) 0)) (n:=3) (r:=Y) D D (by simp only[IntKind.bits];omega) aD.symm) ⟨h,f,b⟩<|?_
   intro C t
   refine Gh 4 4 D D ?_
   intro K x
   refine Ee t #[Value.int .u32 ((((xs.getD (i - 15) 0):Nat):Int):Int),Value.int .u64 (((7:Nat):Int):Int)] Iz (JY _ _ _ (s.at _)) ?_
   rintro _ _ ⟨aF,aG,rfl,rfl⟩
   refine⟨_,D,?_⟩
   intro a d
   refine x _ _ ⟨h,f,b⟩ ?_;revert a
   intro C t
   refine Gh 9 3 D D ?_
   intro K x
   refine Ee t #[Value.int .u32 ((((xs.getD (i - 15) 0):Nat):Int):Int),Value.int .u64 (((18:Nat):Int):Int)] Iz (JY _ _ _ (s.at _)) ?_
   rintro _ _ ⟨aH,aI,rfl,rfl⟩
   refine⟨_,D,?_⟩
   intro a d
   refine x _ _ ⟨h,f,b⟩ ?_;revert a
   obtain⟨Z,aJ⟩:∃g:Nat,g=aF^^^aH:=⟨_,D⟩
   have aK:Z<4294967296:=by rw[aJ];exact Nat.xor_lt_two_pow (n:=32) aG aI
   refine C4 10 D (fun W m a d=>by obtain⟨h,f,b⟩:=m;exact D6 d (k:=.u32) (p:=((aF:Nat):Int)) (q:=((aH:Nat):Int)) (r:=((Z:Nat):Int)) (.inr (.inr D)) D D (by rw[aJ];exact u32_xor_nat _ _ aG aI)) ⟨h,f,b⟩<|?_
   obtain⟨G,aL⟩:∃g:Nat,g=Z^^^Y:=⟨_,D⟩
   have bk:G<4294967296:=by rw[aL];exact Nat.xor_lt_two_pow (n:=32) aK aE
   refine C4 16 D (fun W m a d=>by obtain⟨h,f,b⟩:=m;exact D6 d (k:=.u32) (p:=((Z:Nat):Int)) (q:=((Y:Nat):Int)) (r:=((G:Nat):Int)) (.inr (.inr D)) D D (by rw[aL];exact u32_xor_nat _ _ aK aE)) ⟨h,f,b⟩<|I' 17 D D ⟨h,f,b⟩<|KC<|Ai<|?_
   intro a d
   refine Mf 15 ?_
   intro bl z J
   have h:=Bl h J
   have f:=Bl f J
   have b:=BG b J
   revert a
   refine D7 D<|D7 D<|D7 D<|VS (q:=7) D D<|It FF 1 (i - 7) (i - 7) D D<|H3 CI (DV f s (i - 7)) D<|?_
   obtain⟨H,aM⟩:∃g:Nat,g=(F+(xs.getD (i - 7) 0)) % 4294967296:=⟨_,D⟩
   have bm:H<4294967296:=by rw[aM];exact Nat.mod_lt _ (by decide)
   refine Fs (fun _ d=>HY d (k:=.u32) (p:=((F:Nat):Int)) (q:=(((xs.getD (i - 7) 0):Nat):Int)) (r:=((H:Nat):Int)) D D (by rw[aM];exact wrap_u32 (F+(xs.getD (i - 7) 0))))<|D7 D<|?_
   obtain⟨L,aN⟩:∃g:Nat,g=(H+G) % 4294967296:=⟨_,D⟩
   have bn:L<4294967296:=by rw[aN];exact Nat.mod_lt _ (by decide)
   refine Fs (fun _ d=>HY d (k:=.u32) (p:=((H:Nat):Int)) (q:=((G:Nat):Int)) (r:=((L:Nat):Int)) D D (by rw[aN];exact wrap_u32 (H+G)))<|D7 D<|VS (q:=16) D D<|It Tryz.underlying292 1 (i - 16) (i - 16) D D<|H3 Tryz.underlying72 (DV f s (i - 16)) D<|?_
   obtain⟨ad,aO⟩:∃g:Nat,g=(L+(xs.getD (i - 16) 0)) % 4294967296:=⟨_,D⟩
   have a0:ad<4294967296:=by rw[aO];exact Nat.mod_lt _ (by decide)
   refine Fs (fun _ d=>HY d (k:=.u32) (p:=((L:Nat):Int)) (q:=(((xs.getD (i - 16) 0):Nat):Int)) (r:=((ad:Nat):Int)) D D (by rw[aO];exact wrap_u32 (L+(xs.getD (i - 16) 0))))<|It Tryz.underlying292 1 i i D D<|?_
   intro a d;refine LP ?_;revert a
   intro C t
   refine Cp D (fun K x=>RH t (j:=i) D f s (by omega) (u:=ad) D (by kernel_rfl) ?_)
   intro a bo d z a1 aP
   have h:=Bn aP h (by omega)
   have b:=CJ b aP
   have a2:=s.set i a0
   refine x _ _ ?_;revert a
   refine Aw<|DN<|Ai<|AD<|Az D<|Dz (q:=1) D D<|AV D<|Aw<|Ai<|?_
   intro a d
   exact⟨_,by omega,i+1,_,D,AY d,by omega,a2,N,lw,h,a1,b⟩
  ·
   refine Dv<|BY<|BY<|Ds<|Ai<|Ao<|AD<|Ef FF f D<|CK 0 1 h D D ?_
   intro bp z a3 a4
   have b:=CJ b a4
   refine Aw<|Ai<|C0<|?_
   intro a d
   refine Kj d D D a3 FF D (ME 64) ?_
   exact⟨_,s,D,b⟩
theorem cc(C ws:List Nat)(w:World)(a_:DA w)(au:Jm 8 C)(hw:Jm 64 ws):
 Calls Tryz.prog 166 #[Value.agg (flat [Da C]),Value.agg (flat [Da ws])] w fun e w'=>∃v,Jm 8 v∧e=.returned (.agg (flat [Da v]))∧Below w.heap.size w w':=by
 have d:Below w.heap.size w w:=Cn _ _
 refine DZ Wx D 119 ?_
 refine Ao<|AD<|Hf D ?_
 intro A bq t z H2 J
 have br:=C8 d t
 have d:=BG d J
 refine Hf D ?_
 intro F bs t z f J
 have bt:=C8 d t
 have bu:=C6 H2 t
 have H2:=Bl H2 J
 have d:=BG d J
 refine D4 [I8 8] ?_
 intro B bw t z l J
 have bx:=C8 d t
 have bz:=C6 H2 t
 have bA:=C6 f t
 have H2:=Bl H2 J
 have f:=Bl f J
 have d:=BG d J
 rw[MU]at l
 refine Aw<|Ai<|Ao<|AD<|Ef DW H2 D<|D4 [I8 8] ?_
 intro G bB t z c J
 have bC:=C8 d t
 have bD:=C6 H2 t
 have bE:=C6 f t
 have bF:=C6 l t
 have H2:=Bl H2 J
 have f:=Bl f J
 have l:=Bl l J
 have d:=BG d J
 rw[MU]at c
 refine CK 0 1 c D D ?_
 intro bG z a' X
 have H2:=Bn X H2 (by omega)
 have f:=Bn X f (by omega)
 have l:=Bn X l (by omega)
 have d:=CJ d X
 have c:=a'
 refine Aw<|Ai<|Ao<|Ao<|AD<|AV (v:=(E 0)) D<|Aw<|Ai<|B'<|?_
 intro a b
 refine Ec (fun ao a W=>∃i,∃v:List Nat,ao=64 - i∧AH 119 a (Jb (Jb (Jb (Jb (Jb Jk 2 (S A)) 3 (S F)) 4 (S B)) 5 (S G)) 6 (E i))∧i≤64∧Jm 8 v∧A<F∧F<B∧B<G∧w.heap.size≤A∧CY W A [Da C] 224∧CY W F [Da ws] 292∧CY W B [Da (List.replicate 8 0)] 224∧CY W G [Da v] 224∧Below w.heap.size w W) _ ⟨0,_,D,AY b,Nat.zero_le _,au,by omega,by omega,by omega,by omega,H2,f,l,c,d⟩ ?_
 rintro _ a bH ⟨i,v,rfl,b,ba,m,Y,Z,aa,lw,H2,f,l,c,d⟩
 revert a
 refine Ao<|Ao<|AD<|Az D<|D_ (q:=(64:Nat)) D D<|Aw<|Ai<|DU D (fun bb=>?_) fun bb=>?_
 ·
  refine CA<|Ai<|Ao<|B'<|Ao<|?_
  intro a b
  refine KB (fun W=>CY W A [Da C] 224∧CY W F [Da ws] 292∧CY W B [Da (List.replicate 8 0)] 224∧CY W G [Da v] 224∧Below w.heap.size w W) ?_
  intro bI z J
  have H2:=Bl H2 J
  have f:=Bl f J
  have l:=Bl l J
  have c:=Bl c J
  have d:=BG d J
  revert a
  refine C4 0 D (fun W s a b=>by obtain⟨H2,f,l,c,d⟩:=s;exact Hl b DW (size:=1) (by kernel_rfl) D (i:=((4:Nat):Int)) D 4 (o:=4)) ⟨H2,f,l,c,d⟩<|C4 1 D (fun W s a b=>by obtain⟨H2,f,l,c,d⟩:=s;exact Ei b D CI D (DV c m 4)) ⟨H2,f,l,c,d⟩<|C4 3 D (fun W s a b=>by obtain⟨H2,f,l,c,d⟩:=s;exact Hl b DW (size:=1) (by kernel_rfl) D (i:=((4:Nat):Int)) D 4 (o:=4)) ⟨H2,f,l,c,d⟩<|C4 4 D (fun W s a b=>by obtain⟨H2,f,l,c,d⟩:=s;exact Ei b D CI D (DV c m 4)) ⟨H2,f,l,c,d⟩<|C4 7 D (fun W s a b=>by obtain⟨H2,f,l,c,d⟩:=s;exact Hl b DW (size:=1) (by kernel_rfl) D (i:=((4:Nat):Int)) D 4 (o:=4)) ⟨H2,f,l,c,d⟩<|C4 8 D (fun W s a b=>by obtain⟨H2,f,l,c,d⟩:=s;exact Ei b D CI D (DV c m 4)) ⟨H2,f,l,c,d⟩<|?_
  intro I x
  refine Gh 2 5 D D ?_
  intro K y
  refine Ee x #[Value.int .u32 ((((v.getD 4 0):Nat):Int):Int),Value.int .u64 (((6:Nat):Int):Int)] Iz (JY _ _ _ (m.at _)) ?_
  rintro _ _ ⟨av,aw,rfl,rfl⟩
  refine⟨_,D,?_⟩
  intro a b
  refine y _ _ ⟨H2,f,l,c,d⟩ ?_;revert a
  intro I x
  refine Gh 5 4 D D ?_
  intro K y
  refine Ee x #[Value.int .u32 ((((v.getD 4 0):Nat):Int):Int),Value.int .u64 (((11:Nat):Int):Int)] Iz (JY _ _ _ (m.at _)) ?_
  rintro _ _ ⟨ax,ay,rfl,rfl⟩
  refine⟨_,D,?_⟩
  intro a b
  refine y _ _ ⟨H2,f,l,c,d⟩ ?_;revert a
  obtain⟨ab,az⟩:∃g:Nat,g=av^^^ax:=⟨_,D⟩
  have aA:ab<4294967296:=by rw[az];exact Nat.xor_lt_two_pow (n:=32) aw ay
  refine C4 6 D (fun W s a b=>by obtain⟨H2,f,l,c,d⟩:=s;exact D6 b (k:=.u32) (p:=((av:Nat):Int)) (q:=((ax:Nat):Int)) (r:=((ab:Nat):Int)) (.inr (.inr D)) D D (by rw[az];exact u32_xor_nat _ _ aw ay)) ⟨H2,f,l,c,d⟩<|?_
  intro I x
  refine Gh 9 2 D D ?_
  intro K y
  refine Ee x #[Value.int .u32 ((((v.getD 4 0):Nat):Int):Int),Value.int .u64 (((25:Nat):Int):Int)] Iz (JY _ _ _ (m.at _)) ?_
  rintro _ _ ⟨aB,aC,rfl,rfl⟩
  refine⟨_,D,?_⟩
  intro a b
  refine y _ _ ⟨H2,f,l,c,d⟩ ?_;revert a
  obtain⟨L,aD⟩:∃g:Nat,g=ab^^^aB:=⟨_,D⟩
  have bJ:L<4294967296:=by rw[aD];exact Nat.xor_lt_two_pow (n:=32) aA aC
  refine C4 10 D (fun W s a b=>by obtain⟨H2,f,l,c,d⟩:=s;exact D6 b (k:=.u32) (p:=((ab:Nat):Int)) (q:=((aB:Nat):Int)) (r:=((L:Nat):Int)) (.inr (.inr D)) D D (by rw[aD];exact u32_xor_nat _ _ aA aC)) ⟨H2,f,l,c,d⟩<|I' 11 D D ⟨H2,f,l,c,d⟩<|KC<|Ai<|Ao<|AD<|E' Tryz.underlying224 1 4 4 D D<|D8 Tryz.underlying72 (DV c m 4) D<|E' Tryz.underlying224 1 5 5 D D<|D8 Tryz.underlying72 (DV c m 5) D<|?_
  obtain⟨ad,aE⟩:∃g:Nat,g=(v.getD 4 0)&&&(v.getD 5 0):=⟨_,D⟩
  have aF:ad<4294967296:=by rw[aE];exact Nat.lt_of_le_of_lt Nat.and_le_right (m.at _)
  refine Cc (fun _ b=>D6 b (k:=.u32) (p:=(((v.getD 4 0):Nat):Int)) (q:=(((v.getD 5 0):Nat):Int)) (r:=((ad:Nat):Int)) (.inl D) D D (by rw[aE];exact u32_and_nat _ _ (m.at _) (m.at _)))<|E' Tryz.underlying224 1 4 4 D D<|D8 Tryz.underlying72 (DV c m 4) D<|?_
  obtain⟨aq,aG⟩:∃g:Nat,g=At.inv (v.getD 4 0):=⟨_,D⟩
  have bc:aq<4294967296:=by rw[aG];exact At.O3 _
  refine Cc (fun _ b=>aG▸Vi b (p:=(v.getD 4 0)) D (m.at _))<|E' DW 1 6 6 D D<|D8 CI (DV c m 6) D<|?_
  obtain⟨ae,aH⟩:∃g:Nat,g=aq&&&(v.getD 6 0):=⟨_,D⟩
  have aI:ae<4294967296:=by rw[aH];exact Nat.lt_of_le_of_lt Nat.and_le_right (m.at _)
  refine Cc (fun _ b=>D6 b (k:=.u32) (p:=((aq:Nat):Int)) (q:=(((v.getD 6 0):Nat):Int)) (r:=((ae:Nat):Int)) (.inl D) D D (by rw[aH];exact u32_and_nat _ _ bc (m.at _)))<|?_
  obtain⟨M,aJ⟩:∃g:Nat,g=ad^^^ae:=⟨_,D⟩
  have bK:M<4294967296:=by rw[aJ];exact Nat.xor_lt_two_pow (n:=32) aF aI
  refine Cc (fun _ b=>D6 b (k:=.u32) (p:=((ad:Nat):Int)) (q:=((ae:Nat):Int)) (r:=((M:Nat):Int)) (.inr (.inr D)) D D (by rw[aJ];exact u32_xor_nat _ _ aF aI))<|AV D<|Aw<|Ai<|Ao<|?_
  intro a b
  refine Zr (by kernel_rfl) (by kernel_rfl) ?_
  intro bL z J
  have H2:=Bl H2 J
  have f:=Bl f J
  have l:=Bl l J
  have c:=Bl c J
  have d:=BG d J
  revert a
  refine It DW 1 7 7 D D<|H3 CI (DV c m 7) D<|D7 D<|?_
  obtain⟨N,aK⟩:∃g:Nat,g=((v.getD 7 0)+L) % 4294967296:=⟨_,D⟩
  have bM:N<4294967296:=by rw[aK];exact Nat.mod_lt _ (by decide)
  refine Fs (fun _ b=>HY b (k:=.u32) (p:=(((v.getD 7 0):Nat):Int)) (q:=((L:Nat):Int)) (r:=((N:Nat):Int)) D D (by rw[aK];exact wrap_u32 ((v.getD 7 0)+L)))<|D7 D<|?_
  obtain⟨O,aL⟩:∃g:Nat,g=(N+M) % 4294967296:=⟨_,D⟩
  have bN:O<4294967296:=by rw[aL];exact Nat.mod_lt _ (by decide)
  refine Fs (fun _ b=>HY b (k:=.u32) (p:=((N:Nat):Int)) (q:=((M:Nat):Int)) (r:=((O:Nat):Int)) D D (by rw[aL];exact wrap_u32 (N+M)))<|D7 D<|?_
  have bd:=(a_.below d (Br _)).af i (by omega) (o:=i*1) (by first|rfl|omega)
  refine It FF 1 i (i*1) D D<|H3 CI bd D<|?_
  obtain⟨P,aM⟩:∃g:Nat,g=(O+(J7.getD i 0)) % 4294967296:=⟨_,D⟩
  have bO:P<4294967296:=by rw[aM];exact Nat.mod_lt _ (by decide)
  refine Fs (fun _ b=>HY b (k:=.u32) (p:=((O:Nat):Int)) (q:=(((J7.getD i 0):Nat):Int)) (r:=((P:Nat):Int)) D D (by rw[aM];exact wrap_u32 (O+(J7.getD i 0))))<|D7 D<|It Tryz.underlying292 1 i i D D<|H3 Tryz.underlying72 (DV f hw i) D<|?_
  obtain⟨H,aN⟩:∃g:Nat,g=(P+(ws.getD i 0)) % 4294967296:=⟨_,D⟩
  have bP:H<4294967296:=by rw[aN];exact Nat.mod_lt _ (by decide)
  refine Fs (fun _ b=>HY b (k:=.u32) (p:=((P:Nat):Int)) (q:=(((ws.getD i 0):Nat):Int)) (r:=((H:Nat):Int)) D D (by rw[aN];exact wrap_u32 (P+(ws.getD i 0))))<|ew D<|gE<|Ai<|Ao<|?_
  intro a b
  refine KB (fun W=>CY W A [Da C] 224∧CY W F [Da ws] 292∧CY W B [Da (List.replicate 8 0)] 224∧CY W G [Da v] 224∧Below w.heap.size w W) ?_
  intro bQ z J
  have H2:=Bl H2 J
  have f:=Bl f J
  have l:=Bl l J
  have c:=Bl c J
  have d:=BG d J
  revert a
  refine C4 0 D (fun W s a b=>by obtain⟨H2,f,l,c,d⟩:=s;exact Hl b DW (size:=1) (by kernel_rfl) D (i:=((0:Nat):Int)) D 0 (o:=0)) ⟨H2,f,l,c,d⟩<|C4 1 D (fun W s a b=>by obtain⟨H2,f,l,c,d⟩:=s;exact Ei b D CI D (DV c m 0)) ⟨H2,f,l,c,d⟩<|C4 3 D (fun W s a b=>by obtain⟨H2,f,l,c,d⟩:=s;exact Hl b DW (size:=1) (by kernel_rfl) D (i:=((0:Nat):Int)) D 0 (o:=0)) ⟨H2,f,l,c,d⟩<|C4 4 D (fun W s a b=>by obtain⟨H2,f,l,c,d⟩:=s;exact Ei b D CI D (DV c m 0)) ⟨H2,f,l,c,d⟩<|C4 7 D (fun W s a b=>by obtain⟨H2,f,l,c,d⟩:=s;exact Hl b DW (size:=1) (by kernel_rfl) D (i:=((0:Nat):Int)) D 0 (o:=0)) ⟨H2,f,l,c,d⟩<|C4 8 D (fun W s a b=>by obtain⟨H2,f,l,c,d⟩:=s;exact Ei b D CI D (DV c m 0)) ⟨H2,f,l,c,d⟩<|?_
  intro I x
  refine Gh 2 5 D D ?_
  intro K y
  refine Ee x #[Value.int .u32 ((((v.getD 0 0):Nat):Int):Int),Value.int .u64 (((2:Nat):Int):Int)] Iz (JY _ _ _ (m.at _)) ?_
  rintro _ _ ⟨aO,aP,rfl,rfl⟩
  refine⟨_,D,?_⟩
  intro a b
  refine y _ _ ⟨H2,f,l,c,d⟩ ?_;revert a
  intro I x
  refine Gh 5 4 D D ?_
  intro K y
  refine Ee x #[Value.int .u32 ((((v.getD 0 0):Nat):Int):Int),Value.int .u64 (((13:Nat):Int):Int)] Iz (JY _ _ _ (m.at _)) ?_
  rintro _ _ ⟨aQ,aR,rfl,rfl⟩
  refine⟨_,D,?_⟩
  intro a b
  refine y _ _ ⟨H2,f,l,c,d⟩ ?_;revert a
  obtain⟨ag,aS⟩:∃g:Nat,g=aO^^^aQ:=⟨_,D⟩
  have aT:ag<4294967296:=by rw[aS];exact Nat.xor_lt_two_pow (n:=32) aP aR
  refine C4 6 D (fun W s a b=>by obtain⟨H2,f,l,c,d⟩:=s;exact D6 b (k:=.u32) (p:=((aO:Nat):Int)) (q:=((aQ:Nat):Int)) (r:=((ag:Nat):Int)) (.inr (.inr D)) D D (by rw[aS];exact u32_xor_nat _ _ aP aR)) ⟨H2,f,l,c,d⟩<|?_
  intro I x
  refine Gh 9 2 D D ?_
  intro K y
  refine Ee x #[Value.int .u32 ((((v.getD 0 0):Nat):Int):Int),Value.int .u64 (((22:Nat):Int):Int)] Iz (JY _ _ _ (m.at _)) ?_
  rintro _ _ ⟨aU,aV,rfl,rfl⟩
  refine⟨_,D,?_⟩
  intro a b
  refine y _ _ ⟨H2,f,l,c,d⟩ ?_;revert a
  obtain⟨Q,aW⟩:∃g:Nat,g=ag^^^aU:=⟨_,D⟩
  have bR:Q<4294967296:=by rw[aW];exact Nat.xor_lt_two_pow (n:=32) aT aV
  refine C4 10 D (fun W s a b=>by obtain⟨H2,f,l,c,d⟩:=s;exact D6 b (k:=.u32) (p:=((ag:Nat):Int)) (q:=((aU:Nat):Int)) (r:=((Q:Nat):Int)) (.inr (.inr D)) D D (by rw[aW];exact u32_xor_nat _ _ aT aV)) ⟨H2,f,l,c,d⟩<|I' 11 D D ⟨H2,f,l,c,d⟩<|KC<|Ai<|Ao<|AD<|E' Tryz.underlying224 1 0 0 D D<|D8 Tryz.underlying72 (DV c m 0) D<|E' Tryz.underlying224 1 1 1 D D<|D8 Tryz.underlying72 (DV c m 1) D<|?_
  obtain⟨ah,aX⟩:∃g:Nat,g=(v.getD 0 0)&&&(v.getD 1 0):=⟨_,D⟩
  have aY:ah<4294967296:=by rw[aX];exact Nat.lt_of_le_of_lt Nat.and_le_right (m.at _)
  refine Cc (fun _ b=>D6 b (k:=.u32) (p:=(((v.getD 0 0):Nat):Int)) (q:=(((v.getD 1 0):Nat):Int)) (r:=((ah:Nat):Int)) (.inl D) D D (by rw[aX];exact u32_and_nat _ _ (m.at _) (m.at _)))<|E' Tryz.underlying224 1 0 0 D D<|D8 Tryz.underlying72 (DV c m 0) D<|E' Tryz.underlying224 1 2 2 D D<|D8 Tryz.underlying72 (DV c m 2) D<|?_
  obtain⟨ai,aZ⟩:∃g:Nat,g=(v.getD 0 0)&&&(v.getD 2 0):=⟨_,D⟩
  have a0:ai<4294967296:=by rw[aZ];exact Nat.lt_of_le_of_lt Nat.and_le_right (m.at _)
  refine Cc (fun _ b=>D6 b (k:=.u32) (p:=(((v.getD 0 0):Nat):Int)) (q:=(((v.getD 2 0):Nat):Int)) (r:=((ai:Nat):Int)) (.inl D) D D (by rw[aZ];exact u32_and_nat _ _ (m.at _) (m.at _)))<|?_
  obtain⟨aj,a1⟩:∃g:Nat,g=ah^^^ai:=⟨_,D⟩
  have a2:aj<4294967296:=by rw[a1];exact Nat.xor_lt_two_pow (n:=32) aY a0
  refine Cc (fun _ b=>D6 b (k:=.u32) (p:=((ah:Nat):Int)) (q:=((ai:Nat):Int)) (r:=((aj:Nat):Int)) (.inr (.inr D)) D D (by rw[a1];exact u32_xor_nat _ _ aY a0))<|E' Tryz.underlying224 1 1 1 D D<|D8 Tryz.underlying72 (DV c m 1) D<|E' Tryz.underlying224 1 2 2 D D<|D8 Tryz.underlying72 (DV c m 2) D<|?_
  obtain⟨ak,a3⟩:∃g:Nat,g=(v.getD 1 0)&&&(v.getD 2 0):=⟨_,D⟩
  have a4:ak<4294967296:=by rw[a3];exact Nat.lt_of_le_of_lt Nat.and_le_right (m.at _)
  refine Cc (fun _ b=>D6 b (k:=.u32) (p:=(((v.getD 1 0):Nat):Int)) (q:=(((v.getD 2 0):Nat):Int)) (r:=((ak:Nat):Int)) (.inl D) D D (by rw[a3];exact u32_and_nat _ _ (m.at _) (m.at _)))<|?_
  obtain⟨R,a5⟩:∃g:Nat,g=aj^^^ak:=⟨_,D⟩
  have bS:R<4294967296:=by rw[a5];exact Nat.xor_lt_two_pow (n:=32) a2 a4
  refine Cc (fun _ b=>D6 b (k:=.u32) (p:=((aj:Nat):Int)) (q:=((ak:Nat):Int)) (r:=((R:Nat):Int)) (.inr (.inr D)) D D (by rw[a5];exact u32_xor_nat _ _ a2 a4))<|AV D<|Aw<|Ai<|AD<|Az D<|Az D<|?_
  obtain⟨T,a6⟩:∃g:Nat,g=(H+Q) % 4294967296:=⟨_,D⟩
  have bT:T<4294967296:=by rw[a6];exact Nat.mod_lt _ (by decide)
  refine Cc (fun _ b=>HY b (k:=.u32) (p:=((H:Nat):Int)) (q:=((Q:Nat):Int)) (r:=((T:Nat):Int)) D D (by rw[a6];exact wrap_u32 (H+Q)))<|Az D<|?_
  obtain⟨U,a7⟩:∃g:Nat,g=(T+R) % 4294967296:=⟨_,D⟩
  have bf:U<4294967296:=by rw[a7];exact Nat.mod_lt _ (by decide)
  refine Cc (fun _ b=>HY b (k:=.u32) (p:=((T:Nat):Int)) (q:=((R:Nat):Int)) (r:=((U:Nat):Int)) D D (by rw[a7];exact wrap_u32 (T+R)))<|E' Tryz.underlying224 1 0 0 D D<|D8 Tryz.underlying72 (DV c m 0) D<|E' Tryz.underlying224 1 1 1 D D<|D8 Tryz.underlying72 (DV c m 1) D<|E' Tryz.underlying224 1 2 2 D D<|D8 Tryz.underlying72 (DV c m 2) D<|E' Tryz.underlying224 1 3 3 D D<|D8 Tryz.underlying72 (DV c m 3) D<|Az D<|?_
  obtain⟨V,a8⟩:∃g:Nat,g=((v.getD 3 0)+H) % 4294967296:=⟨_,D⟩
  have bg:V<4294967296:=by rw[a8];exact Nat.mod_lt _ (by decide)
  refine Cc (fun _ b=>HY b (k:=.u32) (p:=(((v.getD 3 0):Nat):Int)) (q:=((H:Nat):Int)) (r:=((V:Nat):Int)) D D (by rw[a8];exact wrap_u32 ((v.getD 3 0)+H)))<|E' Tryz.underlying224 1 4 4 D D<|D8 Tryz.underlying72 (DV c m 4) D<|E' Tryz.underlying224 1 5 5 D D<|D8 Tryz.underlying72 (DV c m 5) D<|E' Tryz.underlying224 1 6 6 D D<|D8 Tryz.underlying72 (DV c m 6) D<|?_
  have bh:Jm 8 [U,v.getD 0 0,v.getD 1 0,v.getD 2 0,V,v.getD 4 0,v.getD 5 0,v.getD 6 0]:=⟨D,(List.forall_mem_cons.2 ⟨bf,(List.forall_mem_cons.2 ⟨m.at _,(List.forall_mem_cons.2 ⟨m.at _,(List.forall_mem_cons.2 ⟨m.at _,(List.forall_mem_cons.2 ⟨bg,(List.forall_mem_cons.2 ⟨m.at _,(List.forall_mem_cons.2 ⟨m.at _,(List.forall_mem_cons.2 ⟨m.at _,(fun _ h=>by cases h)⟩)⟩)⟩)⟩)⟩)⟩)⟩)⟩)⟩
  refine Cc (fun _ b=>Cs b (BH:=[(0,(Value.int .u32 (((U:Nat):Int):Int))),(1,(Value.int .u32 ((((v.getD 0 0):Nat):Int):Int))),(2,(Value.int .u32 ((((v.getD 1 0):Nat):Int):Int))),(3,(Value.int .u32 ((((v.getD 2 0):Nat):Int):Int))),(4,(Value.int .u32 (((V:Nat):Int):Int))),(5,(Value.int .u32 ((((v.getD 4 0):Nat):Int):Int))),(6,(Value.int .u32 ((((v.getD 5 0):Nat):Int):Int))),(7,(Value.int .u32 ((((v.getD 6 0):Nat):Int):Int)))]) D (v:=Value.agg (flat [Da [U,v.getD 0 0,v.getD 1 0,v.getD 2 0,V,v.getD 4 0,v.getD 5 0,v.getD 6 0]])) (run_build _ _ _ _ (by kernel_rfl)))<|CK 0 1 c D D ?_
  intro bU z bj al
  have H2:=Bn al H2 (by omega)
  have f:=Bn al f (by omega)
  have l:=Bn al l (by omega)
  have d:=CJ d al
  refine Aw<|DN<|Ai<|AD<|Az D<|Dz (q:=1) D D<|AV D<|Aw<|Ai<|?_
  intro a b
  exact⟨_,by omega,i+1,_,D,AY b,by omega,bh,Y,Z,aa,lw,H2,f,l,bj,d⟩
 ·
  refine Dv<|BY<|BY<|Ds<|Ai<|Ao<|Ao<|AD<|AV (v:=(E 0)) D<|Aw<|Ai<|B'<|?_
  intro a b
  refine Ec (fun ao a W=>∃i,∃v:List Nat,ao=8 - i∧AH 119 a (Jb (Jb (Jb (Jb Jk 2 (S A)) 4 (S B)) 5 (S G)) 12 (E i))∧i≤8∧Jm 8 v∧A<F∧F<B∧B<G∧w.heap.size≤A∧CY W A [Da C] 224∧CY W F [Da ws] 292∧CY W B [Da (List.replicate 8 0)] 224∧CY W G [Da v] 224∧Below w.heap.size w W) _ ⟨0,_,D,AY b,Nat.zero_le _,m,Y,Z,aa,lw,H2,f,l,c,d⟩ ?_
  rintro _ a bV ⟨i,v,rfl,b,ba,m,Y,Z,aa,lw,H2,f,l,c,d⟩
  revert a
  refine Ao<|Ao<|AD<|Az D<|D_ (q:=(8:Nat)) D D<|Aw<|Ai<|DU D (fun bk=>?_) fun bk=>?_
  ·
   refine CA<|Ai<|Ao<|B'<|?_
   intro a b
   refine Mf 9 ?_
   intro bW z J
   have H2:=Bl H2 J
   have f:=Bl f J
   have l:=Bl l J
   have c:=Bl c J
   have d:=BG d J
   revert a
   refine D7 D<|D7 D<|It DW 1 i i D D<|H3 CI (DV c m i) D<|D7 D<|It DW 1 i i D D<|H3 CI (DV H2 au i) D<|?_
   obtain⟨ar,a9⟩:∃g:Nat,g=((v.getD i 0)+(C.getD i 0)) % 4294967296:=⟨_,D⟩
   have bl:ar<4294967296:=by rw[a9];exact Nat.mod_lt _ (by decide)
   refine Fs (fun _ b=>HY b (k:=.u32) (p:=(((v.getD i 0):Nat):Int)) (q:=(((C.getD i 0):Nat):Int)) (r:=((ar:Nat):Int)) D D (by rw[a9];exact wrap_u32 ((v.getD i 0)+(C.getD i 0))))<|It Tryz.underlying224 1 i i D D<|?_
   intro a b;refine LP ?_;revert a
   intro I x
   refine Cp D (fun K y=>RH x (j:=i) D c m (by omega) (u:=ar) D (by kernel_rfl) ?_)
   intro a bX b z bm an
   have H2:=Bn an H2 (by omega)
   have f:=Bn an f (by omega)
   have l:=Bn an l (by omega)
   have d:=CJ d an
   have bn:=m.set i bl
   refine y _ _ ?_;revert a
   refine Aw<|DN<|Ai<|AD<|Az D<|Dz (q:=1) D D<|AV D<|Aw<|Ai<|?_
   intro a b
   exact⟨_,by omega,i+1,_,D,AY b,by omega,bn,Y,Z,aa,lw,H2,f,l,bm,d⟩
  ·
   refine Dv<|BY<|BY<|Ds<|Ai<|Ao<|AD<|Ef DW c D<|CK 0 1 l D D ?_
   intro bY z bo bp
   have d:=CJ d bp
   refine Aw<|Ai<|C0<|?_
   intro a b
   refine Kj b D D bo DW D (ME 8) ?_
   exact⟨_,m,D,d⟩
theorem hs(q:Option Addr)(n c:Nat)(l:List UInt8)(w:World)(X:DA w)(aG:n≤1000000000)(V:View w (.slice q n c) n 1 (bv l))(hl:l.length=n):
 Calls Tryz.prog 133 #[I q n c] w fun e w'=>∃d,d.length=32∧e=.returned (.agg (flat [bv d]))∧Below w.heap.size w w':=by
 have b:Below w.heap.size w w:=Cn _ _
 refine DZ Vj D 42 ?_
 refine Ao<|AD<|D4 [Ak 32] ?_
 intro s Y o t H2 J
 have aH:=C8 b o
 have b:=BG b J
 rw[KG]at H2
 refine Aw<|Ai<|Ao<|AD<|Az D<|CL Zf D (b4 _ _ _ _ _ (by omega) (V.below b) hl) ?_
 rintro _ aI ⟨ag,ah,ai,aJ,rfl,Z,M,O,aa⟩
 refine⟨_,D,?_⟩
 have aj:w.heap.size≤Y.heap.size:=b.size
 have aK:s<Y.heap.size:=DC H2
 have H2:=Bl H2 aa
 have b:=BG b aa
 have ak:GZ (I ag ai ah) s:=cZ Z (by omega)
 have h:=Ew Z aj
 refine AV D<|?_
 refine Aw<|Ai<|Ao<|AD<|Cc (fun _ m=>Z4 m D DW D Jv.row (X.below b (Br _)).Zw (by kernel_rfl))<|D4 [I8 8] ?_
 intro x aL o t f J
 have aM:=C8 b o
 have aN:=C6 H2 o
 have ab:=XU h o
 have H2:=Bl H2 J
 have h:=EN h J
 have b:=BG b J
 rw[MU]at f
 refine CK 0 1 f D D ?_
 intro aO t al P
 have H2:=Bn P H2 (by omega)
 have h:=PH h P ab
 have b:=CJ b P
 have f:=al
 refine Aw<|Ai<|Ao<|Ao<|AD<|AV (v:=(E 0)) D<|Aw<|Ai<|B'<|?_
 intro a m
 refine Ec (fun Q a W=>∃i N p z L,∃v:List Nat,Q=N - i∧AH 42 a (Jb (Jb (Jb (Jb Jk 2 (S s)) 3 (I p N z)) 4 (S x)) 5 (E i))∧(i≤N∧i % 64=0)∧Jm 8 v∧s<x∧w.heap.size≤s∧N % 64=0∧N≤n+200∧CY W s [bv (List.replicate 32 0)] 51∧CY W x [Da v] 224∧W.ownsRow w.heap.size 5 1 (.slice p N z) N (bv L)∧GZ (I p N z) s∧GZ (I p N z) x∧Below w.heap.size w W) _ ⟨0,_,_,_,_,_,D,AY m,by omega,Jv,by omega,by omega,M,O,H2,f,h,ak,ab,b⟩ ?_
 rintro _ a aP ⟨i,N,p,z,L,v,rfl,m,an,A,C,lw,M,O,H2,f,h,ao,ad,b⟩
 revert a
 refine Ao<|Ao<|AD<|Az D<|Az D<|HT Co D<|D_ D D<|Aw<|Ai<|DU D (fun aq=>?_) fun aq=>?_
 ·
  refine CA<|Ai<|Ao<|B'<|Ao<|AD<|Az D<|Az D<|CL T1 D (ZG _ _ _ i _ _ (by omega) (by omega) (View.own h) (De h)) ?_
  rintro _ aQ ⟨aR,ar,rfl,F⟩
  refine⟨_,D,?_⟩
  have H2:=Bl H2 F
  have f:=Bl f F
  have h:=EN h F
  have b:=BG b F
  refine D4 [I8 64] ?_
  intro aS aT o t ae J
  have aU:=C8 b o
  have aV:=C6 H2 o
  have aW:=C6 f o
  have au:=XU h o
  have H2:=Bl H2 J
  have f:=Bl f J
  have h:=EN h J
  have b:=BG b J
  rw[MU]at ae
  refine CK 0 1 ae D D ?_
  intro aX t av G
  have H2:=Bn G H2 (by omega)
  have f:=Bn G f (by omega)
  have h:=PH h G au
  have b:=CJ b G
  refine Aw<|Ai<|AD<|Ef DW f D<|Ef FF av D<|CL Wx D (cc _ _ _ (X.below b (Br _)) A ar) ?_
  rintro _ aY ⟨aZ,aw,rfl,H⟩
  refine⟨_,D,?_⟩
  have H2:=Bl H2 H
  have f:=Bl f H
  have h:=EN h H
  have b:=BG b H
  refine CK 0 1 f D D ?_
  intro a0 t ax R
  have H2:=Bn R H2 (by omega)
  have h:=PH h R ad
  have b:=CJ b R
  refine Aw<|DN<|Ai<|AD<|Az D<|Dz (q:=64) D D<|AV D<|Aw<|Ai<|?_
  intro a m
  exact⟨_,by omega,i+64,N,p,z,L,_,D,AY m,by omega,aw,C,lw,M,O,H2,ax,h,ao,ad,b⟩
 ·
  refine Dv<|BY<|BY<|Ds<|Ai<|Ao<|AD<|D4 [Ak 32] ?_
  intro T a1 o t B J
  have a2:=C8 b o
  have a3:=C6 H2 o
  have a4:=C6 f o
  have H2:=Bl H2 J
  have f:=Bl f J
  have b:=BG b J
  rw[KG]at B
  refine Aw<|Ai<|Ao<|Ao<|AD<|AV (v:=(E 0)) D<|Aw<|Ai<|B'<|?_
  intro a m
  refine Ec (fun Q a W=>∃i,∃d:List UInt8,∃v:List Nat,Q=32 - i∧AH 42 a (Jb (Jb (Jb (Jb Jk 2 (S s)) 4 (S x)) 7 (S T)) 8 (E i))∧i≤32∧Jm 8 v∧s<x∧x<T∧w.heap.size≤s∧d.length=32∧CY W s [bv (List.replicate 32 0)] 51∧CY W x [Da v] 224∧CY W T [bv d] 51∧Below w.heap.size w W) _ ⟨0,_,_,D,AY m,Nat.zero_le _,A,C,by omega,lw,List.length_replicate,H2,f,B,b⟩ ?_
  rintro _ a a5 ⟨i,d,v,rfl,m,an,A,C,ay,lw,Ad,H2,f,B,b⟩
  revert a
  refine Ao<|Ao<|AD<|Az D<|D_ (q:=(32:Nat)) D D<|Aw<|Ai<|DU D (fun az=>?_) fun az=>?_
  ·
   refine CA<|Ai<|Ao<|B'<|AD<|Az D<|Az D<|Qe (q:=4) D D<|E' DW 1 (i/4) (i/4) D D<|D8 CI (DV f A (i/4)) D<|Az D<|Mz (q:=4) D D<|Nv (p:=8) D D<|Rv (p:=24) D D<|Cc (fun _ m=>Ex m (p:=((24 - (8*(i % 4)):Nat):Int)) (r:=((24 - (8*(i % 4)):Nat):Int)) D AF Kp (JB (24 - (8*(i % 4)))))<|?_
   obtain⟨y,af⟩:∃g:Nat,g=(v.getD (i/4) 0)/2^(24 - (8*(i % 4))):=⟨_,D⟩
   have a6:y<4294967296:=by rw[af];exact Nat.lt_of_le_of_lt (Nat.div_le_self _ _) (A.at _)
   refine Cc (fun _ m=>IG m (k:=.u32) (p:=(v.getD (i/4) 0)) (n:=24 - (8*(i % 4))) (r:=y) D D (by simp only[IntKind.bits];omega) af.symm)<|Cc (fun _ m=>Ex m (p:=(((y:Nat):Int):Int)) (r:=(((UInt8.ofNat y).toNat:Nat):Int)) D Tryz.underlying72 Tryz.underlying5 (H5 y))<|E' Tryz.underlying51 1 i i D D<|?_
   intro a7 aA
   refine Cp D (fun K aB=>W6 aA (j:=i) D B Ad (by omega) (u:=(UInt8.ofNat y)) D (by kernel_rfl) ?_)
   intro a a8 m t aC U
   have H2:=Bn U H2 (by omega)
   have f:=Bn U f (by omega)
   have b:=CJ b U
   have aD:(d.set i (UInt8.ofNat y)).length=32:=(by rw[List.length_set];exact Ad)
   refine aB _ _ ?_;revert a
   refine Aw<|DN<|Ai<|AD<|Az D<|Dz (q:=1) D D<|AV D<|Aw<|Ai<|?_
   intro a m
   exact⟨_,by omega,i+1,_,_,D,AY m,by omega,A,C,ay,lw,aD,H2,f,aC,b⟩
  ·
   refine Dv<|BY<|BY<|Ds<|Ai<|Ao<|AD<|Ef B5 B D<|CK 0 1 H2 D D ?_
   intro a9 t aE aF
   have b:=CJ b aF
   refine Aw<|Ai<|C0<|?_
   intro a m
   refine Kj m D D aE B5 D (Zj 32 (Ja.row (Ju Ad) Ja.nil)) ?_
   exact⟨_,Ad,D,b⟩
theorem YB(d0:List UInt8)(z:Int)(w:World)(o:d0.length=32):
 Calls Tryz.prog 134 #[Value.agg (flat [bv d0]),Value.int .i64 (z:Int)] w fun e w'=>∃d,d.length=32∧e=.returned (.agg (flat [bv d]))∧Below w.heap.size w w':=by
 have b:Below w.heap.size w w:=Cn _ _
 refine DZ Th D 16 ?_
 refine Ao<|AD<|Hf D ?_
 intro g F h k H2 J
 have G:=C8 b h
 have b:=BG b J
 refine D4 [Ak 32] ?_
 intro l H h k f J
 have I:=C8 b h
 have L:=C6 H2 h
 have H2:=Bl H2 J
 have b:=BG b J
 rw[KG]at f
 refine Aw<|Ai<|Ao<|Ao<|AD<|AV (v:=(E 0)) D<|Aw<|Ai<|B'<|?_
 intro a c
 refine Ec (fun p a W=>∃i,∃d:List UInt8,p=32 - i∧AH 16 a (Jb (Jb (Jb (Jb Jk 1 (Value.int .i64 (z:Int))) 2 (S g)) 4 (S l)) 5 (E i))∧i≤32∧d.length=32∧g<l∧w.heap.size≤g∧CY W g [bv d] 51∧CY W l [bv (List.replicate 32 0)] 51∧Below w.heap.size w W) _ ⟨0,_,D,AY c,Nat.zero_le _,o,by omega,by omega,H2,f,b⟩ ?_
 rintro _ a M ⟨i,d,rfl,c,N,Ad,m,lw,H2,f,b⟩
 revert a
 refine Ao<|Ao<|AD<|Az D<|D_ (q:=(32:Nat)) D D<|Aw<|Ai<|DU D (fun r=>?_) fun r=>?_
 ·
  refine CA<|Ai<|Ao<|B'<|Ao<|AD<|Az D<|Az D<|cw D D<|Aw<|Ai<|DU D (fun s=>?_) fun s=>?_
  ·
   refine AD<|Az D<|E' B5 1 i i D D<|?_
   intro O t
   refine Cp D (fun K x=>W6 t (j:=i) D H2 Ad (by omega) (u:=0) D (by kernel_rfl) ?_)
   intro a P c k y n
   have f:=Bn n f (by omega)
   have b:=CJ b n
   have A:(d.set i 0).length=32:=(by rw[List.length_set];exact Ad)
   refine x _ _ ?_;revert a
   refine Aw<|DN<|Ai<|AD<|Az D<|Dz (q:=1) D D<|AV D<|Aw<|Ai<|?_
   intro a c
   exact⟨_,by omega,i+1,_,D,AY c,by omega,A,m,lw,y,f,b⟩
  ·
   refine CA<|DN<|Ai<|AD<|Az D<|Dz (q:=1) D D<|AV D<|Aw<|Ai<|?_
   intro a c
   exact⟨_,by omega,i+1,_,D,AY c,by omega,Ad,m,lw,H2,f,b⟩
 ·
  refine Dv<|BY<|BY<|Ds<|Ai<|Ao<|AD<|Ef B5 H2 D<|CK 0 1 f D D ?_
  intro Q k B C
  have b:=CJ b C
  refine Aw<|Ai<|C0<|?_
  intro a c
  refine Kj c D D B B5 D (Zj 32 (Ja.row (Ju Ad) Ja.nil)) ?_
  exact⟨_,Ad,D,b⟩
end Go.Proofs.YtaapafoibofbjaaGreatDoor
