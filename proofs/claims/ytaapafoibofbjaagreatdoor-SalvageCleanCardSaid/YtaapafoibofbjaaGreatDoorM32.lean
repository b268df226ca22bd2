/- Laws and walks on the road to SalvageClean (part M32). No conditions beyond each law's own. -/
import Derived.Test.YtaapafoibofbjaaGreatDoorM01
import Derived.Test.YtaapafoibofbjaaGreatDoorM31
import Derived.Test.YtaapafoibofbjaaGreatDoorM07
import Derived.Test.YtaapafoibofbjaaGreatDoorM29
import Derived.Test.YtaapafoibofbjaaGreatDoorM15
import Derived.Test.YtaapafoibofbjaaGreatDoorM12
set_option linter.unusedVariables false
namespace Go.Proofs.YtaapafoibofbjaaGreatDoor
open Go.RowKit
set_option maxRecDepth 100000
set_option maxHeartbeats 1000000
theorem e4{i p:Nat}(a:1≤i)(h:i %(2*p)=0):2*p≤i:=Nat.le_of_dvd a (Nat.dvd_of_mod_eq_zero h)
theorem eI(i:Nat)(w:World)(d:1≤i)(j:i≤1152921504606846976):
 Calls Tryz.prog 110 #[E i] w fun e w'=>∃r:Nat,r<i∧e=.returned (.int .i64 ((r:Nat):Int))∧Below w.heap.size w w':=by
 refine Cg w V' D 19<|M ?_
 refine DL (fun f a W=>∃p,f=i - p∧AH 19 a (Jb (Jb (Jb Jk 0 (E i)) 2 (E 0)) 3 (E p))∧Sat C1 w [] W∧(1≤p∧p≤i)) (fun a W c b=>⟨1,D,AY c,b.pick [],by omega⟩) ?_
 rintro _ a W ⟨p,rfl,c,b,k⟩;revert a W
 refine M ?_
 refine Af (E3 (p:=2) D D)<|Af (GG D D)<|Gx D D (fun g=>?_) fun g=>?_
 ·
  refine M ?_
  refine GV D D (fun h=>?_) fun h=>?_
  ·
   refine M ?_
   refine Af (E3 (p:=2) D D)<|M ?_
   exact fun a W c b=>⟨_,by omega,2*p,D,AY c,b.pick [],by have:=e4 (p:=p) d (by omega);omega⟩
  refine M ?_
  refine Es D D<|A7 ?_
  exact fun W b=>⟨_,by omega,D,b.A0⟩
 refine M ?_
 refine Es D D<|A7 ?_
 exact fun W b=>⟨_,by omega,D,b.A0⟩
theorem Nw(Bj:Nat)(b:Option Addr)(a c:Nat)(d:List UInt8)(v:Nat)(w:World)(i:a≤1000000)(V:v≤4611686018427387904)(g:Bj≤w.heap.size)(own:w.ownsRow Bj 5 1 (.slice b a c) a (bv d)):
 Calls Tryz.prog 111 #[I b a c,E v] w fun e w'=>∃p k,∃L:List UInt8,e=.returned (.slice p (a+4) k)∧w'.ownsRow Bj 5 1 (.slice p (a+4) k) (a+4) (bv L)∧D0 w w' (.slice b a c) (.slice p (a+4) k):=by
 refine Cb (BE.one (A:=Ae 5 1 (I b a c) a (bv d)) (Ew own (Nat.zero_le _))) L_ D 23 fun F h=>M ?_
 refine Af (GG (q:=256) D D)<|Af (Iv AF BV D)<|Jd D<|Af (Iy (q:=256) D D)<|Af (GG (q:=256) D D)<|Af (Iv AF BV D)<|Jd D<|Af (Iy (q:=65536) D D)<|Af (GG (q:=256) D D)<|Af (Iv AF BV D)<|Jd D<|Af (Iy (q:=16777216) D D)<|Af (GG (q:=256) D D)<|Af (Iv AF BV D)<|U<|RY 5 [(0,(Be .u8 ((UInt8.ofNat (v % 256)).toNat))),(1,(Be .u8 ((UInt8.ofNat ((v/256) % 256)).toNat))),(2,(Be .u8 ((UInt8.ofNat ((v/65536) % 256)).toNat))),(3,(Be .u8 ((UInt8.ofNat ((v/16777216) % 256)).toNat)))] (bv [UInt8.ofNat (v % 256),UInt8.ofNat ((v/256) % 256),UInt8.ofNat ((v/65536) % 256),UInt8.ofNat ((v/16777216) % 256)]) D fun j=>U<|DI (m:=4) A3 1 (bv (d++([UInt8.ofNat (v % 256),UInt8.ofNat ((v/256) % 256),UInt8.ofNat ((v/65536) % 256),UInt8.ofNat ((v/16777216) % 256)]))) D D D (BZ 0) (Eo _) (EL (l':=[UInt8.ofNat (v % 256),UInt8.ofNat ((v/256) % 256),UInt8.ofNat ((v/65536) % 256),UInt8.ofNat ((v/16777216) % 256)]) D) D fun l n=>A7 ?_
 intro W f
 subst h
 exact⟨_,_,_,D,f.Xt own g 1,f.Xm 1⟩
theorem er(x:B9)(w:World)(J:x.v≤4611686018427387904∧x.f≤4611686018427387904∧x.ju≤4611686018427387904∧x.jt≤4611686018427387904∧x.r≤4611686018427387904∧x.c≤4611686018427387904):
 Calls Tryz.prog 66 #[Value.agg (flat [[E x.v],[E x.f],[E x.ju],[E x.jt],[E x.r],[E x.c],bv x.s.l])] w fun e w'=>∃p k,∃L:List UInt8,e=.returned (.slice p 56 k)∧w'.ownsRow w.heap.size 5 1 (.slice p 56 k) 56 (bv L)∧Below w.heap.size w w':=by
 refine Cg w Wq D 41<|Je<|Jh<|U<|Cv D fun u=>M ?_
 refine Dr 5 1 (bv [])<|M ?_
 refine AG Bv 0 D<|AZ AF 1 0 D D D<|U<|Ba L_ D (fun w b=>Nw _ _ _ _ _ x.v _ (by omega) (by omega) (Nat.zero_le _) (b.rw 0)) fun _ e W b q=>?_
 obtain⟨K,N,P,rfl,d,y⟩:=q;refine⟨_,_,D,b.IF 0 d y,?_⟩
 refine M ?_
 refine AG Bv 1 D<|AZ AF 1 1 D D D<|U<|Ba L_ D (fun w b=>Nw _ _ _ _ _ x.f _ (by omega) (by omega) (Nat.zero_le _) (b.rw 0)) fun _ e W b q=>?_
 obtain⟨Q,R,T,rfl,d,z⟩:=q;refine⟨_,_,D,b.IF 0 d z,?_⟩
 refine M ?_
 refine AG Bv 2 D<|AZ AF 1 2 D D D<|U<|Ba L_ D (fun w b=>Nw _ _ _ _ _ x.ju _ (by omega) (by omega) (Nat.zero_le _) (b.rw 0)) fun _ e W b q=>?_
 obtain⟨V,X,Y,rfl,d,A⟩:=q;refine⟨_,_,D,b.IF 0 d A,?_⟩
 refine M ?_
 refine AG Bv 3 D<|AZ AF 1 3 D D D<|U<|Ba L_ D (fun w b=>Nw _ _ _ _ _ x.jt _ (by omega) (by omega) (Nat.zero_le _) (b.rw 0)) fun _ e W b q=>?_
 obtain⟨Z,aa,ab,rfl,d,B⟩:=q;refine⟨_,_,D,b.IF 0 d B,?_⟩
 refine M ?_
 refine AG Bv 4 D<|AZ AF 1 4 D D D<|U<|Ba L_ D (fun w b=>Nw _ _ _ _ _ x.r _ (by omega) (by omega) (Nat.zero_le _) (b.rw 0)) fun _ e W b q=>?_
 obtain⟨ad,ae,af,rfl,d,C⟩:=q;refine⟨_,_,D,b.IF 0 d C,?_⟩
 refine M ?_
 refine AG Bv 5 D<|AZ AF 1 5 D D D<|U<|Ba L_ D (fun w b=>Nw _ _ _ _ _ x.c _ (by omega) (by omega) (Nat.zero_le _) (b.rw 0)) fun _ e W b q=>?_
 obtain⟨ag,ah,ai,rfl,d,F⟩:=q;refine⟨_,_,D,b.IF 0 d F,?_⟩
 refine M ?_
 refine DL (fun G a W=>∃i n o t,G=32 - i∧AH 41 a (Jb (Jb (Jb (Jb Jk 1 (S u)) 2 (I none 0 0)) 4 (E i)) 3 (I n (24+i) o))∧Sat C1 w [Ae 5 1 (I n (24+i) o) (24+i) (bv t),O u [[E x.v],[E x.f],[E x.ju],[E x.jt],[E x.r],[E x.c],bv x.s.l] 101] W∧i≤32) (fun a W g b=>⟨0,_,_,_,D,AY g,b.pick [0,1],by omega⟩) ?_
 rintro _ a W ⟨i,n,o,t,rfl,g,b,aj⟩;revert a W
 refine M ?_
 refine Ej D D<|Jg<|Jf<|Cz D (fun H=>?_) fun H=>?_
 ·
  refine M ?_
  refine AG Bv 6 D<|Af (D9 B5 1 i (6+i) D D)<|Af (K3 BV 1 6 i D D D)<|U<|Ey A3 (bv [x.s.l.getD i 0]) D D D fun ak=>U<|DI (m:=1) A3 1 (bv (t++([x.s.l.getD i 0]))) D D D (BZ 0) (Eo _) (EL (l':=[x.s.l.getD i 0]) D) D fun al an=>M ?_
  refine B6 (q:=1) D D<|M ?_
  exact fun a W g b=>⟨_,by omega,i+1,_,_,_,D,AY g,b.pick [1,2],by omega⟩
 obtain rfl:i=32:=by omega
 refine A7 ?_
 exact fun W b=>⟨_,_,_,D,b.DQ 0,b.A0⟩
theorem fh(qr:Option Addr)(n p:Nat)(R:List B9)(t:Option Addr)(u:Nat)(OD:List Nat)(x:B9)(B d:Nat)(w:World)(Q:n≤1000000000)(S:B≤1152921504606846976)(T:d≤1152921504606846976)(z:View w (.slice qr n p) n 38 (Aq Mv R))(H:R.length=n)(g:View w (.slice t n u) n 1 (Aq Bm OD))(A:OD.length=n)(J:∀y∈R,y.v≤B∧y.f≤B)(j:∀y∈OD,y≤d)(V:x.v≤B∧x.f≤B):
 Calls Tryz.prog 65 #[I qr n p,I t n u,Value.agg (flat [[E x.v],[E x.f],[E x.ju],[E x.jt],[E x.r],[E x.c],bv x.s.l])] w fun e w'=>∃y:B9,e=.returned (.agg (flat [[E y.v],[E y.f],[E y.ju],[E y.jt],[E y.r],[E y.c],bv y.s.l]))∧y.v≤B+1∧y.f≤B∧y.ju≤d∧y.jt≤d∧y.r=x.r∧y.c=x.c∧Below w.heap.size w w':=by
 refine Cg w VN D 60<|Je<|Jh<|U<|Cv D fun X=>U<|Bw [[E 0],[E 0],[E 0],[E 0],[E 0],[E 0],Ak 32] fun Y=>M ?_
 refine AG Bv 4 D<|AZ AF 1 4 D D D<|AG Bv 5 D<|AZ AF 1 5 D D D<|AG Bv 6 D<|Af (DH B5 1 6 1 [bv x.s.l] D D)<|Af (fun _ _ K b=>E_ K (BH:=[(4,(E x.r)),(5,(E x.c)),(6,(Value.agg (flat [bv x.s.l])))]) D (r:=flat [[E 0],[E 0],[E 0],[E 0],[E x.r],[E x.c],bv x.s.l]) (E5 Bv (ss:=[[E 0],[E 0],[E 0],[E 0],[E 0],[E 0],Ak 32]) (by kernel_rfl) (places:=[(0,1),(1,1),(2,1),(3,1),(4,1),(5,1),(6,32)]) (by kernel_rfl) (B3 [[E 0],[E 0],[E 0],[E 0]] [[E 0]] [[E 0],Ak 32] [[E x.r]] D (Ja.one (Ja.one (Ja.one (Ja.one Ja.nil)))) (Ja.one Ja.nil) (Ja.one Ja.nil) D (B3 [[E 0],[E 0],[E 0],[E 0],[E x.r]] [[E 0]] [Ak 32] [[E x.c]] D (Ja.one (Ja.one (Ja.one (Ja.one (Ja.one Ja.nil))))) (Ja.one Ja.nil) (Ja.one Ja.nil) D (B3 [[E 0],[E 0],[E 0],[E 0],[E x.r],[E x.c]] [Ak 32] [] [bv x.s.l] D (Ja.one (Ja.one (Ja.one (Ja.one (Ja.one (Ja.one Ja.nil)))))) (Ja.row (Jl 32) Ja.nil) (Ja.row x.s.row Ja.nil) D D)))))<|U<|Bw [[E 0],[E 0],[E 0],[E 0],[E 0],[E 0],Ak 32] fun Z=>U<|Bk 0 0 7 D D D<|M ?_
 refine Cr PB D<|E2 D D<|Jg<|Jf<|Cz D (fun L=>?_) fun L=>?_
 ·
  refine Je<|Jh<|AG Bv 0 D<|AZ AF 2 0 D D D<|AG Bv 0 D<|U<|Cq 0 0 D D D<|M ?_
  refine AG Bv 1 D<|AZ AF 2 1 D D D<|AG Bv 1 D<|U<|Cq 0 1 D D D<|M ?_
  refine Af (BN Bv 0 D D)<|U<|Bk 1 0 7 D D D<|M ?_
  refine Fq Bv 1 D D fun W b=>?_
  exact⟨(⟨x.v,x.f,0,0,x.r,x.c,x.s⟩:B9),D,by(try dsimp only);omega,by(try dsimp only);omega,by(try dsimp only);omega,by(try dsimp only);omega,D,D,b.A0⟩
 refine M ?_
 refine Cr PB D<|Es (q:=1) D D<|Kz H (n - 1) fun a C=>Af (Dj TT (n - 1) ((n - 1)*38) (Bx z) D D)<|Af (LH Bv Wh (n - 1) 0 7 [[E a.v],[E a.f],[E a.ju],[E a.jt],[E a.r],[E a.c],bv a.s.l] C (Bx z) D D)<|U<|Bw [[E 0],[E 0],[E 0],[E 0],[E 0],[E 0],Ak 32] fun aa=>U<|Bk 0 0 7 D D D<|M ?_
 refine AG Bv 0 D<|AZ AF 0 0 D D D<|?_
 have AK:=J a (List.mem_of_getElem? C)
 refine B6 (q:=1) D D<|AG Bv 0 D<|U<|Cq 1 0 D D D<|M ?_
 refine AG Bv 1 D<|AZ AF 0 1 D D D<|AG Bv 1 D<|U<|Cq 1 1 D D D<|M ?_
 refine Cr Gd D<|Es (q:=1) D D<|Kz A (n - 1) fun h o=>Af (Dj G0 (n - 1) (n - 1) (Bx g) D D)<|Af (J1 AF Gj (n - 1) o (Bx g) D D)<|AG Bv 2 D<|U<|Cq 1 2 D D D<|M ?_
 refine Cr PB D<|B6 (q:=1) D D<|U<|Ba V' D (fun w b=>eI (n+1) _ (by omega) (by omega)) fun _ e W b q=>?_
 obtain⟨i,ab,rfl,N⟩:=q;refine⟨_,_,D,b.below N,?_⟩
 refine M ?_
 refine Mp D D<|Jg<|Jf<|Cz D (fun O=>?_) fun O=>?_
 ·
  refine M ?_
  refine Es (q:=1) D D<|Kz A (i - 1) fun F G=>Af (Dj G0 (i - 1) (i - 1) (Bx g) D D)<|Af (J1 AF Gj (i - 1) G (Bx g) D D)<|AG Bv 3 D<|U<|Cq 1 3 D D D<|M ?_
  refine Af (BN Bv 1 D D)<|U<|Bk 2 0 7 D D D<|Jg<|Jf<|Jq<|?_
  have P:=j h (List.mem_of_getElem? o)
  have ad:=j F (List.mem_of_getElem? G)
  refine Fq Bv 2 D D fun W b=>?_
  exact⟨(⟨a.v+1,a.f,h,F,x.r,x.c,x.s⟩:B9),D,by(try dsimp only);omega,by(try dsimp only);omega,by(try dsimp only);omega,by(try dsimp only);omega,D,D,b.A0⟩
 refine M ?_
 refine Af (BN Bv 1 D D)<|U<|Bk 2 0 7 D D D<|Jg<|Jf<|Jq<|?_
 have P:=j h (List.mem_of_getElem? o)
 refine Fq Bv 2 D D fun W b=>?_
 exact⟨(⟨a.v+1,a.f,h,0,x.r,x.c,x.s⟩:B9),D,by(try dsimp only);omega,by(try dsimp only);omega,by(try dsimp only);omega,by(try dsimp only);omega,D,D,b.A0⟩
end Go.Proofs.YtaapafoibofbjaaGreatDoor
namespace Go.Proofs.YtaapafoibofbjaaGreatDoor
open Go.RowKit
variable {n:Nat}
def Gk:List UInt8→Nat
 |[]=>0
 |x::l=>x.toNat*2^(8*l.length)+Gk l
theorem Oy(l:List UInt8):Gk l<2^(8*l.length):=by
 induction l with
 |nil=>simp[Gk]
 |cons x l c=>
  have h1:x.toNat<256:=x.toNat_lt
  have a:2^(8*(l.length+1))=256*2^(8*l.length):=by rw[Nat.mul_add,Nat.pow_add,Nat.mul_comm]
  simp only[Gk,List.length_cons,a]
  have b:(x.toNat+1)*2^(8*l.length)≤256*2^(8*l.length):=Nat.mul_le_mul_right _ h1
  rw[Nat.add_mul,Nat.one_mul]at b
  omega
theorem St:∀(l m:List UInt8),l.length=m.length→(FT l m<0↔Gk l<Gk m):=by
 intro l
 induction l with
 |nil=>intro m h;match m,h with|[],_=>simp[FT,Gk]
 |cons x l a=>
  intro m h
  match m,h with
  |y::m,h=>
   simp only[List.length_cons,Nat.add_right_cancel_iff]at h
   unfold FT
   simp only[Gk,h]
   by_cases e:x=y
   ·subst e
    rw[if_pos D,a m h]
    omega
   ·rw[if_neg e]
    have b:x.toNat≠y.toNat:=fun q=>e (UInt8.toNat_inj.1 q)
    have hl:=Oy l
    have hm:=Oy m
    rw[h]at hl
    by_cases q:x.toNat<y.toNat
    ·rw[if_pos q]
     have:(x.toNat+1)*2^(8*m.length)≤y.toNat*2^(8*m.length):=Nat.mul_le_mul_right _ q
     rw[Nat.add_mul,Nat.one_mul]at this
     constructor
     ·intro _;omega
     ·intro _;decide
    ·rw[if_neg q]
     have:(y.toNat+1)*2^(8*m.length)≤x.toNat*2^(8*m.length):=Nat.mul_le_mul_right _ (by omega)
     rw[Nat.add_mul,Nat.one_mul]at this
     constructor
     ·intro h;exact absurd h (by decide)
     ·intro _;omega
theorem Rd:∀(l:List UInt8) (i:Nat),i<8*l.length→Gk l/2^(8*l.length - 1 - i) % 2=(l.getD (i/8) 0).toNat/2^(7 - i % 8) % 2:=by
 intro l
 induction l with
 |nil=>intro i h;simp at h
 |cons x l b=>
  intro i h
  simp only[List.length_cons]at h
  have J:=Oy l
  simp only[Gk,List.length_cons]
  generalize j:8*l.length=L at*
  rcases Nat.lt_or_ge i 8 with q|q
  ·have e:8*(l.length+1) - 1 - i=L+(7 - i):=by omega
   have a:i/8=0:=by omega
   have h1:i % 8=i:=by omega
   rw[e,Nat.pow_add,←Nat.div_div_eq_div_mul,a,h1]
   have:(x.toNat*2^L+Gk l)/2^L=x.toNat:=by
    rw[Nat.mul_comm,Nat.mul_add_div (Nat.two_pow_pos _),Nat.div_eq_of_lt J,Nat.add_zero]
   rw[this]
   rfl
  ·have e:8*(l.length+1) - 1 - i=L - 1 - (i - 8):=by omega
   have Ad:∃d r,L - 1 - (i - 8)=d∧L=d+(r+1):=⟨L - 1 - (i - 8),i - 8,D,by omega⟩
   obtain⟨d,r,c,f⟩:=Ad
   have a:i/8=(i - 8)/8+1:=by omega
   have h1:i % 8=(i - 8) % 8:=by omega
   have:=b (i - 8) (by omega)
   rw[e,a,h1,List.getD_cons_succ,←this,c]
   have g:x.toNat*2^L=2^d*(x.toNat*2^r*2):=by
    rw[f,Nat.pow_add,Nat.pow_succ]
    simp only[Nat.mul_comm,Nat.mul_left_comm,Nat.mul_assoc]
   rw[g,Nat.mul_add_div (Nat.two_pow_pos _),Nat.add_mod,Nat.mul_mod_left,Nat.zero_add,Nat.mod_mod]
theorem ZU(x:Jc)(i:Nat)(h:i<256):Ea x.l i=Gk x.l/2^(255 - i) % 2:=by
 unfold Ea
 rw[if_neg (by omega)]
 have:=Rd x.l i (by rw[x.h];omega)
 rw[x.h]at this
 rw[←this]
theorem Pv(x:Jc)(n:Nat)(h:n<256):Gk x.l/2^(255 - n)=2*(Gk x.l/2^(256 - n))+Ea x.l n:=by
 rw[ZU x n h,show 256 - n=(255 - n)+1 by omega,Nat.pow_succ,←Nat.div_div_eq_div_mul]
 omega
theorem Xq(x y:Jc):∀n,n≤256→(∀i,i<n→Ea x.l i=Ea y.l i)→Gk x.l/2^(256 - n)=Gk y.l/2^(256 - n):=by
 intro n
 induction n with
 |zero=>
  intro _ _
  have h1:=Oy x.l
  have a:=Oy y.l
  rw[x.h]at h1
  rw[y.h]at a
  rw[Nat.sub_zero,Nat.div_eq_of_lt h1,Nat.div_eq_of_lt a]
 |succ n b=>
  intro c h
  have:=b (by omega) (fun i d=>h i (by omega))
  rw[show 256 - (n+1)=255 - n by omega,Pv x n (by omega),Pv y n (by omega),this,h n (by omega)]
theorem ZA(x y:Jc)(n:Nat)(a:n<256)(h:∀i,i<n→Ea x.l i=Ea y.l i)(b:Ea x.l n=0)(d:Ea y.l n=1):FT x.l y.l<0:=by
 rw[St _ _ (by rw[x.h,y.h])]
 have h1:=Pv x n a
 have e:=Pv y n a
 rw[Xq x y n (by omega) h,b]at h1
 rw[d]at e
 rcases Nat.lt_or_ge (Gk x.l) (Gk y.l)with q|q
 ·exact q
 ·have:=Nat.div_le_div_right (c:=2^(255 - n)) q
  omega
theorem P5{l m:List UInt8}(a:n≤256:=by omega):n≤L4 l m↔∀i,i<n→Ea l i=Ea m i:=by
 unfold L4
 cases h:(List.range 256).find? (fun i=>Ea l i !=Ea m i)with
 |none=>
  rw[List.find?_eq_none]at h
  constructor
  ·intro _ i b
   simpa using h i (List.mem_range.2 (by omega))
  ·intro _;exact a
 |some j=>
  rw[List.find?_range_eq_some]at h
  obtain⟨h1,d,c⟩:=h
  constructor
  ·intro q i b
   simpa using c i (by simp at q;omega)
  ·intro q
   show n≤j
   rcases Nat.lt_or_ge j n with r|r
   ·have:=q j r;simp[this]at h1
   ·exact r
theorem fR{x y:Jc}(h:256≤L4 x.l y.l):x.l=y.l:=by
 have h1:=Xq x y 256 (Br _) ((P5 (Br _)).1 h)
 simp at h1
 have a:=St x.l y.l (by rw[x.h,y.h])
 have b:=St y.l x.l (by rw[x.h,y.h])
 have c:=Xa x.l y.l (by rw[x.h,y.h])
 refine ir _ _ (by rw[x.h,y.h]) ?_
 rw[h1]at a b
 have d:¬FT x.l y.l<0:=fun q=>Nat.lt_irrefl _ (a.1 q)
 have e:¬FT y.l x.l<0:=fun q=>Nat.lt_irrefl _ (b.1 q)
 omega
structure GJ (L:List Eh) (n:Nat):Prop where
 j7:L.Pairwise LZ
 jR:∀x∈L,∀y∈L,n≤L4 x.k.l y.k.l
theorem GJ.zero{L:List Eh}(h:L.Pairwise LZ):GJ L 0:=⟨h,fun _ _ _ _=>Nat.zero_le _⟩
theorem GJ.one{L:List Eh}(h:GJ L 256):L.length<2:=by
 match L,h with
 |[],_=>decide
 |[_],_=>simp
 |x::y::L,h=>
  have h1:=fR (h.jR x (by simp) y (by simp))
  have a:=(List.pairwise_cons.1 h.j7).1 y (by simp)
  unfold LZ at a
  rw[h1,e']at a
  exact absurd a (by decide)
theorem GJ.lt{L:List Eh}(h:GJ L n)(a:n≤256)(b:2≤L.length):n<256:=by
 rcases Nat.lt_or_ge n 256 with q|q
 ·exact q
 ·obtain rfl:n=256:=by omega
  have:=h.one
  omega
def NF(L:List Eh)(n:Nat):Nat:=(L.takeWhile (fun x=>Ea x.k.l n==0)).length
theorem Z'(L:List Eh)(n:Nat):∀x∈L.take (NF L n),Ea x.k.l n=0:=by
 induction L with
 |nil=>intro x b;simp at b
 |cons a L c=>
  intro x b
  unfold NF at b c
  rw[List.takeWhile_cons]at b
  split at b
  ·rename_i q
   simp only[List.length_cons,List.take_succ_cons,List.mem_cons]at b
   rcases b with rfl|b
   ·simpa using q
   ·exact c x b
  ·simp at b
theorem Zu{L:List Eh}(h:GJ L n)(e:n<256):∀x∈L.drop (NF L n),Ea x.k.l n=1:=by
 induction L with
 |nil=>intro x b;simp at b
 |cons a L c=>
  intro x b
  have f:GJ L n:=⟨(List.pairwise_cons.1 h.j7).2,fun x b y i=>h.jR x (by simp[b]) y (by simp[i])⟩
  unfold NF at b c
  rw[List.takeWhile_cons]at b
  split at b
  ·simp only[List.length_cons,List.drop_succ_cons]at b
   exact c f x b
  ·rename_i q
   have J:=VR a.k.l n
   have d:Ea a.k.l n=1:=by
    have:Ea a.k.l n≠0:=by simpa using q
    omega
   simp only[List.length_nil,List.drop_zero,List.mem_cons]at b
   rcases b with rfl|b
   ·exact d
   ·have h1:=(List.pairwise_cons.1 h.j7).1 x b
    have m:=h.jR x (by simp[b]) a (by simp)
    have J:=VR x.k.l n
    rcases Nat.eq_zero_or_pos (Ea x.k.l n)with z|z
    ·have o:=ZA x.k a.k n e ((P5).1 m) z d
     unfold LZ at h1
     have:=Xa a.k.l x.k.l (by rw[a.k.h,x.k.h])
     omega
    ·omega
theorem GJ.step{L a:List Eh}{b:Nat}(h:GJ L n)(f:n<256)(c:a.Sublist L)(J:∀x∈a,Ea x.k.l n=b):GJ a (n+1):=by
 refine⟨h.j7.sublist c,fun x d y e=>?_⟩
 rw[P5]
 intro i j
 rcases Nat.lt_or_ge i n with q|q
 ·exact(P5).1 (h.jR x (c.subset d) y (c.subset e)) i q
 ·obtain rfl:i=n:=by omega
  rw[J x d,J y e]
theorem GJ.left{L:List Eh}(h:GJ L n)(a:n<256):GJ (L.take (NF L n)) (n+1):=h.step a (List.take_sublist _ _) (Z' L n)
theorem GJ.right{L:List Eh}(h:GJ L n)(a:n<256):GJ (L.drop (NF L n)) (n+1):=h.step a (List.drop_sublist _ _) (Zu h a)
def Kk(L:List Eh):List (List UInt8×List UInt8):=L.map (fun x=>(x.k.l,x.s.v))
end Go.Proofs.YtaapafoibofbjaaGreatDoor
namespace Go.Proofs.YtaapafoibofbjaaGreatDoor
open Go.RowKit
set_option maxRecDepth 100000
set_option maxHeartbeats 1000000
end Go.Proofs.YtaapafoibofbjaaGreatDoor
namespace Go.Proofs.YtaapafoibofbjaaGreatDoor
open Go.RowKit
structure Cu (X:Nat→Prop) (w w':World):Prop where
 os:w'.os=w.os
 tape:w'.tape=w.tape
 output:w'.output=w.output
 size:w.heap.size≤w'.heap.size
 block:∀k,k<w.heap.size→¬X k→w'.heap[k]? =w.heap[k]?
theorem Cu.refl(X:Nat→Prop)(w:World):Cu X w w:=⟨D,D,D,Br _,fun _ _ _=>rfl⟩
variable {X Y:Nat→Prop} {w W B8:World} {v BA u H8 v0 Oi:Value} {b k n m:Nat}
theorem Cu.trans(h:Cu X w W)(a:Cu Y W B8)(d:∀k,Y k→k<w.heap.size→X k):Cu X w B8:=
 ⟨a.os.trans h.os,a.tape.trans h.tape,a.output.trans h.output,Eg h.size a.size,fun k b c=>(a.block k (Nat.lt_of_lt_of_le b h.size) (fun y=>c (d k y b))).trans (h.block k b c)⟩
theorem Cu.Ot(J:Below w.heap.size w W):Cu X w W:=⟨J.os,J.tape,J.output,J.size,fun k a _=>J.block k a⟩
theorem Cu.below(h:Cu X w W)(J:Below W.heap.size W B8):Cu X w B8:=h.trans (Cu.Ot (X:=fun _=>False) J) (fun _ y=>y.elim)
theorem Cu.grown(h:Cu X w W)(g:W.grownBy B8 (some b))(c:b<w.heap.size→X b):Cu X w B8:=
 h.trans (Y:=fun k=>k=b) ⟨g.os,g.tape,g.output,g.size,fun k a d=>g.block k a (fun e=>d (by cases e;rfl))⟩ (fun k e a=>by subst e;exact c a)
theorem Cu.Ny(h:Cu X w W)(BO:D0 W B8 v BA)(a:∀k,v.ownBlock=some k→k<w.heap.size→X k):Cu X w B8:=
 h.trans (Y:=fun k=>v.ownBlock=some k) ⟨BO.Bg.os,BO.Bg.tape,BO.Bg.output,BO.Bg.size,fun k b c=>BO.Bg.block k b (fun e=>c e.symm)⟩ a
theorem Cu.Bn{o:Obj}(h:Cu X w W)(a:w.heap[k]? =some o)(b:¬X k):W.heap[k]? =some o:=(h.block k (DC a) b).trans a
theorem Cu.toBelow{B:Nat}(h:Cu X w W)(b:B≤w.heap.size)(a:∀k,X k→B≤k):Below B w W:=
 ⟨h.os,h.tape,h.output,h.size,fun k c=>h.block k (by omega) (fun x=>by have:=a k x;omega)⟩
def eK(b:Nat)(v u:Value)(k:Nat):Prop:=k=b∨v.ownBlock=some k∨u.ownBlock=some k
def AtR(n:Nat)(BA v:Value):Prop:=∀k,BA.ownBlock=some k→v.ownBlock=some k∨n≤k
theorem AtR.refl(n:Nat)(v:Value):AtR n v v:=fun _ h=>.inl h
theorem AtR.trans(h:AtR n v v0)(a:AtR m BA v)(b:n≤m):AtR n BA v0:=fun k c=>(a k c).elim (h k) (fun q=>.inr (Eg b q))
theorem AtR.Ny(h:AtR n v v0)(BO:D0 W B8 v BA)(a:n≤W.heap.size):AtR n BA v0:=h.trans (m:=W.heap.size) BO.at_ a
def L8(v u:Value):Prop:=∀k,v.ownBlock=some k→u.ownBlock≠some k
theorem L8.symm(h:L8 v u):L8 u v:=fun k a e=>h k e a
structure GS (B:Nat) (w:World) (q:Option Addr) (n c size:Nat) (xs:List Value):Prop where
 v:View w (.slice q n c) n size xs
 lt:∀a,q=some a→a.block<B
section
variable {B c size:Nat} {q:Option Addr} {xs:List Value} {s:DM}
theorem GS.below(h:GS B w q n c size xs)(d:Below B w W):View W (.slice q n c) n size xs:=by
 refine⟨h.v.1,?_⟩
 rcases h.v.2 with z|⟨b,off,cap,a,h1,e,f,J,g⟩
 ·exact .inl z
 ·simp only[Value.slice.injEq]at a
  exact .inr ⟨b,off,cap,by simp[a],h1,e,f,Nat.lt_of_lt_of_le J d.size,g.Fm (d.block b (h.lt _ a.1))⟩
theorem GS.move(h:GS B w q n c size xs)(a:Below B w W):GS B W q n c size xs:=⟨h.below a,h.lt⟩
theorem GS.of(h:View w (.slice q n c) n size xs):GS w.heap.size w q n c size xs:=by
 refine⟨h,fun a e=>?_⟩
 rcases h.2 with⟨z,_⟩|⟨b,off,cap,d,_,_,_,J,_⟩
 ·simp only[Value.slice.injEq]at z;rw[e]at z;cases z.1
 ·simp only[Value.slice.injEq]at d;rw[e]at d;have:=d.1;simp only[Option.some.injEq]at this;subst this;exact J
theorem GS.mono{b:Nat}(h:GS B w q n c size xs)(d:B≤b):GS b w q n c size xs:=⟨h.v,fun a e=>Nat.lt_of_lt_of_le (h.lt a e) d⟩
theorem GS.sub{p:Option Addr}{m G5:Nat}{CP:List Value}(h:GS B w q n c size xs)(V:View w (.slice p m G5) m size CP)(ho:∀k,(Value.slice p m G5).ownBlock=some k→(Value.slice q n c).ownBlock=some k):GS B w p m G5 size CP:=by
 refine⟨V,fun a d=>?_⟩
 subst d
 have:=ho a.block D
 cases b:q with
 |none=>rw[b]at this;cases this
 |some e=>
  rw[b]at this
  simp only[Value.ownBlock,Option.some.injEq]at this
  rw[←this]
  exact h.lt e b
structure Is (B:Nat) (w:World) (s:DM):Prop where
 ok:s.ok w
 lt:∀a,s.p=some a→a.block<B
theorem Is.FG(h:Is B w s):GS B w s.p s.v.length s.c 1 (bv s.v):=⟨h.ok,h.lt⟩
theorem Is.below(h:Is B w s)(a:Below B w W):s.ok W:=h.FG.below a
theorem Is.move(h:Is B w s)(a:Below B w W):Is B W s:=⟨h.below a,h.lt⟩
theorem Is.of(h:s.ok w):Is w.heap.size w s:=⟨h,h.lt⟩
theorem Is.back(h:Is B W s)(d:Below B w W)(hw:B≤w.heap.size):Is B w s:=by
 refine⟨⟨h.ok.1,?_⟩,h.lt⟩
 rcases h.ok.2 with z|⟨b,off,cap,a,h1,e,f,J,g⟩
 ·exact .inl z
 ·have c:=a
  simp only[DM.val,Value.slice.injEq]at c
  have hl:=h.lt _ c.1
  exact .inr ⟨b,off,cap,a,h1,e,f,Nat.lt_of_lt_of_le hl hw,g.Fm (d.block b hl).symm⟩
end
structure Mr (B:Nat) (w:World):Prop where
 g:DA w
 jH:20<B
 jK:22<B
 jX:21<B
theorem Mr.of(h:DA w):Mr w.heap.size w:=⟨h,h.j3,h.j5,h.j4⟩
theorem Mr.below{B:Nat}(h:Mr B w)(a:Below B w W):DA W:=
 ⟨h.g.first.Fm (a.block _ h.jH),Nat.lt_of_lt_of_le h.g.j3 a.size,h.g.consts.Fm (a.block _ h.jK),Nat.lt_of_lt_of_le h.g.j5 a.size,h.g.div.Fm (a.block _ h.jX),Nat.lt_of_lt_of_le h.g.j4 a.size⟩
theorem Mr.move{B:Nat}(h:Mr B w)(a:Below B w W):Mr B W:=⟨h.below a,h.jH,h.jK,h.jX⟩
abbrev FZ:=List (List UInt8×List UInt8)
abbrev IE:=List (Nat×Nat×List UInt8)
def QG(m:FZ)(n:Nat):Nat:=(m.takeWhile (fun x=>Ea x.1 n==0)).length
def Xf(DB:IE)(k:List UInt8)(n:Nat):Nat:=((DB.find? (fun x=>decide (x.1=n)&&decide (n≤L4 x.2.2 k))).map (fun x=>x.2.1)).getD 0
def ZX(k:List UInt8)(a:Int×Nat)(x:Nat×Nat×List UInt8):Int×Nat:=if a.1<(x.1:Int)∧x.1≤L4 x.2.2 k then((x.1:Int),x.2.1)else a
def V4(DB:IE)(k:List UInt8):Int×Nat:=DB.foldl (ZX k) (-1,0)
def d'(DB:IE)(k:List UInt8)(n:Nat):IE:=DB.filter (fun x=>decide (n≤x.1)&&decide (n≤L4 x.2.2 k))
def TA(Ie:FZ)(k v:List UInt8):Bool:=Ie.any (fun e=>decide (e.1=k)&&decide (e.2=v))
def Tt:Nat→IE→FZ→FZ→FZ→Nat→Nat→IE→Nat×Nat×IE
 |0,_,_,_,_,_,next,MO=>(0,next,MO)
 |f+1,DB,Ie,m,a,n,next,MO=>
  match a with
  |[]=>(0,next,MO)
  |(k,v)::_=>
   let s1:=if m=a then MO++d' DB k n else MO
   if m=a∧Xf DB k n≠0 then(Xf DB k n,next,s1)
   else if a.length=1 then
    (if TA Ie k v then(V4 DB k).2 else next,if TA Ie k v then next else next+1,s1++[(n,(if TA Ie k v then(V4 DB k).2 else next),k)])
   else
    let EF:=Tt f DB Ie (m.take (QG m n)) (a.take (QG a n)) (n+1) next s1
    let Ev:=Tt f DB Ie (m.drop (QG m n)) (a.drop (QG a n)) (n+1) EF.2.1 EF.2.2
    (Ev.2.1,Ev.2.1+1,Ev.2.2++[(n,Ev.2.1,k)])
section
variable {f:Nat} {DB:IE} {Ie m:FZ} {jg:List Eh} {x:Eh} {n next:Nat} {MO s1:IE}
end
structure Wu (B b:Nat) (W:World) (wd next:Nat) (es:Value) (root:Nat) (Ie os:Value) (AW:Option Addr) (Av jI:Nat) (jS:List Bf) (jG:Option Addr) (j1 cs:Nat) (kh:List IU):Prop where
 j6:B≤b
 H:W.heap[b]? =some (.cells (flat [[.int .i64 ((wd:Nat):Int)],[.int .i64 ((next:Nat):Int)],[es],[.int .i64 ((root:Nat):Int)],[Ie],[os],[.slice AW Av jI],[.slice jG j1 cs]]) 219 (0,0))
 kb:W.ownsRow B 99 102 (.slice AW Av jI) Av (Aq GI jS)
 ku:W.ownsRow B 271 66 (.slice jG j1 cs) j1 (Aq I6 kh)
 kx:∀k,(Value.slice AW Av jI).ownBlock=some k→k≠b
 ky:∀k,(Value.slice jG j1 cs).ownBlock=some k→k≠b
 kk:L8 (.slice AW Av jI) (.slice jG j1 cs)
theorem Wu.low{B b:Nat}{W:World}{wd next:Nat}{es:Value}{root:Nat}{Ie os:Value}{AW:Option Addr}{Av a:Nat}{e:List Bf}{c:Option Addr}{d cs:Nat}{f:List IU}(h:Wu B b W wd next es root Ie os AW Av a e c d cs f):∀k,eK b (.slice AW Av a) (.slice c d cs) k→B≤k:=by
 rintro k (q|q|q)
 ·rw[q];exact h.j6
 ·exact(h.kb.lt k q).1
 ·exact(h.ku.lt k q).1
theorem TD{Bo:Type}{P:Bo→Prop}{L:List Bo}{x:Bo}(h:∀y∈L,P y)(a:P x):∀y∈L++[x],P y:=by
 intro y b
 rcases List.mem_append.1 b with q|q
 ·exact h y q
 ·simp at q;subst q;exact a
theorem Cu.Ia{X:Nat→Prop}{w W B8:World}{b:Nat}(h:Cu X w W)(g:W.grownBy B8 (some b))(a:b<w.heap.size→X b:=by first|exact fun _=>Or.inl rfl|exact fun _=>Or.inr rfl|exact fun _=>Or.inr (Or.inl rfl)|exact fun h=>absurd h (by omega)):Cu X w B8:=h.grown g a
section
variable {P:Program} {w w':World} {ops:Array Oper} {rest:List Oper} {Aa:Exit→Act→World→Prop} {N:Nat} {f:BW} {d:Nat} {ty:TypeId} {pos:String} {An:Array Edge} {dst:Option Tmp} {BK:World→Prop} {fuel Cy:Nat} {listed:Array Bool}
end
end Go.Proofs.YtaapafoibofbjaaGreatDoor
namespace Go.Proofs.YtaapafoibofbjaaGreatDoor
open Go.RowKit
set_option maxRecDepth 100000
set_option maxHeartbeats 1000000
end Go.Proofs.YtaapafoibofbjaaGreatDoor
namespace Go.Proofs.YtaapafoibofbjaaGreatDoor
open Go.RowKit
structure Hd where
 p:Option Addr
 L:List Eh
 c:Nat
def Vs:Hd:=⟨none,[],0⟩
def Q4(x:Hd):List Value:=[.slice x.p x.L.length x.c]
theorem R9(x:Hd):(Q4 x).length=1:=rfl
theorem OK:CO Tryz.prog 61 60 1 24 (.slice none 0 0):=CO.mk' LC (by kernel_rfl) D (by decide)
structure Hd.ok (W:World) (x:Hd):Prop where
 v:View W (.slice x.p x.L.length x.c) x.L.length 33 (Aq J4 x.L)
 s:∀e∈x.L,DM.ok W e.s
 o:x.L.Pairwise LZ
 n:∀e∈x.L,e.s.v.length≤128
theorem Hd.ok.below{W B8:World}{x:Hd}(h:x.ok W)(a:Below W.heap.size W B8):x.ok B8:=⟨h.v.below a,fun e he=>(h.s e he).below a D,h.o,h.n⟩
theorem Vs.isOk(W:World):Vs.ok W:=⟨⟨Br _,.inl ⟨D,D,D⟩⟩,(fun e he=>by cases he),.nil,(fun e he=>by cases he)⟩
abbrev N5:=FZ×IE×Nat
def OW(s:N5)(a:FZ):Nat×Nat×IE:=Tt 257 s.2.1 s.1 s.1 a 0 s.2.2 []
def cb(s:N5)(a:FZ):N5:=(a,(OW s a).2.2,(OW s a).2.1+1)
def dq(ms:List FZ):N5:=ms.foldl cb ([],[],2)
structure ix (s:N5) (jU:FZ):Prop where
 n:jU.length≤100000000
 os:s.2.1.length≤100000000000
 Kw:(OW s jU).2.2.length≤900000000000
 js:(OW s jU).2.1≤s.2.2+800000000000
 Ev:(OW s jU).2.1≤549000000000
def RC(ms:List FZ):Prop:=∀i m,ms[i]? =some m→ix (dq (ms.take i)) m
theorem RC.take{ms:List FZ}(h:RC ms)(k:Nat):RC (ms.take k):=by
 intro i m hm
 rw[List.getElem?_take]at hm
 split at hm
 ·rename_i q
  rw[List.take_take,Nat.min_eq_left (by omega)]
  exact h i m hm
 ·cases hm
def JX(m:Nat):Nat:=if 2<m then m - 1 else 0
def LN(wd g mark before KY:Nat)(L:List UInt8):List UInt8:=
 (if g % 2=1 then Ref.EC ⟨wd,g - 1,before,JX before,KY⟩++Ref.EC ⟨wd,g,mark,JX mark,KY⟩else Ref.EC ⟨wd,g,mark,JX mark,KY⟩++Ref.EC ⟨wd,g - 1,before,JX before,KY⟩)++L
structure Lo (L:List UInt8) (A4:Nat):Prop where
 n:L.length=256*(A4 - 2)
 p:∀j,2≤j→j<A4→∃kd l,(L.drop (256*(j - 2))).take 256=Ref.Gc kd j l∧1≤kd∧kd≤3∧l.length≤246
theorem Lo.nil:Lo [] 2:=⟨D,fun j h1 a=>by omega⟩
theorem Lo.snoc{L:List UInt8}{A4 kd:Nat}{l:List UInt8}(h:Lo L A4)(i:2≤A4)(a:1≤kd)(b:kd≤3)(hl:l.length≤246):Lo (L++Ref.Gc kd A4 l) (A4+1):=by
 have c:=Ref.hD kd A4 l
 refine⟨by rw[List.length_append,h.n,c];omega,fun j d k=>?_⟩
 rcases Nat.lt_or_ge j A4 with q|q
 ·obtain⟨f,l',e,g⟩:=h.p j d q
  refine⟨f,l',?_,g⟩
  rw[←e,List.drop_append_of_le_length (by rw[h.n];omega),List.take_append_of_le_length (by rw[List.length_drop,h.n];omega)]
 ·obtain rfl:j=A4:=by omega
  refine⟨kd,l,?_,a,b,hl⟩
  rw[List.drop_append,List.drop_of_length_le (by rw[h.n];omega),h.n,Nat.sub_self,List.drop_zero,List.nil_append,List.take_of_length_le (by omega)]
end Go.Proofs.YtaapafoibofbjaaGreatDoor
namespace Go.Proofs.YtaapafoibofbjaaGreatDoor
open Go.RowKit
set_option maxRecDepth 100000
set_option maxHeartbeats 1000000
end Go.Proofs.YtaapafoibofbjaaGreatDoor
