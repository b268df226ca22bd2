/- Laws and walks on the road to SalvagePlays (part M23). No conditions beyond each law's own. -/
import Derived.Test.YtjdboncaegphmaaGreatDoorM22
import Derived.Test.YtjdboncaegphmaaGreatDoorM20
set_option linter.unusedVariables false
namespace Go.Proofs.YtjdboncaegphmaaGreatDoor
open Go.RowKit
set_option maxRecDepth 100000
set_option maxHeartbeats 2000000
variable {n:Nat}
theorem uz{p i k:Nat}(a:p=2^k)(h1:i % p=0)(b:i %(2*p)≠0):i&&&(i - 1)=i - p:=by
 have f:0<p:=a▸jn k;obtain⟨q,rfl⟩:=mu h1;have g:q % 2=1:=by
  rcases jZ q with z|z
  ·exfalso;apply b;obtain⟨m,rfl⟩:=mu z;rw[show p*(2*m)=2*p*m by rw[←Nat.mul_assoc,RV p 2]];exact Nat.mul_mod_right _ _
  ·exact z
 obtain⟨m,rfl⟩:∃m,q=2*m+1:=⟨q/2,JY⟩
 have c:p*(2*m+1) - p=p*(2*m)+0:=by rw[jW,Q6];omega
 have d:p*(2*m+1) - 1=p*(2*m)+(p - 1):=by rw[jW,Q6];omega
 have e:p*(2*m+1)=p*(2*m+1)+0:=D;rw[c,d,e,a];apply Nat.eq_of_testBit_eq;intro j;rw[Nat.testBit_and,pe _ (jn k),pe _ (by have:=jn k;omega),pe _ (jn k)]
 by_cases hj:j<k
 ·rw[if_pos hj,if_pos hj,if_pos hj];simp
 ·rw[if_neg hj,if_neg hj,if_neg hj];cases j - k with
  |zero=>simp
  |succ t=>rw[Nat.testBit_succ,Nat.testBit_succ,show(2*m+1)/2=m by omega,show 2*m/2=m by omega,Bool.and_self]
theorem lz{p i:Nat}(e:p=i)(h:1≤i):i %(2*p)≠0:=by
 subst e;rw[s_ JY];omega
def G.tc(r:B9)(n a:Nat):Prop:=(r.f≤1073741824∧1≤r.v∧r.v≤1073741824∧r.f≤r.v)∧((r.r=0∧r.c=0)∨(2≤r.r∧r.r<4096∧0<r.c∧r.c≤4096))∧((n=1∧r.uU=0∧r.uW=0)∨(n≠1∧2≤r.uU∧r.uU<4096∧((a=0∧r.uW=0)∨(a≠0∧a=n - 1∧r.uW=r.uU)∨(a≠0∧a≠n - 1∧2≤r.uW∧r.uW<4096∧r.uW<r.uU))))
theorem G.my{r:B9}:G.right r=true↔G.tc r (G.num r) (G.num r&&&(G.num r - 1)):=by
 unfold G.right G.tc;generalize G.num r&&&(G.num r - 1)=a;generalize G.num r=n;simp only[Kq,decide_eq_true_eq,hy];have f:G.held r.r r.c=true↔(r.r=0∧r.c=0)∨(r.r≠0∧0<r.c∧r.c≤4096):=by unfold G.held;simp[Bool.and_assoc]
 have b:∀n,G.NO n=true↔2≤n∧n<4096:=fun n=>by unfold G.NO;simp
 rw[f,b]
 by_cases h1:n=1
 ·rw[if_pos h1];simp only[Kq,decide_eq_true_eq];omega
 ·rw[if_neg h1];simp only[Kq,b]
  by_cases d:a=0
  ·rw[if_pos d];simp only[decide_eq_true_eq];omega
  ·rw[if_neg d]
   by_cases e:a=n - 1
   ·rw[if_pos e];simp only[decide_eq_true_eq];omega
   ·rw[if_neg e];simp only[Kq,decide_eq_true_eq,b];omega
theorem G.tf{r:B9}{b:Bool}{a:Nat}(c:a=G.num r&&&(G.num r - 1))(h:b=true↔G.tc r (G.num r) a):b=G.right r:=by subst c;exact tp.2 (h.trans G.my.symm)
theorem k5(q:Option Addr)(m c:Nat)(l:rG)(i:Nat)(w:World)(a:View w (I q m c) m 1 (bv l))(hl:l.length=m)(hm:i+4≤m∧m≤1048576:=by omega):Calls lp 135 #[I q m c,E i] w (sM w (E (G.BD l i))):=by
 have d:=(l.getD i 0).toNat_lt;have e:=(l.getD (i+1) 0).toNat_lt;have f:=(l.getD (i+2) 0).toNat_lt;have g:=(l.getD (i+3) 0).toNat_lt;refine Cg w U5 D 34<|K ?_;refine GR<|zs (AA D)<|zs (AA D)<|zs (Dj A3 i i (Bx a) D D)<|zs (Fj BV i (Bx a) D)<|zs (Gg BV AF D)<|zs (AA D)<|zs (AA D)<|zs (Pc (q:=1) D D)<|zs (Dj A3 (i+1) (i+1) (Bx a) D D)<|zs (Fj BV (i+1) (Bx a) D)<|zs (Gg BV AF D)<|zs (E3 (p:=256) D D)<|zs (Pc D D)<|zs (AA D)<|zs (AA D)<|zs (Pc (q:=2) D D)<|zs (Dj A3 (i+2) (i+2) (Bx a) D D)<|zs (Fj BV (i+2) (Bx a) D)<|zs (Gg BV AF D)<|zs (E3 (p:=65536) D D)<|zs (Pc D D)<|zs (AA D)<|zs (AA D)<|zs (Pc (q:=3) D D)<|zs (Dj A3 (i+3) (i+3) (Bx a) D D)<|zs (Fj BV (i+3) (Bx a) D)<|zs (Gg BV AF D)<|zs (E3 (p:=16777216) D D)<|zs (Pc D D)<|zs (Ck D)<|CS<|A7 ?_;intro W b;rw[ew JY];exact⟨D,b.A0⟩
theorem lW(n:Nat)(w:World):Calls lp 163 #[E n] w (sM w (.bool (decide (2≤n∧n<4096)))):=by
 refine Cg w kF D 9<|K ?_;refine Pm D D (fun b=>?_) fun b=>?_
 ·
  refine K ?_;refine GV D D (fun c=>?_) fun c=>?_
  ·
   refine A7 ?_;exact fun W a=>⟨CT (decide_eq_true JY).symm,a.A0⟩
  refine A7 ?_;exact fun W a=>⟨CT (decide_eq_false JY).symm,a.A0⟩
 refine A7 ?_;exact fun W a=>⟨CT (decide_eq_false JY).symm,a.A0⟩
theorem pU(v f:Nat)(w:World)(c:f≤v)(d:v≤4611686018427387904):Calls lp 164 #[E v,E f] w (sM w (E (if f=0 then v else v - f+1))):=by
 refine Cg w Zf D 12<|K ?_;refine E2 D D<|Jg<|Jf<|Cz D (fun b=>?_) fun b=>?_
 ·
  refine A7 ?_;intro W a;rw[if_pos JY];exact⟨D,a.A0⟩
 refine K ?_;refine Es D D<|B6 (q:=1) D D<|A7 ?_;intro W a;rw[if_neg JY];exact⟨D,a.A0⟩
theorem nU(i:Nat)(w:World)(V:1≤i:=by omega)(j:i≤1152921504606846976:=by omega):Calls lp 88 #[E i] w (sM w (E (i&&&(i - 1)))):=by
 refine Cg w Up D 19<|K ?_;refine DL (fun g a W=>∃p,g=i - p+0∧AH 19 a (Jb (Jb (Jb Jk 0 (E i)) 2 (E 0)) 3 (E p))∧Sat C1 w [] W∧(∃k,p=2^k)∧i % p=0∧(1≤p∧p≤i)) (fun a W d b=>⟨1,D,AY d,b.pick [],⟨0,D⟩,Nat.mod_one _,JY⟩) ?_;rintro _ a W ⟨p,rfl,d,b,c,Ad,l⟩;revert a W;refine K ?_;refine Af (E3 (p:=2) D D)<|Af (GG D D)<|Gx D D (fun f=>?_) fun f=>?_
 ·
  refine K ?_;refine GV D D (fun h=>?_) fun h=>?_
  ·
   refine K ?_;refine Af (E3 (p:=2) D D)<|K ?_;exact fun a W d b=>⟨_,JY,2*p,D,AY d,b.pick [],c.elim fun k e=>⟨k+1,by rw[e,fW,RV]⟩,by have:=f;omega,by have:=Nat.le_of_dvd JY (mu (show i %(2*p)=0 by have:=f;omega));omega⟩
  refine K ?_;refine Es D D<|A7 ?_;intro W b;obtain⟨k,c⟩:=c;rw[uz c Ad (lz JY V)];exact⟨D,b.A0⟩
 refine K ?_;refine Es D D<|A7 ?_;intro W b;obtain⟨k,c⟩:=c;rw[uz c Ad JY];exact⟨D,b.A0⟩
theorem rR(x:B9)(w:World):Calls lp 136 #[rS (ab x)] w (sM w (.bool (G.right x))):=by
 obtain⟨i,b⟩:∃i,i=G.num x&&&(G.num x - 1):=⟨_,D⟩
 refine Cg w XQ D 95<|Je<|Jh<|U<|Cv D fun HK=>K ?_;refine AG sP 1 D<|AZ AF 0 1 D D D<|GV D D (fun m=>?_) fun m=>?_
 ·
  refine A7 ?_;exact fun W a=>⟨CT (G.tf b (iff_of_false VG (by unfold G.tc;omega))),a.A0⟩
 refine K ?_;refine AG sP 1 D<|Jj D D D<|AZ AF 0 1 D D D<|Jj D D D<|Kl D D (fun n=>?_) fun n=>?_
 ·
  refine A7 ?_;exact fun W a=>⟨CT (G.tf b (iff_of_false VG (by unfold G.tc;omega))),a.A0⟩
 refine K ?_;refine AG sP 0 D<|Jj D D D<|AZ AF 0 0 D D D<|Jj D D D<|GV D D (fun o=>?_) fun o=>?_
 ·
  refine A7 ?_;exact fun W a=>⟨CT (G.tf b (iff_of_false VG (by unfold G.tc;omega))),a.A0⟩
 refine K ?_;refine AG sP 0 D<|Jj D D D<|AZ AF 0 0 D D D<|Jj D D D<|Kl D D (fun p=>?_) fun p=>?_
 ·
  refine A7 ?_;exact fun W a=>⟨CT (G.tf b (iff_of_false VG (by unfold G.tc;omega))),a.A0⟩
 refine K ?_;refine AG sP 0 D<|Jj D D D<|AZ AF 0 0 D D D<|Jj D D D<|AG sP 1 D<|Jj D D D<|AZ AF 0 1 D D D<|Jj D D D<|GV D D (fun s=>?_) fun s=>?_
 ·
  refine A7 ?_;exact fun W a=>⟨CT (G.tf b (iff_of_false VG (by unfold G.tc;omega))),a.A0⟩
 refine K ?_;refine AG sP 4 D<|AZ AF 0 4 D D D<|E2 D D<|Jg<|Jf<|Cz D (fun t=>?_) fun t=>?_
 ·
  refine Je<|Jh<|AG sP 5 D<|AZ AF 0 5 D D D<|JU D D<|Jg<|Jf<|HI D (fun u=>?_) fun u=>?_
  ·
   refine A7 ?_;exact fun W a=>⟨CT (G.tf b (iff_of_false VG (by unfold G.tc;omega))),a.A0⟩
  refine K ?_;refine AG sP 0 D<|AZ AF 0 0 D D D<|AG sP 1 D<|AZ AF 0 1 D D D<|U<|BP Zf D (fun w a=>pU x.v x.f w JY JY)<|?_;have y:(if x.f=0 then x.v else x.v - x.f+1)=G.num x:=D;have z:1≤G.num x∧G.num x≤1073741825:=by unfold G.num;split<;>omega
  refine CR 54 D (show _=(E (G.num x))from D)<|K ?_;refine E2 D D<|Jg<|Jf<|Cz D (fun A=>?_) fun A=>?_
  ·
   refine Je<|Jh<|AG sP 2 D<|AZ AF 0 2 D D D<|Gx D D (fun B=>?_) fun B=>?_
   ·
    refine K ?_;refine AG sP 3 D<|Jj D D D<|AZ AF 0 3 D D D<|Jj D D D<|Gx D D (fun C=>?_) fun C=>?_
    ·
     refine A7 ?_;exact fun W a=>⟨CT (G.tf b (iff_of_true D (by unfold G.tc;omega))),a.A0⟩
    refine A7 ?_;exact fun W a=>⟨CT (G.tf b (iff_of_false VG (by unfold G.tc;omega))),a.A0⟩
   refine A7 ?_;exact fun W a=>⟨CT (G.tf b (iff_of_false VG (by unfold G.tc;omega))),a.A0⟩
  refine K ?_;refine AG sP 2 D<|AZ AF 0 2 D D D<|U<|BP kF D (fun w a=>lW x.uU w)<|Af (Te D)<|Jg<|Jf<|J9 D (fun j=>?_) fun j=>?_
  ·
   have k:¬(2≤x.uU∧x.uU<4096):=of_decide_eq_false (by revert j;cases decide (2≤x.uU∧x.uU<4096)<;>simp);refine A7 ?_;exact fun W a=>⟨CT (G.tf b (iff_of_false VG (by unfold G.tc;omega))),a.A0⟩
  have k:(2≤x.uU∧x.uU<4096):=of_decide_eq_true (by revert j;cases decide (2≤x.uU∧x.uU<4096)<;>simp);refine K ?_;refine U<|BP Up D (fun w a=>nU (G.num x) w)<|CR 70 D (show _=(E i)from by rw[b])<|K ?_;refine E2 D D<|Jg<|Jf<|Cz D (fun F=>?_) fun F=>?_
  ·
   refine Je<|Jh<|AG sP 3 D<|AZ AF 0 3 D D D<|E2 D D<|A7 ?_;exact fun W a=>⟨CT (G.tf b (decide_eq_true_iff.trans (by unfold G.tc;omega))),a.A0⟩
  refine K ?_;refine Es (q:=1) D D<|E2 D D<|Jg<|Jf<|Cz D (fun H=>?_) fun H=>?_
  ·
   refine Je<|Jh<|AG sP 3 D<|AZ AF 0 3 D D D<|AG sP 2 D<|AZ AF 0 2 D D D<|E2 D D<|A7 ?_;exact fun W a=>⟨CT (G.tf b (decide_eq_true_iff.trans (by unfold G.tc;omega))),a.A0⟩
  refine K ?_;refine AG sP 3 D<|AZ AF 0 3 D D D<|U<|BP kF D (fun w a=>lW x.uW w)<|?_
  rcases Ln (decide (2≤x.uW∧x.uW<4096))with e|e
  ·
   have I:=of_decide_eq_true e;refine CR 87 D (congrArg Value.bool e)<|K ?_;refine AG sP 3 D<|Jj D D D<|AZ AF 0 3 D D D<|Jj D D D<|AG sP 2 D<|Jj D D D<|AZ AF 0 2 D D D<|Jj D D D<|GV D D (fun J=>?_) fun J=>?_
   ·
    refine A7 ?_;exact fun W a=>⟨CT (G.tf b (iff_of_true D (by unfold G.tc;omega))),a.A0⟩
   refine A7 ?_;exact fun W a=>⟨CT (G.tf b (iff_of_false VG (by unfold G.tc;omega))),a.A0⟩
  have I:=of_decide_eq_false e;refine CR 87 D (congrArg Value.bool e)<|A7 ?_;exact fun W a=>⟨CT (G.tf b (iff_of_false VG (by unfold G.tc;omega))),a.A0⟩
 refine Je<|Jh<|AG sP 4 D<|AZ AF 0 4 D D D<|U<|BP kF D (fun w a=>lW x.r w)<|?_
 rcases Ln (decide (2≤x.r∧x.r<4096))with g|g
 ·
  have L:=of_decide_eq_true g;refine CR 38 D (congrArg Value.bool g)<|Af (Te D)<|K ?_;refine AG sP 5 D<|Jj D D D<|AZ AF 0 5 D D D<|Jj D D D<|GV D D (fun M=>?_) fun M=>?_
  ·
   refine A7 ?_;exact fun W a=>⟨CT (G.tf b (iff_of_false VG (by unfold G.tc;omega))),a.A0⟩
  refine K ?_;refine AG sP 5 D<|Jj D D D<|AZ AF 0 5 D D D<|Jj D D D<|Kl D D (fun N=>?_) fun N=>?_
  ·
   refine A7 ?_;exact fun W a=>⟨CT (G.tf b (iff_of_false VG (by unfold G.tc;omega))),a.A0⟩
  refine K ?_;refine AG sP 0 D<|AZ AF 0 0 D D D<|AG sP 1 D<|AZ AF 0 1 D D D<|U<|BP Zf D (fun w a=>pU x.v x.f w JY JY)<|?_;have y:(if x.f=0 then x.v else x.v - x.f+1)=G.num x:=D;have z:1≤G.num x∧G.num x≤1073741825:=by unfold G.num;split<;>omega
  refine CR 54 D (show _=(E (G.num x))from D)<|K ?_;refine E2 D D<|Jg<|Jf<|Cz D (fun O=>?_) fun O=>?_
  ·
   refine Je<|Jh<|AG sP 2 D<|AZ AF 0 2 D D D<|Gx D D (fun P=>?_) fun P=>?_
   ·
    refine K ?_;refine AG sP 3 D<|Jj D D D<|AZ AF 0 3 D D D<|Jj D D D<|Gx D D (fun Q=>?_) fun Q=>?_
    ·
     refine A7 ?_;exact fun W a=>⟨CT (G.tf b (iff_of_true D (by unfold G.tc;omega))),a.A0⟩
    refine A7 ?_;exact fun W a=>⟨CT (G.tf b (iff_of_false VG (by unfold G.tc;omega))),a.A0⟩
   refine A7 ?_;exact fun W a=>⟨CT (G.tf b (iff_of_false VG (by unfold G.tc;omega))),a.A0⟩
  refine K ?_;refine AG sP 2 D<|AZ AF 0 2 D D D<|U<|BP kF D (fun w a=>lW x.uU w)<|Af (Te D)<|Jg<|Jf<|J9 D (fun l=>?_) fun l=>?_
  ·
   have k:¬(2≤x.uU∧x.uU<4096):=of_decide_eq_false (by revert l;cases decide (2≤x.uU∧x.uU<4096)<;>simp);refine A7 ?_;exact fun W a=>⟨CT (G.tf b (iff_of_false VG (by unfold G.tc;omega))),a.A0⟩
  have k:(2≤x.uU∧x.uU<4096):=of_decide_eq_true (by revert l;cases decide (2≤x.uU∧x.uU<4096)<;>simp);refine K ?_;refine U<|BP Up D (fun w a=>nU (G.num x) w)<|CR 70 D (show _=(E i)from by rw[b])<|K ?_;refine E2 D D<|Jg<|Jf<|Cz D (fun R=>?_) fun R=>?_
  ·
   refine Je<|Jh<|AG sP 3 D<|AZ AF 0 3 D D D<|E2 D D<|A7 ?_;exact fun W a=>⟨CT (G.tf b (decide_eq_true_iff.trans (by unfold G.tc;omega))),a.A0⟩
  refine K ?_;refine Es (q:=1) D D<|E2 D D<|Jg<|Jf<|Cz D (fun S=>?_) fun S=>?_
  ·
   refine Je<|Jh<|AG sP 3 D<|AZ AF 0 3 D D D<|AG sP 2 D<|AZ AF 0 2 D D D<|E2 D D<|A7 ?_;exact fun W a=>⟨CT (G.tf b (decide_eq_true_iff.trans (by unfold G.tc;omega))),a.A0⟩
  refine K ?_;refine AG sP 3 D<|AZ AF 0 3 D D D<|U<|BP kF D (fun w a=>lW x.uW w)<|?_
  rcases Ln (decide (2≤x.uW∧x.uW<4096))with h|h
  ·
   have T:=of_decide_eq_true h;refine CR 87 D (congrArg Value.bool h)<|K ?_;refine AG sP 3 D<|Jj D D D<|AZ AF 0 3 D D D<|Jj D D D<|AG sP 2 D<|Jj D D D<|AZ AF 0 2 D D D<|Jj D D D<|GV D D (fun V=>?_) fun V=>?_
   ·
    refine A7 ?_;exact fun W a=>⟨CT (G.tf b (iff_of_true D (by unfold G.tc;omega))),a.A0⟩
   refine A7 ?_;exact fun W a=>⟨CT (G.tf b (iff_of_false VG (by unfold G.tc;omega))),a.A0⟩
  have T:=of_decide_eq_false h;refine CR 87 D (congrArg Value.bool h)<|A7 ?_;exact fun W a=>⟨CT (G.tf b (iff_of_false VG (by unfold G.tc;omega))),a.A0⟩
 have L:=of_decide_eq_false g;refine CR 38 D (congrArg Value.bool g)<|Af (Te D)<|A7 ?_;exact fun W a=>⟨CT (G.tf b (iff_of_false VG (by unfold G.tc;omega))),a.A0⟩
attribute [local irreducible] th G.DF G.BD G.right G.record
theorem ri(q:Option Addr)(m c:Nat)(l:rG)(w:World)(d:View w (I q m c) m 1 (bv l))(hl:l.length=m)(hm:m≤1048576):Calls lp 107 #[I q m c] w fun e W=>(∀r,G.record l=some r→e=.returned (.tuple #[rS (Ro r),E 0]))∧(G.record l=none→e=.returned (.tuple #[rS Qb,E 150]))∧Below w.heap.size w W:=by
 have x:=KU l 0;have y:=KU l 4;have z:=KU l 8;have A:=KU l 12;have B:=KU l 16;have C:=KU l 20;refine Cg w Nb D 42<|Je<|Jh<|U<|Bw Yc fun k=>K ?_;refine Cr B7 D<|JU D D<|Jg<|Jf<|HI D (fun s=>?_) fun s=>?_
 ·
  refine Je<|Jh<|Af (S8 Yc)<|U<|Bk 0 0 7 D D D<|?_;refine K ?_;refine Gl sP 0 D D D fun W b=>?_;have f:G.record l=none:=by unfold G.record;rw[if_neg JY]
  exact⟨(fun n h=>by rw[f]at h;cases h),fun _=>rfl,b.A0⟩
 obtain rfl:m=56:=JY;refine K ?_;refine U<|BP U5 D (fun w b=>k5 _ _ _ l 0 w ((Bx d) w b) hl)<|Jd D<|U<|BP U5 D (fun w b=>k5 _ _ _ l 4 w ((Bx d) w b) hl)<|Jd D<|U<|BP U5 D (fun w b=>k5 _ _ _ l 8 w ((Bx d) w b) hl)<|Jd D<|U<|BP U5 D (fun w b=>k5 _ _ _ l 12 w ((Bx d) w b) hl)<|Jd D<|U<|BP U5 D (fun w b=>k5 _ _ _ l 16 w ((Bx d) w b) hl)<|Jd D<|U<|BP U5 D (fun w b=>k5 _ _ _ l 20 w ((Bx d) w b) hl)<|Af (S8 [[E (G.BD l 0)],[E (G.BD l 4)],[E (G.BD l 8)],[E (G.BD l 12)],[E (G.BD l 16)],[E (G.BD l 20)],Ak 32])<|U<|Bw Yc fun o=>U<|Bk 0 0 7 D D D<|?_;refine K ?_;refine FO 0 [[E (G.BD l 0)],[E (G.BD l 4)],[E (G.BD l 8)],[E (G.BD l 12)],[E (G.BD l 16)],[E (G.BD l 20)],bv (th l 24 0).l] D (by rw[m1];rfl)<|DL (fun t a W=>∃i,t=32 - i∧AH 42 a (Jb (Jb (Jb (Jb (Jb Jk 0 (I q 56 c)) 2 (S k)) 3 (E 0)) 4 (S o)) 5 (E i))∧Sat C1 w [O o [[E (G.BD l 0)],[E (G.BD l 4)],[E (G.BD l 8)],[E (G.BD l 12)],[E (G.BD l 16)],[E (G.BD l 20)],bv (th l 24 i).l] 142,O k Yc 142] W∧i≤32) (fun a W g b=>⟨0,D,AY g,b.pick [0,1],JY⟩) ?_;rintro _ a W ⟨i,rfl,g,b,V⟩;revert a W;refine K ?_;refine Ej D D<|Jg<|Jf<|Cz D (fun u=>?_) fun u=>?_
 ·
  refine K ?_;refine B6 (p:=24) D D<|Af (Dj A3 (24+i) (24+i) (Bx d) D D)<|Af (Fj BV (24+i) (Bx d) D)<|AG sP 6 D<|Af (D9 Nl 1 i (6+i) D D)<|U<|eQ 0 6 i (l.getD (24+i) 0) D D D fun F v=>Jg<|?_;refine FO 0 [[E (G.BD l 0)],[E (G.BD l 4)],[E (G.BD l 8)],[E (G.BD l 12)],[E (G.BD l 16)],[E (G.BD l 20)],bv (th l 24 (i+1)).l] D (by rw[v,ng _ _ _];rfl)<|?_;refine K ?_;refine B6 (q:=1) D D<|K ?_;exact fun a W g b=>⟨_,JY,i+1,D,AY g,b.pick [0,1],JY⟩
 obtain rfl:i=32:=JY;refine FO 0 [[E (G.BD l 0)],[E (G.BD l 4)],[E (G.BD l 8)],[E (G.BD l 12)],[E (G.BD l 16)],[E (G.BD l 20)],bv (G.DF l 24).l] D (by rw[mh])<|K ?_;refine Af (BN sP 0 D D)<|U<|BP XQ D (fun w b=>rR ⟨G.BD l 0,G.BD l 4,G.BD l 8,G.BD l 12,G.BD l 16,G.BD l 20,G.DF l 24⟩ w)<|K ?_;refine Af (Te D)<|Jg<|Jf<|J9 D (fun j=>?_) fun j=>?_
 ·
  refine Je<|Jh<|Af (S8 Yc)<|U<|Bk 1 0 7 D D D<|?_;refine K ?_;refine Gl sP 1 D D D fun W b=>?_;have f:G.record l=none:=by unfold G.record;rw[if_pos hl,if_neg (by revert j;show(!G.right (G.Kd l))=_→_;cases G.right (G.Kd l)<;>simp)]
  exact⟨(fun n h=>by rw[f]at h;cases h),fun _=>rfl,b.A0⟩
 refine K ?_;refine Af (BN sP 0 D D)<|U<|Bk 1 0 7 D D D<|?_;refine K ?_;refine Gl sP 1 D D D fun W b=>?_;have f:G.record l=some (G.Kd l):=by unfold G.record;rw[if_pos hl,if_pos (by revert j;show(!G.right (G.Kd l))=_→_;cases G.right (G.Kd l)<;>simp)]
 exact⟨(fun n h=>by rw[f]at h;cases h;rfl),(fun h=>by rw[f]at h;cases h),b.A0⟩
def HB(y:Ji 60)(o v:Nat):Nat→Ji 60
 |0=>y
 |i+1=>(HB y o v i).set (o+i) (UInt8.ofNat (v/2^(8*i)))
theorem al(s:Fr.Bu)(w:World)(h1:s.g≤72057594037927936)(a:s.p≤4294967296)(b:s.m≤4294967296)(c:s.h≤4294967296)(d:s.w≤256):
 Calls lp 95 #[rS (Z1 s)] w (sM w (.bool (Fr.DE s))):=UO s w h1 a b c d
def Fr.KL(s:Fr.Bu):Ji 60:=HB (HB (HB (HB (((Ji.zero 60).lay 0 [76,68,71,49]).set 4 (UInt8.ofNat s.w)) 8 s.g 8) 16 s.m 4) 20 s.h 4) 24 s.p 4
def Fr.pack(s:Fr.Bu):List UInt8:=((Ji.zero 256).lay 0 (Fr.seaL (Fr.KL s).l)).l
theorem Fr.MC(s:Fr.Bu):(Fr.pack s).length=256:=((Ji.zero 256).lay 0 (Fr.seaL (Fr.KL s).l)).h
theorem Fr.Q7(l:rG):(Fr.seaL l).length=l.length+4:=by unfold Fr.seaL;rw[Gd];rfl
theorem QT(b:Nat)(y:Ji 60)(o v n:Nat)(w:World)(g:(O b [bv y.l] 191).holds w)(f:o+n≤60∧0<o∧n≤8:=by omega):Calls lp 96 #[I (some ⟨b,o,none⟩) (60 - o) (60 - o),E v,E n] w fun e W=>e=.returned (.tuple #[])∧Sat (A6 [O b [bv y.l] 191]) w [O b [bv (HB y o v n).l] 191] W:=by
 obtain⟨f,ho,k⟩:=f;refine Cb (BE.one (A:=O b [bv y.l] 191) g) e2 D 20 fun F hF=>K ?_;refine DL (fun h a W=>∃i,h=n - i∧AH 20 a (Jb (Jb (Jb (Jb Jk 0 (I (some ⟨b,o,none⟩) (60 - o) (60 - o))) 1 (E v)) 7 (E n)) 8 (E i))∧Sat F w [O b [bv (HB y o v i).l] 191] W∧i≤n) (fun a W d c=>⟨0,D,AY d,c.pick [0],JY⟩) ?_;rintro _ a W ⟨i,rfl,d,c,V⟩;revert a W;refine Je<|Jh<|Ej D D<|Jg<|Jf<|Je<|Cz D (fun j=>?_) fun j=>?_
 ·
  refine K ?_;refine Af (E3 (p:=8) D D)<|Af (P8 D D (v/2^(8*i)) D (by simp only[IntKind.bits];omega))<|Af (Iv Tryz.underlying3 Tryz.underlying5 D)<|Af (Dj A3 i i (MS 0 0 o (60 - o) (60 - o) D) D D)<|U<|CR 18 D (show _=(A2 b (o+i))from D)<|H6 0 0 (o+i) D D D D (Ji.Ch _ _ (UInt8.ofNat (v/2^(8*i))))<|K ?_;refine B6 (q:=1) D D<|K ?_;exact fun a W d c=>⟨_,JY,i+1,D,AY d,c.pick [0],JY⟩
 refine K ?_;refine Jt<|Ff fun W c=>?_;obtain rfl:i=n:=JY;exact⟨D,by subst hF;exact c.pick [0]⟩
theorem X3(b c d f g:Nat)(w:World)(k:Fr.DE ⟨b,c,d,f,g⟩=true):Calls lp 69 #[rS [[E b],[E c],[E d],[E f],[E g]]] w fun e W=>∃m,e=.returned (.tuple #[.slice (some ⟨m,0,none⟩) 256 256,E 0])∧W.ownsRow w.heap.size 5 1 (.slice (some ⟨m,0,none⟩) 256 256) 256 (bv (Fr.pack ⟨b,c,d,f,g⟩))∧Below w.heap.size w W:=by
 have n:=k;simp only[Fr.DE,Kq,hy,decide_eq_true_eq]at n;refine Cg w PY D 37<|Je<|Jh<|U<|Cv D fun HK=>K ?_;refine Af (BN Bs 0 D D)<|U<|BP gV D (fun w a=>al ⟨b,c,d,f,g⟩ w (by simp only;omega) (by simp only;omega) (by simp only;omega) (by simp only;omega) (by simp only;omega))<|?_
 rcases Ln (Fr.DE ⟨b,c,d,f,g⟩)with i|i
 ·
  refine CR 7 D (congrArg Value.bool i)<|Af (Te D)<|K ?_;refine U<|Bw [bv (Ji.zero 60).l] fun j=>K ?_;refine Af (Fp jN 0 60 rfl .none .none 0)<|U<|b2 0 0 0 [76,68,71,49] D B7 D D D D<|K ?_;refine AG Bs 0 D<|AZ AF 1 0 D D D<|Af (Iv AF BV D)<|Af (D9 jN 1 4 4 D D)<|U<|H6 0 0 4 D D D D (Ji.Ch _ _ (UInt8.ofNat b))<|Jg<|Jf<|Je<|DD 3<|zs (Fp jN 8 60 D (.some D) .none 8)<|zs (AS Bs 1 D)<|zs (Bb AF 1 1 D D D)<|CS<|U<|Ba e2 D (fun w a=>QT j (((Ji.zero 60).lay 0 [76,68,71,49]).set 4 (UInt8.ofNat b)) 8 c 8 w (a.Dq 0)) fun _ e W a ⟨he,q⟩=>⟨_,_,he,a.As [0] [1] q,?_⟩
  refine Jg<|Jf<|Je<|DD 3<|zs (Fp jN 16 60 D (.some D) .none 16)<|zs (AS Bs 2 D)<|zs (Bb AF 1 2 D D D)<|CS<|U<|Ba e2 D (fun w a=>QT j (HB (((Ji.zero 60).lay 0 [76,68,71,49]).set 4 (UInt8.ofNat b)) 8 c 8) 16 d 4 w (a.Dq 0)) fun _ e W a ⟨he,q⟩=>⟨_,_,he,a.As [0] [1] q,?_⟩
  refine Jg<|Jf<|Je<|DD 3<|zs (Fp jN 20 60 D (.some D) .none 20)<|zs (AS Bs 3 D)<|zs (Bb AF 1 3 D D D)<|CS<|U<|Ba e2 D (fun w a=>QT j (HB (HB (((Ji.zero 60).lay 0 [76,68,71,49]).set 4 (UInt8.ofNat b)) 8 c 8) 16 d 4) 20 f 4 w (a.Dq 0)) fun _ e W a ⟨he,q⟩=>⟨_,_,he,a.As [0] [1] q,?_⟩
  refine Jg<|Jf<|Je<|DD 3<|zs (Fp jN 24 60 D (.some D) .none 24)<|zs (AS Bs 4 D)<|zs (Bb AF 1 4 D D D)<|CS<|U<|Ba e2 D (fun w a=>QT j (HB (HB (HB (((Ji.zero 60).lay 0 [76,68,71,49]).set 4 (UInt8.ofNat b)) 8 c 8) 16 d 4) 20 f 4) 24 g 4 w (a.Dq 0)) fun _ e W a ⟨he,q⟩=>⟨_,_,he,a.As [0] [1] q,?_⟩
  refine K ?_;refine U<|Yk A3 256 D D (X4 _) fun OO=>K ?_;refine FO 1 [bv (Fr.KL ⟨b,c,d,f,g⟩).l] D D<|Af (Fp jN 0 60 rfl .none .none 0)<|U<|Ba hK D (fun w a=>et _ _ _ ((Fr.KL ⟨b,c,d,f,g⟩).l) w ((MS 1 0 0 60 60 (DV (by rw[HE];exact Mk (Fr.KL ⟨b,c,d,f,g⟩).h))) w a) (Fr.KL ⟨b,c,d,f,g⟩).h JY) fun _ e W a ⟨p,r,he,o,J⟩=>⟨_,_,he,a.own o J,?_⟩
  refine U<|HC 1 0 0 64 (BZ 0) B7 D D D D (DV (by rw[Fr.Q7,Ji.h];exact Br _)) (by rw[Fr.Q7,Ji.h])<|A7 ?_;exact fun W a=>⟨OO,D,a.R5 (l:=(Ji.zero 256).lay 0 (Fr.seaL (Fr.KL ⟨b,c,d,f,g⟩).l)) 1 (by unfold maxLen;omega),a.A0⟩
 refine CR 7 D (congrArg Value.bool i)<|?_;rw[k]at i;cases i
theorem XE(q:Option Addr)(m c:Nat)(l:rG)(f:Option Addr)(d c2:Nat)(e:rG)(w:World)(g:View w (.slice q m c) m 1 (bv l))(hl:l.length=m)(h:View w (.slice f d c2) d 1 (bv e))(i:e.length=d):Calls lp 193 #[I q m c,I f d c2] w (sM w (.bool (decide (l=e)))):=by
 refine Cg w Xi D 10<|K ?_;refine Af (fun _ _ b a=>Lk b A3 BV Ho D ((Bx g) _ a) hl)<|Jd D<|Af (fun _ _ b a=>Lk b A3 BV Ho D ((Bx h) _ a) i)<|?_;refine Af (fun _ _ b a=>UU b D D _ D)<|A7 ?_;exact fun W a=>⟨D,a.A0⟩
theorem gL{P:Program}{a:Act}{w:World}{N:Nat}{f:BW}{dst:Option Tmp}{ty:TypeId}{pos:String}{An:Array Edge}{g:Option (Nat×Bool)}(b:AH N a f){x:Operand}{t:TypeId}{s:ByteArray}(c:Aj f x=some (.string s))(d:P.underlying t=some .string):CD P a w ⟨dst,.call {callee:=.builtin .len,args:=#[x],argTypes:=#[t]},ty,pos,An,g⟩ (.int .i64 (s.size:Int)) w:=by
 show(execOp a.eval _).run P w=_;simp[execOp,resolve,invoke,builtin,b.A_ c,Builtin.len_,goInt,run_underlying d]
theorem fm{l:rG}(hl:l.length=n)(c:0<n)(h:(l.getD (n - 1) 0).toNat=0):Fr.CN ((l.drop 0).take (n - 1 - 0))=Fr.CN l:=by
 have e:l=l.take (n - 1)++[l.getD (n - 1) 0]:=by
  apply Q2;intro j;rw[l7,LQ,FX,hl]
  by_cases h1:j<n - 1
  ·rw[if_pos JY,if_pos h1]
  ·rw[if_neg JY]
   by_cases a:j=n - 1
   ·subst a;rw[show n - 1 - min (n - 1) n=0 by omega,Dm,F3 JY];rfl
   ·rw[S6 JY,S6 (by simp only[Cw,RH];omega)]
 have b:l.getD (n - 1) 0=0:=M'.1 h;rw[HE,jS]
 conv=>rhs;rw[e,b]
 simp[Fr.CN]
theorem dG{l:rG}(hl:l.length=n)(c:0<n)(h:(l.getD 0 0).toNat=0):Fr.CN ((l.drop 1).take (n - 1))=Fr.CN l:=by
 match l,hl with
 |b::r,hl=>
  have a:b=0:=M'.1 h;rw[List.drop_one,List.tail_cons,DV (by simp only[Cw]at hl;omega),a];simp[Fr.CN]
 |[],hl=>simp at hl;omega
theorem QO{l:rG}(hl:l.length=n)(c:0<n:=by omega)(h:¬(l.getD 0 0).toNat=0:=by omega):Fr.CN l=false:=by
 match l,hl with
 |b::r,hl=>
  have a:¬b=0:=fun e=>h (by rw[e];rfl);simp[Fr.CN,a]
 |[],hl=>simp at hl;omega
theorem Ow{l:rG}(hl:l.length=n)(a:¬0<n:=by omega):Fr.CN l=true:=by
 have:l=[]:=ni JY;subst this;rfl
theorem cC(Ll:Option Addr)(Bz i:Nat)(f:rG)(w:World)(j:View w (.slice Ll Bz i) Bz 1 (bv f))(m:f.length=Bz):Calls lp 239 #[I Ll Bz i,Be .u8 0] w fun e W=>∃q n c l,e=.returned (I q n c)∧(∀d,View d (.slice Ll Bz i) Bz 1 (bv f)→View d (.slice q n c) n 1 (bv l))∧l.length=n∧Fr.CN l=Fr.CN f∧Below w.heap.size w W:=by
 have s:=j.max;refine Cg w Pr D 24<|K ?_;refine DL (fun o a W=>∃q n c,∃l:List UInt8,o=n+1∧AH 24 a (Jb (Jb (Jb Jk 1 (Be .u8 0)) 4 (I none 0 0)) 0 (I q n c))∧Sat C1 w [] W∧(∀d,View d (.slice Ll Bz i) Bz 1 (bv f)→View d (.slice q n c) n 1 (bv l))∧l.length=n∧n≤Bz∧Fr.CN l=Fr.CN f) (fun a W k b=>⟨Ll,Bz,i,f,D,AY k,b.pick [],fun _ h=>h,m,Br _,D⟩) ?_;rintro _ a W ⟨q,n,c,l,rfl,k,b,g,hl,t,hr⟩;revert a W;refine K ?_;refine Cr B7 D<|Kl D D (fun p=>?_) fun p=>?_
 ·
  refine K ?_;refine Cr B7 D<|Jj D D D<|Es (q:=1) D D<|Jj D D D<|Af (Dj A3 (n - 1) (n - 1) (fun w b=>g w (Bx j w b)) D D)<|Jj D D D<|Af (Fj BV (n - 1) (fun w b=>g w (Bx j w b)) D)<|K ?_;refine Gx D D (fun r=>?_) fun r=>?_
  ·
   refine K ?_;refine Cr B7 D<|Es (q:=1) D D<|Af (Fi A3 0 (n - 1) (fun w b=>g w (Bx j w b)) rfl .none (.some D))<|K ?_;exact fun a W k b=>⟨_,JY,_,n - 1,_,_,D,AY k,b.pick [],fun d h1=>(Db 0 (n - 1) (F:=C1) (H:=[]) (Bx (g d h1)) D) d (Sat.start _ _),by rw[FX,J3];omega,JY,by rw[←hr];exact fm hl JY JY⟩
  refine A7 ?_;exact fun W b=>⟨_,_,_,_,D,g,hl,hr,b.A0⟩
 refine A7 ?_;exact fun W b=>⟨_,_,_,_,D,g,hl,hr,b.A0⟩
theorem cO(Ll:Option Addr)(Bz g:Nat)(d:rG)(w:World)(i:View w (.slice Ll Bz g) Bz 1 (bv d))(m:d.length=Bz):Calls lp 238 #[I Ll Bz g,Be .u8 0] w fun e W=>∃q n c,e=.returned (I q n c)∧(n=0↔Fr.CN d=true)∧Below w.heap.size w W:=by
 have u:=i.max;refine Cg w QX D 21<|K ?_;refine DL (fun o a W=>∃q n c,∃l:List UInt8,o=n+1∧AH 21 a (Jb (Jb (Jb Jk 1 (Be .u8 0)) 4 (I none 0 0)) 0 (I q n c))∧Sat C1 w [] W∧(∀f,View f (.slice Ll Bz g) Bz 1 (bv d)→View f (.slice q n c) n 1 (bv l))∧l.length=n∧n≤Bz∧Fr.CN l=Fr.CN d) (fun a W j b=>⟨Ll,Bz,g,d,D,AY j,b.pick [],fun _ h=>h,m,Br _,D⟩) ?_;rintro _ a W ⟨q,n,c,l,rfl,j,b,k,hl,v,hr⟩;revert a W;refine K ?_;refine Cr B7 D<|Kl D D (fun p=>?_) fun p=>?_
 ·
  refine K ?_;refine Af (Dj A3 0 0 (fun w b=>k w (Bx i w b)) D D)<|Jj D D D<|Af (Fj BV 0 (fun w b=>k w (Bx i w b)) D)<|K ?_;refine Gx D D (fun r=>?_) fun r=>?_
  ·
   refine K ?_;refine Af (Fi A3 1 n (fun w b=>k w (Bx i w b)) D (.some D) .none)<|K ?_;exact fun a W j b=>⟨_,JY,_,n - 1,_,_,D,AY j,b.pick [],fun f h1=>(Db 1 n (F:=C1) (H:=[]) (Bx (k f h1)) D) f (Sat.start _ _),by rw[FX,J3];omega,JY,by rw[←hr];exact dG hl JY JY⟩
  refine K ?_;refine Cr B7 D<|E2 D D<|Jg<|Jf<|Cz D (fun s=>?_) fun s=>?_
  ·
   refine A7 ?_;exact fun W b=>⟨_,_,_,D,by rw[←hr];first|(rw[Ow hl];simp<;>omega)|(rw[QO hl];simp<;>omega),b.A0⟩
  refine A7 ?_;exact fun W b=>⟨_,_,_,D,by rw[←hr];first|(rw[Ow hl];simp<;>omega)|(rw[QO hl];simp<;>omega),b.A0⟩
 refine K ?_;refine Cr B7 D<|E2 D D<|Jg<|Jf<|Cz D (fun t=>?_) fun t=>?_
 ·
  refine A7 ?_;exact fun W b=>⟨_,_,_,D,by rw[←hr];first|(rw[Ow hl];simp<;>omega)|(rw[QO hl];simp<;>omega),b.A0⟩
 refine A7 ?_;exact fun W b=>⟨_,_,_,D,by rw[←hr];first|(rw[Ow hl];simp<;>omega)|(rw[QO hl];simp<;>omega),b.A0⟩
theorem eZ(Ll:Option Addr)(Bz f:Nat)(b:rG)(w:World)(g:View w (.slice Ll Bz f) Bz 1 (bv b))(h:b.length=Bz):Calls lp 237 #[I Ll Bz f,Value.string ⟨([0]).toArray⟩] w fun e W=>∃q n c,e=.returned (I q n c)∧(n=0↔Fr.CN b=true)∧Below w.heap.size w W:=by
 refine Cg w K7 D 42<|K ?_;refine Cr B7 D<|E2 D D<|Jg<|Jf<|Cz D (fun i=>?_) fun i=>?_
 ·
  refine A7 ?_;exact fun W a=>⟨_,_,_,D,by rw[Ow h];simp,a.A0⟩
 refine K ?_;refine Af (fun _ _ d a=>UU d D D false D)<|K ?_;refine Af (fun _ _ d a=>gL d D Ho)<|EU D D D<|K ?_;refine Af (Qv Ho 0 (v:=0) D D D)<|Jj D D D<|IS JZ D D<|K ?_;refine CQ []<|Ab 0 D (AA D)<|Ab 1 D (AA D)<|Ab 2 D (Qv Ho 0 (v:=0) D D D)<|Ab 4 D (AA D)<|Ab 5 D (Qv Ho 0 (v:=0) D D D)<|Bh 3 D<|?_;refine Ba Pr D (fun w a=>cC _ _ _ b w ((Bx g) w a) h) fun _ e W a ⟨p,r,s,j,he,k,l,m,J⟩=>⟨_,_,he,a.below J,?_⟩
 refine A8 []<|Bh 6 D<|?_;refine Ba QX D (fun w a=>cO _ _ _ j w ((fun w a=>k w (Bx g w a)) w a) l) fun _ e W a ⟨t,u,c2,he,o,J⟩=>⟨_,_,he,a.below J,?_⟩
 refine A8 []<|Ab 7 D (Ck D)<|Cm<|A7 ?_;exact fun W a=>⟨_,_,_,D,by rw[o,m],a.A0⟩
theorem bL(n Cf:Nat)(fr f:Array Value)(fn:Func)(g:Nat→Bool)(args:Nat→List Value)(w:World)(u:n≤1048576)(l:Tryz.prog.funcs[Cf]? =some fn)(m:∀i:Nat,fr++[E i].toArray++f=(args i).toArray)(o:(fn.name== "runtime.NumGoroutine")=false)(p:fn.body.isNone=false)(r:∀i,i<n→∀d,Below w.heap.size w d→Calls lp Cf (args i).toArray d fun e W=>e=.returned (.bool (g i))∧Below d.heap.size d W):Calls lp 66 #[E n,Value.func (.func Cf) fr f] w fun e W=>∃i,e=.returned (E i)∧i≤n∧(i=0∨g (i - 1)=false)∧(i=n∨g i=true)∧Below w.heap.size w W:=by
 refine Cg w Wq D 26<|K ?_;refine DL (fun s a W=>∃BU V,s=V - BU∧AH 26 a (Jb (Jb (Jb (Jb Jk 1 (Value.func (.func Cf) fr f)) 4 (E 0)) 5 (E BU)) 6 (E V))∧Sat C1 w [] W∧BU≤V∧V≤n∧(BU=0∨g (BU - 1)=false)∧(V=n∨g V=true)) (fun a W c b=>⟨0,n,D,AY c,b.pick [],JY,JY,.inl D,.inl D⟩) ?_;rintro _ a W ⟨BU,V,rfl,c,b,h1,v,j,k⟩;revert a W;refine K ?_;refine Ej D D<|Jg<|Jf<|Cz D (fun t=>?_) fun t=>?_
 ·
  refine K ?_;refine B6 D D<|Af (Gg AF K1 D)<|Af (P8 D D ((BU+V)/2) D)<|Af (Gg K1 AF D)<|K ?_;refine U<|WA l D D (m ((BU+V)/2)) (fun w b=>r ((BU+V)/2) JY w b.A0) (fun w e W b q=>⟨_,_,q.1,b.below q.2,?_⟩) o p;clear q
  rcases Ln (g ((BU+V)/2))with h|h
  ·
   refine CR 20 D (congrArg Value.bool h)<|Af (Te D)<|K ?_;exact fun a W c b=>⟨_,JY,BU,(BU+V)/2,D,AY c,b.pick [],JY,JY,j,.inr (by assumption)⟩
  refine CR 20 D (congrArg Value.bool h)<|Af (Te D)<|K ?_;refine B6 (q:=1) D D<|K ?_;exact fun a W c b=>⟨_,JY,((BU+V)/2)+1,V,D,AY c,b.pick [],JY,JY,.inr (by rw[Yp];assumption),k⟩
 refine A7 ?_;exact fun W b=>⟨BU,D,JY,j,by rw[show BU=V from JY];exact k,b.A0⟩
