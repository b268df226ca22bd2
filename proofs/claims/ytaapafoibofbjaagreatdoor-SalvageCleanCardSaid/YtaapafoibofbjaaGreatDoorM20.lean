/- Laws and walks on the road to SalvageClean (part M20). No conditions beyond each law's own. -/
import Derived.Test.YtaapafoibofbjaaGreatDoorM01
import Derived.Test.YtaapafoibofbjaaGreatDoorM15
import Derived.Test.YtaapafoibofbjaaGreatDoorM19
import Derived.Test.YtaapafoibofbjaaGreatDoorM10
import Derived.Test.YtaapafoibofbjaaGreatDoorM11
import Derived.Test.YtaapafoibofbjaaGreatDoorM06
import Derived.Test.YtaapafoibofbjaaGreatDoorM07
import Derived.Test.YtaapafoibofbjaaGreatDoorM12
set_option linter.unusedVariables false
namespace Go.Proofs.YtaapafoibofbjaaGreatDoor
open Go.RowKit
set_option maxRecDepth 100000
set_option maxHeartbeats 1000000
variable {l:List UInt8} {n:Nat}
theorem MM{f:Nat}{a:Array Value}{w:World}{x:Ending}(h:Calls Tryz.prog f a w fun e W=>e=x∧w=W):Calls Tryz.prog f a w fun e W=>e=x∧Below w.heap.size w W:=h.mono (fun _ _ q=>⟨q.1,q.2▸Cn _ _⟩)
theorem XX(n:Nat)(w:World):Calls Tryz.prog 80 #[E n] w fun e W=>e=.returned (.bool (decide (2≤n∧n<4096)))∧Below w.heap.size w W:=by
 have h:=MM (K0 n w);rw[←Bool.decide_and]at h;exact h
theorem WZ(n:Nat)(w:World):Calls Tryz.prog 81 #[E n] w fun e W=>e=.returned (.bool (decide (1≤n∧n≤3)))∧Below w.heap.size w W:=by
 have h:=MM (M9 n w);rw[←Bool.decide_and]at h;exact h
theorem aA(q:Option Addr)(n c:Nat)(l:List UInt8)(w:World)(V:View w (.slice q n c) n 1 (bv l))(hl:l.length=n):
 Calls Tryz.prog 76 #[I q n c] w fun e W=>e=.returned (Be .u32 (UInt32.ofNat (At.sum l)).toNat)∧Below w.heap.size w W:=by
 have:=At.G7 l
 rw[show(UInt32.ofNat (At.sum l)).toNat=At.sum l from UInt32.toNat_ofNat_of_lt' this]
 exact I4 q n c l w V hl
def Fr.Zy(l:List UInt8):List UInt8:=l++[(UInt32.ofNat (At.sum l)).toUInt8,((UInt32.ofNat (At.sum l))>>>8).toUInt8,((UInt32.ofNat (At.sum l))>>>16).toUInt8,((UInt32.ofNat (At.sum l))>>>24).toUInt8]
theorem bX(p:Nat)(q:Option Addr)(c:Nat)(l:List UInt8)(w:World)(V:View w (.slice q 256 c) 256 1 (bv l))(hl:l.length=256)(j:Fr.CZ p l=true):Calls Tryz.prog 40 #[E p,I q 256 c] w fun e W=>∃k m,e=.returned (.tuple #[E ((l.getD 0 0).toNat),.slice k (0+(6+(l.getD 1 0).toNat - 6)) m,E 0])∧W.ownsRow w.heap.size 5 1 (.slice k (0+(6+(l.getD 1 0).toNat - 6)) m) (0+(6+(l.getD 1 0).toNat - 6)) (bv ((l.drop 6).take (6+(l.getD 1 0).toNat - 6)))∧Below w.heap.size w W:=by
 have z:=(l.getD 1 0).toNat_lt
 have A:=(l.getD 0 0).toNat_lt
 simp only[Fr.CZ,Bool.and_eq_true,decide_eq_true_eq]at j
 obtain⟨⟨⟨⟨⟨⟨n,o⟩,r⟩,s,t⟩,B⟩,hle⟩,u⟩:=j
 refine Cg w E4 D 52<|M ?_
 refine U<|BP Tv D (fun w a=>XX p w)<|?_
 rcases Bool.eq_false_or_eq_true (decide (2≤p∧p<4096))with f|f
 ·
  have v:=of_decide_eq_true f
  refine CR 10 D (congrArg Value.bool f)<|Af (fun _ _ d a=>CE d (b:=true) D)<|M ?_
  refine Cr Co D<|Ci D D D<|M ?_
  refine U<|BP LM D (fun w a=>IY _ 252 _ l w ((Bx V) w a) hl)<|?_
  rcases Bool.eq_false_or_eq_true (decide (At.C5 l 252=0))with g|g
  ·
   have x:=of_decide_eq_true g
   refine CR 16 D (congrArg Value.bool g)<|Af (fun _ _ d a=>CE d (b:=true) D)<|M ?_
   refine GR<|zs (AA D)<|zs (Dj A3 0 0 (Bx V) D D)<|zs (Fj BV 0 (Bx V) D)<|zs (Gg BV AF D)<|zs (AA D)<|zs (Dj A3 1 1 (Bx V) D D)<|zs (Fj BV 1 (Bx V) D)<|zs (Gg BV AF D)<|zs (Ck D)<|zs (Ck D)<|CS<|M ?_
   refine U<|BP Sc D (fun w a=>WZ ((l.getD 0 0).toNat) w)<|?_
   rcases Bool.eq_false_or_eq_true (decide (1≤((l.getD 0 0).toNat)∧((l.getD 0 0).toNat)≤3))with h|h
   ·
    have y:=of_decide_eq_true h
    refine CR 28 D (congrArg Value.bool h)<|Af (fun _ _ d a=>CE d (b:=true) D)<|M ?_
    refine HF (by omega) D D<|M ?_
    refine Af (Fi A3 2 256 (Bx V) D (.some D) .none)<|U<|BP SU D (fun w a=>MM (KA _ _ _ 4 (l.drop 2) w ((Db 2 256 (Bx V) (List.take_of_length_le (by rw[List.length_drop];have:(l).length=256:=hl;omega))) w a) (by have:(l).length=256:=hl;simp only[List.length_drop];omega) (by omega) (by omega)))<|Jd D<|Ci (by omega) D D<|M ?_
    refine B6 (p:=6) D D<|Af (Fi A3 (6+((l.getD 1 0).toNat)) 252 (Bx V) D (.some D) (.some D))<|U<|BP Rl D (fun w a=>MM (LU _ _ _ ((l.drop (6+((l.getD 1 0).toNat))).take (252 - (6+((l.getD 1 0).toNat)))) w ((Db (6+((l.getD 1 0).toNat)) 252 (Bx V) D) w a) (by have:(l).length=256:=hl;simp only[List.length_take,List.length_drop];omega)))<|?_
    rcases Bool.eq_false_or_eq_true (Fr.CN ((l.drop (6+((l.getD 1 0).toNat))).take (252 - (6+((l.getD 1 0).toNat)))))with i|i
    ·
     refine CR 44 D (congrArg Value.bool i)<|Af (fun _ _ d a=>CE d (b:=true) D)<|M ?_
     refine B6 (p:=6) D D<|Af (Fi A3 6 (6+((l.getD 1 0).toNat)) (Bx V) D (.some D) (.some D))<|U<|Dr 5 1 (bv [])<|DI A3 0 (bv ((l.drop 6).take ((6+((l.getD 1 0).toNat)) - 6))) D D D (Db 6 (6+((l.getD 1 0).toNat)) (Bx V) D) (Eo _) (EL (by have:(l).length=256:=hl;simp only[List.length_take,List.length_drop];omega)) D fun C F=>M ?_
     refine Gz D D D fun W a=>?_
     exact⟨_,_,D,a.DQ 0,a.A0⟩
    refine CR 44 D (congrArg Value.bool i)<|?_
    exfalso;rw[u]at i;cases i
   have y:=of_decide_eq_false h
   refine CR 28 D (congrArg Value.bool h)<|?_
   exfalso;exact of_decide_eq_false h ⟨s,t⟩
  have x:=of_decide_eq_false g
  refine CR 16 D (congrArg Value.bool g)<|?_
  exfalso;exact of_decide_eq_false g r
 have v:=of_decide_eq_false f
 refine CR 10 D (congrArg Value.bool f)<|?_
 exfalso;exact of_decide_eq_false f ⟨n,o⟩
theorem Lp(p:Nat)(q:Option Addr)(c:Nat)(l:List UInt8)(w:World)(V:View w (.slice q 256 c) 256 1 (bv l))(hl:l.length=256)(a:Fr.CZ p l=true):Calls Tryz.prog 40 #[E p,I q 256 c] w fun e W=>
 ∃b d,e=.returned (.tuple #[E (l.getD 0 0).toNat,.slice b (G.load l).length d,E 0])∧W.ownsRow w.heap.size 5 1 (.slice b (G.load l).length d) (G.load l).length (bv (G.load l))∧Below w.heap.size w W:=by
 have h:=bX p q c l w V hl a
 have g:=(l.getD 1 0).toNat_lt
 simp only[Fr.CZ,Bool.and_eq_true,decide_eq_true_eq]at a
 obtain⟨⟨⟨⟨⟨⟨i,j⟩,k⟩,m,n⟩,o⟩,hle⟩,r⟩:=a
 have e:0+(6+(l.getD 1 0).toNat - 6)=(G.load l).length:=by unfold G.load;rw[List.length_take,List.length_drop,hl];omega
 have f:(l.drop 6).take (6+(l.getD 1 0).toNat - 6)=G.load l:=by unfold G.load;rw[Nat.add_sub_cancel_left]
 rw[e,f]at h
 exact h
theorem Xl(p:Nat)(q:Option Addr)(c:Nat)(l:List UInt8)(w:World)(V:View w (.slice q 256 c) 256 1 (bv l))(hl:l.length=256)(j:Fr.CZ p l=false):Calls Tryz.prog 40 #[E p,I q 256 c] w fun e W=>∃k:Nat,k≠0∧e=.returned (.tuple #[E 0,I none 0 0,E k])∧Below w.heap.size w W:=by
 have t:=(l.getD 1 0).toNat_lt
 have u:=(l.getD 0 0).toNat_lt
 refine Cg w E4 D 52<|M ?_
 refine U<|BP Tv D (fun w a=>XX p w)<|?_
 rcases Bool.eq_false_or_eq_true (decide (2≤p∧p<4096))with f|f
 ·
  have m:=of_decide_eq_true f
  refine CR 10 D (congrArg Value.bool f)<|Af (fun _ _ d a=>CE d (b:=true) D)<|M ?_
  refine Cr Co D<|Ci D D D<|M ?_
  refine U<|BP LM D (fun w a=>IY _ 252 _ l w ((Bx V) w a) hl)<|?_
  rcases Bool.eq_false_or_eq_true (decide (At.C5 l 252=0))with g|g
  ·
   have n:=of_decide_eq_true g
   refine CR 16 D (congrArg Value.bool g)<|Af (fun _ _ d a=>CE d (b:=true) D)<|M ?_
   refine GR<|zs (AA D)<|zs (Dj A3 0 0 (Bx V) D D)<|zs (Fj BV 0 (Bx V) D)<|zs (Gg BV AF D)<|zs (AA D)<|zs (Dj A3 1 1 (Bx V) D D)<|zs (Fj BV 1 (Bx V) D)<|zs (Gg BV AF D)<|zs (Ck D)<|zs (Ck D)<|CS<|M ?_
   refine U<|BP Sc D (fun w a=>WZ ((l.getD 0 0).toNat) w)<|?_
   rcases Bool.eq_false_or_eq_true (decide (1≤((l.getD 0 0).toNat)∧((l.getD 0 0).toNat)≤3))with h|h
   ·
    have o:=of_decide_eq_true h
    refine CR 28 D (congrArg Value.bool h)<|Af (fun _ _ d a=>CE d (b:=true) D)<|M ?_
    refine Mp D D<|M ?_
    refine Cz D (fun r=>?_) fun r=>?_
    ·
     refine M ?_
     refine Gz D D D fun W a=>?_
     exact⟨51,by decide,D,a.A0⟩
    refine M ?_
    refine Af (Fi A3 2 256 (Bx V) D (.some D) .none)<|U<|BP SU D (fun w a=>MM (KA _ _ _ 4 (l.drop 2) w ((Db 2 256 (Bx V) (List.take_of_length_le (by rw[List.length_drop];have:(l).length=256:=hl;omega))) w a) (by have:(l).length=256:=hl;simp only[List.length_drop];omega) (by omega) (by omega)))<|Jd D<|JU D D<|M ?_
    refine HI D (fun s=>?_) fun s=>?_
    ·
     refine M ?_
     refine Gz D D D fun W a=>?_
     exact⟨54,by decide,D,a.A0⟩
    refine M ?_
    refine B6 (p:=6) D D<|Af (Fi A3 (6+((l.getD 1 0).toNat)) 252 (Bx V) D (.some D) (.some D))<|U<|BP Rl D (fun w a=>MM (LU _ _ _ ((l.drop (6+((l.getD 1 0).toNat))).take (252 - (6+((l.getD 1 0).toNat)))) w ((Db (6+((l.getD 1 0).toNat)) 252 (Bx V) D) w a) (by have:(l).length=256:=hl;simp only[List.length_take,List.length_drop];omega)))<|?_
    rcases Bool.eq_false_or_eq_true (Fr.CN ((l.drop (6+((l.getD 1 0).toNat))).take (252 - (6+((l.getD 1 0).toNat)))))with i|i
    ·
     refine CR 44 D (congrArg Value.bool i)<|Af (fun _ _ d a=>CE d (b:=true) D)<|M ?_
     refine B6 (p:=6) D D<|Af (Fi A3 6 (6+((l.getD 1 0).toNat)) (Bx V) D (.some D) (.some D))<|U<|Dr 5 1 (bv [])<|DI A3 0 (bv ((l.drop 6).take ((6+((l.getD 1 0).toNat)) - 6))) D D D (Db 6 (6+((l.getD 1 0).toNat)) (Bx V) D) (Eo _) (EL (by have:(l).length=256:=hl;simp only[List.length_take,List.length_drop];omega)) D fun v x=>M ?_
     refine Gz D D D fun W a=>?_
     exfalso;rw[Bool.eq_false_iff]at j;apply j;simp only[Fr.CZ,Bool.and_eq_true,decide_eq_true_eq];refine⟨⟨⟨⟨⟨⟨?_,?_⟩,?_⟩,?_,?_⟩,?_⟩,?_⟩,?_⟩<;>first|assumption|omega
    refine CR 44 D (congrArg Value.bool i)<|Af (fun _ _ d a=>CE d (b:=false) D)<|M ?_
    refine Gz D D D fun W a=>?_
    exact⟨53,by decide,D,a.A0⟩
   have o:=of_decide_eq_false h
   refine CR 28 D (congrArg Value.bool h)<|Af (fun _ _ d a=>CE d (b:=false) D)<|M ?_
   refine Gz D D D fun W a=>?_
   exact⟨50,by decide,D,a.A0⟩
  have n:=of_decide_eq_false g
  refine CR 16 D (congrArg Value.bool g)<|Af (fun _ _ d a=>CE d (b:=false) D)<|M ?_
  refine Gz D D D fun W a=>?_
  exact⟨52,by decide,D,a.A0⟩
 have m:=of_decide_eq_false f
 refine CR 10 D (congrArg Value.bool f)<|Af (fun _ _ d a=>CE d (b:=false) D)<|M ?_
 refine Gz D D D fun W a=>?_
 exact⟨54,by decide,D,a.A0⟩
theorem et(q:Option Addr)(m c:Nat)(l:List UInt8)(w:World)(V:View w (.slice q m c) m 1 (bv l))(hl:l.length=m)(hm:m≤4096):Calls Tryz.prog 84 #[I q m c] w fun e W=>∃b d,e=.returned (.slice b (0+m+4) d)∧W.ownsRow w.heap.size 5 1 (.slice b (0+m+4) d) (0+m+4) (bv (Fr.Zy l))∧Below w.heap.size w W:=by
 refine Cg w WY D 28<|M ?_
 refine U<|BP YX D (fun w a=>aA _ _ _ l w ((Bx V) w a) hl)<|M ?_
 refine Cr Co D<|B6 (q:=4) D D<|U<|Tr A3 (m+4) D D (xs:=bv []) D fun f=>M ?_
 refine U<|DI A3 0 (bv l) D D D (Bx V) (Eo _) (EL hl) D fun g h=>M ?_
 refine Af (Lj CI BV D)<|Jd D<|Af (KO 8 D D)<|Af (Lj CI BV D)<|Jd D<|Af (KO 16 D D)<|Af (Lj CI BV D)<|Jd D<|Af (KO 24 D D)<|Af (Lj CI BV D)<|U<|RY 5 [(0,(Be .u8 ((UInt32.ofNat (At.sum l)).toUInt8.toNat))),(1,(Be .u8 (((UInt32.ofNat (At.sum l))>>>8).toUInt8.toNat))),(2,(Be .u8 (((UInt32.ofNat (At.sum l))>>>16).toUInt8.toNat))),(3,(Be .u8 (((UInt32.ofNat (At.sum l))>>>24).toUInt8.toNat)))] (bv [(UInt32.ofNat (At.sum l)).toUInt8,((UInt32.ofNat (At.sum l))>>>8).toUInt8,((UInt32.ofNat (At.sum l))>>>16).toUInt8,((UInt32.ofNat (At.sum l))>>>24).toUInt8]) D fun i=>U<|DI (m:=4) A3 1 (bv (l++([(UInt32.ofNat (At.sum l)).toUInt8,((UInt32.ofNat (At.sum l))>>>8).toUInt8,((UInt32.ofNat (At.sum l))>>>16).toUInt8,((UInt32.ofNat (At.sum l))>>>24).toUInt8]))) D D D (BZ 0) (Eo _) (EL (l':=[(UInt32.ofNat (At.sum l)).toUInt8,((UInt32.ofNat (At.sum l))>>>8).toUInt8,((UInt32.ofNat (At.sum l))>>>16).toUInt8,((UInt32.ofNat (At.sum l))>>>24).toUInt8]) D) D fun j k=>A7 ?_
 exact fun W a=>⟨_,_,D,a.DQ 1,a.A0⟩
def HB(y:Ji 60)(o v:Nat):Nat→Ji 60
 |0=>y
 |i+1=>(HB y o v i).set (o+i) (UInt8.ofNat (v/2^(8*i)))
theorem al(s:Fr.Bu)(w:World)(h1:s.g≤72057594037927936)(a:s.p≤4294967296)(b:s.m≤4294967296)(c:s.h≤4294967296)(d:s.w≤256):
 Calls Tryz.prog 74 #[.agg (flat [[E s.w],[E s.g],[E s.m],[E s.h],[E s.p]])] w fun e W=>e=.returned (.bool (Fr.DE s))∧Below w.heap.size w W:=UO s w h1 a b c d
def Fr.KL(s:Fr.Bu):Ji 60:=HB (HB (HB (HB (((Ji.zero 60).lay 0 [76,68,71,49]).set 4 (UInt8.ofNat s.w)) 8 s.g 8) 16 s.m 4) 20 s.h 4) 24 s.p 4
def Fr.pack(s:Fr.Bu):List UInt8:=((Ji.zero 256).lay 0 (Fr.Zy (Fr.KL s).l)).l
theorem Fr.MC(s:Fr.Bu):(Fr.pack s).length=256:=((Ji.zero 256).lay 0 (Fr.Zy (Fr.KL s).l)).h
theorem Fr.Q7(l:List UInt8):(Fr.Zy l).length=l.length+4:=by unfold Fr.Zy;rw[List.length_append];rfl
theorem QT(b:Nat)(y:Ji 60)(o v n:Nat)(w:World)(g:(O b [bv y.l] 190).holds w)(f:o+n≤60∧0<o∧n≤8:=by omega):Calls Tryz.prog 83 #[I (some ⟨b,o,none⟩) (60 - o) (60 - o),E v,E n] w fun e W=>e=.returned (.tuple #[])∧Sat (A6 [O b [bv y.l] 190]) w [O b [bv (HB y o v n).l] 190] W:=by
 obtain⟨f,ho,m⟩:=f
 refine Cb (BE.one (A:=O b [bv y.l] 190) g) NN D 20 fun F h=>M ?_
 refine DL (fun j a W=>∃i,j=n - i∧AH 20 a (Jb (Jb (Jb (Jb Jk 0 (I (some ⟨b,o,none⟩) (60 - o) (60 - o))) 1 (E v)) 7 (E n)) 8 (E i))∧Sat F w [O b [bv (HB y o v i).l] 190] W∧i≤n) (fun a W d c=>⟨0,D,AY d,c.pick [0],by omega⟩) ?_
 rintro _ a W ⟨i,rfl,d,c,r⟩;revert a W
 refine Je<|Jh<|Ej D D<|Jg<|Jf<|Je<|Cz D (fun k=>?_) fun k=>?_
 ·
  refine M ?_
  refine Af (E3 (p:=8) D D)<|Af (P8 D D (v/2^(8*i)) D (by simp only[IntKind.bits];omega))<|Af (Iv Tryz.underlying3 Tryz.underlying5 D)<|Af (Dj A3 i i (MS 0 0 o (60 - o) (60 - o) D) D D)<|U<|?_
  refine CR 18 D (show _=(A2 b (o+i))from D)<|H6 0 0 (o+i) D D D D (Ji.Ch _ _ (UInt8.ofNat (v/2^(8*i))))<|M ?_
  refine B6 (q:=1) D D<|M ?_
  exact fun a W d c=>⟨_,by omega,i+1,D,AY d,c.pick [0],by omega⟩
 refine M ?_
 refine Jt<|Ff fun W c=>?_
 obtain rfl:i=n:=by omega
 exact⟨D,by subst h;exact c.pick [0]⟩
theorem X3(c d f g i:Nat)(w:World)(V:Fr.DE ⟨c,d,f,g,i⟩=true):Calls Tryz.prog 44 #[Value.agg (flat [[E c],[E d],[E f],[E g],[E i]])] w fun e W=>∃m,e=.returned (.tuple #[.slice (some ⟨m,0,none⟩) 256 256,E 0])∧W.ownsRow w.heap.size 5 1 (.slice (some ⟨m,0,none⟩) 256 256) 256 (bv (Fr.pack ⟨c,d,f,g,i⟩))∧Below w.heap.size w W:=by
 have n:=V
 simp only[Fr.DE,Bool.and_eq_true,Bool.or_eq_true,decide_eq_true_eq]at n
 refine Cg w SI D 37<|Je<|Jh<|U<|Cv D fun HK=>M ?_
 refine Af (BN BM 0 D D)<|U<|BP X_ D (fun w a=>al ⟨c,d,f,g,i⟩ w (by simp only;omega) (by simp only;omega) (by simp only;omega) (by simp only;omega) (by simp only;omega))<|?_
 rcases Bool.eq_false_or_eq_true (Fr.DE ⟨c,d,f,g,i⟩)with j|j
 ·
  refine CR 7 D (congrArg Value.bool j)<|Af (fun _ _ o a=>CE o (b:=true) D)<|M ?_
  refine U<|Bw [bv (Ji.zero 60).l] fun k=>M ?_
  refine Af (Fp LQ 0 60 rfl .none .none 0)<|U<|b2 0 0 0 [76,68,71,49] D Co D D D D<|M ?_
  refine AG BM 0 D<|AZ AF 1 0 D D D<|Af (Iv AF BV D)<|Af (D9 LQ 1 4 4 D D)<|U<|H6 0 0 4 D D D D (Ji.Ch _ _ (UInt8.ofNat c))<|Jg<|Jf<|Je<|DD 3<|zs (Fp LQ 8 60 D (.some D) .none 8)<|zs (AS BM 1 D)<|zs (Bb AF 1 1 D D D)<|CS<|U<|?_
  refine Ba NN D (fun w a=>QT k (((Ji.zero 60).lay 0 [76,68,71,49]).set 4 (UInt8.ofNat c)) 8 d 8 w (a.Dq 0)) fun _ e W a ⟨he,q⟩=>⟨_,_,he,Sat.call (H1:=[_]) (H2:=[O HK [[E c],[E d],[E f],[E g],[E i]] 68]) (a.pick [0,1]) q,?_⟩
  refine Jg<|Jf<|Je<|DD 3<|zs (Fp LQ 16 60 D (.some D) .none 16)<|zs (AS BM 2 D)<|zs (Bb AF 1 2 D D D)<|CS<|U<|?_
  refine Ba NN D (fun w a=>QT k (HB (((Ji.zero 60).lay 0 [76,68,71,49]).set 4 (UInt8.ofNat c)) 8 d 8) 16 f 4 w (a.Dq 0)) fun _ e W a ⟨he,q⟩=>⟨_,_,he,Sat.call (H1:=[_]) (H2:=[O HK [[E c],[E d],[E f],[E g],[E i]] 68]) (a.pick [0,1]) q,?_⟩
  refine Jg<|Jf<|Je<|DD 3<|zs (Fp LQ 20 60 D (.some D) .none 20)<|zs (AS BM 3 D)<|zs (Bb AF 1 3 D D D)<|CS<|U<|?_
  refine Ba NN D (fun w a=>QT k (HB (HB (((Ji.zero 60).lay 0 [76,68,71,49]).set 4 (UInt8.ofNat c)) 8 d 8) 16 f 4) 20 g 4 w (a.Dq 0)) fun _ e W a ⟨he,q⟩=>⟨_,_,he,Sat.call (H1:=[_]) (H2:=[O HK [[E c],[E d],[E f],[E g],[E i]] 68]) (a.pick [0,1]) q,?_⟩
  refine Jg<|Jf<|Je<|DD 3<|zs (Fp LQ 24 60 D (.some D) .none 24)<|zs (AS BM 4 D)<|zs (Bb AF 1 4 D D D)<|CS<|U<|?_
  refine Ba NN D (fun w a=>QT k (HB (HB (HB (((Ji.zero 60).lay 0 [76,68,71,49]).set 4 (UInt8.ofNat c)) 8 d 8) 16 f 4) 20 g 4) 24 i 4 w (a.Dq 0)) fun _ e W a ⟨he,q⟩=>⟨_,_,he,Sat.call (H1:=[_]) (H2:=[O HK [[E c],[E d],[E f],[E g],[E i]] 68]) (a.pick [0,1]) q,?_⟩
  refine M ?_
  refine U<|Yk A3 256 D D (X4 _) fun OO=>M ?_
  refine FO 1 [bv (Fr.KL ⟨c,d,f,g,i⟩).l] D D<|Af (Fp LQ 0 60 rfl .none .none 0)<|U<|?_
  refine Ba WY D (fun w a=>et _ _ _ ((Fr.KL ⟨c,d,f,g,i⟩).l) w ((MS 1 0 0 60 60 (List.take_of_length_le (by rw[List.drop_zero];exact Nat.le_of_eq (Fr.KL ⟨c,d,f,g,i⟩).h))) w a) (Fr.KL ⟨c,d,f,g,i⟩).h (by omega)) fun _ e W a ⟨r,s,he,p,J⟩=>⟨_,_,he,a.own p J,?_⟩
  refine U<|HC 1 0 0 64 (BZ 0) Co D D D D (List.take_of_length_le (by rw[Fr.Q7,Ji.h];exact Br _)) (by rw[Fr.Q7,Ji.h])<|A7 ?_
  exact fun W a=>⟨OO,D,a.R5 (l:=(Ji.zero 256).lay 0 (Fr.Zy (Fr.KL ⟨c,d,f,g,i⟩).l)) 1 (by unfold maxLen;omega),a.A0⟩
 refine CR 7 D (congrArg Value.bool j)<|?_
 rw[V]at j;cases j
theorem XE(q:Option Addr)(m c:Nat)(l:List UInt8)(g:Option Addr)(d c2:Nat)(f:List UInt8)(w:World)(V:View w (.slice q m c) m 1 (bv l))(hl:l.length=m)(h:View w (.slice g d c2) d 1 (bv f))(i:f.length=d):Calls Tryz.prog 182 #[I q m c,I g d c2] w fun e W=>e=.returned (.bool (decide (l=f)))∧Below w.heap.size w W:=by
 refine Cg w Sl D 10<|M ?_
 refine Af (fun _ _ b a=>Lk b A3 BV Ho D ((Bx V) _ a) hl)<|Jd D<|Af (fun _ _ b a=>Lk b A3 BV Ho D ((Bx h) _ a) i)<|?_
 refine Af (fun _ _ b a=>UU b D D _ D)<|A7 ?_
 exact fun W a=>⟨D,a.A0⟩
theorem gL{P:Program}{a:Act}{w:World}{N:Nat}{f:BW}{dst:Option Tmp}{ty:TypeId}{pos:String}{An:Array Edge}{g:Option (Nat×Bool)}(b:AH N a f){x:Operand}{t:TypeId}{s:ByteArray}(c:Aj f x=some (.string s))(d:P.underlying t=some .string):CD P a w ⟨dst,.call {callee:=.builtin .len,args:=#[x],argTypes:=#[t]},ty,pos,An,g⟩ (.int .i64 (s.size:Int)) w:=by
 show(execOp a.eval _).run P w=_
 simp[execOp,resolve,invoke,builtin,b.A_ c,Builtin.len_,goInt,run_underlying d]
theorem fm(hl:l.length=n)(c:0<n)(h:(l.getD (n - 1) 0).toNat=0):Fr.CN ((l.drop 0).take (n - 1 - 0))=Fr.CN l:=by
 have e:l=l.take (n - 1)++[l.getD (n - 1) 0]:=by
  apply List.ext_getElem?
  intro j
  rw[List.getElem?_append,List.getElem?_take,List.length_take,hl]
  by_cases h1:j<n - 1
  ·rw[if_pos (by omega),if_pos h1]
  ·rw[if_neg (by omega)]
   by_cases a:j=n - 1
   ·subst a;rw[show n - 1 - min (n - 1) n=0 by omega,List.getD_eq_getElem?_getD,List.getElem?_eq_getElem (by omega)];rfl
   ·rw[List.getElem?_eq_none (by omega),List.getElem?_eq_none (by simp only[List.length_cons,List.length_nil];omega)]
 have b:l.getD (n - 1) 0=0:=UInt8.toNat_inj.1 h
 rw[List.drop_zero,Nat.sub_zero]
 conv=>rhs;rw[e,b]
 simp[Fr.CN]
theorem dG(hl:l.length=n)(c:0<n)(h:(l.getD 0 0).toNat=0):Fr.CN ((l.drop 1).take (n - 1))=Fr.CN l:=by
 match l,hl with
 |b::r,hl=>
  have a:b=0:=UInt8.toNat_inj.1 h
  rw[List.drop_one,List.tail_cons,List.take_of_length_le (by simp only[List.length_cons]at hl;omega),a]
  simp[Fr.CN]
 |[],hl=>simp at hl;omega
theorem QO(hl:l.length=n)(c:0<n:=by omega)(h:¬(l.getD 0 0).toNat=0:=by omega):Fr.CN l=false:=by
 match l,hl with
 |b::r,hl=>
  have a:¬b=0:=fun e=>h (by rw[e];rfl)
  simp[Fr.CN,a]
 |[],hl=>simp at hl;omega
theorem Ow(hl:l.length=n)(a:¬0<n:=by omega):Fr.CN l=true:=by
 have:l=[]:=List.eq_nil_of_length_eq_zero (by omega)
 subst this;rfl
theorem cC(i:Option Addr)(Bz j:Nat)(f:List UInt8)(w:World)(k:View w (.slice i Bz j) Bz 1 (bv f))(o:f.length=Bz):Calls Tryz.prog 223 #[I i Bz j,Be .u8 0] w fun e W=>∃q n c l,e=.returned (I q n c)∧(∀d,View d (.slice i Bz j) Bz 1 (bv f)→View d (.slice q n c) n 1 (bv l))∧l.length=n∧Fr.CN l=Fr.CN f∧Below w.heap.size w W:=by
 have t:=k.max
 refine Cg w XC D 24<|M ?_
 refine DL (fun p a W=>∃q n c,∃l:List UInt8,p=n+1∧AH 24 a (Jb (Jb (Jb Jk 1 (Be .u8 0)) 4 (I none 0 0)) 0 (I q n c))∧Sat C1 w [] W∧(∀d,View d (.slice i Bz j) Bz 1 (bv f)→View d (.slice q n c) n 1 (bv l))∧l.length=n∧n≤Bz∧Fr.CN l=Fr.CN f) (fun a W m b=>⟨i,Bz,j,f,D,AY m,b.pick [],fun _ h=>h,o,Br _,D⟩) ?_
 rintro _ a W ⟨q,n,c,l,rfl,m,b,g,hl,u,hr⟩;revert a W
 refine M ?_
 refine Cr Co D<|Kl D D (fun r=>?_) fun r=>?_
 ·
  refine M ?_
  refine Cr Co D<|Jj D D D<|Es (q:=1) D D<|Jj D D D<|Af (Dj A3 (n - 1) (n - 1) (fun w b=>g w (Bx k w b)) D D)<|Jj D D D<|Af (Fj BV (n - 1) (fun w b=>g w (Bx k w b)) D)<|M ?_
  refine Gx D D (fun s=>?_) fun s=>?_
  ·
   refine M ?_
   refine Cr Co D<|Es (q:=1) D D<|Af (Fi A3 0 (n - 1) (fun w b=>g w (Bx k w b)) rfl .none (.some D))<|M ?_
   exact fun a W m b=>⟨_,by omega,_,n - 1,_,_,D,AY m,b.pick [],fun d h1=>(Db 0 (n - 1) (F:=C1) (H:=[]) (Bx (g d h1)) D) d (Sat.start _ _),by rw[List.length_take,List.length_drop];omega,by omega,by rw[←hr];exact fm hl (by omega) (by omega)⟩
  refine A7 ?_
  exact fun W b=>⟨_,_,_,_,D,g,hl,hr,b.A0⟩
 refine A7 ?_
 exact fun W b=>⟨_,_,_,_,D,g,hl,hr,b.A0⟩
theorem cO(g:Option Addr)(Bz i:Nat)(d:List UInt8)(w:World)(j:View w (.slice g Bz i) Bz 1 (bv d))(o:d.length=Bz):Calls Tryz.prog 222 #[I g Bz i,Be .u8 0] w fun e W=>∃q n c,e=.returned (I q n c)∧(n=0↔Fr.CN d=true)∧Below w.heap.size w W:=by
 have v:=j.max
 refine Cg w Wv D 21<|M ?_
 refine DL (fun p a W=>∃q n c,∃l:List UInt8,p=n+1∧AH 21 a (Jb (Jb (Jb Jk 1 (Be .u8 0)) 4 (I none 0 0)) 0 (I q n c))∧Sat C1 w [] W∧(∀f,View f (.slice g Bz i) Bz 1 (bv d)→View f (.slice q n c) n 1 (bv l))∧l.length=n∧n≤Bz∧Fr.CN l=Fr.CN d) (fun a W k b=>⟨g,Bz,i,d,D,AY k,b.pick [],fun _ h=>h,o,Br _,D⟩) ?_
 rintro _ a W ⟨q,n,c,l,rfl,k,b,m,hl,x,hr⟩;revert a W
 refine M ?_
 refine Cr Co D<|Kl D D (fun r=>?_) fun r=>?_
 ·
  refine M ?_
  refine Af (Dj A3 0 0 (fun w b=>m w (Bx j w b)) D D)<|Jj D D D<|Af (Fj BV 0 (fun w b=>m w (Bx j w b)) D)<|M ?_
  refine Gx D D (fun s=>?_) fun s=>?_
  ·
   refine M ?_
   refine Af (Fi A3 1 n (fun w b=>m w (Bx j w b)) D (.some D) .none)<|M ?_
   exact fun a W k b=>⟨_,by omega,_,n - 1,_,_,D,AY k,b.pick [],fun f h1=>(Db 1 n (F:=C1) (H:=[]) (Bx (m f h1)) D) f (Sat.start _ _),by rw[List.length_take,List.length_drop];omega,by omega,by rw[←hr];exact dG hl (by omega) (by omega)⟩
  refine M ?_
  refine Cr Co D<|E2 D D<|Jg<|Jf<|Cz D (fun t=>?_) fun t=>?_
  ·
   refine A7 ?_
   exact fun W b=>⟨_,_,_,D,by rw[←hr];first|(rw[Ow hl];simp<;>omega)|(rw[QO hl];simp<;>omega),b.A0⟩
  refine A7 ?_
  exact fun W b=>⟨_,_,_,D,by rw[←hr];first|(rw[Ow hl];simp<;>omega)|(rw[QO hl];simp<;>omega),b.A0⟩
 refine M ?_
 refine Cr Co D<|E2 D D<|Jg<|Jf<|Cz D (fun u=>?_) fun u=>?_
 ·
  refine A7 ?_
  exact fun W b=>⟨_,_,_,D,by rw[←hr];first|(rw[Ow hl];simp<;>omega)|(rw[QO hl];simp<;>omega),b.A0⟩
 refine A7 ?_
 exact fun W b=>⟨_,_,_,D,by rw[←hr];first|(rw[Ow hl];simp<;>omega)|(rw[QO hl];simp<;>omega),b.A0⟩
theorem eZ(f:Option Addr)(Bz g:Nat)(b:List UInt8)(w:World)(h:View w (.slice f Bz g) Bz 1 (bv b))(i:b.length=Bz):Calls Tryz.prog 221 #[I f Bz g,Value.string ⟨([0]).toArray⟩] w fun e W=>∃q n c,e=.returned (I q n c)∧(n=0↔Fr.CN b=true)∧Below w.heap.size w W:=by
 refine Cg w Ub D 42<|M ?_
 refine Cr Co D<|E2 D D<|Jg<|Jf<|Cz D (fun j=>?_) fun j=>?_
 ·
  refine A7 ?_
  exact fun W a=>⟨_,_,_,D,by rw[Ow i];simp,a.A0⟩
 refine M ?_
 refine Af (fun _ _ d a=>UU d D D false D)<|M ?_
 refine Af (fun _ _ d a=>gL d D Ho)<|EU D D D<|M ?_
 refine Af (Qv Ho 0 (v:=0) D D D)<|Jj D D D<|IS (by decide) D D<|M ?_
 refine CQ []<|Ab 0 D (AA D)<|Ab 1 D (AA D)<|Ab 2 D (Qv Ho 0 (v:=0) D D D)<|Ab 4 D (AA D)<|Ab 5 D (Qv Ho 0 (v:=0) D D D)<|Bh 3 D<|?_
 refine Ba XC D (fun w a=>cC _ _ _ b w ((Bx h) w a) i) fun _ e W a ⟨r,s,t,k,he,l,m,o,J⟩=>⟨_,_,he,a.below J,?_⟩
 refine A8 []<|Bh 6 D<|?_
 refine Ba Wv D (fun w a=>cO _ _ _ k w ((fun w a=>l w (Bx h w a)) w a) m) fun _ e W a ⟨u,x,c2,he,p,J⟩=>⟨_,_,he,a.below J,?_⟩
 refine A8 []<|Ab 7 D (Ck D)<|Cm<|A7 ?_
 exact fun W a=>⟨_,_,_,D,by rw[p,o],a.A0⟩
theorem bL(n Cf:Nat)(fr k:Array Value)(fn:Func)(g:Nat→Bool)(args:Nat→List Value)(w:World)(y:n≤1048576)(p:Tryz.prog.funcs[Cf]? =some fn)(r:∀i:Nat,fr++[E i].toArray++k=(args i).toArray)(s:(fn.name== "runtime.NumGoroutine")=false)(t:fn.body.isNone=false)(u:∀i,i<n→∀j,Below w.heap.size w j→Calls Tryz.prog Cf (args i).toArray j fun e W=>e=.returned (.bool (g i))∧Below j.heap.size j W):Calls Tryz.prog 42 #[E n,Value.func (.func Cf) fr k] w fun e W=>∃i,e=.returned (E i)∧i≤n∧(i=0∨g (i - 1)=false)∧(i=n∨g i=true)∧Below w.heap.size w W:=by
 refine Cg w UR D 26<|M ?_
 refine DL (fun v a W=>∃c d,v=d - c∧AH 26 a (Jb (Jb (Jb (Jb Jk 1 (Value.func (.func Cf) fr k)) 4 (E 0)) 5 (E c)) 6 (E d))∧Sat C1 w [] W∧c≤d∧d≤n∧(c=0∨g (c - 1)=false)∧(d=n∨g d=true)) (fun a W h f=>⟨0,n,D,AY h,f.pick [],by omega,by omega,.inl D,.inl D⟩) ?_
 rintro _ a W ⟨c,d,rfl,h,f,h1,z,m,o⟩;revert a W
 refine M ?_
 refine Ej D D<|Jg<|Jf<|Cz D (fun x=>?_) fun x=>?_
 ·
  refine M ?_
  refine B6 D D<|Af (Gg AF Kp D)<|Af (P8 D D ((c+d)/2) D)<|Af (Gg Kp AF D)<|M ?_
  refine U<|?_
  refine WA p D D (r ((c+d)/2)) (fun w f=>u ((c+d)/2) (by omega) w f.A0) (fun w e W f q=>⟨_,_,q.1,f.below q.2,?_⟩) s t
  clear q
  rcases Bool.eq_false_or_eq_true (g ((c+d)/2))with l|l
  ·
   refine CR 20 D (congrArg Value.bool l)<|Af (fun _ _ h f=>CE h (b:=true) D)<|M ?_
   exact fun a W h f=>⟨_,by omega,c,(c+d)/2,D,AY h,f.pick [],by omega,by omega,m,.inr (by assumption)⟩
  refine CR 20 D (congrArg Value.bool l)<|Af (fun _ _ h f=>CE h (b:=false) D)<|M ?_
  refine B6 (q:=1) D D<|M ?_
  exact fun a W h f=>⟨_,by omega,((c+d)/2)+1,d,D,AY h,f.pick [],by omega,by omega,.inr (by rw[Nat.add_sub_cancel];assumption),o⟩
 refine A7 ?_
 exact fun W f=>⟨c,D,by omega,m,by rw[show c=d from by omega];exact o,f.A0⟩
end Go.Proofs.YtaapafoibofbjaaGreatDoor
