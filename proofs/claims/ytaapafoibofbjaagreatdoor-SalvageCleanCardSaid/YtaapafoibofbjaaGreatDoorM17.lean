/- Laws and walks on the road to SalvageClean (part M17). No conditions beyond each law's own. -/
import Derived.Test.YtaapafoibofbjaaGreatDoorM01
import Derived.Test.YtaapafoibofbjaaGreatDoorM16
import Derived.Test.YtaapafoibofbjaaGreatDoorM15
import Derived.Test.YtaapafoibofbjaaGreatDoorM07
import Derived.Test.YtaapafoibofbjaaGreatDoorM12
import Derived.Test.YtaapafoibofbjaaGreatDoorM08
set_option linter.unusedVariables false
namespace Go.Proofs.YtaapafoibofbjaaGreatDoor
open Go.RowKit
set_option maxRecDepth 100000
set_option maxHeartbeats 1000000
theorem V7(n b a r:Nat)(w:World)(hr:max b (min n a)=r):Calls Tryz.prog 178 #[E n,E b,E a] w fun e W=>e=.returned (E r)∧Below w.heap.size w W:=by
 refine Cg w R2 D 12<|M ?_
 refine Af (TP D D (((min n a):Nat):Int))<|Af (Mn D D ((r:Nat):Int))<|A7 ?_
 exact fun W c=>⟨D,c.A0⟩
theorem ih(x:UInt8):(⟨(([0,1]:List UInt8)++AL.Iw.drop 2).toArray⟩:ByteArray)[x.toNat]? =some (AL.Iw.getD x.toNat 0):=by
 have:(([0,1]:List UInt8)++AL.Iw.drop 2)=AL.Iw:=by decide+kernel
 rw[this,List.getD_eq_getElem?_getD,List.getElem?_eq_getElem (by rw[AL.RL];exact x.toNat_lt)]
 rw[getElem?_pos _ _ (by show x.toNat<AL.Iw.toArray.size;simpa[AL.RL]using x.toNat_lt)]
 rfl
theorem b6(x:UInt8)(w:World):Calls Tryz.prog 196 #[Be .u8 x.toNat] w fun e W=>e=.returned (E ((AL.Iw.getD x.toNat 0).toNat))∧Below w.heap.size w W:=by
 refine Cg w Ui D 6<|M ?_
 refine Af (Qv Ho x.toNat (v:=AL.Iw.getD x.toNat 0) D D (ih x))<|Af (Gg BV AF D)<|A7 ?_
 exact fun W a=>⟨D,a.A0⟩
theorem iA(x:UInt8)(w:World):Calls Tryz.prog 192 #[Be .u8 x.toNat] w fun e W=>e=.returned (E (AL.Ov x))∧Below w.heap.size w W:=by
 have hle:=AL.c9 x.toNat
 refine Cg w T5 D 6<|M ?_
 refine U<|BP Ui D (fun w a=>b6 x w)<|Es (p:=8) D D<|A7 ?_
 exact fun W a=>⟨D,a.A0⟩
theorem T4{l:List UInt8}{i:Nat}(h:255<i):Ea l i=0:=by unfold Ea;rw[if_pos h]
theorem dJ{l:List UInt8}{i:Nat}(h:¬255<i):Ea l i=(l.getD (i/8) 0).toNat/2^(7 - i % 8) % 2:=by unfold Ea;rw[if_neg h]
theorem eY(k:Jc)(i:Nat)(w:World)(f:i≤1048576):Calls Tryz.prog 194 #[Value.agg (flat [bv k.l]),E i] w fun e W=>e=.returned (E (Ea k.l i))∧Below w.heap.size w W:=by
 refine Cg w U2 D 21<|Je<|Jh<|U<|Cv D fun g=>M ?_
 refine GV D D (fun b=>?_) fun b=>?_
 ·
  refine A7 ?_
  exact fun W a=>⟨by rw[T4 (by omega)];rfl,a.A0⟩
 refine M ?_
 refine Pm D D (fun c=>?_) fun c=>?_
 ·
  refine A7 ?_
  exact fun W a=>⟨by rw[T4 (by omega)];rfl,a.A0⟩
 refine M ?_
 refine Af (P8 D D (i/8) D)<|Af (D9 Tryz.underlying57 1 (i/8) (i/8) D D)<|Af (K3 Tryz.underlying5 0 0 (i/8) D D D)<|Jd D<|Af (Na (q:=7) D D (i % 8) (by rw[show 7=2^3 - 1 from D,Nat.and_two_pow_sub_one_eq_mod]))<|Es (p:=7) D D<|Af (P8 D D ((k.l.getD (i/8) 0).toNat/2^(7 - i % 8)) D (by simp only[IntKind.bits];omega))<|Af (fun _ _ d a=>Ex d D Tryz.underlying5 Tryz.underlying3 (r:=(((k.l.getD (i/8) 0).toNat/2^(7 - i % 8):Nat):Int)) (JG _ (by have:=(k.l.getD (i/8) 0).toNat_lt;have:=Nat.div_le_self (k.l.getD (i/8) 0).toNat (2^(7 - i % 8));omega)))<|Af (Na (q:=1) D D ((k.l.getD (i/8) 0).toNat/2^(7 - i % 8) % 2) (by rw[show 1=2^1 - 1 from D,Nat.and_two_pow_sub_one_eq_mod]) (by have:=(k.l.getD (i/8) 0).toNat_lt;have:=Nat.div_le_self (k.l.getD (i/8) 0).toNat (2^(7 - i % 8));omega))<|A7 ?_
 exact fun W a=>⟨by rw[dJ (by omega)],a.A0⟩
theorem cT(x y:Jc)(w:World):Calls Tryz.prog 180 #[Value.agg (flat [bv x.l]),Value.agg (flat [bv y.l])] w fun e W=>e=.returned (E (AL.J5 x.l y.l))∧Below w.heap.size w W:=by
 refine Cg w Vl D 28<|Je<|Jh<|U<|Cv D fun g=>U<|Cv D fun k=>M ?_
 refine Af (BN Em 1 D D)<|Af (BN Em 0 D D)<|?_
 refine Af (fun _ _ c b=>dH c x.h y.h D D _ D)<|Jg<|Jf<|Cz D (fun m=>?_) fun m=>?_
 ·
  refine A7 ?_
  exact fun W b=>⟨by rw[m,AL.gn];rfl,b.A0⟩
 refine M ?_
 refine DL (fun n a W=>∃i,n=32 - i∧AH 28 a (Jb (Jb (Jb Jk 2 (S g)) 3 (S k)) 10 (E i))∧Sat C1 w [O k [bv y.l] 57,O g [bv x.l] 57] W∧i≤32∧(∀j,j<i→x.l.getD j 0^^^y.l.getD j 0=0)) (fun a W c b=>⟨0,D,AY c,b.pick [0,1],by omega,fun j hj=>by omega⟩) ?_
 rintro _ a W ⟨i,rfl,c,b,t,d⟩;revert a W
 refine Je<|Jh<|Ej D D<|Jg<|Jf<|Je<|Cz D (fun o=>?_) fun o=>?_
 ·
  refine M ?_
  refine GR<|zs (AA D)<|zs (D9 Em 1 i i D D)<|zs (K3 BV 1 0 i D D D)<|zs (AA D)<|zs (D9 Em 1 i i D D)<|zs (K3 BV 0 0 i D D D)<|zs (aK D D)<|zs (Ck D)<|CS<|M ?_
  refine JU D D<|Jg<|Jf<|HI D (fun f=>?_) fun f=>?_
  ·
   have r:¬x.l.getD i 0^^^y.l.getD i 0=0:=fun e=>by have:=f;rw[e]at this;exact this D
   refine M ?_
   refine Af (E3 (p:=8) D D)<|Jd D<|U<|BP T5 D (fun w b=>iA ((x.l.getD i 0)^^^(y.l.getD i 0)) w)<|?_
   have u:AL.Ov (x.l.getD i 0^^^y.l.getD i 0)≤8:=by unfold AL.Ov;omega
   refine B6 D D<|A7 ?_
   exact fun W b=>⟨by rw[AL.hO (by omega) d r],b.A0⟩
  have s:x.l.getD i 0^^^y.l.getD i 0=0:=by have:=f;exact UInt8.toNat_inj.1 (by simpa using this)
  refine M ?_
  refine B6 (q:=1) D D<|M ?_
  exact fun a W c b=>⟨_,by omega,i+1,D,AY c,b.pick [0,1],by omega,(fun j hj=>(Nat.lt_or_ge j i).elim (d j) (fun q=>by have:=(show j=i by omega);subst this;exact s))⟩
 refine A7 ?_
 exact fun W b=>⟨by rw[AL.Zh (fun j hj=>d j (by omega))];rfl,b.A0⟩
theorem fN(k:Nat)(x y:Jc)(w:World)(d:k≤32):Calls Tryz.prog 179 #[E k,Value.agg (flat [bv x.l]),Value.agg (flat [bv y.l])] w fun e W=>∃b c,e=.returned (.slice b (0+1+k+k) c)∧W.ownsRow w.heap.size 5 1 (.slice b (0+1+k+k) c) (0+1+k+k) (bv (AL.QL k x y))∧Below w.heap.size w W:=by
 refine Cg w VI D 24<|Je<|Jh<|U<|Cv D fun f=>U<|Cv D fun g=>M ?_
 refine U<|BP R2 D (fun w a=>V7 k 0 32 k w (by omega))<|M ?_
 refine Af (E3 (p:=2) D D)<|B6 (p:=1) D D<|U<|Tr A3 (1+(2*k)) D D (xs:=bv []) D fun i=>U<|Ey A3 (bv [1]) D D D fun j=>U<|DI (m:=1) A3 1 (bv ([1])) D D D (BZ 0) (Eo _) (EL (l':=[1]) D) D fun n o=>M ?_
 refine CQ []<|Ab 0 D (AA D)<|Ab 1 D (AA D)<|Ab 2 D (Fp B5 0 k rfl .none (.some D) 0)<|Ab 4 D (AA D)<|Ab 5 D (Fp B5 0 k rfl .none (.some D) 0)<|Bh 3 D<|DI A3 1 (bv ([1]++(x.l.take k))) D D D (QP 3 0 0 k 32 (by rw[List.drop_zero])) (Eo _) (EL (by have:=x.h;simp only[List.length_take];omega)) D fun q r=>A8 []<|Bh 6 D<|DI A3 1 (bv ([1]++(x.l.take k)++(y.l.take k))) D D D (QP 2 0 0 k 32 (by rw[List.drop_zero])) (Eo _) (EL (by have:=y.h;simp only[List.length_take];omega)) D fun s t=>A8 []<|Ab 7 D (Ck D)<|Cm<|A7 ?_
 exact fun W a=>⟨_,_,D,a.DQ 1,a.A0⟩
theorem iW(x:Jc)(q:Option Addr)(m c:Nat)(l:List UInt8)(w:World)(V:View w (.slice q m c) m 1 (bv l))(hl:l.length=m)(hm:m≤4096):Calls Tryz.prog 197 #[Value.agg (flat [bv x.l]),I q m c] w fun e W=>∃a b,e=.returned (.slice a (0+1+32+m) b)∧W.ownsRow w.heap.size 5 1 (.slice a (0+1+32+m) b) (0+1+32+m) (bv (AL.Pt x l))∧Below w.heap.size w W:=by
 refine Cg w UE D 17<|Je<|Jh<|U<|Cv D fun f=>M ?_
 refine Cr Co D<|B6 (p:=33) D D<|U<|Tr A3 (33+m) D D (xs:=bv []) D fun g=>U<|Ey A3 (bv [0]) D D D fun i=>U<|DI (m:=1) A3 1 (bv ([0])) D D D (BZ 0) (Eo _) (EL (l':=[0]) D) D fun j k=>M ?_
 refine Af (Fp Em 0 32 rfl .none .none 0)<|U<|DI A3 1 (bv ([0]++x.l)) D D D (QP 2 0 0 32 32 (List.take_of_length_le (by rw[List.drop_zero];exact Nat.le_of_eq x.h))) (Eo _) (EL x.h) D fun n o=>Jd D<|U<|DI A3 1 (bv ([0]++x.l++l)) D D D (Bx V) (Eo _) (EL hl) D fun r s=>A7 ?_
 exact fun W d=>⟨_,_,D,d.DQ 1,d.A0⟩
theorem Oh(k:Nat)(x y:Jc)(w:World)(A5:CG w)(d:k≤32:=by omega):Calls Tryz.prog 153 #[E k,Value.agg (flat [bv x.l]),Value.agg (flat [bv y.l])] w fun e W=>e=.returned (Value.agg (flat [bv (AL.ER k x y).l]))∧Below w.heap.size w W:=by
 have b:=FU
 refine Cg w O_ D 14<|Je<|Jh<|U<|Cv D fun f=>U<|Cv D fun g=>U<|Bw [Ak 32] fun h=>M ?_
 refine Af (BN B5 2 D D)<|Af (BN B5 1 D D)<|U<|?_
 refine Ba VI D (fun w a=>fN k x y w (by omega)) fun _ e W a ⟨i,j,he,c,J⟩=>⟨_,_,he,a.own c J,?_⟩
 refine U<|BP QE D (fun w a=>Sj _ _ _ (AL.QL k x y) w (A5.sat a b) ((BZ 0) w a) (De (a.rw 0)))<|Jd D<|U<|BP Qn D (fun w a=>S' (AL.Lz (AL.QL k x y)) k w)<|U<|Bk 1 0 1 D D D<|?_
 refine Jg<|Jf<|Jq<|Fq B5 1 D D fun W a=>?_
 exact⟨D,a.A0⟩
theorem hn(k:Nat)(x:Jc)(q:Option Addr)(m c:Nat)(l:List UInt8)(w:World)(A5:CG w)(V:View w (.slice q m c) m 1 (bv l))(hl:l.length=m)(hm:m≤4096)(f:k≤32):Calls Tryz.prog 193 #[E k,Value.agg (flat [bv x.l]),I q m c] w fun e W=>e=.returned (Value.agg (flat [bv (AL.leaf k x l).l]))∧Below w.heap.size w W:=by
 have b:=FU
 refine Cg w Xi D 13<|Je<|Jh<|U<|Cv D fun g=>U<|Bw [Ak 32] fun h=>M ?_
 refine Af (BN Em 1 D D)<|Jd D<|U<|?_
 refine Ba UE D (fun w a=>iW x _ _ _ l w ((Bx V) w a) hl (by omega)) fun _ e W a ⟨i,j,he,d,J⟩=>⟨_,_,he,a.own d J,?_⟩
 refine U<|BP QE D (fun w a=>Sj _ _ _ (AL.Pt x l) w (A5.sat a b) ((BZ 0) w a) (De (a.rw 0)))<|Jd D<|U<|BP Qn D (fun w a=>S' (AL.Lz (AL.Pt x l)) k w)<|U<|Bk 1 0 1 D D D<|?_
 refine Jg<|Jf<|Jq<|Fq B5 1 D D fun W a=>?_
 exact⟨D,a.A0⟩
theorem VB(k h:Nat)(w:World)(A5:CG w)(n:k≤32)(o:h≤256):Calls Tryz.prog 152 #[E k,E h] w fun e W=>e=.returned (Value.agg (flat [bv (AL.bare k h).l]))∧Below w.heap.size w W:=by
 have d:=FU
 refine Cg w RB D 20<|Je<|Jh<|U<|Bw [Ak 32] fun f=>M ?_
 refine U<|Ey A3 (bv [2]) D D D fun p=>U<|BP QE D (fun w b=>Sj _ _ _ ([2]) w (A5.sat b d) ((BZ 0) w b) (De (b.rw 0)))<|Jd D<|U<|BP Qn D (fun w b=>S' (AL.Lz ([2])) k w)<|U<|Bw [Ak 32] fun g=>U<|Bk 0 0 1 D D D<|?_
 refine M ?_
 refine U<|BP R2 D (fun w b=>V7 h 0 256 h w (by omega))<|M ?_
 refine DL (fun j a W=>∃i,j=h - i∧AH 20 a (Jb (Jb (Jb (Jb (Jb Jk 0 (E k)) 4 (S f)) 5 (S g)) 11 (E h)) 12 (E i))∧Sat C1 w [O g [bv (AL.bare k i).l] 51,O f [Ak 32] 51] W∧i≤h) (fun a W c b=>⟨0,D,AY c,b.pick [0,2],by omega⟩) ?_
 rintro _ a W ⟨i,rfl,c,b,r⟩;revert a W
 refine Je<|Jh<|Ej D D<|Jg<|Jf<|Je<|Cz D (fun m=>?_) fun m=>?_
 ·
  refine M ?_
  refine Af (BN B5 0 D D)<|Af (BN B5 0 D D)<|U<|BP O_ D (fun w b=>Oh k (AL.bare k i) (AL.bare k i) w (A5.sat b d))<|U<|Bk 0 0 1 D D D<|?_
  refine M ?_
  refine B6 (q:=1) D D<|M ?_
  exact fun a W c b=>⟨_,by omega,i+1,D,AY c,b.pick [0,1],by omega⟩
 refine M ?_
 refine Af (BN B5 0 D D)<|U<|Bk 1 0 1 D D D<|?_
 refine Jg<|Jf<|Jq<|Fq B5 1 D D fun W b=>?_
 obtain rfl:i=h:=by omega
 exact⟨D,b.A0⟩
end Go.Proofs.YtaapafoibofbjaaGreatDoor
namespace Go.Proofs.YtaapafoibofbjaaGreatDoor.G
open Go.Proofs.YtaapafoibofbjaaGreatDoor
set_option linter.unusedVariables false
structure Dh where
 kd:Nat
 l:Nat
 r:Nat
 lc:Nat
 rc:Nat
 ls:Jc
 rs:Jc
 k:Jc
 val:List UInt8
def DJ:Dh:=⟨0,0,0,0,0,CU,CU,CU,[]⟩
def _root_.Go.Proofs.YtaapafoibofbjaaGreatDoor.Bf.AW(x:Bf):Dh:=⟨x.kd,x.l,x.r,x.lc,x.rc,x.ls,x.rs,x.k,x.s.v⟩
def DF(l:List UInt8)(i:Nat):Jc:=AL.cut (l.drop i) 32
def BD(l:List UInt8)(i:Nat):Nat:=Fr.le ((l.drop i).take 4)
def child(p c:Nat)(s:Jc):Bool:=if p=0 then decide (c=0)&&decide (s.l=CU.l)else decide (2≤p)&&decide (p<4096)&&decide (0<c)&&decide (c≤4096)
def branch(l r lc rc:Nat)(ls rs:Jc):Bool:=child l lc ls&&child r rc rs&&!decide (l=r)&&decide (2≤lc+rc)&&decide (lc+rc≤4096)
def node(kd:Nat)(B1:List UInt8):Option Dh:=
 if kd=1∧32≤B1.length then(if(B1.drop 32).length≤128 then some ⟨1,0,0,0,0,CU,CU,DF B1 0,B1.drop 32⟩else none)
 else if kd=2∧B1.length=80 then
  (if branch (BD B1 0) (BD B1 4) (BD B1 8) (BD B1 12) (DF B1 16) (DF B1 48)=true then some ⟨2,BD B1 0,BD B1 4,BD B1 8,BD B1 12,DF B1 16,DF B1 48,CU,[]⟩else none)
 else none
def num(r:B9):Nat:=if r.f=0 then r.v else r.v - r.f+1
def held(p c:Nat):Bool:=(decide (p=0)&&decide (c=0))||(!decide (p=0)&&decide (0<c)&&decide (c≤4096))
def NO(n:Nat):Bool:=decide (2≤n)&&decide (n<4096)
def right(r:B9):Bool:=
 decide (r.f≤1073741824)&&decide (max 1 r.f≤r.v)&&decide (r.v≤1073741824)&&held r.r r.c&&(decide (r.r=0)||NO r.r)&&
 (if num r=1 then decide (r.ju=0)&&decide (r.jt=0)
  else NO r.ju&&(if num r&&&(num r - 1)=0 then decide (r.jt=0)else if num r&&&(num r - 1)=num r - 1 then decide (r.jt=r.ju)else NO r.jt&&decide (r.jt<r.ju)))
def DX:B9:=⟨0,0,0,0,0,0,CU⟩
def Kd(B1:List UInt8):B9:=⟨BD B1 0,BD B1 4,BD B1 8,BD B1 12,BD B1 16,BD B1 20,DF B1 24⟩
def record(B1:List UInt8):Option B9:=if B1.length=56 then(if right (Kd B1)=true then some (Kd B1)else none)else none
def load(l:List UInt8):List UInt8:=(l.drop 6).take (l.getD 1 0).toNat
inductive OD where
 |no
 |nd (n:Dh)
 |rc (r:B9)
def CW(p:Nat)(l:List UInt8):OD:=
 if Fr.CZ p l=true then
  (if(l.getD 0 0).toNat=3 then(match record (load l)with|some r=>.rc r|none=>.no)
   else(match node (l.getD 0 0).toNat (load l)with|some n=>.nd n|none=>.no))
 else .no
structure Ae where
 b:Nat
 k:Jc
def under(r:Ae)(x:Nat):Ae:=⟨r.b+1,⟨r.k.l.set (r.b/8) (r.k.l.getD (r.b/8) 0|||UInt8.ofNat (x*2^(7 - r.b % 8))),by rw[List.length_set];exact r.k.h⟩⟩
instance:DecidableEq Jc:=fun a b=>if h:a.l=b.l then isTrue (Jc.ext h)else isFalse (fun e=>h (congrArg Jc.l e))
instance:DecidableEq Ae:=fun a b=>if h:a.b=b.b∧a.k=b.k then isTrue (by cases a;cases b;cases h.1;cases h.2;rfl)else isFalse (fun e=>h ⟨congrArg Ae.b e,congrArg Ae.k e⟩)
def get{Bo Dg:Type}[DecidableEq Bo](m:List (Bo×Dg))(k:Bo):Option Dg:=(m.find? (fun e=>decide (e.1=k))).map (·.2)
def put{Bo Dg:Type}[DecidableEq Bo]:List (Bo×Dg)→Bo→Dg→List (Bo×Dg)
 |[],k,v=>[(k,v)]
 |e::m,k,v=>if e.1=k then(k,v)::m else e::put m k v
theorem OZ{Bo Dg:Type}[DecidableEq Bo](m:List (Bo×Dg))(k k':Bo)(v:Dg):get (put m k v) k'=if k=k' then some v else get m k':=by
 induction m with
 |nil=>
  by_cases h:k=k'
  ·subst h;simp[put,get]
  ·simp[put,get,h]
 |cons e m b=>
  unfold put
  by_cases h:e.1=k
  ·rw[if_pos h]
   by_cases a:k=k'
   ·subst a;simp[get]
   ·simp[get,a,h]
  ·rw[if_neg h]
   unfold get at b⊢
   rw[List.find?_cons,List.find?_cons]
   by_cases a:e.1=k'
   ·subst a
    simp
    exact fun q=>absurd q.symm h
   ·simp only[a,decide_false]
    exact b
structure Env where
 w:Nat
 nd:Nat→Option Dh
 AJ:List (Ae×Nat)
 AO:List (Jc×Nat)
 fr:Nat
structure B4 where
 A4:Nat
 rows:List (Ae×Nat)
 jo:List (Jc×Nat)
def E7(a:Env)(Ar «by» c:Nat)(at_:Ae):Bool:=
 match a.nd Ar with
 |none=>false
 |some n=>decide (Ar<«by»)&&(if n.kd=1 then decide (c=1)&&decide (at_.b≤AL.J5 n.k.l at_.k.l)else decide (c=n.lc+n.rc)&&decide (at_.b<256))
def Hw(w:Nat)(n:Dh)(h:Nat):Jc:=
 if n.kd=1 then AL.Gr w n.k (AL.leaf w n.k n.val) h else AL.ER w (if n.l=0 then AL.bare w (h - 1)else n.ls) (if n.r=0 then AL.bare w (h - 1)else n.rs)
def note(s:B4)(at_:Ae)(p:Nat)(n:Dh):B4:=⟨s.A4,put s.rows at_ p,if n.kd=1 then put s.jo n.k p else s.jo⟩
def Bn(nd:Nat→Option Dh):Nat→Nat→Ae→B4→B4
 |0,_,_,s=>s
 |f+1,p,at_,s=>
  let n:=(nd p).getD DJ
  if n.kd=1 then note s at_ p n
  else
   let s1:=if n.l=0 then note s at_ p n else Bn nd f n.l (under at_ 0) (note s at_ p n)
   if n.r=0 then s1 else Bn nd f n.r (under at_ 1) s1
def G8(a:Env)(Ar:Nat)(n:Dh)(at_:Ae):Bool:=if n.kd=1 then decide ((get a.AO n.k).getD 0=Ar)else decide ((get a.AJ at_).getD 0=Ar)
def Ik(a:Env)(n:Dh)(at_:Ae):Bool:=
 if n.kd=1 then(match get a.AO n.k with|none=>false|some q=>decide (((a.nd q).getD DJ).val=n.val))
 else
  let m:=(a.nd ((get a.AJ at_).getD 0)).getD DJ
  decide (m.kd=2)&&decide (m.l=n.l)&&decide (m.r=n.r)
def through(a:Env):Nat→Nat→Nat→Nat→Jc→Ae→B4→Option B4
 |0,_,_,_,_,_,_=>none
 |f+1,Ar,«by»,c,sum,at_,s=>
  if E7 a Ar «by» c at_=true then
   let n:=(a.nd Ar).getD DJ
   let go:Option B4:=
    if Ar<a.fr then(if G8 a Ar n at_=true then some (Bn a.nd (257 - at_.b) Ar at_ s)else none)
    else
     (if n.l=0 then some s else through a f n.l Ar n.lc n.ls (under at_ 0) s).bind fun s1=>
     (if n.r=0 then some s1 else through a f n.r Ar n.rc n.rs (under at_ 1) s1).bind fun s2=>
     if Ar=s2.A4∧Ik a n at_=false then some {note s2 at_ Ar n with A4:=s2.A4+1}else none
   go.bind fun d=>if Hw a.w n (256 - at_.b)=sum then some d else none
  else none
def at_(ch:List Nat)(i:Nat):Nat:=if 1≤i∧i≤ch.length then ch.getD (i - 1) 0 else 0
abbrev Shape:=List (Ae×Nat)×List (Jc×Nat)
def version(w:Nat)(nd:Nat→Option Dh)(rc:Nat→B9)(ch:List Nat)(DB:Shape)(i:Nat):Option Shape:=
 let p:=at_ ch i
 let r:=rc p
 let first:=(rc (at_ ch 1)).f
 if r.f=first∧r.v=(if 0<first then first+i - 1 else i)∧r.ju=at_ ch (i - 1)∧r.jt=at_ ch (i&&&(i - 1))then
  let fr:=max 1 (at_ ch (i - 1))+1
  let res:Option B4:=if r.r=0 then(if r.s=AL.bare w 256 then some ⟨fr,[],[]⟩else none)else through ⟨w,nd,DB.1,DB.2,fr⟩ 4097 r.r p r.c r.s ⟨0,CU⟩ ⟨fr,[],[]⟩
  res.bind fun s=>if s.A4=p then some (s.rows,s.jo)else none
 else none
def EO(w:Nat)(nd:Nat→Option Dh)(rc:Nat→B9)(ch:List Nat):Nat→Option Shape
 |0=>some ([],[])
 |i+1=>(EO w nd rc ch i).bind fun o=>version w nd rc ch o (i+1)
end Go.Proofs.YtaapafoibofbjaaGreatDoor.G
namespace Go.Proofs.YtaapafoibofbjaaGreatDoor
open Go.RowKit
set_option maxRecDepth 100000
set_option maxHeartbeats 1000000
theorem KM{a b k:Nat}(h:a<2^k:=by omega):a|||b*2^k=a+b*2^k:=by
 rw[Nat.or_comm,Nat.mul_comm,←Nat.two_pow_add_eq_or_of_lt h,Nat.add_comm]
theorem RO{l:List UInt8}(h:4≤l.length):Fr.le (l.take 4)=(l.getD 0 0).toNat+(l.getD 1 0).toNat*2^8+(l.getD 2 0).toNat*2^16+(l.getD 3 0).toNat*2^24:=by
 match l,h with
 |a::b::c::d::r,_=>simp[Fr.le];omega
theorem hV(l:List UInt8):Fr.le (l.take 4)<4294967296:=by
 have:=Fr.Lt (l.take 4)
 have a:(l.take 4).length≤4:=List.length_take_le _ _
 exact Nat.lt_of_lt_of_le this (Nat.pow_le_pow_right (by decide) a)
theorem KU(l:List UInt8)(i:Nat):G.BD l i<4294967296:=hV _
theorem Hs(q:Option Addr)(m c:Nat)(l:List UInt8)(w:World)(V:View w (.slice q m c) m 1 (bv l))(hl:l.length=m)(hm:4≤m:=by omega):Calls Tryz.prog 239 #[I q m c] w fun e W=>e=.returned (E (Fr.le (l.take 4)))∧Below w.heap.size w W:=by
 have b:=(l.getD 0 0).toNat_lt
 have d:=(l.getD 1 0).toNat_lt
 have f:=(l.getD 2 0).toNat_lt
 have g:=(l.getD 3 0).toNat_lt
 refine Cg w Pr D 25<|M ?_
 refine GR<|zs (AA D)<|zs (Dj A3 0 0 (Bx V) D D)<|zs (Fj BV 0 (Bx V) D)<|zs (Gg BV AF D)<|zs (AA D)<|zs (Dj A3 1 1 (Bx V) D D)<|zs (Fj BV 1 (Bx V) D)<|zs (Gg BV AF D)<|zs (Ke (n:=8) D D ((l.getD 1 0).toNat*2^8) D)<|zs (Ku D D ((l.getD 0 0).toNat+(l.getD 1 0).toNat*2^8) KM)<|zs (AA D)<|zs (Dj A3 2 2 (Bx V) D D)<|zs (Fj BV 2 (Bx V) D)<|zs (Gg BV AF D)<|zs (Ke (n:=16) D D ((l.getD 2 0).toNat*2^16) D)<|zs (Ku D D ((l.getD 0 0).toNat+(l.getD 1 0).toNat*2^8+(l.getD 2 0).toNat*2^16) KM)<|zs (AA D)<|zs (Dj A3 3 3 (Bx V) D D)<|zs (Fj BV 3 (Bx V) D)<|zs (Gg BV AF D)<|zs (Ke (n:=24) D D ((l.getD 3 0).toNat*2^24) D)<|zs (Ku D D ((l.getD 0 0).toNat+(l.getD 1 0).toNat*2^8+(l.getD 2 0).toNat*2^16+(l.getD 3 0).toNat*2^24) KM)<|zs (Ck D)<|CS<|A7 ?_
 exact fun W a=>⟨by rw[RO (by omega)],a.A0⟩
theorem Y0(k:Jc)(q:Option Addr)(m c:Nat)(w:World):Calls Tryz.prog 244 #[Value.agg (flat [bv k.l,[I q m c]])] w fun e W=>e=.returned (.bool (decide (((m:Nat):Int)≤((128:Nat):Int))))∧Below w.heap.size w W:=by
 refine Cg w Tc D 7<|Je<|Jh<|U<|Cv D fun b=>M ?_
 refine AG Mi 32 D<|AZ Co 0 1 D D D<|Cr Co D<|fS D D<|A7 ?_
 exact fun W a=>⟨D,a.A0⟩
theorem a0{p c:Nat}{x:Jc}(h:p=0):decide (p=0∧c=0∧x.l=CU.l)=G.child p c x:=by subst h;simp[G.child]
theorem Oa{p c:Nat}{x:Jc}(h:¬p=0:=by omega):G.child p c x=decide (2≤p∧p<4096∧0<c∧c≤4096):=by simp[G.child,h,Bool.and_assoc]
theorem CT{a b:Bool}(h:a=b:=by symm;exact decide_eq_false (by omega)):Ending.returned (.bool a)=.returned (.bool b):=by rw[h]
theorem Yj(p c:Nat)(x:Jc)(w:World)(d:p≤4611686018427387904)(f:c≤4611686018427387904):Calls Tryz.prog 245 #[Value.agg (flat [[E p],[E c],bv x.l])] w fun e W=>e=.returned (.bool (G.child p c x))∧Below w.heap.size w W:=by
 refine Cg w RJ D 27<|Je<|Jh<|U<|Cv D fun m=>M ?_
 refine AG FX 0 D<|AZ AF 0 0 D D D<|E2 D D<|Jg<|Jf<|Cz D (fun g=>?_) fun g=>?_
 ·
  refine Je<|Jh<|Af (BN FX 0 D D)<|Af (fun _ _ b a=>Cs b (BH:=[]) D (v:=Value.agg (flat [[E 0],[E 0],Ak 32])) (run_build _ _ _ _ (by kernel_rfl)))<|Af (fun _ _ b a=>ED b D D (fj _ _ _ _ _) (Z_ p c 0 0 x CU d f (by decide) (by decide) _))<|A7 ?_
  exact fun W a=>⟨CT (a0 (by omega)),a.A0⟩
 refine M ?_
 refine AG FX 0 D<|AZ AF 0 0 D D D<|L6 D D (fun h=>?_) fun h=>?_
 ·
  refine M ?_
  refine AG FX 0 D<|Jj D D D<|AZ AF 0 0 D D D<|Jj D D D<|GV D D (fun i=>?_) fun i=>?_
  ·
   refine M ?_
   refine AG FX 1 D<|Jj D D D<|AZ AF 0 1 D D D<|Jj D D D<|GV D D (fun j=>?_) fun j=>?_
   ·
    refine M ?_
    refine AG FX 1 D<|Jj D D D<|AZ AF 0 1 D D D<|Jj D D D<|L6 D D (fun k=>?_) fun k=>?_
    ·
     refine A7 ?_
     exact fun W a=>⟨CT (by rw[Oa];symm;exact decide_eq_true (by omega)),a.A0⟩
    refine A7 ?_
    exact fun W a=>⟨CT (by rw[Oa];symm;exact decide_eq_false (by omega)),a.A0⟩
   refine A7 ?_
   exact fun W a=>⟨CT (by rw[Oa];symm;exact decide_eq_false (by omega)),a.A0⟩
  refine A7 ?_
  exact fun W a=>⟨CT (by rw[Oa];symm;exact decide_eq_false (by omega)),a.A0⟩
 refine A7 ?_
 exact fun W a=>⟨CT (by rw[Oa];symm;exact decide_eq_false (by omega)),a.A0⟩
theorem U1(l r lc rc:Nat)(ls rs:Jc)(w:World)(hl:l≤4294967296)(hr:r≤4294967296)(h:lc≤4294967296)(i:rc≤4294967296):Calls Tryz.prog 247 #[Value.agg (flat [[E l],[E lc],bv ls.l,[E r],[E rc],bv rs.l])] w fun e W=>e=.returned (.bool (G.branch l r lc rc ls rs))∧Below w.heap.size w W:=by
 refine Cg w Tq D 36<|Je<|Jh<|U<|Cv D fun j=>M ?_
 refine AG J3 0 D<|AG FX 1 D<|AZ AF 0 1 D D D<|AG J3 34 D<|AG FX 35 D<|AZ AF 0 4 D D D<|B6 D D<|M ?_
 refine AG J3 0 D<|Af (DH FX 0 0 3 [[E l],[E lc],bv ls.l] D D)<|U<|BP RJ D (fun w a=>Yj l lc ls w (by omega) (by omega))<|?_
 rcases Bool.eq_false_or_eq_true (G.child l lc ls)with b|b
 ·
  refine CR 13 D (congrArg Value.bool b)<|M ?_
  refine AG J3 34 D<|Jj D D D<|Af (DH FX 0 3 3 [[E r],[E rc],bv rs.l] D D)<|Jj D D D<|U<|BP RJ D (fun w a=>Yj r rc rs w (by omega) (by omega))<|?_
  rcases Bool.eq_false_or_eq_true (G.child r rc rs)with c|c
  ·
   refine CR 17 D (congrArg Value.bool c)<|M ?_
   refine AG J3 0 D<|Jj D D D<|AG FX 0 D<|Jj D D D<|AZ AF 0 0 D D D<|Jj D D D<|AG J3 34 D<|Jj D D D<|AG FX 34 D<|Jj D D D<|AZ AF 0 3 D D D<|Jj D D D<|Li D D (fun d=>?_) fun d=>?_
   ·
    refine A7 ?_
    exact fun W a=>⟨CT (by symm;simp[G.branch, *];try omega),a.A0⟩
   refine M ?_
   refine L6 D D (fun f=>?_) fun f=>?_
   ·
    refine M ?_
    refine L6 D D (fun g=>?_) fun g=>?_
    ·
     refine A7 ?_
     exact fun W a=>⟨CT (by symm;simp[G.branch, *];try omega),a.A0⟩
    refine A7 ?_
    exact fun W a=>⟨CT (by symm;simp[G.branch, *];try omega),a.A0⟩
   refine A7 ?_
   exact fun W a=>⟨CT (by symm;simp[G.branch, *];try omega),a.A0⟩
  refine CR 17 D (congrArg Value.bool c)<|A7 ?_
  exact fun W a=>⟨CT (by symm;simp[G.branch, *];try omega),a.A0⟩
 refine CR 13 D (congrArg Value.bool b)<|A7 ?_
 exact fun W a=>⟨CT (by symm;simp[G.branch, *];try omega),a.A0⟩
end Go.Proofs.YtaapafoibofbjaaGreatDoor
