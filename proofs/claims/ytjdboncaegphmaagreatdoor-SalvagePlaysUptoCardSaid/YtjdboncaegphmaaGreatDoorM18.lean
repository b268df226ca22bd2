/- Laws and walks on the road to SalvagePlays (part M18). No conditions beyond each law's own. -/
import Derived.DeepKeys4
import Derived.Test.YtjdboncaegphmaaGreatDoorM17
set_option linter.unusedVariables false
namespace Go.Proofs.YtjdboncaegphmaaGreatDoor
open Go.RowKit
set_option maxRecDepth 100000
set_option maxHeartbeats 2000000
theorem V7(n BU V r:Nat)(w:World)(hr:max BU (min n V)=r):Calls lp 189 #[E n,E BU,E V] w (sM w (E r)):=by
 refine Cg w ZC D 12<|K ?_;refine Af (TP D D (((min n V):Nat):Int))<|Af (Mn D D ((r:Nat):Int))<|A7 ?_;exact fun W a=>⟨D,a.A0⟩
theorem ih(x:UInt8):(⟨(([0,1]:rG)++AL.Iw.drop 2).toArray⟩:ByteArray)[x.toNat]? =some (AL.Iw.getD x.toNat 0):=by
 have:(([0,1]:rG)++AL.Iw.drop 2)=AL.Iw:=by decide+kernel
 rw[this,Dm,F3 (by rw[AL.RL];exact x.toNat_lt)];rw[getElem?_pos _ _ (by show x.toNat<AL.Iw.toArray.size;simpa[AL.RL]using x.toNat_lt)];rfl
theorem b6(x:UInt8)(w:World):Calls lp 216 #[Be .u8 x.toNat] w (sM w (E ((AL.Iw.getD x.toNat 0).toNat))):=by
 refine Cg w rB D 6<|K ?_;refine Af (Qv Ho x.toNat (v:=AL.Iw.getD x.toNat 0) D D (ih x))<|Af (Gg BV AF D)<|A7 ?_;exact fun W a=>⟨D,a.A0⟩
theorem iA(x:UInt8)(w:World):Calls lp 205 #[Be .u8 x.toNat] w (sM w (E (AL.Ov x))):=by
 have hle:=AL.c9 x.toNat;refine Cg w sw D 6<|K ?_;refine U<|BP rB D (fun w a=>b6 x w)<|Es (p:=8) D D<|A7 ?_;exact fun W a=>⟨D,a.A0⟩
theorem T4{l:rG}{i:Nat}(h:255<i:=by omega):Ea l i=0:=by unfold Ea;rw[if_pos h]
theorem dJ{l:rG}{i:Nat}(h:¬255<i):Ea l i=(l.getD (i/8) 0).toNat/2^(7 - i % 8) % 2:=by unfold Ea;rw[if_neg h]
theorem eY(k:Jc)(i:Nat)(w:World)(V:i≤1048576):Calls lp 207 #[rS [bv k.l],E i] w (sM w (E (Ea k.l i))):=by
 refine Cg w qd D 21<|Je<|Jh<|U<|Cv D fun e=>K ?_;refine GV D D (fun b=>?_) fun b=>?_
 ·
  refine A7 ?_;exact fun W a=>⟨by rw[T4];rfl,a.A0⟩
 refine K ?_;refine Pm D D (fun c=>?_) fun c=>?_
 ·
  refine A7 ?_;exact fun W a=>⟨by rw[T4];rfl,a.A0⟩
 refine K ?_;refine Af (P8 D D (i/8) D)<|Af (D9 Tryz.underlying48 1 (i/8) (i/8) D D)<|Af (K3 Tryz.underlying5 0 0 (i/8) D D D)<|Jd D<|Af (Na (q:=7) D D (i % 8) (by rw[show 7=2^3 - 1 from D,Vy]))<|Es (p:=7) D D<|Af (P8 D D ((k.l.getD (i/8) 0).toNat/2^(7 - i % 8)) D (by simp only[IntKind.bits];omega))<|Af (fun _ _ d a=>Ex d D Tryz.underlying5 Tryz.underlying3 (r:=(((k.l.getD (i/8) 0).toNat/2^(7 - i % 8):Nat):Int)) (JG _ (by have:=(k.l.getD (i/8) 0).toNat_lt;have:=gE (k.l.getD (i/8) 0).toNat (2^(7 - i % 8));omega)))<|Af (Na (q:=1) D D ((k.l.getD (i/8) 0).toNat/2^(7 - i % 8) % 2) (by rw[show 1=2^1 - 1 from D,Vy]) (by have:=(k.l.getD (i/8) 0).toNat_lt;have:=gE (k.l.getD (i/8) 0).toNat (2^(7 - i % 8));omega))<|A7 ?_;exact fun W a=>⟨by rw[dJ JY],a.A0⟩
theorem cT(x y:Jc)(w:World):Calls lp 191 #[rS [bv x.l],rS [bv y.l]] w (sM w (E (AL.J5 x.l y.l))):=by
 refine Cg w Uy D 28<|Je<|Jh<|U<|Cv D fun g=>U<|Cv D fun k=>K ?_;refine Af (BN CI 1 D D)<|Af (BN CI 0 D D)<|?_;refine Af (fun _ _ c b=>dH c x.h y.h D D _ D)<|Jg<|Jf<|Cz D (fun m=>?_) fun m=>?_
 ·
  refine A7 ?_;exact fun W b=>⟨by rw[m,AL.gn];rfl,b.A0⟩
 refine K ?_;refine DL (fun n a W=>∃i,n=32 - i∧AH 28 a (Jb (Jb (Jb Jk 2 (S g)) 3 (S k)) 10 (E i))∧Sat C1 w [O k [bv y.l] 48,O g [bv x.l] 48] W∧i≤32∧(∀j,j<i→x.l.getD j 0^^^y.l.getD j 0=0)) (fun a W c b=>⟨0,D,AY c,b.pick [0,1],JY,fun j hj=>JY⟩) ?_;rintro _ a W ⟨i,rfl,c,b,V,d⟩;revert a W;refine Je<|Jh<|Ej D D<|Jg<|Jf<|Je<|Cz D (fun o=>?_) fun o=>?_
 ·
  refine K ?_;refine GR<|zs (AA D)<|zs (D9 CI 1 i i D D)<|zs (K3 BV 1 0 i D D D)<|zs (AA D)<|zs (D9 CI 1 i i D D)<|zs (K3 BV 0 0 i D D D)<|zs (aK D D)<|zs (Ck D)<|CS<|K ?_;refine JU D D<|Jg<|Jf<|HI D (fun f=>?_) fun f=>?_
  ·
   have r:¬x.l.getD i 0^^^y.l.getD i 0=0:=fun e=>by have:=f;rw[e]at this;exact this D
   refine K ?_;refine Af (E3 (p:=8) D D)<|Jd D<|U<|BP sw D (fun w b=>iA ((x.l.getD i 0)^^^(y.l.getD i 0)) w)<|?_;have t:AL.Ov (x.l.getD i 0^^^y.l.getD i 0)≤8:=by unfold AL.Ov;omega
   refine B6 D D<|A7 ?_;exact fun W b=>⟨by rw[AL.hO JY d r],b.A0⟩
  have s:x.l.getD i 0^^^y.l.getD i 0=0:=by have:=f;exact M'.1 (by simpa using this)
  refine K ?_;refine B6 (q:=1) D D<|K ?_;exact fun a W c b=>⟨_,JY,i+1,D,AY c,b.pick [0,1],JY,(fun j hj=>(s9 j i).elim (d j) (fun q=>by have:=(show j=i by omega);subst this;exact s))⟩
 refine A7 ?_;exact fun W b=>⟨by rw[AL.Zh (fun j hj=>d j JY)];rfl,b.A0⟩
theorem fN(k:Nat)(x y:Jc)(w:World)(d:k≤32):Calls lp 190 #[E k,rS [bv x.l],rS [bv y.l]] w fun e W=>∃b c,e=.returned (.slice b (0+1+k+k) c)∧W.ownsRow w.heap.size 5 1 (.slice b (0+1+k+k) c) (0+1+k+k) (bv (AL.QL k x y))∧Below w.heap.size w W:=by
 refine Cg w TJ D 24<|Je<|Jh<|U<|Cv D fun f=>U<|Cv D fun g=>K ?_;refine U<|BP ZC D (fun w a=>V7 k 0 32 k w JY)<|K ?_;refine Af (E3 (p:=2) D D)<|B6 (p:=1) D D<|U<|Tr A3 (1+(2*k)) D D (xs:=bv []) D fun i=>U<|Ey A3 (bv [1]) D D D fun j=>U<|DI (m:=1) A3 1 (bv ([1])) D D D (BZ 0) (Eo _) (EL (l':=[1]) D) D fun n o=>K ?_;refine CQ []<|Ab 0 D (AA D)<|Ab 1 D (AA D)<|Ab 2 D (Fp Nl 0 k rfl .none (.some D) 0)<|Ab 4 D (AA D)<|Ab 5 D (Fp Nl 0 k rfl .none (.some D) 0)<|Bh 3 D<|DI A3 1 (bv ([1]++(x.l.take k))) D D D (QP 3 0 0 k 32 (by rw[HE])) (Eo _) (EL (by have:=x.h;simp only[FX];omega)) D fun q r=>A8 []<|Bh 6 D<|DI A3 1 (bv ([1]++(x.l.take k)++(y.l.take k))) D D D (QP 2 0 0 k 32 (by rw[HE])) (Eo _) (EL (by have:=y.h;simp only[FX];omega)) D fun s t=>A8 []<|Ab 7 D (Ck D)<|Cm<|A7 ?_;exact fun W a=>⟨_,_,D,a.DQ 1,a.A0⟩
theorem iW(x:Jc)(q:Option Addr)(m c:Nat)(l:rG)(w:World)(f:View w (.slice q m c) m 1 (bv l))(hl:l.length=m)(hm:m≤4096):Calls lp 217 #[rS [bv x.l],I q m c] w fun e W=>∃a b,e=.returned (.slice a (0+1+32+m) b)∧W.ownsRow w.heap.size 5 1 (.slice a (0+1+32+m) b) (0+1+32+m) (bv (AL.Pt x l))∧Below w.heap.size w W:=by
 refine Cg w rD D 17<|Je<|Jh<|U<|Cv D fun g=>K ?_;refine Cr B7 D<|B6 (p:=33) D D<|U<|Tr A3 (33+m) D D (xs:=bv []) D fun i=>U<|Ey A3 (bv [0]) D D D fun j=>U<|DI (m:=1) A3 1 (bv ([0])) D D D (BZ 0) (Eo _) (EL (l':=[0]) D) D fun k n=>K ?_;refine Af (Fp CI 0 32 rfl .none .none 0)<|U<|DI A3 1 (bv ([0]++x.l)) D D D (QP 2 0 0 32 32 (DV (by rw[HE];exact Mk x.h))) (Eo _) (EL x.h) D fun o r=>Jd D<|U<|DI A3 1 (bv ([0]++x.l++l)) D D D (Bx f) (Eo _) (EL hl) D fun s t=>A7 ?_;exact fun W d=>⟨_,_,D,d.DQ 1,d.A0⟩
theorem Oh(k:Nat)(x y:Jc)(w:World)(b:CG w)(f:k≤32:=by omega):Calls lp 178 #[E k,rS [bv x.l],rS [bv y.l]] w (sM w (rS [bv (AL.ER k x y).l])):=by
 have c:=FU;refine Cg w R2 D 14<|Je<|Jh<|U<|Cv D fun g=>U<|Cv D fun h=>U<|Bw [Ak 32] fun i=>K ?_;refine Af (BN Nl 2 D D)<|Af (BN Nl 1 D D)<|U<|Ba TJ D (fun w a=>fN k x y w JY) fun _ e W a ⟨j,m,he,d,J⟩=>⟨_,_,he,a.own d J,?_⟩
 refine U<|BP dP D (fun w a=>Sj _ _ _ (AL.QL k x y) w (b.sat a c) ((BZ 0) w a) (De (a.rw 0)))<|Jd D<|U<|BP Iz D (fun w a=>S' (AL.Lz (AL.QL k x y)) k w)<|U<|Bk 1 0 1 D D D<|?_;refine Jg<|Jf<|Jq<|Fq Nl 1 D D fun W a=>?_;exact⟨D,a.A0⟩
theorem hn(k:Nat)(x:Jc)(q:Option Addr)(m c:Nat)(l:rG)(w:World)(b:CG w)(d:View w (.slice q m c) m 1 (bv l))(hl:l.length=m)(hm:m≤4096)(h:k≤32):Calls lp 206 #[E k,rS [bv x.l],I q m c] w (sM w (rS [bv (AL.leaf k x l).l])):=by
 have f:=FU;refine Cg w p5 D 13<|Je<|Jh<|U<|Cv D fun i=>U<|Bw [Ak 32] fun j=>K ?_;refine Af (BN CI 1 D D)<|Jd D<|U<|Ba rD D (fun w a=>iW x _ _ _ l w ((Bx d) w a) hl JY) fun _ e W a ⟨n,o,he,g,J⟩=>⟨_,_,he,a.own g J,?_⟩
 refine U<|BP dP D (fun w a=>Sj _ _ _ (AL.Pt x l) w (b.sat a f) ((BZ 0) w a) (De (a.rw 0)))<|Jd D<|U<|BP Iz D (fun w a=>S' (AL.Lz (AL.Pt x l)) k w)<|U<|Bk 1 0 1 D D D<|?_;refine Jg<|Jf<|Jq<|Fq Nl 1 D D fun W a=>?_;exact⟨D,a.A0⟩
theorem VB(k h:Nat)(w:World)(d:CG w)(n:k≤32)(o:h≤256):Calls lp 177 #[E k,E h] w (sM w (rS [bv (AL.bare k h).l])):=by
 have e:=FU;refine Cg w QE D 20<|Je<|Jh<|U<|Bw [Ak 32] fun f=>K ?_;refine U<|Ey A3 (bv [2]) D D D fun p=>U<|BP dP D (fun w b=>Sj _ _ _ ([2]) w (d.sat b e) ((BZ 0) w b) (De (b.rw 0)))<|Jd D<|U<|BP Iz D (fun w b=>S' (AL.Lz ([2])) k w)<|U<|Bw [Ak 32] fun g=>U<|Bk 0 0 1 D D D<|?_;refine K ?_;refine U<|BP ZC D (fun w b=>V7 h 0 256 h w JY)<|K ?_;refine DL (fun j a W=>∃i,j=h - i∧AH 20 a (Jb (Jb (Jb (Jb (Jb Jk 0 (E k)) 4 (S f)) 5 (S g)) 11 (E h)) 12 (E i))∧Sat C1 w [O g [bv (AL.bare k i).l] 136,O f [Ak 32] 136] W∧i≤h) (fun a W c b=>⟨0,D,AY c,b.pick [0,2],JY⟩) ?_;rintro _ a W ⟨i,rfl,c,b,V⟩;revert a W;refine Je<|Jh<|Ej D D<|Jg<|Jf<|Je<|Cz D (fun m=>?_) fun m=>?_
 ·
  refine K ?_;refine Af (BN Nl 0 D D)<|Af (BN Nl 0 D D)<|U<|BP R2 D (fun w b=>Oh k (AL.bare k i) (AL.bare k i) w (d.sat b e))<|U<|Bk 0 0 1 D D D<|?_;refine K ?_;refine B6 (q:=1) D D<|K ?_;exact fun a W c b=>⟨_,JY,i+1,D,AY c,b.pick [0,1],JY⟩
 refine K ?_;refine Af (BN Nl 0 D D)<|U<|Bk 1 0 1 D D D<|?_;refine Jg<|Jf<|Jq<|Fq Nl 1 D D fun W b=>?_;obtain rfl:i=h:=JY;exact⟨D,b.A0⟩
def GK(l:rG):List Lit:=l.map fun b=>Lit.int .u8 ((b.toNat:Nat):Int)
theorem ht{l m:rG}(h:GK l=GK m):l=m:=by
 have:∀(l m:rG),GK l=GK m→l=m:=by
  intro l
  induction l with
  |nil=>intro m h;cases m with
   |nil=>rfl
   |cons y m=>cases h
  |cons x l a=>intro m h;cases m with
   |nil=>cases h
   |cons y m=>
    simp only[GK,Zv,List.cons.injEq,Lit.int.injEq,true_and]at h;rw[a m h.2,M'.1 (by omega:x.toNat=y.toNat)]
 exact this l m h
theorem eV(Au:Nat)(b:UInt8):Tryz.prog.keyLits (Au+1) 5 [.int .u8 ((b.toNat:Nat):Int)]=some [.int .u8 ((b.toNat:Nat):Int)]:=by
 have hw:(Lit.int .u8 ((b.toNat:Nat):Int)).wf=true:=by
  have:=b.toNat_lt;have h1:IntKind.u8.min=0:=D;have a:IntKind.u8.max=255:=D;simp only[Lit.wf,Kq,decide_eq_true_eq];omega
 simp[Program.keyLits,Tryz.underlying5,hw]
theorem S3(Au:Nat)(n:Nat)(h:n≤4611686018427387904):Tryz.prog.keyLits (Au+1) 3 [.int .i64 ((n:Nat):Int)]=some [.int .i64 ((n:Nat):Int)]:=by
 have hw:(Lit.int .i64 ((n:Nat):Int)).wf=true:=by
  have h1:IntKind.i64.min= -9223372036854775808:=D;have a:IntKind.i64.max=9223372036854775807:=D;simp only[Lit.wf,Kq,decide_eq_true_eq];omega
 simp[Program.keyLits,Tryz.underlying3,hw]
theorem SK(Au:Nat){T n:Nat}(b:Tryz.prog.underlying T=some (.array n 5))(c:Tryz.prog.cellsOf T=n){l:rG}(h:l.length=n):Tryz.prog.keyLits (Au+2) T (bv l)=some (GK l):=by
 have hr:=mapM_some (f:=fun i=>Tryz.prog.keyLits (Au+1) 5 (((bv l).drop (i*Tryz.prog.cellsOf 5)).take (Tryz.prog.cellsOf 5))) (g:=fun i=>[Lit.int .u8 ((l.getD i 0).toNat:Nat)]) (l:=List.range n) (fun i V=>by
  have a:i<l.length:=by rw[h];exact QZ.1 V
  have e:((bv l).drop (i*1)).take 1=[.int .u8 (l[i].toNat:Nat)]:=by
   rw[Q6,Hk,Ip,RS,To,F3 a];rfl
  have d:l.getD i 0=l[i]:=by rw[Dm,F3 a];rfl
  rw[Qa,e,d];exact eV Au _)
 have hl:(bv l).length=Tryz.prog.cellsOf T:=by rw[DG,h,c]
 unfold Program.keyLits;simp only[b];rw[if_pos hl,hr];simp only[Ph,Option.some.injEq];rw[NQ];unfold GK;apply cI
 ·simp[h]
 ·intro i h1 j;simp only[Mw,cZ];rw[Dm,F3 (by simpa using j)];rfl
theorem TZ:Tryz.prog.cellsOf 344=34:=AB
theorem VE:Tryz.prog.cellsOf 273=33:=AB
theorem Um:Tryz.prog.cellsOf 3=1:=AB
theorem VM(Au p c:Nat)(x:Jc)(a:p≤4611686018427387904)(b:c≤4611686018427387904):Tryz.prog.keyLits (Au+3) 344 ([Value.int .i64 (p:Int)]++([Value.int .i64 (c:Int)]++bv x.l))=some (Lit.int .i64 (p:Int)::Lit.int .i64 (c:Int)::GK x.l):=by
 have hl:([Value.int .i64 (p:Int)]++([Value.int .i64 (c:Int)]++bv x.l)).length=Tryz.prog.cellsOf 344:=by rw[TZ];simp[DG,x.h]
 unfold Program.keyLits;simp only[Tryz.underlying344];rw[if_pos ⟨hl,by decide+kernel⟩];have h1:=S3 (Au+1) p a;have d:=S3 (Au+1) c b;have e:=SK Au (T:=136) Nl PX x.h;have f:(bv x.l).take 32=bv x.l:=DV (by rw[DG,x.h];exact Br _);simp[List.mapM_cons,Um,PX,h1,d,e,f]
theorem ha(Au b:Nat)(x:Jc)(J:b≤4611686018427387904):Tryz.prog.keyLits (Au+3) 273 ([Value.int .i64 (b:Int)]++bv x.l)=some (Lit.int .i64 (b:Int)::GK x.l):=by
 have hl:([Value.int .i64 (b:Int)]++bv x.l).length=Tryz.prog.cellsOf 273:=by rw[VE];simp[DG,x.h]
 unfold Program.keyLits;simp only[Tryz.underlying273];rw[if_pos ⟨hl,by decide+kernel⟩];have h1:=S3 (Au+1) b J;have a:=SK Au (T:=48) CI NL x.h;have c:(bv x.l).take 32=bv x.l:=DV (by rw[DG,x.h];exact Br _);simp[List.mapM_cons,Um,NL,h1,a,c]
theorem fj(x y:Operand)(p q:Array Value)(w:World):(eqGuard .eql 344 x y (.agg p) (.agg q)).run Tryz.prog w=.ok () w:=AB
theorem Z_(p c d c':Nat)(x f:Jc)(i:p≤4611686018427387904)(j:c≤4611686018427387904)(k:d≤4611686018427387904)(m:c'≤4611686018427387904)(w:World):(binOp .eql 344 (.agg (flat [[.int .i64 (p:Int)],[.int .i64 (c:Int)],bv x.l])) (.agg (flat [[.int .i64 (d:Int)],[.int .i64 (c':Int)],bv f.l]))).run Tryz.prog w=.ok (.bool (decide (p=d∧c=c'∧x.l=f.l))) w:=by
 have Ce:∀(p c:Nat) (x:Jc),(flat [[Value.int .i64 (p:Int)],[.int .i64 (c:Int)],bv x.l]).toList=[Value.int .i64 (p:Int)]++([Value.int .i64 (c:Int)]++bv x.l):=fun p c x=>by simp[flat]
 have Z:∀(p c:Nat) (x:Jc),(Value.agg (flat [[.int .i64 (p:Int)],[.int .i64 (c:Int)],bv x.l])).formed Tryz.prog 344=true:=fun p c x=>by
  simp[Value.formed,Tryz.underlying344,flat,DG,x.h,TZ]
 have n:Tryz.prog.keyLits 3 344 (Value.agg (flat [[.int .i64 (p:Int)],[.int .i64 (c:Int)],bv x.l])).cells.toList=some (Lit.int .i64 (p:Int)::Lit.int .i64 (c:Int)::GK x.l):=by
  show Tryz.prog.keyLits 3 _ (flat _).toList=_;rw[Ce];exact VM 0 p c x i j
 have o:Tryz.prog.keyLits 3 344 (Value.agg (flat [[.int .i64 (d:Int)],[.int .i64 (c':Int)],bv f.l])).cells.toList=some (Lit.int .i64 (d:Int)::Lit.int .i64 (c':Int)::GK f.l):=by
  show Tryz.prog.keyLits 3 _ (flat _).toList=_;rw[Ce];exact VM 0 d c' f k m
 obtain⟨r,hr,g⟩:=run_equalIn_deep (P:=Tryz.prog) 9997 3 344 AB w 3 3 _ _ _ _ (Z p c x) (Z d c' f) n o;have e:r=decide (p=d∧c=c'∧x.l=f.l):=by
  have:(Lit.int .i64 (p:Int)::Lit.int .i64 (c:Int)::GK x.l)=(Lit.int .i64 (d:Int)::Lit.int .i64 (c':Int)::GK f.l)↔(p=d∧c=c'∧x.l=f.l):=by
   simp only[List.cons.injEq,Lit.int.injEq,true_and];exact⟨fun⟨a,b,c⟩=>⟨JY,JY,ht c⟩,fun⟨a,b,c⟩=>⟨JY,JY,by rw[c]⟩⟩
  rw[this]at g
  by_cases he:p=d∧c=c'∧x.l=f.l
  ·rw[decide_eq_true he];exact g.2 he
  ·rw[decide_eq_false he];cases r
   ·rfl
   ·exact absurd (g.1 D) he
 subst e;have e:binOp .eql 344 (.agg (flat [[.int .i64 (p:Int)],[.int .i64 (c:Int)],bv x.l])) (.agg (flat [[.int .i64 (d:Int)],[.int .i64 (c':Int)],bv f.l]))=(do pure (.bool (←Op.equal 344 (.agg (flat [[.int .i64 (p:Int)],[.int .i64 (c:Int)],bv x.l])) (.agg (flat [[.int .i64 (d:Int)],[.int .i64 (c':Int)],bv f.l]))))):=D;have:(9997+3:Nat)=10000:=D;rw[this]at hr;have q:(Op.equal 344 (.agg (flat [[.int .i64 (p:Int)],[.int .i64 (c:Int)],bv x.l])) (.agg (flat [[.int .i64 (d:Int)],[.int .i64 (c':Int)],bv f.l]))).run Tryz.prog w=_:=hr;rw[e,Sem.run_bind,q,Result.andThen_ok,Sem.run_pure]
end Go.Proofs.YtjdboncaegphmaaGreatDoor
namespace Go.Proofs.YtjdboncaegphmaaGreatDoor.G
open Go.Proofs.YtjdboncaegphmaaGreatDoor
set_option linter.unusedVariables false
structure Dh where
 Bd:Nat
 l:Nat
 r:Nat
 lc:Nat
 rc:Nat
 ls:Jc
 rs:Jc
 k:Jc
 val:List UInt8
def DJ:Dh:=⟨0,0,0,0,0,CU,CU,CU,[]⟩
def _root_.Go.Proofs.YtjdboncaegphmaaGreatDoor.Bf.AW(x:Bf):Dh:=⟨x.Bd,x.l,x.r,x.lc,x.rc,x.ls,x.rs,x.k,x.s.v⟩
def DF(l:rG)(i:Nat):Jc:=AL.cut (l.drop i) 32
def BD(l:rG)(i:Nat):Nat:=Fr.le ((l.drop i).take 4)
def child(p c:Nat)(s:Jc):Bool:=if p=0 then decide (c=0)&&decide (s.l=CU.l)else decide (2≤p)&&decide (p<4096)&&decide (0<c)&&decide (c≤4096)
def branch(l r lc rc:Nat)(ls rs:Jc):Bool:=child l lc ls&&child r rc rs&&!decide (l=r)&&decide (2≤lc+rc)&&decide (lc+rc≤4096)
def node(Bd:Nat)(B1:rG):Option Dh:=
 if Bd=1∧32≤B1.length then(if(B1.drop 32).length≤128 then some ⟨1,0,0,0,0,CU,CU,DF B1 0,B1.drop 32⟩else none)
 else if Bd=2∧B1.length=80 then
  (if branch (BD B1 0) (BD B1 4) (BD B1 8) (BD B1 12) (DF B1 16) (DF B1 48)=true then some ⟨2,BD B1 0,BD B1 4,BD B1 8,BD B1 12,DF B1 16,DF B1 48,CU,[]⟩else none)
 else none
def num(r:B9):Nat:=if r.f=0 then r.v else r.v - r.f+1
def held(p c:Nat):Bool:=(decide (p=0)&&decide (c=0))||(!decide (p=0)&&decide (0<c)&&decide (c≤4096))
def NO(n:Nat):Bool:=decide (2≤n)&&decide (n<4096)
def right(r:B9):Bool:=
 decide (r.f≤1073741824)&&decide (max 1 r.f≤r.v)&&decide (r.v≤1073741824)&&held r.r r.c&&(decide (r.r=0)||NO r.r)&&
 (if num r=1 then decide (r.uU=0)&&decide (r.uW=0)
  else NO r.uU&&(if num r&&&(num r - 1)=0 then decide (r.uW=0)else if num r&&&(num r - 1)=num r - 1 then decide (r.uW=r.uU)else NO r.uW&&decide (r.uW<r.uU)))
def DX:B9:=⟨0,0,0,0,0,0,CU⟩
def Kd(B1:rG):B9:=⟨BD B1 0,BD B1 4,BD B1 8,BD B1 12,BD B1 16,BD B1 20,DF B1 24⟩
def record(B1:rG):Option B9:=if B1.length=56 then(if right (Kd B1)=true then some (Kd B1)else none)else none
def load(l:rG):List UInt8:=(l.drop 6).take (l.getD 1 0).toNat
inductive OD where
 |no
 |nd (n:Dh)
 |rc (r:B9)
def CW(p:Nat)(l:rG):OD:=
 if Fr.CZ p l=true then
  (if(l.getD 0 0).toNat=3 then(match record (load l)with|some r=>.rc r|none=>.no)
   else(match node (l.getD 0 0).toNat (load l)with|some n=>.nd n|none=>.no))
 else .no
structure Ae where
 b:Nat
 k:Jc
def under(r:Ae)(x:Nat):Ae:=⟨r.b+1,⟨r.k.l.set (r.b/8) (r.k.l.getD (r.b/8) 0|||UInt8.ofNat (x*2^(7 - r.b % 8))),by rw[Kh];exact r.k.h⟩⟩
instance:DecidableEq Jc:=fun a b=>if h:a.l=b.l then isTrue (Jc.ext h)else isFalse (fun e=>h (congrArg Jc.l e))
instance:DecidableEq Ae:=fun a b=>if h:a.b=b.b∧a.k=b.k then isTrue (by cases a;cases b;cases h.1;cases h.2;rfl)else isFalse (fun e=>h ⟨congrArg Ae.b e,congrArg Ae.k e⟩)
def get{Bo Dg:Type}[DecidableEq Bo](m:List (Bo×Dg))(k:Bo):Option Dg:=(m.find? (fun e=>decide (e.1=k))).map (·.2)
def put{Bo Dg:Type}[DecidableEq Bo]:List (Bo×Dg)→Bo→Dg→List (Bo×Dg)
 |[],k,v=>[(k,v)]
 |e::m,k,v=>if e.1=k then(k,v)::m else e::put m k v
theorem OZ{Bo Dg:Type}[DecidableEq Bo](m:List (Bo×Dg))(k k':Bo)(v:Dg):get (put m k v) k'=if k=k' then some v else get m k':=by
 induction m with
 |nil=>
  by_cases h:k=k'
  ·subst h;simp[put,get]
  ·simp[put,get,h]
 |cons e m b=>
  unfold put
  by_cases h:e.1=k
  ·rw[if_pos h]
   by_cases a:k=k'
   ·subst a;simp[get]
   ·simp[get,a,h]
  ·rw[if_neg h];unfold get at b⊢;rw[af,af]
   by_cases a:e.1=k'
   ·subst a;simp;exact fun q=>absurd q.symm h
   ·simp only[a,decide_false];exact b
structure Env where
 w:Nat
 nd:Nat→Option Dh
 AJ:List (Ae×Nat)
 AO:List (Jc×Nat)
 fr:Nat
structure B4 where
 A4:Nat
 rows:List (Ae×Nat)
 Fz:List (Jc×Nat)
abbrev _root_.Go.Proofs.YtjdboncaegphmaaGreatDoor.Vz:=fun a b c d (e:G.B4)=>([[S a],[S b],[S c],[E d],[E e.A4]]:List (List Value))
def E7(a:Env)(Ar «by» c:Nat)(at_:Ae):Bool:=
 match a.nd Ar with
 |none=>false
 |some n=>decide (Ar<«by»)&&(if n.Bd=1 then decide (c=1)&&decide (at_.b≤AL.J5 n.k.l at_.k.l)else decide (c=n.lc+n.rc)&&decide (at_.b<256))
def Hw(w:Nat)(n:Dh)(h:Nat):Jc:=
 if n.Bd=1 then AL.Gr w n.k (AL.leaf w n.k n.val) h else AL.ER w (if n.l=0 then AL.bare w (h - 1)else n.ls) (if n.r=0 then AL.bare w (h - 1)else n.rs)
def note(s:B4)(at_:Ae)(p:Nat)(n:Dh):B4:=⟨s.A4,put s.rows at_ p,if n.Bd=1 then put s.Fz n.k p else s.Fz⟩
def Bn(nd:Nat→Option Dh):Nat→Nat→Ae→B4→B4
 |0,_,_,s=>s
 |f+1,p,at_,s=>
  let n:=(nd p).getD DJ
  if n.Bd=1 then note s at_ p n
  else
   let s1:=if n.l=0 then note s at_ p n else Bn nd f n.l (under at_ 0) (note s at_ p n)
   if n.r=0 then s1 else Bn nd f n.r (under at_ 1) s1
def G8(a:Env)(Ar:Nat)(n:Dh)(at_:Ae):Bool:=if n.Bd=1 then decide ((get a.AO n.k).getD 0=Ar)else decide ((get a.AJ at_).getD 0=Ar)
def Ik(a:Env)(n:Dh)(at_:Ae):Bool:=
 if n.Bd=1 then(match get a.AO n.k with|none=>false|some q=>decide (((a.nd q).getD DJ).val=n.val))
 else
  let m:=(a.nd ((get a.AJ at_).getD 0)).getD DJ
  decide (m.Bd=2)&&decide (m.l=n.l)&&decide (m.r=n.r)
def through(a:Env):Nat→Nat→Nat→Nat→Jc→Ae→B4→Option B4
 |0,_,_,_,_,_,_=>none
 |f+1,Ar,«by»,c,sum,at_,s=>
  if E7 a Ar «by» c at_=true then
   let n:=(a.nd Ar).getD DJ
   let go:Option B4:=
    if Ar<a.fr then(if G8 a Ar n at_=true then some (Bn a.nd (257 - at_.b) Ar at_ s)else none)
    else
     (if n.l=0 then some s else through a f n.l Ar n.lc n.ls (under at_ 0) s).bind fun s1=>
     (if n.r=0 then some s1 else through a f n.r Ar n.rc n.rs (under at_ 1) s1).bind fun s2=>
     if Ar=s2.A4∧Ik a n at_=false then some {note s2 at_ Ar n with A4:=s2.A4+1}else none
   go.bind fun d=>if Hw a.w n (256 - at_.b)=sum then some d else none
  else none
def at_(ch:List Nat)(i:Nat):Nat:=if 1≤i∧i≤ch.length then ch.getD (i - 1) 0 else 0
abbrev Shape:=List (Ae×Nat)×List (Jc×Nat)
def version(w:Nat)(nd:Nat→Option Dh)(rc:Nat→B9)(ch:List Nat)(DB:Shape)(i:Nat):Option Shape:=
 let p:=at_ ch i
 let r:=rc p
 let first:=(rc (at_ ch 1)).f
 if r.f=first∧r.v=(if 0<first then first+i - 1 else i)∧r.uU=at_ ch (i - 1)∧r.uW=at_ ch (i&&&(i - 1))then
  let fr:=max 1 (at_ ch (i - 1))+1
  let res:Option B4:=if r.r=0 then(if r.s=AL.bare w 256 then some ⟨fr,[],[]⟩else none)else through ⟨w,nd,DB.1,DB.2,fr⟩ 4097 r.r p r.c r.s ⟨0,CU⟩ ⟨fr,[],[]⟩
  res.bind fun s=>if s.A4=p then some (s.rows,s.Fz)else none
 else none
def EO(w:Nat)(nd:Nat→Option Dh)(rc:Nat→B9)(ch:List Nat):Nat→Option Shape
 |0=>some ([],[])
 |i+1=>(EO w nd rc ch i).bind fun o=>version w nd rc ch o (i+1)
end Go.Proofs.YtjdboncaegphmaaGreatDoor.G
namespace Go.Proofs.YtjdboncaegphmaaGreatDoor
open Go.RowKit
set_option maxRecDepth 100000
set_option maxHeartbeats 2000000
theorem KM{a b k:Nat}(h:a<2^k:=by omega):a|||b*2^k=a+b*2^k:=by
 rw[Nat.or_comm,RV,←q4 h,j7]
theorem RO{l:rG}(h:4≤l.length:=by rw[J3];omega):Fr.le (l.take 4)=(l.getD 0 0).toNat+(l.getD 1 0).toNat*2^8+(l.getD 2 0).toNat*2^16+(l.getD 3 0).toNat*2^24:=by
 match l,h with
 |a::b::c::d::r,_=>simp[Fr.le];omega
theorem hV(l:rG):Fr.le (l.take 4)<4294967296:=by
 have:=Fr.Lt (l.take 4);have a:(l.take 4).length≤4:=List.length_take_le _ _;exact Wb this (aI JZ a)
theorem KU(l:rG)(i:Nat):G.BD l i<4294967296:=hV _
theorem Hs(q:Option Addr)(m c:Nat)(l:rG)(w:World)(a:View w (.slice q m c) m 1 (bv l))(hl:l.length=m)(hm:4≤m:=by omega):Calls lp 255 #[I q m c] w (sM w (E (Fr.le (l.take 4)))):=by
 have d:=(l.getD 0 0).toNat_lt;have e:=(l.getD 1 0).toNat_lt;have f:=(l.getD 2 0).toNat_lt;have g:=(l.getD 3 0).toNat_lt;refine Cg w nk D 25<|K ?_;refine GR<|zs (AA D)<|zs (Dj A3 0 0 (Bx a) D D)<|zs (Fj BV 0 (Bx a) D)<|zs (Gg BV AF D)<|zs (AA D)<|zs (Dj A3 1 1 (Bx a) D D)<|zs (Fj BV 1 (Bx a) D)<|zs (Gg BV AF D)<|zs (Ke (n:=8) D D ((l.getD 1 0).toNat*2^8) D)<|zs (Ku D D ((l.getD 0 0).toNat+(l.getD 1 0).toNat*2^8) KM)<|zs (AA D)<|zs (Dj A3 2 2 (Bx a) D D)<|zs (Fj BV 2 (Bx a) D)<|zs (Gg BV AF D)<|zs (Ke (n:=16) D D ((l.getD 2 0).toNat*2^16) D)<|zs (Ku D D ((l.getD 0 0).toNat+(l.getD 1 0).toNat*2^8+(l.getD 2 0).toNat*2^16) KM)<|zs (AA D)<|zs (Dj A3 3 3 (Bx a) D D)<|zs (Fj BV 3 (Bx a) D)<|zs (Gg BV AF D)<|zs (Ke (n:=24) D D ((l.getD 3 0).toNat*2^24) D)<|zs (Ku D D ((l.getD 0 0).toNat+(l.getD 1 0).toNat*2^8+(l.getD 2 0).toNat*2^16+(l.getD 3 0).toNat*2^24) KM)<|zs (Ck D)<|CS<|A7 ?_;exact fun W b=>⟨by rw[RO JY],b.A0⟩
theorem Y0(k:Jc)(q:Option Addr)(m c:Nat)(w:World):Calls lp 259 #[rS [bv k.l,[I q m c]]] w (sM w (.bool (decide (((m:Nat):Int)≤((128:Nat):Int))))):=by
 refine Cg w ZF D 7<|Je<|Jh<|U<|Cv D fun b=>K ?_;refine AG Qm 32 D<|AZ B7 0 1 D D D<|Cr B7 D<|fS D D<|A7 ?_;exact fun W a=>⟨D,a.A0⟩
theorem a0{p c:Nat}{x:Jc}(h:p=0:=by omega):decide (p=0∧c=0∧x.l=CU.l)=G.child p c x:=by subst h;simp[G.child]
theorem Oa{p c:Nat}{x:Jc}(h:¬p=0:=by omega):G.child p c x=decide (2≤p∧p<4096∧0<c∧c≤4096):=by simp[G.child,h,Bool.and_assoc]
theorem CT{a b:Bool}(h:a=b:=by symm;exact decide_eq_false (by omega)):Ending.returned (.bool a)=.returned (.bool b):=by rw[h]
theorem Yj(p c:Nat)(x:Jc)(w:World)(b:p≤4611686018427387904)(d:c≤4611686018427387904):Calls lp 260 #[rS [[E p],[E c],bv x.l]] w (sM w (.bool (G.child p c x))):=by
 refine Cg w n5 D 27<|Je<|Jh<|U<|Cv D fun k=>K ?_;refine AG U8 0 D<|AZ AF 0 0 D D D<|E2 D D<|Jg<|Jf<|Cz D (fun e=>?_) fun e=>?_
 ·
  refine Je<|Jh<|Af (BN U8 0 D D)<|Af (S8 [[E 0],[E 0],Ak 32])<|Af (fun _ _ f a=>ED f D D (fj _ _ _ _ _) (Z_ p c 0 0 x CU b d JZ JZ _))<|A7 ?_;exact fun W a=>⟨CT a0,a.A0⟩
 refine K ?_;refine AG U8 0 D<|AZ AF 0 0 D D D<|L6 D D (fun g=>?_) fun g=>?_
 ·
  refine K ?_;refine AG U8 0 D<|Jj D D D<|AZ AF 0 0 D D D<|Jj D D D<|GV D D (fun h=>?_) fun h=>?_
  ·
   refine K ?_;refine AG U8 1 D<|Jj D D D<|AZ AF 0 1 D D D<|Jj D D D<|GV D D (fun i=>?_) fun i=>?_
   ·
    refine K ?_;refine AG U8 1 D<|Jj D D D<|AZ AF 0 1 D D D<|Jj D D D<|L6 D D (fun j=>?_) fun j=>?_
    ·
     refine A7 ?_;exact fun W a=>⟨CT (by rw[Oa];symm;exact decide_eq_true JY),a.A0⟩
    refine A7 ?_;exact fun W a=>⟨CT (by rw[Oa];symm;exact decide_eq_false JY),a.A0⟩
   refine A7 ?_;exact fun W a=>⟨CT (by rw[Oa];symm;exact decide_eq_false JY),a.A0⟩
  refine A7 ?_;exact fun W a=>⟨CT (by rw[Oa];symm;exact decide_eq_false JY),a.A0⟩
 refine A7 ?_;exact fun W a=>⟨CT (by rw[Oa];symm;exact decide_eq_false JY),a.A0⟩
theorem U1(l r lc rc:Nat)(ls rs:Jc)(w:World)(hl:l≤4294967296)(hr:r≤4294967296)(g:lc≤4294967296)(h:rc≤4294967296):Calls lp 262 #[rS [[E l],[E lc],bv ls.l,[E r],[E rc],bv rs.l]] w (sM w (.bool (G.branch l r lc rc ls rs))):=by
 refine Cg w uk D 36<|Je<|Jh<|U<|Cv D fun i=>K ?_;refine AG h' 0 D<|AG U8 1 D<|AZ AF 0 1 D D D<|AG h' 34 D<|AG U8 35 D<|AZ AF 0 4 D D D<|B6 D D<|K ?_;refine AG h' 0 D<|Af (DH U8 0 0 3 [[E l],[E lc],bv ls.l] D D)<|U<|BP n5 D (fun w a=>Yj l lc ls w JY JY)<|?_
 rcases Ln (G.child l lc ls)with b|b
 ·
  refine CR 13 D (congrArg Value.bool b)<|K ?_;refine AG h' 34 D<|Jj D D D<|Af (DH U8 0 3 3 [[E r],[E rc],bv rs.l] D D)<|Jj D D D<|U<|BP n5 D (fun w a=>Yj r rc rs w JY JY)<|?_
  rcases Ln (G.child r rc rs)with c|c
  ·
   refine CR 17 D (congrArg Value.bool c)<|K ?_;refine AG h' 0 D<|Jj D D D<|AG U8 0 D<|Jj D D D<|AZ AF 0 0 D D D<|Jj D D D<|AG h' 34 D<|Jj D D D<|AG U8 34 D<|Jj D D D<|AZ AF 0 3 D D D<|Jj D D D<|Li D D (fun d=>?_) fun d=>?_
   ·
    refine A7 ?_;exact fun W a=>⟨CT (by symm;simp[G.branch, *];try omega),a.A0⟩
   refine K ?_;refine L6 D D (fun e=>?_) fun e=>?_
   ·
    refine K ?_;refine L6 D D (fun f=>?_) fun f=>?_
    ·
     refine A7 ?_;exact fun W a=>⟨CT (by symm;simp[G.branch, *];try omega),a.A0⟩
    refine A7 ?_;exact fun W a=>⟨CT (by symm;simp[G.branch, *];try omega),a.A0⟩
   refine A7 ?_;exact fun W a=>⟨CT (by symm;simp[G.branch, *];try omega),a.A0⟩
  refine CR 17 D (congrArg Value.bool c)<|A7 ?_;exact fun W a=>⟨CT (by symm;simp[G.branch, *];try omega),a.A0⟩
 refine CR 13 D (congrArg Value.bool b)<|A7 ?_;exact fun W a=>⟨CT (by symm;simp[G.branch, *];try omega),a.A0⟩
