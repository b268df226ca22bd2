/- Laws and walks on the road to SalvageClean (part M16). No conditions beyond each law's own. -/
import Derived.Test.YtaapafoibofbjaaGreatDoorM01
import Derived.Test.YtaapafoibofbjaaGreatDoorM15
import Derived.Test.YtaapafoibofbjaaGreatDoorM14
import Derived.Test.YtaapafoibofbjaaGreatDoorM07
import Derived.Test.YtaapafoibofbjaaGreatDoorM12
set_option linter.unusedVariables false
namespace Go.Proofs.YtaapafoibofbjaaGreatDoor.AL
open Go.Proofs.YtaapafoibofbjaaGreatDoor
set_option linter.unusedVariables false
def ID(x k:UInt32):UInt32:=x<<<k|||x>>>(32 - k)
def B1(p:List UInt8)(t:Nat):UInt32:=(p.getD (4*t) 0).toUInt32<<<24|||(p.getD (4*t+1) 0).toUInt32<<<16|||(p.getD (4*t+2) 0).toUInt32<<<8|||(p.getD (4*t+3) 0).toUInt32
def R_(p:List UInt8):Nat→Jn 64
 |0=>Jn.zero 64
 |t+1=>(R_ p t).set t (B1 p t)
def A4(W:List UInt32)(t:Nat):UInt32:=
 (ID (W.getD (t - 2) 0) 15^^^ID (W.getD (t - 2) 0) 13^^^W.getD (t - 2) 0>>>10)+W.getD (t - 7) 0+(ID (W.getD (t - 15) 0) 25^^^ID (W.getD (t - 15) 0) 14^^^W.getD (t - 15) 0>>>3)+W.getD (t - 16) 0
def DO(p:List UInt8):Nat→Jn 64
 |0=>R_ p 16
 |t+1=>(DO p t).set (16+t) (A4 (DO p t).l (16+t))
structure Ij where
 a:UInt32
 b:UInt32
 c:UInt32
 d:UInt32
 e:UInt32
 f:UInt32
 g:UInt32
 z:UInt32
def Tj:Jn 64:=⟨[1116352408,1899447441,3049323471,3921009573,961987163,1508970993,2453635748,2870763221,3624381080,310598401,607225278,1426881987,1925078388,2162078206,2614888103,3248222580,3835390401,4022224774,264347078,604807628,770255983,1249150122,1555081692,1996064986,2554220882,2821834349,2952996808,3210313671,3336571891,3584528711,113926993,338241895,666307205,773529912,1294757372,1396182291,1695183700,1986661051,2177026350,2456956037,2730485921,2820302411,3259730800,3345764771,3516065817,3600352804,4094571909,275423344,430227734,506948616,659060556,883997877,958139571,1322822218,1537002063,1747873779,1955562222,2024104815,2227730452,2361852424,2428436474,2756734187,3204031479,3329325298],D⟩
def IP:Jn 8:=⟨[1779033703,3144134277,1013904242,2773480762,1359893119,2600822924,528734635,1541459225],D⟩
def one(W:List UInt32)(s:Ij)(t:Nat):UInt32:=s.z+(ID s.e 26^^^ID s.e 21^^^ID s.e 7)+(s.g^^^s.e&&&(s.f^^^s.g))+Tj.l.getD t 0+W.getD t 0
def two(s:Ij):UInt32:=(ID s.a 30^^^ID s.a 19^^^ID s.a 10)+(s.a&&&s.b|||s.c&&&(s.a|||s.b))
def eA(W:List UInt32)(s:Ij)(t:Nat):Ij:=⟨one W s t+two s,s.a,s.b,s.c,s.d+one W s t,s.e,s.f,s.g⟩
def Eu(W:List UInt32)(s:Ij):Nat→Ij
 |0=>s
 |t+1=>eA W (Eu W s t) t
def DR(l:List UInt32):Ij:=⟨l.getD 0 0,l.getD 1 0,l.getD 2 0,l.getD 3 0,l.getD 4 0,l.getD 5 0,l.getD 6 0,l.getD 7 0⟩
def Ij.l(s:Ij):Jn 8:=⟨[s.a,s.b,s.c,s.d,s.e,s.f,s.g,s.z],D⟩
def fin(L a:Jn 8):Nat→Jn 8
 |0=>L
 |i+1=>(fin L a i).set i ((fin L a i).l.getD i 0+a.l.getD i 0)
def step(L:Jn 8)(p:List UInt8):Jn 8:=fin L (Eu (DO p 48).l (DR L.l) 64).l 8
def GO(L:Jn 8)(p:List UInt8):Nat→Jn 8
 |0=>L
 |i+1=>step (GO L p i) ((p.drop (64*i)).take 64)
structure Ek where
 st:Jn 8
 rest:Ji 64
 V:Nat
 jA:UInt64
def left(p:List UInt8):List UInt8:=p.drop (64*(p.length/64))
theorem Ud(p:List UInt8):(left p).length=p.length % 64:=by unfold left;rw[List.length_drop];omega
def w0(st:Jn 8)(rest:Ji 64)(a:UInt64)(p:List UInt8):Ek:=⟨GO st p (p.length/64),rest.lay 0 (left p),(left p).length,a⟩
def wr(h:Ek)(p:List UInt8):Ek:=
 if 0<h.V then
  (if h.V+p.length<64 then⟨h.st,h.rest.lay h.V p,h.V+p.length,h.jA+p.length.toUInt64⟩
   else w0 (step h.st (h.rest.lay h.V (p.take (64 - h.V))).l) (h.rest.lay h.V (p.take (64 - h.V))) (h.jA+p.length.toUInt64) (p.drop (64 - h.V)))
 else w0 h.st h.rest (h.jA+p.length.toUInt64) p
def pad(V:Nat):Nat:=(119 - V % 64) % 64+1
def FY(V:Nat)(a:UInt64):Nat→Ji 128
 |0=>(Ji.zero 128).set 0 128
 |i+1=>(FY V a i).set (pad V+i) (a>>>(56 - 8*i).toUInt64).toUInt8
def out(L:Jn 8):Nat→Ji 32
 |0=>Ji.zero 32
 |i+1=>((((out L i).set (4*i) (L.l.getD i 0>>>24).toUInt8).set (4*i+1) (L.l.getD i 0>>>16).toUInt8).set (4*i+2) (L.l.getD i 0>>>8).toUInt8).set (4*i+3) (L.l.getD i 0).toUInt8
def total(h:Ek):Jc:=⟨(out (wr h ((FY h.V (h.jA*8) 8).l.take (pad h.V+8))).st 8).l,Ji.h _⟩
def Lz(m:List UInt8):Jc:=total (wr ⟨IP,Ji.zero 64,0,0⟩ m)
def cut(d:List UInt8)(w:Nat):Jc:=⟨d.take (min w 32)++List.replicate (32 - (d.take (min w 32)).length) 0,by simp only[List.length_append,List.length_take,List.length_replicate];omega⟩
theorem UA{d:List UInt8}{w:Nat}(Ad:w≤d.length)(hw:w≤32):(cut d w).l=((Ji.zero 32).lay 0 (d.take w)).l:=by
 have h1:(d.take w).length=w:=by rw[List.length_take];omega
 rw[Ji.NC _ (by omega)]
 simp only[cut,Nat.min_eq_left hw,h1,Ji.zero,List.take_zero,List.nil_append,Nat.zero_add,List.drop_replicate]
def Pt(k:Jc)(v:List UInt8):List UInt8:=0::(k.l++v)
def QL(w:Nat)(l r:Jc):List UInt8:=1::(l.l.take w++r.l.take w)
def leaf(w:Nat)(k:Jc)(v:List UInt8):Jc:=cut (Lz (Pt k v)).l w
def ER(w:Nat)(l r:Jc):Jc:=cut (Lz (QL w l r)).l w
def bare(w:Nat):Nat→Jc
 |0=>cut (Lz [2]).l w
 |h+1=>ER w (bare w h) (bare w h)
def Gr(w:Nat)(k:Jc)(d:Jc):Nat→Jc
 |0=>d
 |h+1=>if Ea k.l (255 - h)=0 then ER w (Gr w k d h) (bare w h)else ER w (bare w h) (Gr w k d h)
def Iw:List UInt8:=[0,1,2,2,3,3,3,3,4,4,4,4,4,4,4,4,5,5,5,5,5,5,5,5,5,5,5,5,5,5,5,5,6,6,6,6,6,6,6,6,6,6,6,6,6,6,6,6,6,6,6,6,6,6,6,6,6,6,6,6,6,6,6,6,7,7,7,7,7,7,7,7,7,7,7,7,7,7,7,7,7,7,7,7,7,7,7,7,7,7,7,7,7,7,7,7,7,7,7,7,7,7,7,7,7,7,7,7,7,7,7,7,7,7,7,7,7,7,7,7,7,7,7,7,7,7,7,7,8,8,8,8,8,8,8,8,8,8,8,8,8,8,8,8,8,8,8,8,8,8,8,8,8,8,8,8,8,8,8,8,8,8,8,8,8,8,8,8,8,8,8,8,8,8,8,8,8,8,8,8,8,8,8,8,8,8,8,8,8,8,8,8,8,8,8,8,8,8,8,8,8,8,8,8,8,8,8,8,8,8,8,8,8,8,8,8,8,8,8,8,8,8,8,8,8,8,8,8,8,8,8,8,8,8,8,8,8,8,8,8,8,8,8,8,8,8,8,8,8,8,8,8,8,8,8,8]
theorem RL:Iw.length=256:=by decide+kernel
theorem c9(i:Nat):(Iw.getD i 0).toNat≤8:=by
 rcases Nat.lt_or_ge i 256 with h|h
 ·have:∀j:Fin 256,(Iw.getD j.val 0).toNat≤8:=by decide+kernel
  exact this ⟨i,h⟩
 ·rw[List.getD_eq_getElem?_getD,List.getElem?_eq_none (by rw[RL];exact h)]
  decide
def Ov(x:UInt8):Nat:=8 - (Iw.getD x.toNat 0).toNat
def J5(a b:List UInt8):Nat:=match(List.range 32).find? (fun i=>decide (a.getD i 0^^^b.getD i 0≠0))with
 |some i=>8*i+Ov (a.getD i 0^^^b.getD i 0)
 |none=>256
theorem hO{a b:List UInt8}{i:Nat}(c:i<32)(h:∀j,j<i→a.getD j 0^^^b.getD j 0=0)(d:¬a.getD i 0^^^b.getD i 0=0):J5 a b=8*i+Ov (a.getD i 0^^^b.getD i 0):=by
 unfold J5
 have:(List.range 32).find? (fun i=>decide (a.getD i 0^^^b.getD i 0≠0))=some i:=by
  rw[List.find?_range_eq_some]
  refine⟨by simpa using d,by simpa using c,fun j hj=>by simpa using h j hj⟩
 rw[this]
theorem Zh{a b:List UInt8}(h:∀j,j<32→a.getD j 0^^^b.getD j 0=0):J5 a b=256:=by
 unfold J5
 have:(List.range 32).find? (fun i=>decide (a.getD i 0^^^b.getD i 0≠0))=none:=by
  rw[List.find?_eq_none]
  intro i c
  simpa using h i (List.mem_range.1 c)
 rw[this]
theorem gn(a:List UInt8):J5 a a=256:=Zh (fun j _=>UInt8.xor_self)
end Go.Proofs.YtaapafoibofbjaaGreatDoor.AL
namespace Go.Proofs.YtaapafoibofbjaaGreatDoor
open Go.RowKit
set_option maxRecDepth 100000
set_option maxHeartbeats 1000000
variable {w w0 w':World} {F:Nat→Prop} {n J b:Nat} {ss:List (List Value)} {T:TypeId} {v:Value} {l:List UInt8}
structure CG (w:World):Prop where
 r:∃tb fr,w.heap[24]? =some (.cells (flat [Dx AL.Tj.l]) tb fr)
 b:∃tb fr,w.heap[23]? =some (.cells (flat [Dx AL.IP.l]) tb fr)
def CB(k:Nat):Prop:=k=24∨k=23
theorem CG.sat{H:List Atom}(h:CG w0)(a:Sat F w0 H w)(c:∀k,CB k→¬F k):CG w:=⟨h.r.imp fun _=>Exists.imp fun _ q=>(a.jF.block _ (DC q) (c _ (.inl D))).trans q,h.b.imp fun _=>Exists.imp fun _ q=>(a.jF.block _ (DC q) (c _ (.inr D))).trans q⟩
theorem CG.WL(h:CG w):24<w.heap.size:=by obtain⟨_,_,q⟩:=h.r;exact DC q
theorem CG.blt(h:CG w):23<w.heap.size:=by obtain⟨_,_,q⟩:=h.b;exact DC q
theorem CG.below{B:Nat}(h:CG w)(J:Below B w w')(a:B=w.heap.size):CG w':=by subst a;exact⟨h.r.imp fun _=>Exists.imp fun _ q=>(J.block _ (DC q)).trans q,h.b.imp fun _=>Exists.imp fun _ q=>(J.block _ (DC q)).trans q⟩
theorem FU:∀k,CB k→¬C1 k:=fun _ _ h=>h
theorem iQ(h:n<32):IntKind.bits .u64=64→bits .and .u64 ((18446744073709551584+n:Nat):Int) ((31:Nat):Int)=((n:Nat):Int):=by
 intro _
 rw[u64_and_nat _ _ (by omega) (by decide),show 31=2^5 - 1 from D,Nat.and_two_pow_sub_one_eq_mod]
 congr 1
 omega
theorem JT(x q:UInt32)(k:Int)(w:World)(c:k=(q.toNat:Int) - 32:=by decide)(d:0<q.toNat:=by decide)(h1:q.toNat<32:=by decide):Calls Tryz.prog 198 #[Be .u32 x.toNat,Value.int .i64 (k:Int)] w fun e W=>e=.returned (Be .u32 ((AL.ID x q).toNat))∧Below w.heap.size w W:=by
 refine Cg w IN D 17<|M ?_
 refine Af (fun _ _ a b=>Ex a D AF Kp (r:=((18446744073709551584+q.toNat:Nat):Int)) (by simp only[IntKind.wrap,IntKind.bits,IntKind.signed];simp;omega))<|Af (fun _ _ a b=>D6 a (.inl D) D D (iQ (n:=q.toNat) (by omega) D))<|M ?_
 refine Af (PJ q D D D (by omega))<|Jd D<|Jd D<|?_
 refine Af (fun _ _ a b=>Yx a (k:=.u64) (p:=((32:Nat):Int)) (q:=((q.toNat:Nat):Int)) (r:=((32 - q.toNat:Nat):Int)) D D (XR 32 q.toNat (by omega) (by omega)))<|Af (KO (32 - q) D D (by rw[UInt32.toNat_sub_of_le _ _ (by rw[UInt32.le_iff_toNat_le];show q.toNat≤32;omega)];rfl) (by omega))<|Af (MJ D D)<|A7 ?_
 exact fun W b=>⟨D,b.A0⟩
abbrev Fw(J:Nat)(L:Jn 8)(X:Ji 64)(n:Nat)(a:UInt64):Atom:=O J [Dx L.l,bv X.l,[E n],[Be .u64 a.toNat]] 312
abbrev Pu(J:Nat):Nat→Prop:=fun k=>k=J
def LB(J:Nat)(X:Ji 64)(n:Nat)(a:UInt64)(w:World)(v:Value)(l:List UInt8):Prop:=∀(W:World) (L:Jn 8),C7 (Pu J) w W→(Fw J L X n a).holds W→View W v 64 1 (bv l)
theorem KX(a:A6 [O b ss T]=F){k:Nat}(h:F k):k=b:=by subst a;exact NA h
theorem C7.SE(a:A6 [O b ss T]=F){W:World}(h:C7 F w W):C7 (Pu b) w W:=⟨h.os,h.tape,h.output,h.size,fun k c d=>h.block k c (fun q=>d (KX a q))⟩
theorem LB.at{c:Jn 8}{X:Ji 64}{a:UInt64}(h:LB J X n a w v l)(d:A6 [Fw J c X n a]=F){H:List Atom}(b:Sat F w H w')(i:Nat){L:Jn 8}(e:H[i]? =some (Fw J L X n a):=by exact rfl):View w' v 64 1 (bv l):=h w' L (C7.SE d b.jF) (b.Dq i e)
theorem U9(J:Nat)(L:Jn 8)(X:Ji 64)(n:Nat)(o:UInt64)(q:Option Addr)(c:Nat)(l:List UInt8)(w:World)(A5:CG w)(x:¬CB J)(B:(Fw J L X n o).holds w)(V:LB J X n o w (.slice q 64 c) l)(hl:l.length=64):Calls Tryz.prog 195 #[S J,I q 64 c] w fun e W=>e=.returned (.tuple #[])∧Sat (A6 [Fw J L X n o]) w [Fw J (AL.step L l) X n o] W:=by
 have x:∀F,A6 [Fw J L X n o]=F→∀k,CB k→¬F k:=fun F m k C q=>x (KX m q▸C)
 refine Cb (BE.one (A:=Fw J L X n o) B) Sw D 231 fun F m=>Je<|Jh<|U<|Bw [Dx (Jn.zero 64).l] fun u=>M ?_
 refine DL (fun s a W=>∃t,s=16 - t∧AH 231 a (Jb (Jb (Jb (Jb Jk 0 (S J)) 1 (I q 64 c)) 4 (S u)) 24 (E t))∧Sat F w [O u [Dx (AL.R_ l t).l] 292,O J [Dx L.l,bv X.l,[E n],[Be .u64 o.toNat]] 312] W∧t≤16) (fun a W j h=>⟨0,D,AY j,h.pick [0,1],by omega⟩) ?_
 rintro _ a W ⟨t,rfl,j,h,y⟩;revert a W
 refine Je<|Jh<|Ej D D<|Jg<|Jf<|Je<|Cz D (fun G=>?_) fun G=>?_
 ·
  refine M ?_
  refine DD 35<|zs (AA D)<|zs (AA D)<|zs (AA D)<|zs (E3 (p:=4) D D)<|zs (Dj A3 (4*t) (4*t) (fun w h=>V.at m h 1) D D)<|zs (Fj BV (4*t) (fun w h=>V.at m h 1) D)<|zs (Pq BV CI D)<|zs (PJ 24 D D)<|zs (AA D)<|zs (AA D)<|zs (E3 (p:=4) D D)<|zs (Pc (q:=1) D D)<|zs (Dj A3 ((4*t)+1) ((4*t)+1) (fun w h=>V.at m h 1) D D)<|zs (Fj BV ((4*t)+1) (fun w h=>V.at m h 1) D)<|zs (Pq BV CI D)<|zs (PJ 16 D D)<|zs (MJ D D)<|zs (AA D)<|zs (AA D)<|zs (E3 (p:=4) D D)<|zs (Pc (q:=2) D D)<|zs (Dj A3 ((4*t)+2) ((4*t)+2) (fun w h=>V.at m h 1) D D)<|zs (Fj BV ((4*t)+2) (fun w h=>V.at m h 1) D)<|zs (Pq BV CI D)<|zs (PJ 8 D D)<|zs (MJ D D)<|zs (AA D)<|zs (AA D)<|zs (E3 (p:=4) D D)<|zs (Pc (q:=3) D D)<|zs (Dj A3 ((4*t)+3) ((4*t)+3) (fun w h=>V.at m h 1) D D)<|zs (Fj BV ((4*t)+3) (fun w h=>V.at m h 1) D)<|zs (Pq BV CI D)<|zs (MJ D D)<|zs (D9 FF 1 t t D D)<|CS<|U<|H6 0 0 t D D D D (Jn.Ch _ _ _)<|M ?_
  refine B6 (q:=1) D D<|M ?_
  exact fun a W j h=>⟨_,by omega,t+1,D,AY j,h.pick [0,1],by omega⟩
 refine M ?_
 obtain rfl:t=16:=by omega
 refine DL (fun s a W=>∃t,s=48 - t∧AH 231 a (Jb (Jb (Jb Jk 0 (S J)) 4 (S u)) 6 (E (16+t)))∧Sat F w [O u [Dx (AL.DO l t).l] 292,O J [Dx L.l,bv X.l,[E n],[Be .u64 o.toNat]] 312] W∧t≤48) (fun a W j h=>⟨0,D,AY j,h.pick [0,1],by omega⟩) ?_
 rintro _ a W ⟨t,rfl,j,h,y⟩;revert a W
 refine M ?_
 refine Ej D D<|Jg<|Jf<|Cz D (fun H=>?_) fun H=>?_
 ·
  refine M ?_
  refine GR<|zs (AA D)<|zs (HS (q:=2) D D)<|zs (D9 FF 1 ((16+t) - 2) ((16+t) - 2) D D)<|zs (HA CI 0 0 ((16+t) - 2) D D D)<|zs (AA D)<|zs (HS (q:=15) D D)<|zs (D9 FF 1 ((16+t) - 15) ((16+t) - 15) D D)<|zs (HA CI 0 0 ((16+t) - 15) D D D)<|zs (Ck D)<|zs (Ck D)<|CS<|M ?_
  refine U<|BP IN D (fun w h=>JT ((AL.DO l t).l.getD ((16+t) - 2) 0) 15 (-17) w)<|Jd D<|U<|BP IN D (fun w h=>JT ((AL.DO l t).l.getD ((16+t) - 2) 0) 13 (-19) w)<|Af (J0 D D)<|Jd D<|Af (KO 10 D D)<|Af (J0 D D)<|M ?_
  refine U<|BP IN D (fun w h=>JT ((AL.DO l t).l.getD ((16+t) - 15) 0) 25 (-7) w)<|Jd D<|U<|BP IN D (fun w h=>JT ((AL.DO l t).l.getD ((16+t) - 15) 0) 14 (-18) w)<|Af (J0 D D)<|Jd D<|Af (KO 3 D D)<|Af (J0 D D)<|M ?_
  refine DD 15<|zs (AA D)<|zs (AA D)<|zs (AA D)<|zs (HS (q:=7) D D)<|zs (D9 FF 1 ((16+t) - 7) ((16+t) - 7) D D)<|zs (HA CI 0 0 ((16+t) - 7) D D D)<|zs (II D D)<|zs (AA D)<|zs (II D D)<|zs (AA D)<|zs (HS (q:=16) D D)<|zs (D9 FF 1 ((16+t) - 16) ((16+t) - 16) D D)<|zs (HA CI 0 0 ((16+t) - 16) D D D)<|zs (II D D)<|zs (D9 FF 1 (16+t) (16+t) D D)<|CS<|U<|H6 0 0 (16+t) D D D D (Jn.Ch _ _ _)<|M ?_
  refine B6 (q:=1) D D<|M ?_
  exact fun a W j h=>⟨_,by omega,t+1,D,AY j,h.pick [0,1],by omega⟩
 refine M ?_
 refine GR<|zs (AA D)<|zs (Bp D)<|zs (AS Ez 0 D)<|zs (D9 DW 1 0 0 D D)<|zs (HA CI 1 0 0 D D D)<|zs (AA D)<|zs (Bp D)<|zs (AS Ez 0 D)<|zs (D9 DW 1 1 1 D D)<|zs (HA CI 1 0 1 D D D)<|zs (AA D)<|zs (Bp D)<|zs (AS Ez 0 D)<|zs (D9 DW 1 2 2 D D)<|zs (HA CI 1 0 2 D D D)<|zs (AA D)<|zs (Bp D)<|zs (AS Ez 0 D)<|zs (D9 DW 1 3 3 D D)<|zs (HA CI 1 0 3 D D D)<|zs (AA D)<|zs (Bp D)<|zs (AS Ez 0 D)<|zs (D9 DW 1 4 4 D D)<|zs (HA CI 1 0 4 D D D)<|zs (AA D)<|zs (Bp D)<|zs (AS Ez 0 D)<|zs (D9 DW 1 5 5 D D)<|zs (HA CI 1 0 5 D D D)<|zs (AA D)<|zs (Bp D)<|zs (AS Ez 0 D)<|zs (D9 DW 1 6 6 D D)<|zs (HA CI 1 0 6 D D D)<|zs (AA D)<|zs (Bp D)<|zs (AS Ez 0 D)<|zs (D9 DW 1 7 7 D D)<|zs (HA CI 1 0 7 D D D)<|zs (Ck D)<|zs (Ck D)<|zs (Ck D)<|zs (Ck D)<|zs (Ck D)<|zs (Ck D)<|zs (Ck D)<|zs (Ck D)<|CS<|M ?_
 obtain rfl:t=48:=by omega
 refine DL (fun s a W=>∃t,s=64 - t∧AH 231 a (Jb (Jb (Jb (Jb (Jb (Jb (Jb (Jb (Jb (Jb (Jb Jk 0 (S J)) 4 (S u)) 146 (E t)) 11 (Be .u32 ((AL.Eu (AL.DO l 48).l (AL.DR L.l) t).a.toNat))) 12 (Be .u32 ((AL.Eu (AL.DO l 48).l (AL.DR L.l) t).b.toNat))) 13 (Be .u32 ((AL.Eu (AL.DO l 48).l (AL.DR L.l) t).c.toNat))) 14 (Be .u32 ((AL.Eu (AL.DO l 48).l (AL.DR L.l) t).d.toNat))) 15 (Be .u32 ((AL.Eu (AL.DO l 48).l (AL.DR L.l) t).e.toNat))) 16 (Be .u32 ((AL.Eu (AL.DO l 48).l (AL.DR L.l) t).f.toNat))) 17 (Be .u32 ((AL.Eu (AL.DO l 48).l (AL.DR L.l) t).g.toNat))) 18 (Be .u32 ((AL.Eu (AL.DO l 48).l (AL.DR L.l) t).z.toNat)))∧Sat F w [O u [Dx (AL.DO l 48).l] 292,O J [Dx L.l,bv X.l,[E n],[Be .u64 o.toNat]] 312] W∧t≤64) (fun a W j h=>⟨0,D,AY j,h.pick [0,1],by omega⟩) ?_
 rintro _ a W ⟨t,rfl,j,h,y⟩;revert a W
 refine Je<|Jh<|Ej D D<|Jg<|Jf<|Je<|Cz D (fun K=>?_) fun K=>?_
 ·
  refine M ?_
  refine G9<|AR (AA D)<|AR (AA D)<|MB IN D (fun w h=>JT ((AL.Eu (AL.DO l 48).l (AL.DR L.l) t).e) 26 (-6) w)<|AR (AA D)<|MB IN D (fun w h=>JT ((AL.Eu (AL.DO l 48).l (AL.DR L.l) t).e) 21 (-11) w)<|AR (J0 D D)<|AR (AA D)<|MB IN D (fun w h=>JT ((AL.Eu (AL.DO l 48).l (AL.DR L.l) t).e) 7 (-25) w)<|AR (J0 D D)<|AR (II D D)<|AR (AA D)<|AR (AA D)<|AR (AA D)<|AR (AA D)<|AR (J0 D D)<|AR (RW D D)<|AR (J0 D D)<|AR (II D D)<|AR (AA D)<|AR (D9 FF 1 t t D D)<|AR (a' CI t (fun w h=>(A5.sat h (x F m)).r) D)<|AR (II D D)<|AR (AA D)<|AR (D9 FF 1 t t D D)<|AR (HA CI 0 0 t D D D)<|AR (II D D)<|AR (Ck D)<|Er<|CR 20 D (show _=(Be .u32 ((AL.one (AL.DO l 48).l (AL.Eu (AL.DO l 48).l (AL.DR L.l) t) t).toNat))from D)<|M ?_
  refine U<|BP IN D (fun w h=>JT ((AL.Eu (AL.DO l 48).l (AL.DR L.l) t).a) 30 (-2) w)<|Jd D<|U<|BP IN D (fun w h=>JT ((AL.Eu (AL.DO l 48).l (AL.DR L.l) t).a) 19 (-13) w)<|Af (J0 D D)<|Jd D<|U<|BP IN D (fun w h=>JT ((AL.Eu (AL.DO l 48).l (AL.DR L.l) t).a) 10 (-22) w)<|Af (J0 D D)<|Jd D<|Jd D<|Af (RW D D)<|M ?_
  refine Af (MJ D D)<|Af (RW D D)<|Af (MJ D D)<|Af (II D D)<|Js D<|Jg<|CR 21 D (show _=(Be .u32 ((AL.two (AL.Eu (AL.DO l 48).l (AL.DR L.l) t)).toNat))from D)<|M ?_
  refine Af (II D D)<|M ?_
  refine Af (II D D)<|M ?_
  refine B6 (q:=1) D D<|M ?_
  exact fun a W j h=>⟨_,by omega,t+1,D,AY j,h.pick [0,1],by omega⟩
 refine M ?_
 obtain rfl:t=64:=by omega
 refine Af (fun _ _ j h=>Cs j (BH:=[(0,(Be .u32 ((AL.Eu (AL.DO l 48).l (AL.DR L.l) 64).a.toNat))),(1,(Be .u32 ((AL.Eu (AL.DO l 48).l (AL.DR L.l) 64).b.toNat))),(2,(Be .u32 ((AL.Eu (AL.DO l 48).l (AL.DR L.l) 64).c.toNat))),(3,(Be .u32 ((AL.Eu (AL.DO l 48).l (AL.DR L.l) 64).d.toNat))),(4,(Be .u32 ((AL.Eu (AL.DO l 48).l (AL.DR L.l) 64).e.toNat))),(5,(Be .u32 ((AL.Eu (AL.DO l 48).l (AL.DR L.l) 64).f.toNat))),(6,(Be .u32 ((AL.Eu (AL.DO l 48).l (AL.DR L.l) 64).g.toNat))),(7,(Be .u32 ((AL.Eu (AL.DO l 48).l (AL.DR L.l) 64).z.toNat)))]) D (v:=(Value.agg (flat [Dx (AL.Ij.l (AL.Eu (AL.DO l 48).l (AL.DR L.l) 64)).l]))) (run_build _ _ _ _ (by kernel_rfl)))<|M ?_
 refine DL (fun s a W=>∃i,s=8 - i∧AH 231 a (Jb (Jb (Jb Jk 0 (S J)) 214 (Value.agg (flat [Dx (AL.Ij.l (AL.Eu (AL.DO l 48).l (AL.DR L.l) 64)).l]))) 215 (E i))∧Sat F w [O J [Dx (AL.fin L (AL.Ij.l (AL.Eu (AL.DO l 48).l (AL.DR L.l) 64)) i).l,bv X.l,[E n],[Be .u64 o.toNat]] 312] W∧i≤8) (fun a W j h=>⟨0,D,AY j,h.pick [1],by omega⟩) ?_
 rintro _ a W ⟨i,rfl,j,h,P⟩;revert a W
 refine Je<|Jh<|Ej D D<|Jg<|Jf<|Je<|Cz D (fun N=>?_) fun N=>?_
 ·
  refine M ?_
  refine Af (KT DW i D D (UF (by omega)) CI)<|M ?_
  refine DD 11<|zs (AA D)<|zs (AA D)<|zs (Bp D)<|zs (AS Ez 0 D)<|zs (D9 DW 1 i i D D)<|zs (HA CI 0 0 i D D D)<|zs (AA D)<|zs (II D D)<|zs (Bp D)<|zs (AS Ez 0 D)<|zs (D9 DW 1 i i D D)<|CS<|U<|H6 0 0 i D D D D (Jn.Ch _ _ _)<|M ?_
  refine B6 (q:=1) D D<|M ?_
  exact fun a W j h=>⟨_,by omega,i+1,D,AY j,h.pick [0],by omega⟩
 refine M ?_
 refine Jt<|Ff fun W h=>?_
 obtain rfl:i=8:=by omega
 exact⟨D,by subst m;exact h.pick [0]⟩
def G'(J:Nat)(w:World)(v:Value)(n:Nat)(l:List UInt8):Prop:=∀(W:World),C7 (Pu J) w W→View W v n 1 (bv l)
theorem G'.of(h:View w v n 1 (bv l))(c:∀k,v.ownBlock=some k→k≠J):G' J w v n l:=fun W a=>h.Fm a.size (fun k b=>a.block k (h.lt k b) (c k b))
theorem G'.at(h:G' J w v n l)(a:A6 [O J ss T]=F){H:List Atom}(b:Sat F w H w'):View w' v n 1 (bv l):=h w' (C7.SE a b.jF)
theorem G'.h{X:Ji 64}{m:Nat}{a:UInt64}(h:G' J w v 64 l)(hw:C7 (Pu J) w w'):LB J X m a w' v l:=fun W L b _=>h W (hw.trans b (fun k q _=>q))
theorem LB.rest{X:Ji 64}{a:UInt64}:LB J X n a w (.slice (some ⟨J,8,none⟩) 64 64) X.l:=fun W L _ h=>by
 have b:Sat (A6 [Fw J L X n a]) W [Fw J L X n a] W:=Sat.begin (BE.one h)
 have:=MS (F:=A6 [Fw J L X n a]) (w0:=W) (H:=[Fw J L X n a]) (off:=8) 0 1 0 64 64 (l:=X) (l':=X.l) (List.take_of_length_le (by rw[List.drop_zero];exact Nat.le_of_eq X.h))
 exact this W b
theorem G'.sub{c:Nat}{y:Option Addr}{m EW:List UInt8}(h:G' J w (.slice y n c) n m)(l k:Nat)(e:(m.drop l).take (k - l)=EW)(h1:l≤k)(a:k≤n):G' J w (.slice (sp y l c 1) (k - l) (c - l)) (k - l) EW:=fun W b=>
 (Db (F:=C1) (w0:=W) (H:=[]) l k (fun w' d=>(h W b).below d.A0) e h1 a) W (Sat.start _ _)
theorem AL.Z9(a:Jn 8)(b:Ji 64)(c:UInt64)(l:List UInt8)(k:Nat)(d:l.length/64=k):AL.w0 a b c l=⟨AL.GO a l k,b.lay 0 (l.drop (64*k)),(l.drop (64*k)).length,c⟩:=by subst d;rfl
theorem Xb(J:Nat)(L:Jn 8)(X:Ji 64)(n:Nat)(d:UInt64)(q:Option Addr)(m c:Nat)(l:List UInt8)(w:World)(A5:CG w)(u:¬CB J)(R:n<64)(B:(Fw J L X n d).holds w)(V:G' J w (.slice q m c) m l)(hl:l.length=m)(hm:m≤1048576):Calls Tryz.prog 190 #[S J,I q m c] w fun e W=>e=.returned (.tuple #[])∧Sat (A6 [Fw J L X n d]) w [Fw J (AL.wr ⟨L,X,n,d⟩ l).st (AL.wr ⟨L,X,n,d⟩ l).rest (AL.wr ⟨L,X,n,d⟩ l).V (AL.wr ⟨L,X,n,d⟩ l).jA] W:=by
 have z:∀F,A6 [Fw J L X n d]=F→∀k,CB k→¬F k:=fun F f k C q=>u (KX f q▸C)
 refine Cb (BE.one (A:=Fw J L X n d) B) TJ D 73 fun F f=>M ?_
 refine By D<|AG Ez 73 D<|AZ N2 0 3 D D D<|Jd D<|Cr Co D<|Af (aB AF N2 D)<|Af (fM D D)<|By D<|AG Ez 73 D<|U<|Cq 0 3 D D D<|?_
 refine Jg<|Jf<|Gq (fun a W=>∃p:Jn 8,∃r:Ji 64,∃t v Dt x,∃g:List UInt8,AH 73 a (Jb (Jb Jk 0 (S J)) 1 (I v Dt x))∧Sat F w [O J [Dx p.l,bv r.l,[E t],[Be .u64 ((d+m.toUInt64).toNat)]] 312] W∧G' J w (.slice v Dt x) Dt g∧g.length=Dt∧Dt≤m∧AL.wr ⟨L,X,n,d⟩ l=AL.w0 p r (d+m.toUInt64) g) ?_ ?_
 ·
  refine M ?_
  refine By D<|AG Ez 72 D<|AZ AF 0 2 D D D<|Mp D D<|Jg<|Jf<|Cz D (fun G=>?_) fun G=>?_
  ·
   refine Je<|?_
   by_cases T:n+m<64
   ·
    refine DD 9<|zs (AA D)<|zs (Bp D)<|zs (AS Ez 8 D)<|zs (AA D)<|zs (Bp D)<|zs (AS Ez 72 D)<|zs (Bb AF 0 2 D D D)<|zs (Fp RV n 64 D (.some D) .none (8+n))<|zs (AA D)<|CS<|U<|HC 0 1 n m (fun w b=>V.at f b) Co D D D D (List.take_of_length_le (Nat.le_of_eq hl)) hl<|M ?_
    refine By D<|AG Ez 72 D<|AZ AF 0 2 D D D<|Jd D<|B6 D D<|By D<|AG Ez 72 D<|U<|Cq 0 2 D D D<|?_
    refine M ?_
    refine Af (Fi A3 m m (fun w b=>V.at f b) D (.some D) .none)<|M ?_
    refine By D<|AG Ez 72 D<|AZ AF 0 2 D D D<|IS (by omega) D D<|M ?_
    refine Ff fun W b=>?_
    refine⟨D,?_⟩
    rw[show AL.wr ⟨L,X,n,d⟩ l=⟨L,X.lay n l,n+m,d+m.toUInt64⟩from by unfold AL.wr;rw[if_pos (show 0<n by omega),if_pos (show n+l.length<64 by omega),hl]]
    subst f
    exact b.pick [0]
   refine DD 9<|zs (AA D)<|zs (Bp D)<|zs (AS Ez 8 D)<|zs (AA D)<|zs (Bp D)<|zs (AS Ez 72 D)<|zs (Bb AF 0 2 D D D)<|zs (Fp RV n 64 D (.some D) .none (8+n))<|zs (AA D)<|CS<|U<|HC 0 1 n (64 - n) (fun w b=>V.at f b) Co D D D D D (by rw[List.length_take];omega)<|M ?_
   refine By D<|AG Ez 72 D<|AZ AF 0 2 D D D<|Jd D<|B6 D D<|By D<|AG Ez 72 D<|U<|Cq 0 2 D D D<|?_
   refine M ?_
   refine Af (Fi A3 (64 - n) m (fun w b=>V.at f b) D (.some D) .none)<|M ?_
   refine By D<|AG Ez 72 D<|AZ AF 0 2 D D D<|ET (by omega) D D<|M ?_
   refine By D<|AG Ez 8 D<|Af (Fp RV 0 64 rfl .none .none 8)<|U<|?_
   refine Ba Sw D (fun w b=>U9 J L (X.lay n (l.take (64 - n))) (n+(64 - n)) (d+m.toUInt64) _ _ ((X.lay n (l.take (64 - n))).l) w (A5.sat b (z F f)) u (b.Dq 0) LB.rest (X.lay n (l.take (64 - n))).h) fun _ e W b ⟨he,q⟩=>⟨_,_,he,Sat.call (H1:=[_]) (H2:=[]) b q,?_⟩
   refine M ?_
   refine By D<|AG Ez 72 D<|U<|Cq 0 2 D D D<|?_
   refine Jg<|Jf<|?_
   exact fun a W o b=>⟨_,_,_,_,_,_,_,AY o,b.pick [0],V.sub (64 - n) m (List.take_of_length_le (by rw[List.length_drop];omega)) (by omega) (by omega),by rw[List.length_drop];omega,by omega,(by unfold AL.wr;rw[if_pos (show 0<n by omega),if_neg (show¬n+l.length<64 by omega),hl])⟩
  refine Jy<|Jf<|?_
  exact fun a W o b=>⟨_,_,_,_,_,_,_,AY o,b.pick [0],V,hl,by omega,(by unfold AL.wr;rw[if_neg (show¬0<n by omega),hl])⟩
 rintro a W ⟨p,r,t,v,Dt,x,g,o,b,H,Y,Z,K⟩;revert a W
 refine Je<|JD<|DL (fun N a W=>∃i j y c2,N=Dt - 64*i∧AH 73 a (Jb (Jb Jk 0 (S J)) 1 (I y j c2))∧Sat F w [O J [Dx (AL.GO p g i).l,bv r.l,[E t],[Be .u64 ((d+m.toUInt64).toNat)]] 312] W∧j+64*i=Dt∧G' J w (.slice y j c2) j (g.drop (64*i))) (fun a W o b=>⟨0,Dt,_,_,D,AY o,b.pick [0],by omega,H⟩) ?_
 rintro _ a W ⟨i,j,y,c2,rfl,o,b,aa,s⟩;revert a W
 refine M ?_
 refine Cr Co D<|dE D D<|Jg<|Jf<|Cz D (fun P=>?_) fun P=>?_
 ·
  refine M ?_
  refine Af (Fi A3 0 64 (fun w b=>s.at f b) rfl .none (.some D))<|U<|?_
  refine Ba Sw D (fun w b=>U9 J (AL.GO p g i) r t (d+m.toUInt64) _ _ ((g.drop (64*i)).take 64) w (A5.sat b (z F f)) u (b.Dq 0) (G'.h (s.sub 0 64 (by rw[List.drop_zero]) (by omega) (by omega)) (C7.SE f b.jF)) (by have:(g.drop (64*i)).length=j:=(by rw[List.length_drop];omega);simp only[List.length_take];omega)) fun _ e W b ⟨he,q⟩=>⟨_,_,he,Sat.call (H1:=[_]) (H2:=[]) b q,?_⟩
  refine M ?_
  refine Af (Fi A3 64 j (fun w b=>s.at f b) D (.some D) .none)<|M ?_
  exact fun a W o b=>⟨_,by omega,i+1,_,_,_,D,AY o,b.pick [0],by omega,s.sub 64 j (by rw[List.drop_drop,List.take_of_length_le (by rw[List.length_drop];omega)];rfl) (by omega) (Br _)⟩
 refine M ?_
 refine By D<|AG Tryz.underlying312 8 D<|Af (Fp Tryz.underlying179 0 64 rfl .none .none 8)<|Jd D<|U<|HC 0 1 0 j (fun w b=>s.at f b) Tryz.underlying22 D D D D (List.take_of_length_le (Nat.le_of_eq (by rw[List.length_drop];omega))) (by rw[List.length_drop];omega)<|By D<|AG Tryz.underlying312 72 D<|U<|Cq 0 2 D D D<|?_
 refine Jg<|Jt<|Ff fun W b=>?_
 refine⟨D,?_⟩
 have Q:(g.drop (64*i)).length=j:=by rw[List.length_drop];omega
 rw[K,AL.Z9 p r _ g i (by omega),Q]
 subst f
 exact b.pick [0]
theorem Sat.AU{H:List Atom}(c:Sat F w0 H w)(i j:Nat){a:Nat}{d:List (List Value)}{f:TypeId}(g:H[i]? =some (O b ss T):=by exact rfl)(hj:H[j]? =some (O a d f):=by exact rfl)(h:i≠j:=by decide):b≠a:=fun e=>c.jZ i j _ _ h g hj b D e
theorem Sat.TW{H:List Atom}(a:Sat F w0 H w)(A5:CG w0)(c:∀k,CB k→¬F k)(i:Nat)(d:H[i]? =some (O b ss T):=by exact rfl):¬CB b:=fun h=>(a.jQ i _ d b D).elim (c b h) (fun q=>by
 rcases h with h|h
 ·have:=A5.WL;omega
 ·have:=A5.blt;omega)
theorem Sat.PK{H:List Atom}(a:Sat C1 w0 H w){size:Nat}{xs:List Value}(V:View w0 v n size xs)(i:Nat)(c:H[i]? =some (O b ss T):=by exact rfl):∀k,v.ownBlock=some k→k≠b:=fun k d e=>by
 have h1:=V.lt k d
 have f:=(a.jQ i _ c b D).resolve_left id
 omega
theorem ez(L:Jn 8)(X:Ji 64)(n:Nat)(a:UInt64):(AL.total ⟨L,X,n,a⟩).l=(AL.out (AL.wr ⟨L,X,n,a⟩ ((AL.FY n (a*8) 8).l.take (AL.pad n+8))).st 8).l:=by simp only[AL.total]
theorem bd(J:Nat)(L:Jn 8)(X:Ji 64)(n:Nat)(b:UInt64)(w:World)(A5:CG w)(v:¬CB J)(B:n<64)(x:(Fw J L X n b).holds w):Calls Tryz.prog 191 #[S J] w fun e W=>e=.returned (.agg (flat [bv (AL.total ⟨L,X,n,b⟩).l]))∧Sat (A6 [Fw J L X n b]) w [Fw J L X n b] W:=by
 have t:∀F,A6 [Fw J L X n b]=F→∀k,CB k→¬F k:=fun F f k m q=>v (KX f q▸m)
 have C:AL.pad n≤64:=by unfold AL.pad;omega
 refine Cb (BE.one (A:=Fw J L X n b) x) Uy D 76 fun F f=>Je<|Jh<|U<|Bw [Ak 32] fun g=>M ?_
 refine By D<|Af (BN Ez 1 D D)<|U<|Bw [Dx (Jn.zero 8).l,bv (Ji.zero 64).l,[E 0],[Be .u64 0]] fun o=>U<|Bk 0 0 4 D D D<|?_
 refine M ?_
 refine AG Ez 73 D<|AZ N2 0 3 D D D<|Af (iG (q:=8) D D)<|M ?_
 refine U<|Bw [bv (Ji.zero 128).l] fun r=>M ?_
 refine Af (D9 S5 1 0 0 D D)<|U<|H6 0 0 0 D D D D (Ji.Ch _ _ 128)<|M ?_
 refine AG Ez 72 D<|AZ AF 1 2 D D D<|Af (GG (q:=64) D D)<|Es (p:=119) D D<|Af (GG (q:=64) D D)<|B6 (q:=1) D D<|Js D<|Jg<|CR 6 D (show _=(E (AL.pad n))from D)<|M ?_
 refine DL (fun s a W=>∃i,s=8 - i∧AH 76 a (Jb (Jb (Jb (Jb (Jb (Jb Jk 2 (S g)) 3 (S o)) 4 (Be .u64 ((b*8).toNat))) 5 (S r)) 6 (E (AL.pad n))) 24 (E i))∧Sat F w [O r [bv (AL.FY n (b*8) i).l] 317,O o [Dx L.l,bv X.l,[E n],[Be .u64 b.toNat]] 312,O g [Ak 32] 51,O J [Dx L.l,bv X.l,[E n],[Be .u64 b.toNat]] 312] W∧i≤8) (fun a W d c=>⟨0,D,AY d,c.pick [0,1,2,3],by omega⟩) ?_
 rintro _ a W ⟨i,rfl,d,c,G⟩;revert a W
 refine Je<|Jh<|Ej D D<|Jg<|Jf<|Je<|Cz D (fun y=>?_) fun y=>?_
 ·
  refine M ?_
  refine B6 D D<|Jd D<|Jd D<|Af (E3 (p:=8) D D)<|Es (p:=56) D D<|Af (av D D)<|Af (eD N2 BV D)<|Af (D9 S5 1 ((AL.pad n)+i) ((AL.pad n)+i) D D)<|U<|H6 0 0 ((AL.pad n)+i) D D D D (Ji.Ch _ _ (((b*8)>>>(56 - (8*i)).toUInt64).toUInt8))<|M ?_
  refine B6 (q:=1) D D<|M ?_
  exact fun a W d c=>⟨_,by omega,i+1,D,AY d,c.pick [0,1,2,3],by omega⟩
 refine M ?_
 obtain rfl:i=8:=by omega
 refine B6 (q:=8) D D<|Af (Fp S5 0 ((AL.pad n)+8) rfl .none (.some D) 0)<|U<|?_
 refine Ba TJ D (fun w c=>Xb o L X n b _ ((AL.pad n)+8) _ (((AL.FY n (b*8) 8).l).take ((AL.pad n)+8)) w (A5.sat c (t F f)) (c.TW A5 (t F f) 1) (by omega) (c.Dq 1) (G'.of ((MS 0 0 0 ((AL.pad n)+8) 128 (by rw[List.drop_zero])) w c) (fun k m=>by cases m;exact c.AU 0 1)) (by have:=(AL.FY n (b*8) 8).h;simp only[List.length_take];omega) (by omega)) fun _ e W c ⟨he,q⟩=>⟨_,_,he,Sat.call (H1:=[_]) (H2:=[O r [bv (AL.FY n (b*8) 8).l] 317,O g [Ak 32] 51,O J [Dx L.l,bv X.l,[E n],[Be .u64 b.toNat]] 312]) (c.pick [1,0,2,3]) q,?_⟩
 refine M ?_
 refine U<|Bw [Ak 32] fun u=>M ?_
 refine AG Ez 0 D<|Af (DH DW 1 0 1 [Dx (AL.wr ⟨L,X,n,b⟩ (((AL.FY n (b*8) 8).l).take ((AL.pad n)+8))).st.l] D D)<|M ?_
 refine DL (fun s a W=>∃j,s=8 - j∧AH 76 a (Jb (Jb (Jb (Jb Jk 2 (S g)) 8 (S u)) 43 (Value.agg (flat [Dx (AL.wr ⟨L,X,n,b⟩ (((AL.FY n (b*8) 8).l).take ((AL.pad n)+8))).st.l]))) 44 (E j))∧Sat F w [O u [bv (AL.out (AL.wr ⟨L,X,n,b⟩ ((AL.FY n (b*8) 8).l.take (AL.pad n+8))).st j).l] 51,O g [Ak 32] 51,O J [Dx L.l,bv X.l,[E n],[Be .u64 b.toNat]] 312] W∧j≤8) (fun a W d c=>⟨0,D,AY d,c.pick [0,3,4],by omega⟩) ?_
 rintro _ a W ⟨j,rfl,d,c,hj⟩;revert a W
 refine Je<|Jh<|Ej D D<|Jg<|Jf<|Je<|Cz D (fun z=>?_) fun z=>?_
 ·
  refine M ?_
  refine Af (KT DW j D D (UF (by omega)) CI)<|M ?_
  refine Af (E3 (p:=4) D D)<|Jd D<|Af (E3 (p:=4) D D)<|B6 (q:=1) D D<|Jd D<|Af (E3 (p:=4) D D)<|B6 (q:=2) D D<|Jd D<|Af (E3 (p:=4) D D)<|B6 (q:=3) D D<|Jd D<|Af (KO 24 D D)<|Af (Lj CI BV D)<|Jd D<|Af (KO 16 D D)<|Af (Lj CI BV D)<|Jd D<|Af (KO 8 D D)<|Af (Lj CI BV D)<|Jd D<|Af (Lj CI BV D)<|Af (D9 B5 1 (4*j) (4*j) D D)<|U<|H6 0 0 (4*j) D D D D (Ji.Ch _ _ ((((AL.wr ⟨L,X,n,b⟩ (((AL.FY n (b*8) 8).l).take ((AL.pad n)+8))).st.l.getD j 0)>>>24).toUInt8))<|Af (D9 B5 1 ((4*j)+1) ((4*j)+1) D D)<|U<|H6 0 0 ((4*j)+1) D D D D (Ji.Ch _ _ ((((AL.wr ⟨L,X,n,b⟩ (((AL.FY n (b*8) 8).l).take ((AL.pad n)+8))).st.l.getD j 0)>>>16).toUInt8))<|Af (D9 B5 1 ((4*j)+2) ((4*j)+2) D D)<|U<|H6 0 0 ((4*j)+2) D D D D (Ji.Ch _ _ ((((AL.wr ⟨L,X,n,b⟩ (((AL.FY n (b*8) 8).l).take ((AL.pad n)+8))).st.l.getD j 0)>>>8).toUInt8))<|Af (D9 B5 1 ((4*j)+3) ((4*j)+3) D D)<|U<|H6 0 0 ((4*j)+3) D D D D (Ji.Ch _ _ (((AL.wr ⟨L,X,n,b⟩ (((AL.FY n (b*8) 8).l).take ((AL.pad n)+8))).st.l.getD j 0).toUInt8))<|M ?_
  refine B6 (q:=1) D D<|M ?_
  exact fun a W d c=>⟨_,by omega,j+1,D,AY d,c.pick [0,1,2],by omega⟩
 refine M ?_
 refine Af (BN B5 0 D D)<|U<|Bk 1 0 1 D D D<|?_
 refine Jg<|Jf<|Jq<|Fq B5 1 D D fun W c=>?_
 obtain rfl:j=8:=by omega
 exact⟨by rw[ez];rfl,by subst f;exact c.pick [2]⟩
theorem AL.Z7(h:AL.Ek)(p:List UInt8)(a:h.V<64):(AL.wr h p).V<64:=by
 unfold AL.wr
 split
 ·split
  ·assumption
  ·simp only[AL.w0,AL.Ud];omega
 ·simp only[AL.w0,AL.Ud];omega
theorem Sj(q:Option Addr)(m c:Nat)(l:List UInt8)(w:World)(A5:CG w)(V:View w (.slice q m c) m 1 (bv l))(hl:l.length=m)(hm:m≤1048576:=by omega):Calls Tryz.prog 177 #[I q m c] w fun e W=>e=.returned (.agg (flat [bv (AL.Lz l).l]))∧Below w.heap.size w W:=by
 have d:=FU
 refine Cg w QE D 9<|Je<|Jh<|U<|Bw [Ak 32] fun f=>M ?_
 refine Af (iK DW (fun w a=>(A5.sat a d).b) D)<|Af (fun _ _ h a=>Cs h (BH:=[(0,(Value.agg (flat [Dx AL.IP.l])))]) D (v:=(Value.agg (flat [Dx AL.IP.l,bv (Ji.zero 64).l,[E 0],[Be .u64 ((0:UInt64).toNat)]]))) (run_build _ _ _ _ (by kernel_rfl)))<|U<|Bw [Dx (Jn.zero 8).l,bv (Ji.zero 64).l,[E 0],[Be .u64 0]] fun g=>U<|Bk 0 0 4 D D D<|?_
 refine M ?_
 refine U<|?_
 refine Ba TJ D (fun w a=>Xb g AL.IP (Ji.zero 64) 0 (0:UInt64) _ m _ l w (A5.sat a d) (a.TW A5 d 0) (by omega) (a.Dq 0) (G'.of ((Bx V) w a) (a.PK V 0)) hl (by omega)) fun _ e W a ⟨he,q⟩=>⟨_,_,he,Sat.call (H1:=[_]) (H2:=[O f [Ak 32] 51]) (a.pick [0,1]) q,?_⟩
 refine M ?_
 refine U<|?_
 refine Ba Uy D (fun w a=>bd g (AL.wr ⟨AL.IP,Ji.zero 64,0,(0:UInt64)⟩ l).st (AL.wr ⟨AL.IP,Ji.zero 64,0,(0:UInt64)⟩ l).rest ((AL.wr ⟨AL.IP,Ji.zero 64,0,(0:UInt64)⟩ l).V) (AL.wr ⟨AL.IP,Ji.zero 64,0,(0:UInt64)⟩ l).jA w (A5.sat a d) (a.TW A5 d 0) (AL.Z7 ⟨AL.IP,Ji.zero 64,0,0⟩ _ (show 0<64 by decide)) (a.Dq 0)) fun _ e W a ⟨he,q⟩=>⟨_,_,he,Sat.call (H1:=[_]) (H2:=[O f [Ak 32] 51]) (a.pick [0,1]) q,?_⟩
 refine U<|Bk 1 0 1 D D D<|?_
 refine Jg<|Jf<|Jq<|Fq B5 1 D D fun W a=>?_
 exact⟨D,a.A0⟩
theorem S'(d:Jc)(k:Nat)(w:World)(a:k≤32:=by omega):Calls Tryz.prog 176 #[Value.agg (flat [bv d.l]),E k] w fun e W=>e=.returned (.agg (flat [bv (AL.cut d.l k).l]))∧Below w.heap.size w W:=by
 refine Cg w Qn D 15<|Je<|Jh<|U<|Cv D fun c=>U<|Bw [Ak 32] fun f=>M ?_
 refine U<|Bw [Ak 32] fun g=>Jg<|FO 0 [bv (Ji.zero 32).l] D D<|M ?_
 refine Af (Mn D D ((k:Nat):Int))<|Af (TP D D ((k:Nat):Int))<|M ?_
 refine DD 4<|zs (AA D)<|zs (Fp Tryz.underlying51 0 k rfl .none (.some D) 0)<|zs (AA D)<|zs (Fp Tryz.underlying51 0 k rfl .none (.some D) 0)<|CS<|U<|HC 0 0 0 k (QP 2 0 0 k 32 (by rw[List.drop_zero])) Tryz.underlying22 D D D D (List.take_of_length_le (Nat.le_of_eq (by have:=d.h;simp only[List.length_take];omega))) (by have:=d.h;simp only[List.length_take];omega)<|M ?_
 refine Af (BN B5 0 D D)<|U<|Bk 1 0 1 D D D<|?_
 refine Jg<|Jf<|Jq<|Fq B5 1 D D fun W b=>?_
 exact⟨by rw[AL.UA (by rw[d.h];exact a) a];rfl,b.A0⟩
end Go.Proofs.YtaapafoibofbjaaGreatDoor
