/- Laws and walks on the road to SalvagePlays (part M31). No conditions beyond each law's own. -/
import Derived.Test.YtjdboncaegphmaaGreatDoorM21
import Derived.Test.YtjdboncaegphmaaGreatDoorM30
set_option linter.unusedVariables false
namespace Go.Proofs.YtjdboncaegphmaaGreatDoor
open Go.RowKit
set_option maxRecDepth 100000
set_option maxHeartbeats 2000000
variable {Bo:Type} {i p:Nat}
structure BF where
 Q:Nat
 w:Nat
 g:Nat
 m:Nat
 h:Nat
 p:Nat
 vA:Option Addr
 hI:Nat
 FN:List Nat
 hb:Option Addr
 ia:Nat
 DS:List Bf
 dC:Option Addr
 rc:Nat
 rs:List B9
 ap:Option Addr
 ac:Nat
 KE:List Nat
 vw:Option Addr
 vv:Nat
abbrev sr(z:BF)(T Au:BX):List (List Value):=[[E z.w],[E z.g],[E z.m],[E z.h],[E z.p],[I z.vA z.FN.length z.hI],[I z.hb z.DS.length z.ia],[I z.dC z.rs.length z.rc],[I z.ap z.KE.length z.ac],[I T.p T.n T.c],[I Au.p Au.n Au.c],[I z.vw 257 z.vv]]
abbrev Ez(z:BF)(T Au:BX):Atom:=O z.Q (sr z T Au) 100
abbrev s4(d:Nat)(z:BF)(fr A4:Nat)(a b:BX)(st:Bool):Atom:=O d [[S z.Q],[E fr],[E A4],[I a.p a.n a.c],[I b.p b.n b.c],[C' st]] 206
def tj(DS:List Bf):Atom:=
 ⟨fun k=>∃x∈DS,x.s.val.ownBlock=some k,fun w=>∀x∈DS,w.ownsRow 0 5 1 x.s.val x.s.v.length (bv x.s.v),
  fun w h k ⟨x,a,e⟩=>((h x a).lt k e).2,
  fun w w' h b e x a=>(Ae 5 1 x.s.val x.s.v.length (bv x.s.v)).loc w w' (h x a) b (fun k c=>e k ⟨x,a,c⟩)⟩
def jJ(A B:Atom):Atom:=
 ⟨fun k=>A.u1 k∨B.u1 k,fun w=>A.holds w∧B.holds w,fun w h k e=>e.elim (A.lt w h.1 k) (B.lt w h.2 k),
  fun w w' h b e=>⟨A.loc w w' h.1 b (fun k a=>e k (.inl a)),B.loc w w' h.2 b (fun k a=>e k (.inr a))⟩⟩
abbrev tm(z:BF):Atom:=Ae 3 1 (I z.vA z.FN.length z.hI) z.FN.length (Aq Bm z.FN)
abbrev Vg(z:BF):Atom:=Ae 138 102 (I z.hb z.DS.length z.ia) z.DS.length (Aq GI z.DS)
abbrev Ub(z:BF):Atom:=Ae 142 38 (I z.dC z.rs.length z.rc) z.rs.length (Aq Mv z.rs)
abbrev SQ(z:BF):Atom:=Ae 3 1 (I z.ap z.KE.length z.ac) z.KE.length (Aq Bm z.KE)
abbrev S2(z:BF):Atom:=Ae 136 32 (I z.vw 257 z.vv) 257 (Aq EJ (SS z.w 257))
abbrev kd:=fun(b:BF) (a:Bf)=>([SQ b,S2 b,tj b.DS,Ae 5 1 (I a.s.p a.s.v.length a.s.c) a.s.v.length (bv a.s.v)]:List Atom)
def Gb(z:BF):Atom:=jJ (tm z) (jJ (Vg z) (jJ (Ub z) (jJ (SQ z) (jJ (S2 z) (tj z.DS)))))
section
variable {F:Nat→Prop} {w0 w:World} {H:List Atom} {z:BF}
theorem Sat.uh{A B:Atom}(h:Sat F w0 (A::B::H) w):Sat F w0 (jJ A B::H) w:=by
 have e:=h.at_ 0 A D;have f:=h.at_ 1 B D;refine⟨h.GA,fun i C q=>?_,fun i C q k a=>?_,fun i j C EY g V hj k a b=>?_⟩
 ·cases i with
  |zero=>cases q;exact⟨e,f⟩
  |succ i=>exact h.at_ (i+2) C q
 ·cases i with
  |zero=>cases q;exact a.elim (h.u4 0 A D k) (h.u4 1 B D k)
  |succ i=>exact h.u4 (i+2) C q k a
 ·cases i with
  |zero=>
   cases V;cases j with
   |zero=>exact g D
   |succ j=>exact a.elim (fun q=>h.u_ 0 (j+2) A EY JY D hj k q b) (fun q=>h.u_ 1 (j+2) B EY JY D hj k q b)
  |succ i=>
   cases j with
   |zero=>cases hj;exact b.elim (fun q=>h.u_ (i+2) 0 C A JY V D k a q) (fun q=>h.u_ (i+2) 1 C B JY V D k a q)
   |succ j=>exact h.u_ (i+2) (j+2) C EY JY V hj k a b
theorem iu(i:Nat)(V:H[i]? =some (Gb z):=by exact rfl):∀w,Sat F w0 H w→View w (I z.vA z.FN.length z.hI) z.FN.length 1 (Aq Bm z.FN):=fun w h=>View.own (h.at_ i _ V).1
theorem tq(i:Nat)(V:H[i]? =some (Gb z):=by exact rfl):∀w,Sat F w0 H w→View w (I z.hb z.DS.length z.ia) z.DS.length 102 (Aq GI z.DS):=fun w h=>View.own (h.at_ i _ V).2.1
theorem ik(i:Nat)(V:H[i]? =some (Gb z):=by exact rfl):∀w,Sat F w0 H w→View w (I z.dC z.rs.length z.rc) z.rs.length 38 (Aq Mv z.rs):=fun w h=>View.own (h.at_ i _ V).2.2.1
theorem a8(i:Nat)(V:H[i]? =some (Gb z):=by exact rfl):∀w,Sat F w0 H w→View w (I z.ap z.KE.length z.ac) z.KE.length 1 (Aq Bm z.KE):=fun w h=>View.own (h.at_ i _ V).2.2.2.1
theorem iP(i:Nat)(V:H[i]? =some (Gb z):=by exact rfl):∀w,Sat F w0 H w→View w (I z.vw 257 z.vv) 257 32 (Aq EJ (SS z.w 257)):=fun w h=>View.own (h.at_ i _ V).2.2.2.2.1
theorem n4(i:Nat){x:Bf}(a:z.DS[p]? =some x)(V:H[i]? =some (Gb z):=by exact rfl):∀w,Sat F w0 H w→View w (I x.s.p x.s.v.length x.s.c) x.s.v.length 1 (bv x.s.v):=fun w h=>View.own ((h.at_ i _ V).2.2.2.2.2 x (ta a))
end
def BF.Z(z:BF)(p:Nat):Option Bf:=match z.FN[p]?,z.DS[p]? with
 |some k,some x=>if k=1∨k=2 then some x else none
 |_,_=>none
structure tG (z:BF):Prop where
 w:z.w≤32
 vr:z.FN.length=z.DS.length
 vB:z.FN.length=z.rs.length
 n:z.FN.length≤4096
 vK:2≤z.FN.length
 BU:∀(p k:Nat),p<2→z.FN[p]? =some k→k=0
 Bd:∀(p k:Nat) (x:Bf),z.FN[p]? =some k→z.DS[p]? =some x→(k=1∨k=2)→x.Bd=k
 nd:∀(p:Nat) (x:Bf),z.Z p=some x→Ge x∧2≤p∧p≤4096
 KE:∀q∈z.KE,2≤q∧q<z.FN.length
 v5:z.KE.Pairwise (·<·)
theorem tG.at_{z:BF}(h:tG z)(a:p<z.FN.length):∃k x,z.FN[p]? =some k∧z.DS[p]? =some x:=⟨_,_,F3 a,F3 (by rw[←h.vr];exact a)⟩
theorem BF.lk{z:BF}{k:Nat}{x:Bf}(a:z.FN[p]? =some k)(b:z.DS[p]? =some x)(h:k=1∨k=2):z.Z p=some x:=by unfold BF.Z;rw[a,b];exact if_pos h
theorem BF.sj{z:BF}{k:Nat}{x:Bf}(a:z.FN[p]? =some k)(b:z.DS[p]? =some x)(h:¬(k=1∨k=2)):z.Z p=none:=by unfold BF.Z;rw[a,b];exact if_neg h
def I9(x:G.Ae×Nat):IU:=⟨x.1.b,x.2,x.1.k,CU⟩
abbrev sZ(h:BX)(L:List (G.Ae×Nat)):Atom:=Ae 217 66 (I h.p h.n h.c) h.n (Aq I6 (L.map I9))
abbrev bU(z:BF)(T:BX)(c fr A4:Nat)(a b:BX)(A N:List (G.Ae×Nat)):List Atom:=[Ez z T AE,Gb z,s4 c z fr A4 a b false,sZ a A,sZ b N]
abbrev BF.AW(z:BF):Nat→Option G.Dh:=fun p=>(z.Z p).map Bf.AW
structure W6 (z:BF) (AJ:List (G.Ae×Nat)) (AO:List (Jc×Nat)) (A:List (G.Ae×Nat)):Prop where
 ok:tG z
 vl:BM.L' z.AW AJ AO A
 As:BM.ub z.AW A
 vF:∀q p,G.get AJ q=some p→∃c,EX z.Z (257 - q.b) p q.b c
 len:A.length≤549755813888
structure KG (z:BF) (N:List (G.Ae×Nat)) (r:G.Ae) (s:G.B4):Prop where
 vl:BM.L' z.AW s.rows s.Fz N
 ap:BM.bS z.AW N r
 wf:BM.s8 r
 A4:s.A4≤2097152
def kQ(z:BF)(T:BX)(a fr A4:Nat)(b f:BX)(A N:List (G.Ae×Nat))(res:Option G.B4)(Q:List (G.Ae×Nat))(k:Nat)(w:World)(e:Ending)(W:World):Prop:=
 (∀L,res=some L→∃(c:BX) (X:List (G.Ae×Nat)),e=.returned (.tuple #[])∧X.Perm Q∧X.length≤k∧BM.L' z.AW L.rows L.Fz (N++X)∧L.A4≤2097152∧Sat (A6 (bU z T a fr A4 b f A N)) w (bU z T a fr L.A4 b c A (N++X)) W)∧
 (res=none→∃(d:BX) (g:Nat) (c:BX),e=.returned (.tuple #[])∧1≤d.n∧d.n≤1048576∧Sat (A6 (bU z T a fr A4 b f A N)) w [Ez z T d,Gb z,s4 a z fr g b c true] W)
theorem jT(r:G.Ae):G.under r 0=⟨r.b+1,r.k⟩:=by
 unfold G.under
 congr 1
 apply Jc.ext;show r.k.l.set _ _=r.k.l;rw[kY,show r.k.l.getD (r.b/8) 0|||UInt8.ofNat 0=r.k.l.getD (r.b/8) 0 from UInt8.or_zero];apply Q2;intro i
 by_cases h:r.b/8=i
 ·subst h
  by_cases hl:r.b/8<r.k.l.length
  ·rw[oM hl,Dm,F3 hl];rfl
  ·rw[S6 (by rw[Kh];omega),S6 JY]
 ·rw[List.getElem?_set_ne h]
theorem qy{k:Nat}(h:k<8):128/2^k=(UInt8.ofNat (1*2^(7 - k))).toNat:=by
 have:∀j:Fin 8,128/2^j.val=(UInt8.ofNat (1*2^(7 - j.val))).toNat:=JZ;exact this ⟨k,h⟩
theorem q_(x:Bf)(w:World)(h1:x.lc≤4294967296)(c:x.rc≤4294967296):Calls lp 166 #[rS (Xz x)] w (sM w (E (if x.Bd=1 then 1 else x.lc+x.rc))):=by
 refine Cg w Wx D 11<|Je<|Jh<|U<|Cv D fun HK=>K ?_;refine AG Bv 0 D<|AZ AF 0 0 D D D<|E2 D D<|Jg<|Jf<|Cz D (fun b=>?_) fun b=>?_
 ·
  refine A7 ?_;intro W a;rw[if_pos JY];exact⟨D,a.A0⟩
 refine K ?_;refine AG Bv 3 D<|AZ AF 0 3 D D D<|AG Bv 4 D<|AZ AF 0 4 D D D<|B6 D D<|A7 ?_;intro W a;rw[if_neg JY];exact⟨D,a.A0⟩
theorem py(z:BF)(T Au:BX)(i:Nat)(w:World)(c:BE [Ez z T Au,Gb z] w)(V:i≤1048576:=by omega)(g:z.KE.length≤1048576:=by omega):Calls lp 111 #[S z.Q,E i] w fun e W=>e=.returned (E (G.at_ z.KE i))∧Sat (A6 [Ez z T Au,Gb z]) w [Ez z T Au,Gb z] W:=by
 refine Cb c L_ D 24 fun F hF=>K ?_;refine GV D D (fun d=>?_) fun d=>?_
 ·
  refine A7 ?_;intro W a;subst hF;exact⟨by unfold G.at_;rw[if_neg JY];rfl,a.pick [0,1]⟩
 refine K ?_;refine By D<|Jj D D D<|AG sT 8 D<|Jj D D D<|AZ Lc 0 8 D D D<|Jj D D D<|Cr Lc D<|Jj D D D<|Kl D D (fun f=>?_) fun f=>?_
 ·
  refine A7 ?_;intro W a;subst hF;exact⟨by unfold G.at_;rw[if_neg JY];rfl,a.pick [0,1]⟩
 refine K ?_;refine By D<|AG sT 8 D<|AZ Lc 0 8 D D D<|Jd D<|Es (q:=1) D D<|Kz D (i - 1) fun h b=>Af (Dj G0 (i - 1) (i - 1) (a8 1) D D)<|Af (J1 AF Gj (i - 1) b (a8 1) D D)<|A7 ?_;intro W a;subst hF;exact⟨by unfold G.at_;rw[if_pos JY,Dm,b];rfl,a.pick [0,1]⟩
theorem oL(s:Nat)(z:BF)(T Au:BX)(fr A4:Nat)(t u:BX)(AJ:List (G.Ae×Nat))(AO:List (Jc×Nat))(p q c:Nat)(r:G.Ae)(w:World)(v:BE [Ez z T Au,Gb z,s4 s z fr A4 t u false] w)(f:tG z)(Q:q≤z.FN.length):Calls lp 139 #[S s,E p,E q,E c,rS [bv r.k.l],E r.b] w fun e W=>e=.returned (.bool (G.E7 (B0 z.w z.Z AJ AO fr) p q c r))∧Sat (A6 [Ez z T Au,Gb z,s4 s z fr A4 t u false]) w [Ez z T Au,Gb z,s4 s z fr A4 t u false] W:=by
 have R:=f.vr;have X:=f.vB;have aa:=f.n;have ab:=f.w;refine Cb v YZ D 68 fun F hF=>Je<|Jh<|U<|Cv D fun ad=>K ?_
 by_cases y:p<q
 ·
  obtain⟨k,x,i,j⟩:=f.at_ (p:=p) JY;refine K ?_;refine NB JY D D<|K ?_;refine By D<|Jj D D D<|AG sV 0 D<|Jj D D D<|AZ Zc 3 0 D D D<|Jj D D D<|By D<|Jj D D D<|AG sT 5 D<|Jj D D D<|AZ Lc 1 5 D D D<|K ?_;refine Af (Dj G0 p p (iu 2) D D)<|Jj D D D<|Af (J1 AF Gj p i (iu 2) D D)<|Jj D D D<|Li D D (fun A=>?_) fun A=>?_
  ·
   have g:=BF.lk i j JY;have B:=f.Bd _ _ _ i j JY;have m:=(f.nd _ _ g).1;have C:=m.lc;have H:=m.rc;refine K ?_;refine By D<|AG sV 0 D<|AZ Zc 3 0 D D D<|By D<|AG sT 6 D<|AZ IA 1 6 D D D<|Jd D<|Af (Dj MF p (p*102) (tq 2) D D)<|Af (LH Bv QR p 0 9 (Xz x) j (tq 2) D D)<|U<|Bw VF fun I=>U<|Bk 0 0 9 D D D<|?_;refine K ?_;refine Af (BN Bv 0 D D)<|U<|BP Wx D (fun w a=>q_ x w JY JY)<|?_;obtain⟨d,o⟩:∃d,d=(if x.Bd=1 then 1 else x.lc+x.rc):=⟨_,D⟩
   have J:(x.Bd=1→d=1)∧(¬x.Bd=1→d=x.lc+x.rc):=by subst o;by_cases h:x.Bd=1<;>simp[h]
   refine CR 54 D (show _=(E d)from by rw[o])<|Jd D<|JU D D<|Jg<|Jf<|HI D (fun L=>?_) fun L=>?_
   ·
    refine A7 ?_;intro W a;subst hF;exact⟨CT (by rw[Ic g,BM.jY];exact(decide_eq_false JY).symm),a.pick [2,3,4]⟩
   refine K ?_;refine AG Bv 0 D<|AZ AF 0 0 D D D<|E2 D D<|Jg<|Jf<|Cz D (fun M=>?_) fun M=>?_
   ·
    refine Je<|Jh<|AG Bv 69 D<|Af (DH CI 0 7 1 [bv x.k.l] D D)<|Af (BN CI 1 D D)<|U<|BP aZ D (fun w a=>mY x.k r.k w)<|Jd D<|dE D D<|A7 ?_;intro W a;subst hF;exact⟨CT (by rw[Ic g,BM.jY];exact decide_eq_decide.2 JY),a.pick [2,3,4]⟩
   refine K ?_;refine Ej D D<|A7 ?_;intro W a;subst hF;exact⟨CT (by rw[Ic g,BM.jY];exact decide_eq_decide.2 JY),a.pick [2,3,4]⟩
  refine K ?_;refine By D<|Jj D D D<|AG sV 0 D<|Jj D D D<|AZ Zc 3 0 D D D<|Jj D D D<|By D<|Jj D D D<|AG sT 5 D<|Jj D D D<|AZ Lc 1 5 D D D<|K ?_;refine Af (Dj G0 p p (iu 2) D D)<|Jj D D D<|Af (J1 AF Gj p i (iu 2) D D)<|Jj D D D<|Li D D (fun N=>?_) fun N=>?_
  ·
   have g:=BF.lk i j JY;have B:=f.Bd _ _ _ i j JY;have m:=(f.nd _ _ g).1;have C:=m.lc;have H:=m.rc;refine K ?_;refine By D<|AG sV 0 D<|AZ Zc 3 0 D D D<|By D<|AG sT 6 D<|AZ IA 1 6 D D D<|Jd D<|Af (Dj MF p (p*102) (tq 2) D D)<|Af (LH Bv QR p 0 9 (Xz x) j (tq 2) D D)<|U<|Bw VF fun I=>U<|Bk 0 0 9 D D D<|?_;refine K ?_;refine Af (BN Bv 0 D D)<|U<|BP Wx D (fun w a=>q_ x w JY JY)<|?_;obtain⟨d,o⟩:∃d,d=(if x.Bd=1 then 1 else x.lc+x.rc):=⟨_,D⟩
   have J:(x.Bd=1→d=1)∧(¬x.Bd=1→d=x.lc+x.rc):=by subst o;by_cases h:x.Bd=1<;>simp[h]
   refine CR 54 D (show _=(E d)from by rw[o])<|Jd D<|JU D D<|Jg<|Jf<|HI D (fun O=>?_) fun O=>?_
   ·
    refine A7 ?_;intro W a;subst hF;exact⟨CT (by rw[Ic g,BM.jY];exact(decide_eq_false JY).symm),a.pick [2,3,4]⟩
   refine K ?_;refine AG Bv 0 D<|AZ AF 0 0 D D D<|E2 D D<|Jg<|Jf<|Cz D (fun P=>?_) fun P=>?_
   ·
    refine Je<|Jh<|AG Bv 69 D<|Af (DH CI 0 7 1 [bv x.k.l] D D)<|Af (BN CI 1 D D)<|U<|BP aZ D (fun w a=>mY x.k r.k w)<|Jd D<|dE D D<|A7 ?_;intro W a;subst hF;exact⟨CT (by rw[Ic g,BM.jY];exact decide_eq_decide.2 JY),a.pick [2,3,4]⟩
   refine K ?_;refine Ej D D<|A7 ?_;intro W a;subst hF;exact⟨CT (by rw[Ic g,BM.jY];exact decide_eq_decide.2 JY),a.pick [2,3,4]⟩
  refine A7 ?_;intro W a;subst hF;exact⟨CT ((Qc (BF.sj i j JY)).symm),a.pick [1,2,3]⟩
 ·
  refine K ?_;refine TK JY D D<|A7 ?_;intro W a;subst hF;exact⟨CT (by unfold G.E7;split<;>first|rfl|(rw[decide_eq_false y];rfl)),a.pick [1,2,3]⟩
theorem mC{Dg:Type}{f:Bo→Dg}{A:List Bo}{y:Dg}(h:(A.map f)[i]? =some y):∃x,A[i]? =some x∧f x=y:=by
 rw[ti]at h;cases e:A[i]? with
 |none=>rw[e]at h;cases h
 |some x=>rw[e]at h;exact⟨x,D,Option.some.inj h⟩
theorem sK{f:Bo→Bool}{A:List Bo}{x:Bo}(h:(A.take i).find? f=none)(a:A[i]? =some x)(b:f x=true):A.find? f=some x:=by
 obtain⟨V,e⟩:=EH.1 a;rw[←td i A,List.find?_append,h,Xy V,e,af,b];rfl
theorem hB{f:Bo→Bool}{A:List Bo}{x:Bo}(h:(A.take i).find? f=none)(a:A[i]? =some x)(b:f x=false):(A.take (i+1)).find? f=none:=by
 rw[Ol,a,List.find?_append,h];simp[b]
theorem rF{f:Bo→Bool}{A:List Bo}(h:(A.take i).find? f=none)(V:A.length≤i):A.find? f=none:=by rwa[DV V]at h
theorem qS(f:Nat)(z:BF)(fr A4:Nat)(d h:BX)(sp:Bool)(A:List (G.Ae×Nat))(r:G.Ae)(w:World)(t:BE [s4 f z fr A4 d h sp,sZ d A] w)(M:A.length≤1099511627776):Calls lp 167 #[S f,rS [bv r.k.l],E r.b] w fun e W=>∃y:IU,e=.returned (rS [[E y.b],[E y.p],bv y.k.l,bv y.s.l])∧y.p=BM.atR A r∧Sat (A6 [s4 f z fr A4 d h sp,sZ d A]) w [s4 f z fr A4 d h sp,sZ d A] W:=by
 have C:(A.map I9).length=d.n:=I3 YR JZ (t.at_ 1 _ D);rw[MU]at C;refine Cb t Qy D 39 fun F hF=>Je<|Jh<|U<|Cv D fun u=>U<|Bw [[E 0],[E 0],Ak 32,Ak 32] fun v=>K ?_;refine DL (fun H a W=>∃i,H=A.length - i+0∧AH 39 a (Jb (Jb (Jb (Jb (Jb Jk 0 (S f)) 2 (E r.b)) 4 (S u)) 6 (S v)) 7 (E i))∧Sat F w [O v [[E 0],[E 0],Ak 32,Ak 32] 217,O u [bv r.k.l] 48,s4 f z fr A4 d h sp,sZ d A] W∧i≤A.length∧(A.take i).find? (fun x=>decide (x.1.b=r.b)&&decide (r.b≤L4 x.1.k.l r.k.l))=none) (fun a W g c=>⟨0,D,AY g,c.pick [0,1,2,3],F2 _,D⟩) ?_;rintro _ a W ⟨i,rfl,g,c,V,j⟩;revert a W;refine K ?_;refine By D<|AG sV 3 D<|AZ Sz 2 3 D D D<|Cr Sz D<|Ej D D<|Jg<|Jf<|Cz D (fun I=>?_) fun I=>?_
 ·
  refine K ?_;refine By D<|AG sV 3 D<|AZ Sz 2 3 D D D<|Jd D<|Vh YR 3 i fun m B=>Af (Dj PN i (i*66) (BZ 3) D D)<|Af (LH YA YR i 0 4 [[E m.b],[E m.p],bv m.k.l,bv m.s.l] B (BZ 3) D D)<|U<|Bw [[E 0],[E 0],Ak 32,Ak 32] fun N=>U<|Bk 0 0 4 D D D<|?_;refine Jg<|?_;obtain⟨x,o,rfl⟩:=mC B;refine Jf<|Je<|Jh<|AG YA 0 D<|AZ AF 0 0 D D D<|Jd D<|Gx D D (fun J=>?_) fun J=>?_
  ·
   refine K ?_;refine AG YA 2 D<|Jj D D D<|Af (DH CI 0 2 1 [bv (I9 x).k.l] D D)<|Jj D D D<|Af (BN CI 2 D D)<|Jj D D D<|U<|BP aZ D (fun w c=>mY ((I9 x).k) r.k w)<|K ?_;refine Pm D D (fun L=>?_) fun L=>?_
   ·
    refine K ?_;refine Af (BN YA 0 D D)<|U<|Bk 1 0 4 D D D<|?_;refine K ?_;refine Fq YA 1 D D fun W c=>?_;subst hF;exact⟨I9 x,D,by unfold BM.atR;rw[sK j o (by rw[Kq,decide_eq_true_iff,decide_eq_true_iff];exact⟨by show(I9 x).b=r.b;omega,by show r.b≤L4 (I9 x).k.l r.k.l;omega⟩)];rfl,c.pick [3,4]⟩
   refine K ?_;refine B6 (q:=1) D D<|K ?_;exact fun a W g c=>⟨_,JY,i+1,D,AY g,c.pick [1,2,3,4],JY,hB j o (by rw[lB,decide_eq_false_iff_not,decide_eq_false_iff_not];exact .inr (by show¬r.b≤L4 (I9 x).k.l r.k.l;omega))⟩
  refine K ?_;refine B6 (q:=1) D D<|K ?_;exact fun a W g c=>⟨_,JY,i+1,D,AY g,c.pick [1,2,3,4],JY,hB j o (by rw[lB,decide_eq_false_iff_not,decide_eq_false_iff_not];exact .inl (by show¬(I9 x).b=r.b;omega))⟩
 refine K ?_;refine Af (S8 [[E 0],[E 0],Ak 32,Ak 32])<|U<|Bk 0 0 4 D D D<|?_;refine Jg<|Jf<|Jq<|Fq YA 0 D D fun W c=>?_;subst hF;exact⟨⟨0,0,CU,CU⟩,D,by unfold BM.atR;rw[rF j JY];rfl,c.pick [2,3]⟩
theorem nm{f:Bo→Bool}{A:List Bo}{x:Bo}(h:(A.take i).any f=false)(a:A[i]? =some x)(b:f x=false):(A.take (i+1)).any f=false:=by
 rw[Ol,a,List.any_append,h];simp[b]
theorem qb{f:Bo→Bool}{A:List Bo}{x:Bo}(a:A[i]? =some x)(b:f x=true):A.any f=true:=pf.2 ⟨x,ta a,b⟩
theorem rA{f:Bo→Bool}{A:List Bo}(h:(A.take i).any f=false)(V:A.length≤i):A.any f=false:=by rwa[DV V]at h
theorem qF(f:Nat)(z:BF)(T Au:BX)(fr A4:Nat)(d g:BX)(sp:Bool)(A:List (G.Ae×Nat))(p k:Nat)(x:Bf)(r:G.Ae)(w:World)(m:BE [Ez z T Au,Gb z,s4 f z fr A4 d g sp,sZ d A] w)(h:tG z)(N:A.length≤549755813888)(o:z.FN[p]? =some k)(B:z.DS[p]? =some x)(C:k=1∨k=2)(O:p<z.FN.length):Calls lp 141 #[S f,E p,rS [bv r.k.l],E r.b] w fun e W=>e=.returned (.bool (BM.tP z.AW A p x.AW r))∧Sat (A6 [Ez z T Au,Gb z,s4 f z fr A4 d g sp,sZ d A]) w [Ez z T Au,Gb z,s4 f z fr A4 d g sp,sZ d A] W:=by
 have P:=h.vr;have R:=h.vB;have Y:=h.n;have Z:=h.w;have aa:=h.Bd _ _ _ o B C;have H:(A.map I9).length=d.n:=I3 YR JZ (m.at_ 3 _ D);rw[MU]at H;refine Cb m oe D 47 fun F hF=>Je<|Jh<|U<|Cv D fun ab=>K ?_;refine By D<|AG sV 0 D<|AZ Zc 3 0 D D D<|By D<|AG sT 5 D<|AZ Lc 1 5 D D D<|Jd D<|Af (Dj G0 p p (iu 2) D D)<|Af (J1 AF Gj p o (iu 2) D D)<|E2 D D<|Jg<|Jf<|Cz D (fun I=>?_) fun I=>?_
 ·
  refine K ?_;refine Af (BN CI 0 D D)<|Jd D<|U<|Ba Qy D (fun w c=>qS f z fr A4 d g sp A r w (c.Ad [3,4]) JY) fun _ e W c ⟨ad,he,ae,q⟩=>⟨_,_,he,c.As [3,4] [0,1,2] q,?_⟩
  refine Af (Io YA 1 D D D AF)<|Jd D<|E2 D D<|A7 ?_;intro W c;subst hF;exact⟨CT (by unfold BM.tP;exact(by rw[if_neg (show¬x.AW.Bd=1 by show¬x.Bd=1;omega)];exact decide_eq_decide.2 JY)),c.pick [3,4,0,1]⟩
 refine K ?_;refine DL (fun J a W=>∃i,J=A.length - i+0∧AH 47 a (Jb (Jb (Jb Jk 0 (S f)) 1 (E p)) 9 (E i))∧Sat F w [Ez z T Au,Gb z,s4 f z fr A4 d g sp,sZ d A] W∧i≤A.length∧(A.take i).any (fun x=>decide (x.2=p))=false) (fun a W j c=>⟨0,D,AY j,c.pick [1,2,3,4],F2 _,D⟩) ?_;rintro _ a W ⟨i,rfl,j,c,V,s⟩;revert a W;refine K ?_;refine By D<|AG sV 3 D<|AZ Sz 2 3 D D D<|Cr Sz D<|Ej D D<|Jg<|Jf<|Cz D (fun L=>?_) fun L=>?_
 ·
  obtain⟨y,t⟩:∃y,(A.map I9)[i]? =some y:=⟨_,F3 (by rw[MU];omega)⟩
  obtain⟨u,hu,v⟩:=mC t;refine K ?_;refine By D<|AG sV 3 D<|AZ Sz 2 3 D D D<|Jd D<|Af (Dj PN i (i*66) (BZ 3) D D)<|Af (Nd YA (i*66+1) D)<|Af (Q8 AF YR i 1 t (BZ 3) D D D)<|Jd D<|E2 D D<|Jg<|Jf<|Cz D (fun M=>?_) fun M=>?_
  ·
   refine A7 ?_;intro W c;subst hF;exact⟨CT (by unfold BM.tP;exact(by rw[if_pos (show x.AW.Bd=1 by show x.Bd=1;omega)];exact(qb hu (decide_eq_true (by have:=congrArg IU.p v;have:u.2=y.p:=this;omega))).symm)),c.pick [0,1,2,3]⟩
  refine K ?_;refine B6 (q:=1) D D<|K ?_;exact fun a W j c=>⟨_,JY,i+1,D,AY j,c.pick [0,1,2,3],JY,nm s hu (decide_eq_false (by have:=congrArg IU.p v;have:u.2=y.p:=this;omega))⟩
 refine A7 ?_;intro W c;subst hF;exact⟨CT (by unfold BM.tP;exact(by rw[if_pos (show x.AW.Bd=1 by show x.Bd=1;omega)];exact(rA s JY).symm)),c.pick [0,1,2,3]⟩
theorem oY(l:rG)(w:Nat):AL.cut (AL.cut l w).l w=AL.cut l w:=by
 apply Jc.ext;simp only[AL.cut];apply Q2;intro j;simp only[l7,Gd,FX,He,LQ,eg]
 by_cases h1:j<min (min w 32) l.length
 ·rw[if_pos JY,if_pos JY,if_pos JY,if_pos JY]
 ·by_cases b:j<32
  ·by_cases a:j<min w 32
   ·simp only[if_pos a,if_neg h1,if_pos (show j<min (min w 32) (min (min w 32) l.length+(32 - min (min w 32) l.length))by omega),if_pos (show j - min (min w 32) l.length<32 - min (min w 32) l.length by omega)]
   ·rw[if_neg JY,if_pos JY,if_neg h1,if_pos JY]
  ·rw[if_neg JY,if_neg JY,if_neg h1,if_neg JY]
theorem ks(z:BF)(T Au:BX)(p h:Nat)(x:Bf)(w:World)(i:BE [Ez z T Au,Gb z] w)(f:tG z)(Df:Ld w)(hQ:∀k,Zs k→¬A6 [Ez z T Au,Gb z] k)(g:z.DS[p]? =some x)(u:h≤256∧(x.Bd=1∨1≤h))(y:x.s.v.length≤4096):Calls lp 144 #[S z.Q,E p,E h] w fun e W=>e=.returned (rS [bv (G.Hw z.w x.AW h).l])∧Sat (A6 [Ez z T Au,Gb z]) w [Ez z T Au,Gb z] W:=by
 have A:=f.vr;have C:=f.vB;have I:=f.n;have J:=f.w;have L:=(EH.1 g).1;refine Cb i cS D 73 fun F hF=>Je<|Jh<|U<|Bw [Ak 32] fun M=>K ?_;refine By D<|AG sT 6 D<|AZ IA 1 6 D D D<|Jd D<|Af (Dj MF p (p*102) (tq 2) D D)<|Af (LH Bv QR p 0 9 (Xz x) g (tq 2) D D)<|U<|Bw VF fun N=>U<|Bk 0 0 9 D D D<|?_;refine K ?_;refine By D<|AG sT 0 D<|AG Bs 0 D<|AZ AF 2 0 D D D<|K ?_;refine AG Bv 0 D<|AZ AF 0 0 D D D<|E2 D D<|Jg<|Jf<|Cz D (fun j=>?_) fun j=>?_
 ·
  refine K ?_;refine AG Bv 69 D<|Af (DH CI 0 7 1 [bv x.k.l] D D)<|AG Bv 101 D<|AZ B7 0 8 D D D<|U<|BP Lh D (fun w a=>pw z.w x.k _ _ _ x.s.v w (Df.sat a) ((n4 3 g) w a) D)<|U<|Bw [Ak 32] fun O=>U<|Bk 0 0 1 D D D<|?_;refine Jg<|Jf<|Je<|DD 9<|zs (AA D)<|zs (Bp D)<|zs (AS sT 11 D)<|zs (Bb J' 3 11 D D D)<|zs (AA D)<|zs (AS Bv 69 D)<|zs (DH CI 1 7 1 [bv x.k.l] D D)<|zs (BN Nl 0 D D)<|zs (AA D)<|CS<|U<|BP Pk D (fun w a=>qT _ _ z.w x.k (AL.leaf z.w x.k x.s.v) h w (Df.sat a) JY ((iP 4) w a) JY)<|U<|Bk 2 0 1 D D D<|?_;refine K ?_;refine Fq Nl 2 D D fun W a=>?_;subst hF;refine⟨?_,a.pick [3,4]⟩;unfold G.Hw;rw[if_pos (show x.AW.Bd=1 by show x.Bd=1;omega),show AL.leaf z.w x.AW.k x.AW.val=AL.cut (AL.Lz (AL.Pt x.k x.s.v)).l z.w from D];exact congrArg (fun d:Jc=>Ending.returned (rS [bv (AL.Gr z.w x.k d h).l])) (oY _ _)
 refine K ?_;refine By D<|AG sT 11 D<|AZ J' 2 11 D D D<|Jd D<|Es (q:=1) D D<|Kz ma (h - 1) fun b c=>Af (Dj Kt (h - 1) ((h - 1)*32) (iP 3) D D)<|Af (LH Nl Hh (h - 1) 0 1 [bv b.l] c (iP 3) D D)<|U<|Bw [Ak 32] fun P=>U<|Bk 0 0 1 D D D<|?_;refine K ?_;refine By D<|AG sT 11 D<|AZ J' 3 11 D D D<|Jd D<|Es (q:=1) D D<|Af (Dj Kt (h - 1) ((h - 1)*32) (iP 4) D D)<|Af (LH Nl Hh (h - 1) 0 1 [bv b.l] c (iP 4) D D)<|U<|Bw [Ak 32] fun R=>U<|Bk 0 0 1 D D D<|?_;refine K ?_;refine AG Bv 1 D<|AZ AF 2 1 D D D<|JU D D<|Jg<|Jf<|HI D (fun m=>?_) fun m=>?_
 ·
  refine Jh<|AG Bv 5 D<|Af (DH Nl 2 5 1 [bv x.ls.l] D D)<|U<|Bk 1 0 1 D D D<|?_;refine K ?_;refine AG Bv 2 D<|AZ AF 2 2 D D D<|JU D D<|Jg<|Jf<|HI D (fun o=>?_) fun o=>?_
  ·
   refine Jh<|AG Bv 37 D<|Af (DH Nl 2 6 1 [bv x.rs.l] D D)<|U<|Bk 0 0 1 D D D<|?_;refine K ?_;refine Af (BN Nl 1 D D)<|Af (BN Nl 0 D D)<|U<|BP NN D (fun w a=>kb z.w x.ls x.rs w (Df.sat a))<|U<|Bk 3 0 1 D D D<|?_;refine Jg<|Jf<|Jq<|Fq Nl 3 D D fun W a=>?_;subst hF;refine⟨?_,a.pick [4,5]⟩;unfold G.Hw;rw[if_neg (show¬x.AW.Bd=1 by show¬x.Bd=1;omega),←QB c,if_neg (show¬x.AW.l=0 by show¬x.l=0;omega),if_neg (show¬x.AW.r=0 by show¬x.r=0;omega)]
   first|done|rfl
  refine K ?_;refine Af (BN Nl 1 D D)<|Af (BN Nl 0 D D)<|U<|BP NN D (fun w a=>kb z.w x.ls b w (Df.sat a))<|U<|Bk 3 0 1 D D D<|?_;refine Jg<|Jf<|Jq<|Fq Nl 3 D D fun W a=>?_;subst hF;refine⟨?_,a.pick [4,5]⟩;unfold G.Hw;rw[if_neg (show¬x.AW.Bd=1 by show¬x.Bd=1;omega),←QB c,if_neg (show¬x.AW.l=0 by show¬x.l=0;omega),if_pos (show x.AW.r=0 by show x.r=0;omega)]
  first|done|rfl
 refine K ?_;refine AG Bv 2 D<|AZ AF 2 2 D D D<|JU D D<|Jg<|Jf<|HI D (fun t=>?_) fun t=>?_
 ·
  refine Jh<|AG Bv 37 D<|Af (DH Nl 2 6 1 [bv x.rs.l] D D)<|U<|Bk 0 0 1 D D D<|?_;refine K ?_;refine Af (BN Nl 1 D D)<|Af (BN Nl 0 D D)<|U<|BP NN D (fun w a=>kb z.w b x.rs w (Df.sat a))<|U<|Bk 3 0 1 D D D<|?_;refine Jg<|Jf<|Jq<|Fq Nl 3 D D fun W a=>?_;subst hF;refine⟨?_,a.pick [4,5]⟩;unfold G.Hw;rw[if_neg (show¬x.AW.Bd=1 by show¬x.Bd=1;omega),←QB c,if_pos (show x.AW.l=0 by show x.l=0;omega),if_neg (show¬x.AW.r=0 by show¬x.r=0;omega)]
  first|done|rfl
 refine K ?_;refine Af (BN Nl 1 D D)<|Af (BN Nl 0 D D)<|U<|BP NN D (fun w a=>kb z.w b b w (Df.sat a))<|U<|Bk 3 0 1 D D D<|?_;refine Jg<|Jf<|Jq<|Fq Nl 3 D D fun W a=>?_;subst hF;refine⟨?_,a.pick [4,5]⟩;unfold G.Hw;rw[if_neg (show¬x.AW.Bd=1 by show¬x.Bd=1;omega),←QB c,if_pos (show x.AW.l=0 by show x.l=0;omega),if_pos (show x.AW.r=0 by show x.r=0;omega)]
 first|done|rfl
