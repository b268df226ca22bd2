/- Laws and walks on the road to SalvageNever and SalvageHeals (part M18). No conditions beyond each law's own. -/
import Derived.Test.YtcdaflcjhimimaaGreatDoorM01
import Derived.Test.YtcdaflcjhimimaaGreatDoorM17
import Derived.Test.YtcdaflcjhimimaaGreatDoorM14
import Derived.Test.YtcdaflcjhimimaaGreatDoorM05
import Derived.Test.YtcdaflcjhimimaaGreatDoorM07
set_option linter.unusedVariables false
namespace Go.Proofs.YtcdaflcjhimimaaGreatDoor
open Go.RowKit
set_option maxRecDepth 100000
set_option maxHeartbeats 1000000
variable {Aj Fp b sb fresh next B4 p n:Nat} {DU IH:Value} {w:World} {CU:Option Addr} {Fj:Bool}
theorem T_(x:Jd)(n:Nat)(hn:n<256)(y:Jd)(i:y.l=x.l.set (n/8) (UInt8.ofNat ((x.l.getD (n/8) 0).toNat|||(128/2^(n % 8)))))(j:Nat):Cu y.l j=if j=n then 1 else Cu x.l j:=by
 by_cases b:255<j
 ·unfold Cu
  rw[if_pos b,if_neg (by omega),if_pos b]
 ·have p:=x.h
  unfold Cu
  rw[if_neg b,if_neg b,i]
  by_cases e:j/8=n/8
  ·have k:=(x.l.getD (n/8) 0).toNat_lt
   have Ab:128/2^(n % 8)=2^(7 - n % 8):=by
    have:∀m,m<8→128/2^m=2^(7 - m):=by decide
    exact this _ (by omega)
   have o:(x.l.getD (n/8) 0).toNat|||(128/2^(n % 8))<256:=Nat.or_lt_two_pow (n:=8) k (by rw[Ab];exact Nat.pow_lt_pow_right (by decide) (by omega))
   rw[e,List.getD_eq_getElem?_getD,List.getElem?_set_self (by omega)]
   simp only[Option.getD_some,UInt8.toNat_ofNat',Nat.reducePow]
   rw[Nat.mod_eq_of_lt o,Ab]
   have key:∀a,∀s,∀t,(a|||2^s)/2^t % 2=if t=s then 1 else a/2^t % 2:=by
    intro a s t
    have c:=Nat.testBit_or a (2^s) t
    simp only[Nat.testBit_eq_decide_div_mod_eq]at c
    have d:=Nat.mod_two_eq_zero_or_one ((a|||2^s)/2^t)
    have f:=Nat.mod_two_eq_zero_or_one (a/2^t)
    by_cases q:t=s
    ·subst q
     rw[if_pos D]
     have g:=Nat.testBit_two_pow_self (n:=t)
     rw[Nat.testBit_eq_decide_div_mod_eq]at g
     rw[g,Bool.or_true,decide_eq_true_eq]at c
     exact c
    ·rw[if_neg q]
     have g:(2^s/2^t % 2=1)↔False:=by
      have:=Nat.testBit_two_pow_of_ne (n:=s) (m:=t) (Ne.symm q)
      rw[Nat.testBit_eq_decide_div_mod_eq,decide_eq_false_iff_not]at this
      exact iff_false_intro this
     rcases d with d|d<;>rcases f with f|f<;>simp_all
   rw[key]
   by_cases q:j=n
   ·subst q;rw[if_pos D,if_pos D]
   ·rw[if_neg q,if_neg (by omega)]
  ·rw[List.getD_eq_getElem?_getD,List.getElem?_set_ne (fun q=>e q.symm),if_neg (fun q=>e (by rw[q])),←List.getD_eq_getElem?_getD]
theorem Xx(x:Jd)(n:Nat)(w:World)(hn:n<256):
 Calls Tryz.prog 125 #[Value.agg (flat [bv x.l]),E n] w fun e w'=>∃y:Jd,e=.returned (.agg (flat [bv y.l]))∧(∀j,Cu y.l j=if j=n then 1 else Cu x.l j)∧Below w.heap.size w w':=by
 have c:Below w.heap.size w w:=Bu _ _
 refine Bx P2 D 18 ?_
 refine K<|N<|CW D ?_
 intro b2 S m v i o
 have T:=Bg c m
 have c:=Ah c o
 refine BQ [Av 32] ?_
 intro U V m v s o
 have W:=Bg c m
 have X:=AP i m
 have i:=Q i o
 have c:=Ah c o
 rw[Du]at s
 refine M<|G<|K<|N<|I D<|FK (q:=8) D D<|I D<|FK (q:=8) D D<|Dg Ce 1 (n/8) (n/8) D D<|Cg BA (Ib i x.h (n/8)) D<|I D<|EM (q:=8) D D<|AT (fun _ d=>C3 d (p:=((n % 8:Nat):Int)) (r:=((n % 8:Nat):Int)) D AH Iz (HY (n % 8)))<|?_
 obtain⟨t,z⟩:∃g:Nat,g=128/2^(n % 8):=⟨_,D⟩
 have B:t<256:=by rw[z];exact Nat.lt_of_le_of_lt (Nat.div_le_self _ _) (by decide)
 refine AT (fun _ d=>HQ d (k:=.u8) (p:=128) (n:=n % 8) (r:=t) D D (by simp only[IntKind.bits];omega) z.symm)<|?_
 obtain⟨f,A⟩:∃g:Nat,g=((x.l.getD (n/8) 0).toNat)|||t:=⟨_,D⟩
 have H:f<256:=by rw[A];exact Nat.or_lt_two_pow (n:=8) (UInt8.toNat_lt _) B
 refine AT (fun _ d=>Eh d (k:=.u8) (p:=(((x.l.getD (n/8) 0).toNat:Nat):Int)) (q:=((t:Nat):Int)) (r:=((f:Nat):Int)) (.inr (.inl D)) D D (by rw[A];exact u8_or_nat _ _ (UInt8.toNat_lt _) B))<|Dg Tryz.underlying51 1 (n/8) (n/8) D D<|?_
 intro Y J
 refine Bj D (fun Aa L=>Ni J (j:=n/8) D i x.h (by omega) (u:=UInt8.ofNat f) (Eq.trans (b:=some (Value.int .u8 (((f:Nat):Int):Int))) D (congrArg some (Le _ H))) (by kernel_rfl) ?_)
 intro a Z d v O C
 have s:=Ag C s (by omega)
 have c:=A1 c C
 have F:(x.l.set (n/8) (UInt8.ofNat f)).length=32:=(by rw[List.length_set];exact x.h)
 refine L _ _ ?_;revert a
 refine M<|G<|K<|N<|BP Ce O D<|Bi 0 1 s D D ?_
 intro aa v P R
 have c:=A1 c R
 refine M<|G<|AA<|?_
 intro a d
 refine E4 d D D P Ce D (Ok 32 (Jb.row (Jh F) Jb.nil)) ?_
 exact⟨⟨x.l.set (n/8) (UInt8.ofNat f),F⟩,D,T_ x n hn _ (by show(x.l.set (n/8) (UInt8.ofNat f))=_;rw[A,z]),c⟩
theorem WS{z:EC}(aN:Aj≤w.heap.size)(g:GH Aj Fp w z)(C:w.heap[sb]? =some (.cells (flat (z.HD DU)) 66 (0,0))){Bz:List Co}(H:Ai w b [[AB sb],[E fresh],[E next],[F CU Bz.length B4],[IH],[Br Fj]] 148)(aO:View w (.slice CU Bz.length B4) Bz.length 66 (Al CA Bz))(ar:∀x∈Bz,x.p<z.AD)(aP:Bz.length≤100000000){q cnt:Nat}{k:Jd}(au:q≤z.AD)(hn:n≤256):
 Calls Tryz.prog 95 #[AB b,E p,E q,E cnt,Value.agg (flat [bv k.l]),E n] w fun e w'=>∃t:Bool,e=.returned (.bool t)∧(t=true→p<q∧n≤256∧(∀y,z.Ay[p]? =some y→y.ZI≠1→n<256))∧Below w.heap.size w w':=by
 obtain⟨wd,ge,AD,Ab,Ak,Bp,AY,AV,Bv,As,Ay,qr,AR,AM,By,AG,AN,AO,AJ,Aq,AQ,ce,Cp⟩:=z
 have aQ:Cp.length=257:=g.el
 have aR:AV.length=AD:=g.ar
 have aT:Ay.length=AD:=g.nl
 have aU:AM.length=AD:=g.aG
 have aW:∀p∈AN,p<AD:=g.E9
 have aX:AD≤4096:=g.m
 have ag:∀y∈Ay,Fl y:=g.ZL
 have aZ:∀y∈AM,y.v<4294967296∧y.f<4294967296∧y.ZG<4294967296∧y.ZZ<4294967296∧y.r<4294967296∧y.c<4294967296:=g.ZK
 have C:Ai w sb [[E wd],[E ge],[E AD],[E Ab],[E Ak],[F Bp AV.length AY],[F Bv Ay.length As],[F qr AM.length AR],[F By AN.length AG],[F AO Aq.length AJ],[DU],[F AQ 257 ce]] 66:=C
 have X:View w (.slice Bp AV.length AY) AV.length 1 (Al Ct AV):=g.k.v
 have U:View w (.slice Bv Ay.length As) Ay.length 102 (Al Dd Ay):=g.n.v
 have a3:View w (.slice qr AM.length AR) AM.length 38 (Al DY AM):=g.r.v
 have a4:View w (.slice By AN.length AG) AN.length 1 (Al Ct AN):=g.a.v
 have a5:View w (.slice AO Aq.length AJ) Aq.length 1 (Al EP Aq):=g.t.v
 have a6:View w (.slice AQ 257 ce) 257 32 (Al Ex Cp):=g.e.v
 have a7:∀x∈Ay,B8.ok w x.s:=fun x av=>(g.ZM x av).ok
 have d:Below w.heap.size w w:=Bu _ _
 dsimp only at au ar
 refine Bx Qo D 68 ?_
 refine K<|N<|CW D ?_
 intro a9 a_ B g i J
 have a':=Bg d B
 have ba:=AP C B
 have bb:=AP H B
 have C:=Q C J
 have H:=Q H J
 have d:=Ah d J
 refine O D<|M<|G<|K<|K<|N<|I D<|I D<|?_
 by_cases ah:((q:Nat):Int)≤((p:Nat):Int)
 ·
  refine Gy ah D D<|I D<|Ae D D D D<|Ae D D D D<|Ae D D D D<|Ae D D D D<|Ae D D D D<|Ae D D D D<|Ae D D D D<|Ae D D D D<|Ae D D D D<|Ae D D D D<|Ae D D D D<|Ae D D D D<|FU D D D<|FU D D D<|FU D D D<|FU D D D<|FU D D D<|FU D D D<|FU D D D<|FU D D D<|FU D D D<|FU D D D<|FU D D D<|Ae D D D D<|Bn D D<|M<|G<|BS D<|K<|N<|O D<|M<|G<|AA<|AX<|AZ D<|?_
  exact⟨false,D,(fun h=>by cases h),d⟩
 ·
  refine GL ah D D<|I D<|Ad D D D<|I D<|Ad D D D<|Bt D<|Ad D D D<|Am CP 0 D<|Ad D D D<|AK GS 0 H D D<|Ad D D D<|Bt D<|Ad D D D<|Am Cc 5 D<|Ad D D D<|AK Eo 5 C D D<|Ad D D D<|I D<|?_
  obtain⟨bc,V,rfl⟩:=Ca (X.below d)
  obtain⟨W,ai⟩:=getD_some (L:=AV) (j:=p) D (by omega)
  have aw:=BJ En (X.below d) ai (o:=V+p*1)
  refine Ad D D D<|Cn DK p (V+p*1) D D<|Ad D D D<|Cg AH (Dh [] (E W) [] aw D) D<|?_
  by_cases aj:((W:Nat):Int)=((1:Nat):Int)
  ·
   refine Ad D D D<|Dr aj D D<|Ad D D D<|I D<|Ae D D D D<|Ae D D D D<|Ae D D D D<|Ae D D D D<|Ae D D D D<|Ae D D D D<|Ae D D D D<|Ae D D D D<|Ae D D D D<|Ae D D D D<|Ae D D D D<|Ad D D D<|Ba D D<|Ba D D<|M<|G<|BE D<|AE<|G<|K<|N<|I D<|Bt D<|Am CP 0 D<|AK GS 0 H D D<|Bt D<|Am Cc 6 D<|AK FN 6 C D D<|I D<|?_
   obtain⟨bd,ak,rfl⟩:=Ca (U.below d)
   obtain⟨u,Y⟩:=getD_some (L:=Ay) (j:=p) D (by omega)
   have ax:=BJ FO (U.below d) Y (o:=ak+p*102)
   refine Cn EL p (ak+p*102) D D<|D9 BD 0 9 [[E u.ZI],[E u.l],[E u.r],[E u.lc],[E u.rc],bv u.ls.l,bv u.rs.l,bv u.k.l,[F u.s.p u.s.v.length u.s.c]] ax D<|BQ [[E 0],[E 0],[E 0],[E 0],[E 0],Av 32,Av 32,Av 32,[F none 0 0]] ?_
   intro ay bf B g Z J
   have az:=Bg d B
   have aA:=AP C B
   have aB:=AP H B
   have aC:=AP i B
   have i:=Q i J
   have d:=Ah d J
   refine Bi 0 9 Z D D ?_
   intro bg g R al
   have i:=Ag al i (by omega)
   have d:=A1 d al
   refine M<|G<|K<|K<|N<|BP BD R D<|?_
   have Gb:=ag u (List.mem_of_getElem? Y)
   have aD:=Gb.b
   refine AS Nf D (RZ u _ (by omega) (by omega)) ?_
   rintro _ bh ⟨bj,rfl,aa⟩
   refine⟨_,D,?_⟩
   have i:=Q i aa
   have R:=Q R aa
   have d:=Ah d aa
   refine I D<|Fi D D<|M<|G<|E7 D (fun aE=>?_) fun aE=>?_
   ·
    refine K<|N<|O D<|M<|G<|AA<|AX<|AZ D<|?_
    exact⟨false,D,(fun h=>by cases h),d⟩
   ·
    refine AE<|G<|K<|K<|N<|Am BD 0 D<|AK AH 0 R D D<|Dk (q:=(1:Nat)) D D<|M<|G<|Bl D (fun aF=>?_) fun aF=>?_
    ·
     refine K<|N<|Am BD 69 D<|Eu Ce 7 1 [bv u.k.l] R D<|BP Ce i D<|AS Jl D (JW u.k k _) ?_
     rintro _ bk ⟨rfl,aG⟩
     refine⟨_,D,?_⟩
     have d:=Ah d aG
     refine I D<|JT D D<|O D<|M<|G<|AA<|AX<|AZ D<|?_
     exact⟨_,D,(fun h=>by have ab:=of_decide_eq_true h;have aH:=Mi u.k.l k.l;exact⟨by omega,by omega,fun y P S=>by rw[Y]at P;cases P;exact absurd (by omega) S⟩),d⟩
    ·
     refine AE<|G<|K<|N<|I D<|B5 (q:=(256:Nat)) D D<|O D<|M<|G<|AA<|AZ D<|?_
     exact⟨_,D,fun h=>by have ab:=of_decide_eq_true h;exact⟨by omega,by omega,fun y P S=>by omega⟩,d⟩
  ·
   refine Ad D D D<|F6 aj D D<|Ad D D D<|I D<|Ad D D D<|I D<|Ad D D D<|Bt D<|Ad D D D<|Am CP 0 D<|Ad D D D<|AK GS 0 H D D<|Ad D D D<|Bt D<|Ad D D D<|Am Cc 5 D<|Ad D D D<|AK Eo 5 C D D<|Ad D D D<|I D<|?_
   have aI:=BJ En (X.below d) ai (o:=V+p*1)
   refine Ad D D D<|Cn DK p (V+p*1) D D<|Ad D D D<|Cg AH (Dh [] (E W) [] aI D) D<|?_
   by_cases an:((W:Nat):Int)=((2:Nat):Int)
   ·
    refine Ad D D D<|Dr an D D<|Ad D D D<|Bn D D<|Ba D D<|M<|G<|BE D<|AE<|G<|K<|N<|I D<|Bt D<|Am CP 0 D<|AK GS 0 H D D<|Bt D<|Am Cc 6 D<|AK FN 6 C D D<|I D<|?_
    obtain⟨bl,ao,rfl⟩:=Ca (U.below d)
    obtain⟨A,ad⟩:=getD_some (L:=Ay) (j:=p) D (by omega)
    have aJ:=BJ FO (U.below d) ad (o:=ao+p*102)
    refine Cn EL p (ao+p*102) D D<|D9 BD 0 9 [[E A.ZI],[E A.l],[E A.r],[E A.lc],[E A.rc],bv A.ls.l,bv A.rs.l,bv A.k.l,[F A.s.p A.s.v.length A.s.c]] aJ D<|BQ [[E 0],[E 0],[E 0],[E 0],[E 0],Av 32,Av 32,Av 32,[F none 0 0]] ?_
    intro ay bm B g Z J
    have az:=Bg d B
    have aA:=AP C B
    have aB:=AP H B
    have aC:=AP i B
    have i:=Q i J
    have d:=Ah d J
    refine Bi 0 9 Z D D ?_
    intro bn g T aq
    have i:=Ag aq i (by omega)
    have d:=A1 d aq
    refine M<|G<|K<|K<|N<|BP BD T D<|?_
    have Gb:=ag A (List.mem_of_getElem? ad)
    have aD:=Gb.b
    refine AS Nf D (RZ A _ (by omega) (by omega)) ?_
    rintro _ CM ⟨bo,rfl,ae⟩
    refine⟨_,D,?_⟩
    have i:=Q i ae
    have T:=Q T ae
    have d:=Ah d ae
    refine I D<|Fi D D<|M<|G<|E7 D (fun aK=>?_) fun aK=>?_
    ·
     refine K<|N<|O D<|M<|G<|AA<|AX<|AZ D<|?_
     exact⟨false,D,(fun h=>by cases h),d⟩
    ·
     refine AE<|G<|K<|K<|N<|Am BD 0 D<|AK AH 0 T D D<|Dk (q:=(1:Nat)) D D<|M<|G<|Bl D (fun aL=>?_) fun aL=>?_
     ·
      refine K<|N<|Am BD 69 D<|Eu Ce 7 1 [bv A.k.l] T D<|BP Ce i D<|AS Jl D (JW A.k k _) ?_
      rintro _ bp ⟨rfl,aM⟩
      refine⟨_,D,?_⟩
      have d:=Ah d aM
      refine I D<|JT D D<|O D<|M<|G<|AA<|AX<|AZ D<|?_
      exact⟨_,D,(fun h=>by have ab:=of_decide_eq_true h;have aH:=Mi A.k.l k.l;exact⟨by omega,by omega,fun y P S=>by rw[ad]at P;cases P;exact absurd (by omega) S⟩),d⟩
     ·
      refine AE<|G<|K<|N<|I D<|B5 (q:=(256:Nat)) D D<|O D<|M<|G<|AA<|AZ D<|?_
      exact⟨_,D,fun h=>by have ab:=of_decide_eq_true h;exact⟨by omega,by omega,fun y P S=>by omega⟩,d⟩
   ·
    refine Ad D D D<|F6 an D D<|Ad D D D<|Bn D D<|Ba D D<|M<|G<|BS D<|K<|N<|O D<|M<|G<|AA<|AX<|AZ D<|?_
    exact⟨false,D,(fun h=>by cases h),d⟩
theorem Pw{z:EC}(aq:Aj≤w.heap.size)(g:GH Aj Fp w z)(h:w.heap[sb]? =some (.cells (flat (z.HD DU)) 66 (0,0))){Bz:List Co}(u:Ai w b [[AB sb],[E fresh],[E next],[F CU Bz.length B4],[IH],[Br Fj]] 148)(U:View w (.slice CU Bz.length B4) Bz.length 66 (Al CA Bz))(V:∀x∈Bz,x.p<z.AD)(ar:Bz.length≤100000000){k:Jd}(ae:2≤z.AD):
 Calls Tryz.prog 124 #[AB b,Value.agg (flat [bv k.l]),E n] w fun e w'=>∃x:Co,e=.returned (.agg (flat [[E x.b],[E x.p],bv x.k.l,bv x.s.l]))∧x.p<z.AD∧Below w.heap.size w w':=by
 obtain⟨wd,ge,AD,Ab,Ak,Bp,AY,AV,Bv,As,Ay,qr,AR,AM,By,AG,AN,AO,AJ,Aq,AQ,ce,Cp⟩:=z
 have au:Cp.length=257:=g.el
 have av:AV.length=AD:=g.ar
 have ax:Ay.length=AD:=g.nl
 have ay:AM.length=AD:=g.aG
 have aA:∀p∈AN,p<AD:=g.E9
 have aB:AD≤4096:=g.m
 have aC:∀y∈Ay,Fl y:=g.ZL
 have aE:∀y∈AM,y.v<4294967296∧y.f<4294967296∧y.ZG<4294967296∧y.ZZ<4294967296∧y.r<4294967296∧y.c<4294967296:=g.ZK
 have h:Ai w sb [[E wd],[E ge],[E AD],[E Ab],[E Ak],[F Bp AV.length AY],[F Bv Ay.length As],[F qr AM.length AR],[F By AN.length AG],[F AO Aq.length AJ],[DU],[F AQ 257 ce]] 66:=h
 have aI:View w (.slice Bp AV.length AY) AV.length 1 (Al Ct AV):=g.k.v
 have aJ:View w (.slice Bv Ay.length As) Ay.length 102 (Al Dd Ay):=g.n.v
 have aK:View w (.slice qr AM.length AR) AM.length 38 (Al DY AM):=g.r.v
 have aL:View w (.slice By AN.length AG) AN.length 1 (Al Ct AN):=g.a.v
 have aM:View w (.slice AO Aq.length AJ) Aq.length 1 (Al EP Aq):=g.t.v
 have aN:View w (.slice AQ 257 ce) 257 32 (Al Ex Cp):=g.e.v
 have aO:∀x∈Ay,B8.ok w x.s:=fun x af=>(g.ZM x af).ok
 have d:Below w.heap.size w w:=Bu _ _
 dsimp only at V ae
 refine Bx MT D 39 ?_
 refine K<|N<|CW D ?_
 intro X aQ B g A C
 have aR:=Bg d B
 have aS:=AP h B
 have aT:=AP u B
 have h:=Q h C
 have u:=Q u C
 have d:=Ah d C
 refine BQ [[E 0],[E 0],Av 32,Av 32] ?_
 intro Y aU B g H C
 have aV:=Bg d B
 have aW:=AP h B
 have aX:=AP u B
 have aY:=AP A B
 have h:=Q h C
 have u:=Q u C
 have A:=Q A C
 have d:=Ah d C
 refine M<|G<|K<|K<|N<|O (v:=(E 0)) D<|M<|G<|A2<|?_
 intro a J
 refine Cb (fun ag a W=>∃i,ag=Bz.length - i∧Ao 39 a (Ja (Ja (Ja (Ja (Ja Je 0 (AB b)) 2 (E n)) 4 (AB X)) 6 (AB Y)) 7 (E i))∧i≤Bz.length∧Below w.heap.size w W∧Ai W sb [[E wd],[E ge],[E AD],[E Ab],[E Ak],[F Bp AV.length AY],[F Bv Ay.length As],[F qr AM.length AR],[F By AN.length AG],[F AO Aq.length AJ],[DU],[F AQ 257 ce]] 66∧Ai W b [[AB sb],[E fresh],[E next],[F CU Bz.length B4],[IH],[Br Fj]] 148∧Ai W X [bv k.l] 51∧Ai W Y [[E 0],[E 0],Av 32,Av 32] 190) _ ⟨0,D,At J,by omega,d,h,u,A,H⟩ ?_
 rintro _ a aZ ⟨i,rfl,J,a0,d,h,u,A,H⟩
 revert a
 refine K<|K<|N<|I D<|I D<|Bt D<|Am CP 3 D<|AK Ds 3 u D D<|BY Ds D<|B5 D D<|M<|G<|Bl D (fun ah=>?_) fun ah=>?_
 ·
  refine AE<|G<|K<|A2<|K<|N<|I D<|Bt D<|Am CP 3 D<|AK Ds 3 u D D<|I D<|?_
  obtain⟨a1,Z,rfl⟩:=Ca (U.below d)
  obtain⟨P,aa⟩:=getD_some (L:=Bz) (j:=i) D (by omega)
  have ai:=BJ D3 (U.below d) aa (o:=Z+i*66)
  refine Cn DW i (Z+i*66) D D<|D9 DE 0 4 [[E P.b],[E P.p],bv P.k.l,bv P.s.l] ai D<|BQ [[E 0],[E 0],Av 32,Av 32] ?_
  intro a2 a3 B g R C
  have a4:=Bg d B
  have a5:=AP h B
  have a6:=AP u B
  have a7:=AP A B
  have a8:=AP H B
  have h:=Q h C
  have u:=Q u C
  have A:=Q A C
  have H:=Q H C
  have d:=Ah d C
  refine Bi 0 4 R D D ?_
  intro a9 g aj T
  have h:=Ag T h (by omega)
  have u:=Ag T u (by omega)
  have A:=Ag T A (by omega)
  have H:=Ag T H (by omega)
  have d:=A1 d T
  have R:=aj
  refine M<|G<|K<|N<|Am DE 0 D<|AK AH 0 R D D<|I D<|?_
  by_cases ab:((P.b:Nat):Int)=((n:Nat):Int)
  ·
   refine D5 ab D D<|I D<|Ad D D D<|Am DE 2 D<|Ad D D D<|Eu Ce 2 1 [bv P.k.l] R D<|Ad D D D<|BP Ce A D<|Ad D D D<|AS Jl D (JW P.k k _) ?_
   rintro _ a_ ⟨rfl,S⟩
   refine⟨_,D,?_⟩
   have h:=Q h S
   have u:=Q u S
   have A:=Q A S
   have H:=Q H S
   have R:=Q R S
   have d:=Ah d S
   refine Ad D D D<|I D<|?_
   by_cases ad:((n:Nat):Int)≤((Da P.k.l k.l:Nat):Int)
   ·
    refine Ad D D D<|Gy ad D D<|Bn D D<|M<|G<|BS D<|K<|N<|BP DE R D<|Bi 0 4 H D D ?_
    intro a' g ak al
    have d:=A1 d al
    refine M<|G<|AA<|C1<|AX<|AX<|C1<|AX<|?_
    intro a J
    refine E4 J D D ak DE D (Cf 66) ?_
    exact⟨P,D,V P (List.mem_of_getElem? aa),d⟩
   ·
    refine Ad D D D<|GL ad D D<|Bn D D<|M<|G<|BE D<|AE<|Bq<|G<|N<|I D<|A_ (q:=1) D D<|O D<|M<|G<|?_
    intro a J
    exact⟨_,by omega,i+1,D,At J,by omega,d,h,u,A,H⟩
  ·
   refine E0 ab D D<|I D<|Ae D D D D<|Ae D D D D<|Ae D D D D<|Ae D D D D<|Ae D D D D<|Ae D D D D<|Ba D D<|M<|G<|BE D<|AE<|Bq<|G<|N<|I D<|A_ (q:=1) D D<|O D<|M<|G<|?_
   intro a J
   exact⟨_,by omega,i+1,D,At J,by omega,d,h,u,A,H⟩
 ·
  refine BO<|AW<|AW<|BN<|G<|K<|N<|AT (fun _ J=>CE J (Bf:=[]) D (v:=Value.agg (flat [[E 0],[E 0],Av 32,Av 32])) (run_build _ _ _ _ (by kernel_rfl)))<|Bi 0 4 H D D ?_
  intro ba g an ao
  have d:=A1 d ao
  refine M<|G<|AA<|?_
  intro a J
  refine E4 J D D an DE D (Cf 66) ?_
  exact⟨⟨0,0,Bh,Bh⟩,D,by dsimp only;omega,d⟩
theorem SI{z:EC}(S:Aj≤w.heap.size)(d:GH Aj Fp w z)(h:w.heap[sb]? =some (.cells (flat (z.HD DU)) 66 (0,0))){Bz:List Co}(u:Ai w b [[AB sb],[E fresh],[E next],[F CU Bz.length B4],[IH],[Br Fj]] 148)(C:View w (.slice CU Bz.length B4) Bz.length 66 (Al CA Bz))(T:∀x∈Bz,x.p<z.AD)(Y:Bz.length≤100000000){k:Jd}(Z:p<z.AD)(U:2≤z.AD):
 Calls Tryz.prog 97 #[AB b,E p,Value.agg (flat [bv k.l]),E n] w fun e w'=>∃t:Bool,e=.returned (.bool t)∧Below w.heap.size w w':=by
 obtain⟨wd,ge,AD,Ab,Ak,Bp,AY,AV,Bv,As,Ay,qr,AR,AM,By,AG,AN,AO,AJ,Aq,AQ,ce,Cp⟩:=z
 have ar:Cp.length=257:=d.el
 have au:AV.length=AD:=d.ar
 have aw:Ay.length=AD:=d.nl
 have ax:AM.length=AD:=d.aG
 have az:∀p∈AN,p<AD:=d.E9
 have aA:AD≤4096:=d.m
 have aB:∀y∈Ay,Fl y:=d.ZL
 have aD:∀y∈AM,y.v<4294967296∧y.f<4294967296∧y.ZG<4294967296∧y.ZZ<4294967296∧y.r<4294967296∧y.c<4294967296:=d.ZK
 have h:Ai w sb [[E wd],[E ge],[E AD],[E Ab],[E Ak],[F Bp AV.length AY],[F Bv Ay.length As],[F qr AM.length AR],[F By AN.length AG],[F AO Aq.length AJ],[DU],[F AQ 257 ce]] 66:=h
 have V:View w (.slice Bp AV.length AY) AV.length 1 (Al Ct AV):=d.k.v
 have aH:View w (.slice Bv Ay.length As) Ay.length 102 (Al Dd Ay):=d.n.v
 have aI:View w (.slice qr AM.length AR) AM.length 38 (Al DY AM):=d.r.v
 have aJ:View w (.slice By AN.length AG) AN.length 1 (Al Ct AN):=d.a.v
 have aK:View w (.slice AO Aq.length AJ) Aq.length 1 (Al EP Aq):=d.t.v
 have aL:View w (.slice AQ 257 ce) 257 32 (Al Ex Cp):=d.e.v
 have aM:∀x∈Ay,B8.ok w x.s:=fun x aa=>(d.ZM x aa).ok
 have g:Below w.heap.size w w:=Bu _ _
 have ab:Cd Aj Fp w w:=Cd.refl _ _ _
 dsimp only at T U Z
 refine Bx Rc D 47 ?_
 refine K<|N<|CW D ?_
 intro aO X H d ad J
 have aP:=Bg g H
 have aQ:=AP h H
 have aR:=AP u H
 have h:=Q h J
 have u:=Q u J
 have g:=Ah g J
 clear d
 refine O D<|M<|G<|K<|K<|N<|I D<|Bt D<|Am CP 0 D<|AK GS 0 u D D<|Bt D<|Am Cc 5 D<|AK Eo 5 h D D<|I D<|?_
 obtain⟨b2,P,rfl⟩:=Ca (V.below g)
 obtain⟨ae,af⟩:=getD_some (L:=AV) (j:=p) D (by omega)
 have ag:=BJ En (V.below g) af (o:=P+p*1)
 refine Cn DK p (P+p*1) D D<|Cg AH (Dh [] (E ae) [] ag D) D<|Dk (q:=(2:Nat)) D D<|M<|G<|Bl D (fun ah=>?_) fun ah=>?_
 ·
  refine K<|N<|I D<|BP Ce ad D<|I D<|AS MT D (Pw (z:=⟨wd,ge,AD,Ab,Ak,some ⟨b2,P,none⟩,AY,AV,Bv,As,Ay,qr,AR,AM,By,AG,AN,AO,AJ,Aq,AQ,ce,Cp⟩) (k:=k) (n:=n) (Bs S g.size) (d.move (ab.trans (g.mono S))) h u (C.below g) T Y U) ?_
  rintro _ aS ⟨aT,rfl,ai,aj⟩
  refine⟨_,D,?_⟩
  have g:=Ah g aj
  dsimp only at ai
  refine AT (fun _ A=>Sf A D DE D AH D D)<|I D<|Dk D D<|O D<|M<|G<|AA<|AX<|AZ D<|?_
  exact⟨_,D,g⟩
 ·
  refine AE<|G<|K<|K<|N<|O (v:=(E 0)) D<|M<|G<|A2<|?_
  intro a A
  refine Cb (fun ak a W=>∃i,ak=Bz.length - i∧W=X∧Ao 47 a (Ja (Ja (Ja Je 0 (AB b)) 1 (E p)) 9 (E i))∧i≤Bz.length) _ ⟨0,D,D,At A,by omega⟩ ?_
  rintro _ a X ⟨i,rfl,rfl,A,aU⟩
  revert a
  refine K<|K<|N<|I D<|I D<|Bt D<|Am CP 3 D<|AK Ds 3 u D D<|BY Ds D<|B5 D D<|M<|G<|Bl D (fun al=>?_) fun al=>?_
  ·
   refine AE<|G<|K<|A2<|K<|N<|I D<|Bt D<|Am CP 3 D<|AK Ds 3 u D D<|I D<|?_
   obtain⟨aV,R,rfl⟩:=Ca (C.below g)
   obtain⟨B,an⟩:=getD_some (L:=Bz) (j:=i) D (by omega)
   have ao:=BJ D3 (C.below g) an (o:=R+i*66)
   refine Cn DW i (R+i*66) D D<|Am DE (R+i*66+1) D<|Cg AH (Dh [[E B.b]] (E B.p) [bv B.k.l,bv B.s.l] ao D) D<|I D<|Dk D D<|M<|G<|Bl D (fun aq=>?_) fun aq=>?_
   ·
    refine K<|N<|O D<|M<|G<|AA<|C1<|AX<|AX<|C1<|AX<|AZ D<|?_
    exact⟨_,D,g⟩
   ·
    refine AE<|Bq<|G<|N<|I D<|A_ (q:=1) D D<|O D<|M<|G<|?_
    intro a A
    exact⟨_,by omega,i+1,D,D,At A,by omega⟩
  ·
   refine BO<|AW<|AW<|BN<|G<|K<|N<|O D<|M<|G<|AA<|AZ D<|?_
   exact⟨_,D,g⟩
theorem SN{z:EC}(ao:Aj≤w.heap.size)(P:GH Aj Fp w z)(u:w.heap[sb]? =some (.cells (flat (z.HD DU)) 66 (0,0))){Bz:List Co}(A:Ai w b [[AB sb],[E fresh],[E next],[F CU Bz.length B4],[IH],[Br Fj]] 148)(ag:View w (.slice CU Bz.length B4) Bz.length 66 (Al CA Bz))(ah:∀x∈Bz,x.p<z.AD)(aJ:Bz.length≤100000000){k:Jd}(aK:p<z.AD)(aq:2≤z.AD):
 Calls Tryz.prog 126 #[AB b,E p,Value.agg (flat [bv k.l]),E n] w fun e w'=>∃t:Bool,e=.returned (.bool t)∧Below w.heap.size w w':=by
 obtain⟨wd,ge,AD,Ab,Ak,Bp,AY,AV,Bv,As,Ay,qr,AR,AM,By,AG,AN,AO,AJ,Aq,AQ,ce,Cp⟩:=z
 have a3:Cp.length=257:=P.el
 have a4:AV.length=AD:=P.ar
 have a6:Ay.length=AD:=P.nl
 have a7:AM.length=AD:=P.aG
 have a9:∀p∈AN,p<AD:=P.E9
 have a_:AD≤4096:=P.m
 have a':∀y∈Ay,Fl y:=P.ZL
 have bb:∀y∈AM,y.v<4294967296∧y.f<4294967296∧y.ZG<4294967296∧y.ZZ<4294967296∧y.r<4294967296∧y.c<4294967296:=P.ZK
 have u:Ai w sb [[E wd],[E ge],[E AD],[E Ab],[E Ak],[F Bp AV.length AY],[F Bv Ay.length As],[F qr AM.length AR],[F By AN.length AG],[F AO Aq.length AJ],[DU],[F AQ 257 ce]] 66:=u
 have ar:View w (.slice Bp AV.length AY) AV.length 1 (Al Ct AV):=P.k.v
 have aa:View w (.slice Bv Ay.length As) Ay.length 102 (Al Dd Ay):=P.n.v
 have bg:View w (.slice qr AM.length AR) AM.length 38 (Al DY AM):=P.r.v
 have bh:View w (.slice By AN.length AG) AN.length 1 (Al Ct AN):=P.a.v
 have bj:View w (.slice AO Aq.length AJ) Aq.length 1 (Al EP Aq):=P.t.v
 have bk:View w (.slice AQ 257 ce) 257 32 (Al Ex Cp):=P.e.v
 have au:∀x∈Ay,B8.ok w x.s:=fun x aL=>(P.ZM x aL).ok
 have d:Below w.heap.size w w:=Bu _ _
 have aM:Cd Aj Fp w w:=Cd.refl _ _ _
 dsimp only at ah aq aK
 refine Bx Pu D 123 ?_
 refine K<|N<|CW D ?_
 intro av bm T P H R
 have bn:=Bg d T
 have bo:=AP u T
 have bp:=AP A T
 have u:=Q u R
 have A:=Q A R
 have d:=Ah d R
 clear P
 refine O D<|M<|G<|K<|N<|I D<|Bt D<|Am CP 0 D<|AK GS 0 A D D<|Bt D<|Am Cc 6 D<|AK FN 6 u D D<|I D<|?_
 obtain⟨b2,U,rfl⟩:=Ca (aa.below d)
 obtain⟨C,aw⟩:=getD_some (L:=Ay) (j:=p) D (by omega)
 have aN:=BJ FO (aa.below d) aw (o:=U+p*102)
 refine Cn EL p (U+p*102) D D<|D9 BD 0 9 [[E C.ZI],[E C.l],[E C.r],[E C.lc],[E C.rc],bv C.ls.l,bv C.rs.l,bv C.k.l,[F C.s.p C.s.v.length C.s.c]] aN D<|BQ [[E 0],[E 0],[E 0],[E 0],[E 0],Av 32,Av 32,Av 32,[F none 0 0]] ?_
 intro ai bq T P B R
 have br:=Bg d T
 have bs:=AP u T
 have bt:=AP A T
 have bu:=AP H T
 have u:=Q u R
 have A:=Q A R
 have H:=Q H R
 have d:=Ah d R
 clear P
 refine Bi 0 9 B D D ?_
 intro bw P aj ae
 have u:=Ag ae u (by omega)
 have A:=Ag ae A (by omega)
 have H:=Ag ae H (by omega)
 have d:=A1 d ae
 have B:=aj
 clear P
 refine M<|G<|K<|K<|N<|Am BD 0 D<|AK AH 0 B D D<|Dk (q:=(2:Nat)) D D<|M<|G<|Bl D (fun aO=>?_) fun aO=>?_
 ·
  refine K<|N<|I D<|BP Ce H D<|I D<|AS MT D (Pw (z:=⟨wd,ge,AD,Ab,Ak,Bp,AY,AV,some ⟨b2,U,none⟩,As,Ay,qr,AR,AM,By,AG,AN,AO,AJ,Aq,AQ,ce,Cp⟩) (k:=k) (n:=n) (Bs ao d.size) (P.move (aM.trans (d.mono ao))) u A (ag.below d) ah aJ aq) ?_
  rintro _ bx ⟨V,rfl,aP,af⟩
  refine⟨_,D,?_⟩
  have u:=Q u af
  have A:=Q A af
  have B:=Q B af
  have d:=Ah d af
  dsimp only at aP
  refine AT (fun _ J=>Sf J D DE D AH D D)<|O D<|M<|G<|K<|?_
  intro a J
  refine Gm (by kernel_rfl) (by kernel_rfl) ?_
  intro bz P R
  have u:=Q u R
  have A:=Q A R
  have B:=Q B R
  have d:=Ah d R
  clear P
  revert a
  refine A3 D<|?_
  by_cases ax:((V.p:Nat):Int)=((0:Nat):Int)
  ·
   refine Of ax D D<|A3 D<|Bo D D D D<|Bo D D D D<|Bo D D D D<|Bo D D D D<|Bo D D D D<|Bo D D D D<|Bo D D D D<|Bo D D D D<|Bo D D D D<|Bo D D D D<|Bo D D D D<|GU D D<|A3 D<|Bo D D D D<|Bo D D D D<|Bo D D D D<|Bo D D D D<|Bo D D D D<|Bo D D D D<|Bo D D D D<|Bo D D D D<|Bo D D D D<|Bo D D D D<|Bo D D D D<|Bo D D D D<|Bo D D D D<|Bo D D D D<|GU D D<|A3 D<|Bo D D D D<|Bo D D D D<|Bo D D D D<|Bo D D D D<|Bo D D D D<|Bo D D D D<|Bo D D D D<|Bo D D D D<|Bo D D D D<|Bo D D D D<|Bo D D D D<|Bo D D D D<|Bo D D D D<|Bo D D D D<|GU D D<|Ff D<|Er<|G<|AA<|AX<|AZ D<|?_
   exact⟨_,D,d⟩
  ·
   refine X7 ax D D<|A3 D<|BI D D D<|A3 D<|BI D D D<|Ee D<|BI D D D<|Cx CP 0 D<|BI D D D<|Dx GS 0 A D D<|BI D D D<|Ee D<|BI D D D<|Cx Cc 5 D<|BI D D D<|Dx Eo 5 u D D<|BI D D D<|A3 D<|?_
   obtain⟨bA,ay,rfl⟩:=Ca (ar.below d)
   obtain⟨az,aQ⟩:=getD_some (L:=AV) (j:=V.p) D (by omega)
   have aR:=BJ En (ar.below d) aQ (o:=ay+V.p*1)
   refine BI D D D<|C0 DK V.p (ay+V.p*1) D D<|BI D D D<|Dw AH (Dh [] (E az) [] aR D) D<|?_
   by_cases aA:((az:Nat):Int)=((2:Nat):Int)
   ·
    refine BI D D D<|J0 aA D D<|G' D D<|A3 D<|BI D D D<|A3 D<|BI D D D<|Ee D<|BI D D D<|Cx CP 0 D<|BI D D D<|Dx GS 0 A D D<|BI D D D<|Ee D<|BI D D D<|Cx Cc 6 D<|BI D D D<|Dx FN 6 u D D<|BI D D D<|A3 D<|?_
    obtain⟨S,aB⟩:=getD_some (L:=Ay) (j:=V.p) D (by omega)
    have aS:=BJ FO (aa.below d) aB (o:=U+V.p*102)
    refine BI D D D<|C0 EL V.p (U+V.p*102) D D<|BI D D D<|Cx BD (U+V.p*102+1) D<|BI D D D<|Dw AH (Dh [[E S.ZI]] (E S.l) [[E S.r],[E S.lc],[E S.rc],bv S.ls.l,bv S.rs.l,bv S.k.l,[F S.s.p S.s.v.length S.s.c]] aS D) D<|BI D D D<|Cx BD 1 D<|BI D D D<|Dx AH 1 B D D<|?_
    by_cases aC:((S.l:Nat):Int)=((C.l:Nat):Int)
    ·
     refine BI D D D<|J0 aC D D<|G' D D<|A3 D<|BI D D D<|A3 D<|BI D D D<|Ee D<|BI D D D<|Cx CP 0 D<|BI D D D<|Dx GS 0 A D D<|BI D D D<|Ee D<|BI D D D<|Cx Cc 6 D<|BI D D D<|Dx FN 6 u D D<|BI D D D<|A3 D<|?_
     have aT:=BJ FO (aa.below d) aB (o:=U+V.p*102)
     refine BI D D D<|C0 EL V.p (U+V.p*102) D D<|BI D D D<|Cx BD (U+V.p*102+2) D<|BI D D D<|Dw AH (Dh [[E S.ZI],[E S.l]] (E S.r) [[E S.lc],[E S.rc],bv S.ls.l,bv S.rs.l,bv S.k.l,[F S.s.p S.s.v.length S.s.c]] aT D) D<|BI D D D<|Cx BD 2 D<|BI D D D<|Dx AH 2 B D D<|?_
     by_cases aD:((S.r:Nat):Int)=((C.r:Nat):Int)
     ·
      refine BI D D D<|J0 aD D D<|G' D D<|Ff D<|Er<|G<|AA<|AX<|AZ D<|?_
      exact⟨_,D,d⟩
     ·
      refine BI D D D<|Kc aD D D<|G' D D<|Ff D<|Er<|G<|AA<|AX<|AZ D<|?_
      exact⟨_,D,d⟩
    ·
     refine BI D D D<|Kc aC D D<|G' D D<|A3 D<|Bo D D D D<|Bo D D D D<|Bo D D D D<|Bo D D D D<|Bo D D D D<|Bo D D D D<|Bo D D D D<|Bo D D D D<|Bo D D D D<|Bo D D D D<|Bo D D D D<|Bo D D D D<|Bo D D D D<|Bo D D D D<|GU D D<|Ff D<|Er<|G<|AA<|AX<|AZ D<|?_
     exact⟨_,D,d⟩
   ·
    refine BI D D D<|Kc aA D D<|G' D D<|A3 D<|Bo D D D D<|Bo D D D D<|Bo D D D D<|Bo D D D D<|Bo D D D D<|Bo D D D D<|Bo D D D D<|Bo D D D D<|Bo D D D D<|Bo D D D D<|Bo D D D D<|Bo D D D D<|Bo D D D D<|Bo D D D D<|GU D D<|A3 D<|Bo D D D D<|Bo D D D D<|Bo D D D D<|Bo D D D D<|Bo D D D D<|Bo D D D D<|Bo D D D D<|Bo D D D D<|Bo D D D D<|Bo D D D D<|Bo D D D D<|Bo D D D D<|Bo D D D D<|Bo D D D D<|GU D D<|Ff D<|Er<|G<|AA<|AX<|AZ D<|?_
    exact⟨_,D,d⟩
 ·
  refine AE<|G<|K<|K<|N<|O (v:=(E 0)) D<|M<|G<|A2<|?_
  intro a J
  refine Cb (fun aU a W=>∃i,aU=Bz.length - i∧Ao 123 a (Ja (Ja (Ja Je 0 (AB b)) 9 (AB ai)) 11 (E i))∧i≤Bz.length∧Below w.heap.size w W∧Ai W sb [[E wd],[E ge],[E AD],[E Ab],[E Ak],[F Bp AV.length AY],[F (some ⟨b2,U,none⟩) Ay.length As],[F qr AM.length AR],[F By AN.length AG],[F AO Aq.length AJ],[DU],[F AQ 257 ce]] 66∧Ai W b [[AB sb],[E fresh],[E next],[F CU Bz.length B4],[IH],[Br Fj]] 148∧Ai W av [bv k.l] 51∧Ai W ai [[E C.ZI],[E C.l],[E C.r],[E C.lc],[E C.rc],bv C.ls.l,bv C.rs.l,bv C.k.l,[F C.s.p C.s.v.length C.s.c]] 127) _ ⟨0,D,At J,by omega,d,u,A,H,B⟩ ?_
  rintro _ a bB ⟨i,rfl,J,bC,d,u,A,H,B⟩
  revert a
  refine K<|K<|N<|I D<|I D<|Bt D<|Am CP 3 D<|AK Ds 3 A D D<|BY Ds D<|B5 D D<|M<|G<|Bl D (fun aV=>?_) fun aV=>?_
  ·
   refine AE<|G<|K<|A2<|K<|?_
   intro a J
   refine C7 (fun W=>Below w.heap.size w W∧Ai W sb [[E wd],[E ge],[E AD],[E Ab],[E Ak],[F Bp AV.length AY],[F (some ⟨b2,U,none⟩) Ay.length As],[F qr AM.length AR],[F By AN.length AG],[F AO Aq.length AJ],[DU],[F AQ 257 ce]] 66∧Ai W b [[AB sb],[E fresh],[E next],[F CU Bz.length B4],[IH],[Br Fj]] 148∧Ai W av [bv k.l] 51∧Ai W ai [[E C.ZI],[E C.l],[E C.r],[E C.lc],[E C.rc],bv C.ls.l,bv C.rs.l,bv C.k.l,[F C.s.p C.s.v.length C.s.c]] 127) ?_
   intro bD P R
   have u:=Q u R
   have A:=Q A R
   have H:=Q H R
   have B:=Q B R
   have d:=Ah d R
   clear P
   revert a
   refine Bk 0 D D ⟨d,u,A,H,B⟩<|CF 1 D D ⟨d,u,A,H,B⟩<|BW 2 D CP 0 D ⟨d,u,A,H,B⟩<|A5 3 D (fun W Y a J=>by obtain⟨d,u,A,H,B⟩:=Y;exact Cl J D GS D [] (AB sb) [[E fresh],[E next],[F CU Bz.length B4],[IH],[Br Fj]] A D) ⟨d,u,A,H,B⟩<|CF 4 D D ⟨d,u,A,H,B⟩<|BW 5 D Cc 6 D ⟨d,u,A,H,B⟩<|A5 6 D (fun W Y a J=>by obtain⟨d,u,A,H,B⟩:=Y;exact Cl J D FN D [[E wd],[E ge],[E AD],[E Ab],[E Ak],[F Bp AV.length AY]] (F (some ⟨b2,U,none⟩) Ay.length As) [[F qr AM.length AR],[F By AN.length AG],[F AO Aq.length AJ],[DU],[F AQ 257 ce]] u D) ⟨d,u,A,H,B⟩<|Bk 7 D D ⟨d,u,A,H,B⟩<|CF 8 D D ⟨d,u,A,H,B⟩<|BW 9 D CP 3 D ⟨d,u,A,H,B⟩<|A5 10 D (fun W Y a J=>by obtain⟨d,u,A,H,B⟩:=Y;exact Cl J D Ds D [[AB sb],[E fresh],[E next]] (F CU Bz.length B4) [[IH],[Br Fj]] A D) ⟨d,u,A,H,B⟩<|Bk 11 D D ⟨d,u,A,H,B⟩<|?_
   obtain⟨bE,ak,rfl⟩:=Ca (ag.below d)
   obtain⟨Z,aE⟩:=getD_some (L:=Bz) (j:=i) D (by omega)
   refine GY 12 D DW i (ak+i*66) D D ⟨d,u,A,H,B⟩<|BW 13 D DE (ak+i*66+1) D ⟨d,u,A,H,B⟩<|?_
   have bF:=ah Z (List.mem_of_getElem? aE)
   refine A5 14 D (fun W Y a J=>by obtain⟨d,u,A,H,B⟩:=Y;have aW:=BJ D3 (ag.below d) aE (o:=ak+i*66);exact D1 J D AH D (Dh [[E Z.b]] (E Z.p) [bv Z.k.l,bv Z.s.l] aW D)) ⟨d,u,A,H,B⟩<|?_
   obtain⟨g,aF⟩:=getD_some (L:=Ay) (j:=Z.p) D (by omega)
   refine GY 15 D EL Z.p (U+Z.p*102) D D ⟨d,u,A,H,B⟩<|A5 16 D (fun W Y a J=>by obtain⟨d,u,A,H,B⟩:=Y;have aX:=BJ FO (aa.below d) aF (o:=U+Z.p*102);exact H9 J D BD D (mid:=[[E g.ZI],[E g.l],[E g.r],[E g.lc],[E g.rc],bv g.ls.l,bv g.rs.l,bv g.k.l,[F g.s.p g.s.v.length g.s.c]]) (HM [] [[E g.ZI],[E g.l],[E g.r],[E g.lc],[E g.rc],bv g.ls.l,bv g.rs.l,bv g.k.l,[F g.s.p g.s.v.length g.s.c]] [] aX D (by first|rfl|omega)) (Cf 102)) ⟨d,u,A,H,B⟩<|?_
   intro aY al
   refine A8 17 1 D D ?_
   intro Aa an
   refine Fq al D (z:=(Value.agg (flat [[E 0],[E 0],[E 0],[E 0],[E 0],Av 32,Av 32,Av 32,[F none 0 0]]))) (by kernel_rfl) (ss:=[[E 0],[E 0],[E 0],[E 0],[E 0],Av 32,Av 32,Av 32,[F none 0 0]]) D ?_
   intro a aZ bG T J P ab R
   have bH:=Bg d T
   have bI:=AP u T
   have bJ:=AP A T
   have bK:=AP H T
   have bL:=AP B T
   have u:=Q u R
   have A:=Q A R
   have H:=Q H R
   have B:=Q B R
   have d:=Ah d R
   clear P
   refine an _ _ ⟨d,u,A,H,B⟩ ?_;revert a
   intro aY al
   refine A8 18 0 D D ?_
   intro Aa an
   refine Gs al D [] [[E 0],[E 0],[E 0],[E 0],[E 0],Av 32,Av 32,Av 32,[F none 0 0]] [] [[E g.ZI],[E g.l],[E g.r],[E g.lc],[E g.rc],bv g.ls.l,bv g.rs.l,bv g.k.l,[F g.s.p g.s.v.length g.s.c]] ab D D (Eq.trans (Jb.one (Jb.one (Jb.one (Jb.one (Jb.one (Jb.row (Jg 32) (Jb.row (Jg 32) (Jb.row (Jg 32) (Jb.one Jb.nil))))))))) (Eq.symm (Jb.one (Jb.one (Jb.one (Jb.one (Jb.one (Jb.row g.ls.row (Jb.row g.rs.row (Jb.row g.k.row (Jb.one Jb.nil))))))))))) (Cf 102) (Jc.one D (Jc.one D (Jc.one D (Jc.one D (Jc.one D (Jc.row g.ls.row (Jc.row g.rs.row (Jc.row g.k.row (Jc.one D Jc.nil))))))))) ?_
   intro a a0 J P aj ad
   have u:=Ag ad u (by omega)
   have A:=Ag ad A (by omega)
   have H:=Ag ad H (by omega)
   have B:=Ag ad B (by omega)
   have d:=A1 d ad
   have ab:Ai a0 aZ [[E g.ZI],[E g.l],[E g.r],[E g.lc],[E g.rc],bv g.ls.l,bv g.rs.l,bv g.k.l,[F g.s.p g.s.v.length g.s.c]] 127:=aj;clear P
   refine an _ _ ⟨d,u,A,H,B⟩ ?_;revert a
   refine B_<|G<|K<|N<|Am BD 0 D<|AK AH 0 ab D D<|?_
   by_cases aG:((g.ZI:Nat):Int)=((1:Nat):Int)
   ·
    refine D5 aG D D<|I D<|Ad D D D<|Am BD 69 D<|Ad D D D<|Eu Ce 7 1 [bv g.k.l] ab D<|Ad D D D<|Am BD 69 D<|Ad D D D<|Eu Ce 7 1 [bv C.k.l] B D<|?_
    by_cases aH:g.k.l=C.k.l
    ·
     refine Ad D D D<|AT (fun _ J=>KN J g.k.h C.k.h D D true (decide_eq_true aH))<|Bn D D<|I D<|Ad D D D<|Am BD 101 D<|Ad D D D<|AK Cr 8 ab D D<|?_
     have a1:View w (.slice g.s.p g.s.v.length g.s.c) g.s.v.length 1 (bv g.s.v):=au g (List.mem_of_getElem? aF)
     refine Ad D D D<|AT (fun _ J=>H_ J A0 BA HG D (a1.below d) D)<|Ad D D D<|Am BD 101 D<|Ad D D D<|AK Cr 8 B D D<|?_
     have a2:View w (.slice C.s.p C.s.v.length C.s.c) C.s.v.length 1 (bv C.s.v):=au C (List.mem_of_getElem? aw)
     refine Ad D D D<|AT (fun _ J=>H_ J A0 BA HG D (a2.below d) D)<|?_
     by_cases aI:g.s.v=C.s.v
     ·
      refine Ad D D D<|AT (fun _ J=>J8 J D D true (decide_eq_true aI))<|Bn D D<|M<|G<|BS D<|K<|N<|O D<|M<|G<|AA<|C1<|AX<|AX<|C1<|AX<|AZ D<|?_
      exact⟨_,D,d⟩
     ·
      refine Ad D D D<|AT (fun _ J=>J8 J D D false (decide_eq_false aI))<|Bn D D<|M<|G<|BE D<|AE<|Bq<|G<|N<|I D<|A_ (q:=1) D D<|O D<|M<|G<|?_
      intro a J
      exact⟨_,by omega,i+1,D,At J,by omega,d,u,A,H,B⟩
    ·
     refine Ad D D D<|AT (fun _ J=>KN J g.k.h C.k.h D D false (decide_eq_false aH))<|Bn D D<|I D<|Ae D D D D<|Ae D D D D<|Ae D D D D<|Ae D D D D<|Ae D D D D<|Ae D D D D<|Ae D D D D<|Ba D D<|M<|G<|BE D<|AE<|Bq<|G<|N<|I D<|A_ (q:=1) D D<|O D<|M<|G<|?_
     intro a J
     exact⟨_,by omega,i+1,D,At J,by omega,d,u,A,H,B⟩
   ·
    refine E0 aG D D<|I D<|Ae D D D D<|Ae D D D D<|Ae D D D D<|Ae D D D D<|Ae D D D D<|Ba D D<|I D<|Ae D D D D<|Ae D D D D<|Ae D D D D<|Ae D D D D<|Ae D D D D<|Ae D D D D<|Ae D D D D<|Ba D D<|M<|G<|BE D<|AE<|Bq<|G<|N<|I D<|A_ (q:=1) D D<|O D<|M<|G<|?_
    intro a J
    exact⟨_,by omega,i+1,D,At J,by omega,d,u,A,H,B⟩
  ·
   refine BO<|AW<|AW<|BN<|G<|K<|N<|O D<|M<|G<|AA<|AZ D<|?_
   exact⟨_,D,d⟩
theorem Wl{b:Nat}{z:EC}(aW:Aj≤w.heap.size)(C:GH Aj Fp w z)(u:w.heap[sb]? =some (.cells (flat (z.HD DU)) 66 (0,0))){h:Nat}(ak:CT w)(aD:p<z.AD)(au:∀y,z.Ay[p]? =some y→y.ZI≠1→1≤h)(aX:h≤256):
 Calls Tryz.prog 100 #[AB sb,E p,E h] w fun e w'=>∃d:Jd,e=.returned (.agg (flat [bv d.l]))∧Below w.heap.size w w':=by
 obtain⟨wd,ge,AD,Ab,Ak,Bp,AY,AV,Bv,As,Ay,qr,AR,AM,By,AG,AN,AO,AJ,Aq,AQ,ce,Cp⟩:=z
 have av:Cp.length=257:=C.el
 have aY:AV.length=AD:=C.ar
 have a0:Ay.length=AD:=C.nl
 have a1:AM.length=AD:=C.aG
 have a3:∀p∈AN,p<AD:=C.E9
 have a4:AD≤4096:=C.m
 have aE:∀y∈Ay,Fl y:=C.ZL
 have a6:∀y∈AM,y.v<4294967296∧y.f<4294967296∧y.ZG<4294967296∧y.ZZ<4294967296∧y.r<4294967296∧y.c<4294967296:=C.ZK
 have u:Ai w sb [[E wd],[E ge],[E AD],[E Ab],[E Ak],[F Bp AV.length AY],[F Bv Ay.length As],[F qr AM.length AR],[F By AN.length AG],[F AO Aq.length AJ],[DU],[F AQ 257 ce]] 66:=u
 have a_:View w (.slice Bp AV.length AY) AV.length 1 (Al Ct AV):=C.k.v
 have aw:View w (.slice Bv Ay.length As) Ay.length 102 (Al Dd Ay):=C.n.v
 have a':View w (.slice qr AM.length AR) AM.length 38 (Al DY AM):=C.r.v
 have ba:View w (.slice By AN.length AG) AN.length 1 (Al Ct AN):=C.a.v
 have bb:View w (.slice AO Aq.length AJ) Aq.length 1 (Al EP Aq):=C.t.v
 have Y:View w (.slice AQ 257 ce) 257 32 (Al Ex Cp):=C.e.v
 have aF:∀x∈Ay,B8.ok w x.s:=fun x aG=>(C.ZM x aG).ok
 have g:Below w.heap.size w w:=Bu _ _
 have bd:Cd Aj Fp w w:=Cd.refl _ _ _
 dsimp only at aD au
 refine Bx Pk D 73 ?_
 refine K<|N<|BQ [Av 32] ?_
 intro Z bf J C A H
 have bg:=Bg g J
 have bh:=AP u J
 have u:=Q u H
 have g:=Ah g H
 rw[Du]at A
 refine M<|G<|K<|N<|I D<|Bt D<|Am Cc 6 D<|AK FN 6 u D D<|I D<|?_
 obtain⟨b2,aa,rfl⟩:=Ca (aw.below g)
 obtain⟨i,ab⟩:=getD_some (L:=Ay) (j:=p) D (by omega)
 have aH:=BJ FO (aw.below g) ab (o:=aa+p*102)
 refine Cn EL p (aa+p*102) D D<|D9 BD 0 9 [[E i.ZI],[E i.l],[E i.r],[E i.lc],[E i.rc],bv i.ls.l,bv i.rs.l,bv i.k.l,[F i.s.p i.s.v.length i.s.c]] aH D<|BQ [[E 0],[E 0],[E 0],[E 0],[E 0],Av 32,Av 32,Av 32,[F none 0 0]] ?_
 intro ad bj J C B H
 have bk:=Bg g J
 have bl:=AP u J
 have bm:=AP A J
 have u:=Q u H
 have A:=Q A H
 have g:=Ah g H
 refine Bi 0 9 B D D ?_
 intro bn C an ao
 have u:=Ag ao u (by omega)
 have A:=Ag ao A (by omega)
 have g:=A1 g ao
 have B:=an
 refine M<|G<|K<|N<|?_
 have Gb:=aE i (List.mem_of_getElem? ab)
 have bo:=Gb.n
 have bp:=au i ab
 refine I D<|Bt D<|Am Cc 0 D<|Am Bw 0 D<|AK AH 0 u D D<|O D<|M<|G<|K<|K<|N<|Am BD 0 D<|AK AH 0 B D D<|Dk (q:=(1:Nat)) D D<|M<|G<|Bl D (fun aI=>?_) fun aI=>?_
 ·
  refine K<|N<|I D<|Am BD 69 D<|Eu Ce 7 1 [bv i.k.l] B D<|Am BD 101 D<|AK Cr 8 B D D<|?_
  intro bq aJ
  have aK:View w (.slice i.s.p i.s.v.length i.s.c) i.s.v.length 1 (bv i.s.v):=aF i (List.mem_of_getElem? ab)
  refine Bj D (fun Aa aL=>B0 aJ #[E wd,Value.agg (flat [bv i.k.l]),F i.s.p i.s.v.length i.s.c] My (NF ((wd:Nat):Int) i.k _ _ _ _ _ (ak.below g (Be _)) (by omega) (aK.below g) D) ?_)
  rintro _ br ⟨d10,rfl,ae⟩
  refine⟨_,D,?_⟩
  intro a P
  have u:=Q u ae
  have A:=Q A ae
  have B:=Q B ae
  have g:=Ah g ae
  refine aL _ _ ?_;revert a
  refine BQ [Av 32] ?_
  intro bs bt J C ax H
  have bu:=Bg g J
  have bw:=AP u J
  have bx:=AP A J
  have bz:=AP B J
  have u:=Q u H
  have A:=Q A H
  have B:=Q B H
  have g:=Ah g H
  rw[Du]at ax
  refine Bi 0 1 ax D D ?_
  intro bA C aq af
  have u:=Ag af u (by omega)
  have A:=Ag af A (by omega)
  have B:=Ag af B (by omega)
  have g:=A1 g af
  refine M<|G<|K<|?_
  intro a P
  refine EJ 9 ?_
  intro bB C H
  have u:=Q u H
  have A:=Q A H
  have B:=Q B H
  have aq:=Q aq H
  have g:=Ah g H
  revert a
  refine A3 D<|Ee D<|Cx Cc 11 D<|Dx ID 11 u D D<|A3 D<|Cx BD 69 D<|Nj Ce 7 1 [bv i.k.l] B D<|Ht BZ aq D<|A3 D<|?_
  intro a P;refine EG ?_;revert a
  refine AS Lo D (LS _ _ Cp ((wd:Nat):Int) i.k ((0:Nat):Int) d10 ((h:Nat):Int) _ (ak.below g (Be _)) (Y.below g) av) ?_
  rintro _ bC ⟨d18,rfl,ay⟩
  refine⟨_,D,?_⟩
  have A:=Q A ay
  have g:=Ah g ay
  refine Bi 0 1 A D D ?_
  intro bD C aM aN
  have g:=A1 g aN
  refine M<|G<|AA<|AX<|?_
  intro a P
  refine E4 P D D aM BZ D (Cf 32) ?_
  exact⟨⟨d18.l,d18.h⟩,D,g⟩
 ·
  refine AE<|G<|K<|N<|I D<|Bt D<|Am Cc 11 D<|AK ID 11 u D D<|I D<|E' (q:=1) D D<|?_
  obtain⟨az,T,rfl⟩:=Ca (Y.below g)
  obtain⟨ar,aA⟩:=getD_some (L:=Cp) (j:=h - 1) av (by omega)
  have aO:=BJ G8 (Y.below g) aA (o:=T+(h - 1)*32)
  refine Cn HF (h - 1) (T+(h - 1)*32) D D<|D9 BZ 0 1 [bv ar.l] aO D<|BQ [Av 32] ?_
  intro ag bE J C aB H
  have bF:=Bg g J
  have bG:=AP u J
  have bH:=AP A J
  have bI:=AP B J
  have u:=Q u H
  have A:=Q A H
  have B:=Q B H
  have g:=Ah g H
  rw[Du]at aB
  refine Bi 0 1 aB D D ?_
  intro bJ C R ah
  have u:=Ag ah u (by omega)
  have A:=Ag ah A (by omega)
  have B:=Ag ah B (by omega)
  have g:=A1 g ah
  refine M<|G<|K<|N<|I D<|Bt D<|Am Cc 11 D<|AK ID 11 u D D<|I D<|E' (q:=1) D D<|?_
  have aP:=BJ G8 (Y.below g) aA (o:=T+(h - 1)*32)
  refine Cn HF (h - 1) (T+(h - 1)*32) D D<|D9 BZ 0 1 [bv ar.l] aP D<|BQ [Av 32] ?_
  intro ai bK J C S H
  have bL:=Bg g J
  have bM:=AP u J
  have bN:=AP A J
  have bO:=AP B J
  have bP:=AP R J
  have u:=Q u H
  have A:=Q A H
  have B:=Q B H
  have R:=Q R H
  have g:=Ah g H
  rw[Du]at S
  refine Bi 0 1 S D D ?_
  intro CM C an U
  have u:=Ag U u (by omega)
  have A:=Ag U A (by omega)
  have B:=Ag U B (by omega)
  have R:=Ag U R (by omega)
  have g:=A1 g U
  have S:=an
  refine M<|G<|?_
  intro a P
  refine ES (fun a W=>∃aj:Jd,Ao 73 a (Ja (Ja (Ja (Ja (Ja Je 6 (AB Z)) 7 (AB ad)) 8 (E wd)) 10 (AB ag)) 11 (AB ai))∧Below w.heap.size w W∧Ai W sb [[E wd],[E ge],[E AD],[E Ab],[E Ak],[F Bp AV.length AY],[F (some ⟨b2,aa,none⟩) Ay.length As],[F qr AM.length AR],[F By AN.length AG],[F AO Aq.length AJ],[DU],[F (some ⟨az,T,none⟩) 257 ce]] 66∧Ai W Z [bv (List.replicate 32 0)] 125∧Ai W ad [[E i.ZI],[E i.l],[E i.r],[E i.lc],[E i.rc],bv i.ls.l,bv i.rs.l,bv i.k.l,[F i.s.p i.s.v.length i.s.c]] 127∧Ai W ag [bv aj.l] 125∧Ai W ai [bv ar.l] 125) ?_ ?_
  ·
   revert a
   refine K<|N<|Am BD 1 D<|AK AH 1 B D D<|Fi (q:=(0:Nat)) D D<|M<|G<|E7 D (fun aQ=>?_) fun aQ=>?_
   ·
    refine N<|Am BD 5 D<|Eu BZ 5 1 [bv i.ls.l] B D<|Bi 0 1 R D D ?_
    intro bQ C aR V
    have u:=Ag V u (by omega)
    have A:=Ag V A (by omega)
    have B:=Ag V B (by omega)
    have S:=Ag V S (by omega)
    have g:=A1 g V
    refine M<|G<|?_
    intro a P
    exact⟨_,At P,g,u,A,B,aR,S⟩
   ·
    refine AE<|G<|?_
    intro a P
    exact⟨_,At P,g,u,A,B,R,S⟩
  ·
   rintro a bR ⟨aj,P,g,u,A,B,R,S⟩
   refine ES (fun a W=>∃Dl:Jd,Ao 73 a (Ja (Ja (Ja (Ja (Ja Je 6 (AB Z)) 7 (AB ad)) 8 (E wd)) 10 (AB ag)) 11 (AB ai))∧Below w.heap.size w W∧Ai W sb [[E wd],[E ge],[E AD],[E Ab],[E Ak],[F Bp AV.length AY],[F (some ⟨b2,aa,none⟩) Ay.length As],[F qr AM.length AR],[F By AN.length AG],[F AO Aq.length AJ],[DU],[F (some ⟨az,T,none⟩) 257 ce]] 66∧Ai W Z [bv (List.replicate 32 0)] 125∧Ai W ad [[E i.ZI],[E i.l],[E i.r],[E i.lc],[E i.rc],bv i.ls.l,bv i.rs.l,bv i.k.l,[F i.s.p i.s.v.length i.s.c]] 127∧Ai W ag [bv aj.l] 125∧Ai W ai [bv Dl.l] 125) ?_ ?_
   ·
    revert a
    refine K<|N<|Am BD 2 D<|AK AH 2 B D D<|Fi (q:=(0:Nat)) D D<|M<|G<|E7 D (fun aS=>?_) fun aS=>?_
    ·
     refine N<|Am BD 37 D<|Eu BZ 6 1 [bv i.rs.l] B D<|Bi 0 1 S D D ?_
     intro bS C aT X
     have u:=Ag X u (by omega)
     have A:=Ag X A (by omega)
     have B:=Ag X B (by omega)
     have R:=Ag X R (by omega)
     have g:=A1 g X
     refine M<|G<|?_
     intro a P
     exact⟨_,At P,g,u,A,B,R,aT⟩
    ·
     refine AE<|G<|?_
     intro a P
     exact⟨_,At P,g,u,A,B,R,S⟩
   ·
    rintro a bT ⟨Dl,P,g,u,A,B,R,S⟩
    revert a
    refine K<|N<|I D<|BP BZ R D<|BP BZ S D<|AS I6 D (JM ((wd:Nat):Int) aj Dl _ (ak.below g (Be _))) ?_
    rintro _ bU ⟨d42,rfl,aC⟩
    refine⟨_,D,?_⟩
    have A:=Q A aC
    have g:=Ah g aC
    refine Bi 0 1 A D D ?_
    intro bV C aU aV
    have g:=A1 g aV
    refine M<|G<|AA<|?_
    intro a P
    refine E4 P D D aU BZ D (Cf 32) ?_
    exact⟨⟨d42.l,d42.h⟩,D,g⟩
theorem N2{b:Nat}{z:EC}(S:Aj≤w.heap.size)(d:GH Aj Fp w z)(g:w.heap[sb]? =some (.cells (flat (z.HD DU)) 66 (0,0))){i:Nat}(T:i≤1000000)(J:2≤z.AD):
 Calls Tryz.prog 61 #[AB sb,E i] w fun e w'=>∃r:Nat,r<z.AD∧e=.returned (.int .i64 ((r:Nat):Int))∧Below w.heap.size w w':=by
 obtain⟨wd,ge,AD,Ab,Ak,Bp,AY,AV,Bv,As,Ay,qr,AR,AM,By,AG,AN,AO,AJ,Aq,AQ,ce,Cp⟩:=z
 have U:Cp.length=257:=d.el
 have V:AV.length=AD:=d.ar
 have X:Ay.length=AD:=d.nl
 have Y:AM.length=AD:=d.aG
 have P:∀p∈AN,p<AD:=d.E9
 have aa:AD≤4096:=d.m
 have ab:∀y∈Ay,Fl y:=d.ZL
 have ae:∀y∈AM,y.v<4294967296∧y.f<4294967296∧y.ZG<4294967296∧y.ZZ<4294967296∧y.r<4294967296∧y.c<4294967296:=d.ZK
 have g:Ai w sb [[E wd],[E ge],[E AD],[E Ab],[E Ak],[F Bp AV.length AY],[F Bv Ay.length As],[F qr AM.length AR],[F By AN.length AG],[F AO Aq.length AJ],[DU],[F AQ 257 ce]] 66:=g
 have ai:View w (.slice Bp AV.length AY) AV.length 1 (Al Ct AV):=d.k.v
 have aj:View w (.slice Bv Ay.length As) Ay.length 102 (Al Dd Ay):=d.n.v
 have ak:View w (.slice qr AM.length AR) AM.length 38 (Al DY AM):=d.r.v
 have l:View w (.slice By AN.length AG) AN.length 1 (Al Ct AN):=d.a.v
 have al:View w (.slice AO Aq.length AJ) Aq.length 1 (Al EP Aq):=d.t.v
 have an:View w (.slice AQ 257 ce) 257 32 (Al Ex Cp):=d.e.v
 have ao:∀x∈Ay,B8.ok w x.s:=fun x Q=>(d.ZM x Q).ok
 have h:Below w.heap.size w w:=Bu _ _
 dsimp only at J
 refine Bx LU D 24 ?_
 refine K<|N<|O (v:=(E 0)) D<|M<|G<|K<|K<|N<|I D<|?_
 by_cases u:((i:Nat):Int)<((1:Nat):Int)
 ·
  refine D8 u D D<|I D<|Ae D D D D<|Ae D D D D<|Ae D D D D<|Ae D D D D<|Ae D D D D<|Ae D D D D<|Ae D D D D<|Bn D D<|M<|G<|BS D<|K<|N<|O (v:=(E 0)) D<|M<|G<|AA<|AX<|AZ D<|?_
  exact⟨0,by dsimp only;omega,D,h⟩
 ·
  refine DO u D D<|I D<|Ad D D D<|I D<|Ad D D D<|I D<|Ad D D D<|Bt D<|Ad D D D<|Am Cc 8 D<|Ad D D D<|AK Eo 8 g D D<|Ad D D D<|BY Eo D<|?_
  by_cases A:((AN.length:Nat):Int)<((i:Nat):Int)
  ·
   refine Ad D D D<|Gp A D D<|Ba D D<|M<|G<|BS D<|K<|N<|O (v:=(E 0)) D<|M<|G<|AA<|AX<|AZ D<|?_
   exact⟨0,by dsimp only;omega,D,h⟩
  ·
   refine Ad D D D<|FV A D D<|Ba D D<|M<|G<|BE D<|AE<|G<|K<|N<|I D<|Bt D<|Am Cc 8 D<|AK Eo 8 g D D<|I D<|E' (q:=1) D D<|?_
   obtain⟨ar,B,rfl⟩:=Ca l
   obtain⟨C,H⟩:=getD_some (L:=AN) (j:=i - 1) D (by omega)
   have R:=BJ En l H (o:=B+(i - 1)*1)
   refine Cn DK (i - 1) (B+(i - 1)*1) D D<|Cg AH (Dh [] (E C) [] R D) D<|O D<|M<|G<|AA<|AZ D<|?_
   exact⟨_,P C (List.mem_of_getElem? H),D,h⟩
theorem W1{b:Nat}{z:EC}(Z:Aj≤w.heap.size)(B:GH Aj Fp w z)(g:w.heap[sb]? =some (.cells (flat (z.HD DU)) 66 (0,0))){i:Nat}(aE:i<z.AN.length)(aS:i≤1000000)(af:2≤z.AD):
 Calls Tryz.prog 60 #[AB sb,E i] w fun e w'=>∃t:Bool,e=.returned (.bool t)∧Below w.heap.size w w':=by
 obtain⟨wd,ge,AD,Ab,Ak,Bp,AY,AV,Bv,As,Ay,qr,AR,AM,By,AG,AN,AO,AJ,Aq,AQ,ce,Cp⟩:=z
 have aT:Cp.length=257:=B.el
 have aU:AV.length=AD:=B.ar
 have aW:Ay.length=AD:=B.nl
 have aX:AM.length=AD:=B.aG
 have ag:∀p∈AN,p<AD:=B.E9
 have aZ:AD≤4096:=B.m
 have a0:∀y∈Ay,Fl y:=B.ZL
 have aq:∀y∈AM,y.v<4294967296∧y.f<4294967296∧y.ZG<4294967296∧y.ZZ<4294967296∧y.r<4294967296∧y.c<4294967296:=B.ZK
 have g:Ai w sb [[E wd],[E ge],[E AD],[E Ab],[E Ak],[F Bp AV.length AY],[F Bv Ay.length As],[F qr AM.length AR],[F By AN.length AG],[F AO Aq.length AJ],[DU],[F AQ 257 ce]] 66:=g
 have a3:View w (.slice Bp AV.length AY) AV.length 1 (Al Ct AV):=B.k.v
 have a4:View w (.slice Bv Ay.length As) Ay.length 102 (Al Dd Ay):=B.n.v
 have ah:View w (.slice qr AM.length AR) AM.length 38 (Al DY AM):=B.r.v
 have ai:View w (.slice By AN.length AG) AN.length 1 (Al Ct AN):=B.a.v
 have a5:View w (.slice AO Aq.length AJ) Aq.length 1 (Al EP Aq):=B.t.v
 have a6:View w (.slice AQ 257 ce) 257 32 (Al Ex Cp):=B.e.v
 have a7:∀x∈Ay,B8.ok w x.s:=fun x aF=>(B.ZM x aF).ok
 have d:Below w.heap.size w w:=Bu _ _
 have ar:Cd Aj Fp w w:=Cd.refl _ _ _
 dsimp only at af aE
 refine Bx RH D 69 ?_
 refine K<|N<|O D<|M<|G<|K<|?_
 intro a A
 refine C7 (fun W=>Below w.heap.size w W∧Ai W sb [[E wd],[E ge],[E AD],[E Ab],[E Ak],[F Bp AV.length AY],[F Bv Ay.length As],[F qr AM.length AR],[F By AN.length AG],[F AO Aq.length AJ],[DU],[F AQ 257 ce]] 66) ?_
 intro a9 B H
 have g:=Q g H
 have d:=Ah d H
 clear B
 revert a
 refine Bk 0 D D ⟨d,g⟩<|CF 1 D D ⟨d,g⟩<|BW 2 D Cc 7 D ⟨d,g⟩<|A5 3 D (fun W C a A=>by obtain⟨d,g⟩:=C;exact Cl A D Hb D [[E wd],[E ge],[E AD],[E Ab],[E Ak],[F Bp AV.length AY],[F Bv Ay.length As]] (F qr AM.length AR) [[F By AN.length AG],[F AO Aq.length AJ],[DU],[F AQ 257 ce]] g D) ⟨d,g⟩<|Bk 4 D D ⟨d,g⟩<|CF 5 D D ⟨d,g⟩<|BW 6 D Cc 8 D ⟨d,g⟩<|A5 7 D (fun W C a A=>by obtain⟨d,g⟩:=C;exact Cl A D Eo D [[E wd],[E ge],[E AD],[E Ab],[E Ak],[F Bp AV.length AY],[F Bv Ay.length As],[F qr AM.length AR]] (F By AN.length AG) [[F AO Aq.length AJ],[DU],[F AQ 257 ce]] g D) ⟨d,g⟩<|Bk 8 D D ⟨d,g⟩<|?_
 obtain⟨aa,V,rfl⟩:=Ca (ai.below d)
 obtain⟨X,aj⟩:=getD_some (L:=AN) (j:=i) D (by omega)
 refine GY 9 D DK i (V+i*1) D D ⟨d,g⟩<|A5 10 D (fun W C a A=>by obtain⟨d,g⟩:=C;have aG:=BJ En (ai.below d) aj (o:=V+i*1);exact D1 A D AH D (Dh [] (E X) [] aG D)) ⟨d,g⟩<|?_
 have aH:=ag X (List.mem_of_getElem? aj)
 obtain⟨ab,T,rfl⟩:=Ca (ah.below d)
 obtain⟨u,au⟩:=getD_some (L:=AM) (j:=X) D (by omega)
 refine GY 11 D F_ X (T+X*38) D D ⟨d,g⟩<|A5 12 D (fun W C a A=>by obtain⟨d,g⟩:=C;have aI:=BJ Ha (ah.below d) au (o:=T+X*38);exact H9 A D BV D (mid:=[[E u.v],[E u.f],[E u.ZG],[E u.ZZ],[E u.r],[E u.c],bv u.s.l]) (HM [] [[E u.v],[E u.f],[E u.ZG],[E u.ZZ],[E u.r],[E u.c],bv u.s.l] [] aI D (by first|rfl|omega)) (Cf 38)) ⟨d,g⟩<|?_
 intro ad R
 refine A8 13 1 D D ?_
 intro Aa U
 refine Fq R D (z:=(Value.agg (flat [[E 0],[E 0],[E 0],[E 0],[E 0],[E 0],Av 32]))) (by kernel_rfl) (ss:=[[E 0],[E 0],[E 0],[E 0],[E 0],[E 0],Av 32]) D ?_
 intro a ae a_ av A B h H
 have a':=Bg d av
 have ba:=AP g av
 have g:=Q g H
 have d:=Ah d H
 clear B
 refine U _ _ ⟨d,g⟩ ?_;revert a
 intro ad R
 refine A8 14 0 D D ?_
 intro Aa U
 refine Gs R D [] [[E 0],[E 0],[E 0],[E 0],[E 0],[E 0],Av 32] [] [[E u.v],[E u.f],[E u.ZG],[E u.ZZ],[E u.r],[E u.c],bv u.s.l] h D D (Eq.trans (Jb.one (Jb.one (Jb.one (Jb.one (Jb.one (Jb.one (Jb.row (Jg 32) Jb.nil))))))) (Eq.symm (Jb.one (Jb.one (Jb.one (Jb.one (Jb.one (Jb.one (Jb.row u.s.row Jb.nil))))))))) (Cf 38) (Jc.one D (Jc.one D (Jc.one D (Jc.one D (Jc.one D (Jc.one D (Jc.row u.s.row Jc.nil))))))) ?_
 intro a aJ A B aK aw
 have g:=Ag aw g (by omega)
 have d:=A1 d aw
 have h:Ai aJ ae [[E u.v],[E u.f],[E u.ZG],[E u.ZZ],[E u.r],[E u.c],bv u.s.l] 131:=aK;clear B
 refine U _ _ ⟨d,g⟩ ?_;revert a
 refine B_<|G<|K<|?_
 intro a A
 refine Gm (by kernel_rfl) (by kernel_rfl) ?_
 intro bb B H
 have g:=Q g H
 have h:=Q h H
 have d:=Ah d H
 clear B
 revert a
 refine A3 D<|Ee D<|Cx Cc 7 D<|Dx Hb 7 g D D<|A3 D<|Ee D<|Cx Cc 8 D<|Dx Eo 8 g D D<|?_
 obtain⟨Y,ax⟩:=getD_some (L:=AN) (j:=0) D (by omega)
 have aL:=BJ En (ai.below d) ax (o:=V+0*1)
 refine C0 DK 0 (V+0*1) D D<|Dw AH (Dh [] (E Y) [] aL D) D<|?_
 have aH:=ag X (List.mem_of_getElem? aj)
 have bc:=ag Y (List.mem_of_getElem? ax)
 obtain⟨S,ay⟩:=getD_some (L:=AM) (j:=Y) D (by omega)
 have aM:=BJ Ha (ah.below d) ay (o:=T+Y*38)
 refine C0 F_ Y (T+Y*38) D D<|Cx BV (T+Y*38+1) D<|Dw AH (Dh [[E S.v]] (E S.f) [[E S.ZG],[E S.ZZ],[E S.r],[E S.c],bv S.s.l] aM D) D<|?_
 have bd:=aq u (List.mem_of_getElem? au)
 have bf:=aq S (List.mem_of_getElem? ay)
 refine Ff D<|Er<|G<|K<|N<|I D<|A_ (q:=1) D D<|O D<|M<|G<|?_
 intro a A
 refine ES (fun a W=>∃ak,Ao 69 a (Ja (Ja (Ja (Ja (Ja (Ja Je 0 (AB sb)) 1 (E i)) 4 (Br false)) 5 (AB ae)) 6 (E S.f)) 7 (E ak))∧Below w.heap.size w W∧Ai W sb [[E wd],[E ge],[E AD],[E Ab],[E Ak],[F Bp AV.length AY],[F Bv Ay.length As],[F (some ⟨ab,T,none⟩) AM.length AR],[F (some ⟨aa,V,none⟩) AN.length AG],[F AO Aq.length AJ],[DU],[F AQ 257 ce]] 66∧Ai W ae [[E u.v],[E u.f],[E u.ZG],[E u.ZZ],[E u.r],[E u.c],bv u.s.l] 131) ?_ ?_
 ·
  revert a
  refine K<|N<|I D<|Ip (q:=(0:Nat)) D D<|M<|G<|Bl D (fun aN=>?_) fun aN=>?_
  ·
   refine N<|I D<|I D<|A_ D D<|O D<|M<|G<|?_
   intro a A
   exact⟨_,At A,d,g,h⟩
  ·
   refine AE<|G<|?_
   intro a A
   exact⟨_,At A,d,g,h⟩
 ·
  rintro a bg ⟨ak,A,d,g,h⟩
  revert a
  refine K<|?_
  intro a A
  refine C7 (fun W=>Below w.heap.size w W∧Ai W sb [[E wd],[E ge],[E AD],[E Ab],[E Ak],[F Bp AV.length AY],[F Bv Ay.length As],[F (some ⟨ab,T,none⟩) AM.length AR],[F (some ⟨aa,V,none⟩) AN.length AG],[F AO Aq.length AJ],[DU],[F AQ 257 ce]] 66∧Ai W ae [[E u.v],[E u.f],[E u.ZG],[E u.ZZ],[E u.r],[E u.c],bv u.s.l] 131) ?_
  intro bh B H
  have g:=Q g H
  have h:=Q h H
  have d:=Ah d H
  clear B
  revert a
  refine BW 0 D BV 1 D ⟨d,g,h⟩<|A5 1 D (fun W C a A=>by obtain⟨d,g,h⟩:=C;exact Cl A D AH D [[E u.v]] (E u.f) [[E u.ZG],[E u.ZZ],[E u.r],[E u.c],bv u.s.l] h D) ⟨d,g,h⟩<|Bk 2 D D ⟨d,g,h⟩<|?_
  by_cases az:((u.f:Nat):Int)=((S.f:Nat):Int)
  ·
   refine Ou 3 D az D D ⟨d,g,h⟩<|Bk 4 D D ⟨d,g,h⟩<|H5 5 D D D D BV 0 D ⟨d,g,h⟩<|EV 6 D D D D (fun W C a A=>by obtain⟨d,g,h⟩:=C;exact Cl A D AH D [] (E u.v) [[E u.f],[E u.ZG],[E u.ZZ],[E u.r],[E u.c],bv u.s.l] h D) ⟨d,g,h⟩<|He 7 D D D D D ⟨d,g,h⟩<|?_
   by_cases aA:((u.v:Nat):Int)=((ak:Nat):Int)
   ·
    refine NU 8 D D D D aA D D ⟨d,g,h⟩<|Hh 9 D D D ⟨d,g,h⟩<|Bk 10 D D ⟨d,g,h⟩<|H5 11 D D D D BV 2 D ⟨d,g,h⟩<|EV 12 D D D D (fun W C a A=>by obtain⟨d,g,h⟩:=C;exact Cl A D AH D [[E u.v],[E u.f]] (E u.ZG) [[E u.ZZ],[E u.r],[E u.c],bv u.s.l] h D) ⟨d,g,h⟩<|He 13 D D D D D ⟨d,g,h⟩<|He 14 D D D D D ⟨d,g,h⟩<|?_
    intro ad R
    refine JU (i:=15) (fuel:=13) D (I0 (j:=10) (t:=true) D D D R D) (by kernel_rfl) (by kernel_rfl) ?_
    intro Aa U
    refine B0 R #[AB sb,E i] LU (N2 (b:=sb) (z:=⟨wd,ge,AD,Ab,Ak,Bp,AY,AV,Bv,As,Ay,some ⟨ab,T,none⟩,AR,AM,some ⟨aa,V,none⟩,AG,AN,AO,AJ,Aq,AQ,ce,Cp⟩) (i:=i) (Bs Z d.size) (B.move (ar.trans (d.mono Z))) g (by omega) af) ?_
    rintro _ bj ⟨aO,aP,rfl,al⟩
    refine⟨_,D,?_⟩
    intro a A
    have g:=Q g al
    have h:=Q h al
    have d:=Ah d al
    dsimp only at aP
    refine U _ _ ⟨d,g,h⟩ ?_;revert a
    by_cases aB:((u.ZG:Nat):Int)=((aO:Nat):Int)
    ·
     refine NU 16 D D D D aB D D ⟨d,g,h⟩<|Hh 17 D D D ⟨d,g,h⟩<|Bk 18 D D ⟨d,g,h⟩<|H5 19 D D D D BV 3 D ⟨d,g,h⟩<|EV 20 D D D D (fun W C a A=>by obtain⟨d,g,h⟩:=C;exact Cl A D AH D [[E u.v],[E u.f],[E u.ZG]] (E u.ZZ) [[E u.r],[E u.c],bv u.s.l] h D) ⟨d,g,h⟩<|He 21 D D D D D ⟨d,g,h⟩<|He 22 D D D D D ⟨d,g,h⟩<|X4 23 D D D D (q:=1) D D ⟨d,g,h⟩<|?_
     intro ad R
     refine JU (i:=24) (fuel:=4) D (I0 (j:=18) (t:=true) D D D R D) (by kernel_rfl) (by kernel_rfl) ?_
     intro Aa U
     refine B0 R #[E (i+1)] K_ (L_ (i+1) _) ?_
     rintro _ CM ⟨aC,bk,rfl,an⟩
     refine⟨_,D,?_⟩
     intro a A
     have g:=Q g an
     have h:=Q h an
     have d:=Ah d an
     refine U _ _ ⟨d,g,h⟩ ?_;revert a
     intro ad R
     refine JU (i:=25) (fuel:=3) D (I0 (j:=18) (t:=true) D D D R D) (by kernel_rfl) (by kernel_rfl) ?_
     intro Aa U
     refine B0 R #[AB sb,E aC] LU (N2 (b:=sb) (z:=⟨wd,ge,AD,Ab,Ak,Bp,AY,AV,Bv,As,Ay,some ⟨ab,T,none⟩,AR,AM,some ⟨aa,V,none⟩,AG,AN,AO,AJ,Aq,AQ,ce,Cp⟩) (i:=aC) (Bs Z d.size) (B.move (ar.trans (d.mono Z))) g (by omega) af) ?_
     rintro _ bl ⟨aQ,aR,rfl,ao⟩
     refine⟨_,D,?_⟩
     intro a A
     have g:=Q g ao
     have h:=Q h ao
     have d:=Ah d ao
     dsimp only at aR
     refine U _ _ ⟨d,g,h⟩ ?_;revert a
     by_cases aD:((u.ZZ:Nat):Int)=((aQ:Nat):Int)
     ·
      refine NU 26 D D D D aD D D ⟨d,g,h⟩<|Hh 27 D D D ⟨d,g,h⟩<|EY 28 D D ⟨d,g,h⟩<|B_<|G<|AA<|AZ D<|?_
      exact⟨_,D,d⟩
     ·
      refine MG 26 D D D D aD D D ⟨d,g,h⟩<|Hh 27 D D D ⟨d,g,h⟩<|EY 28 D D ⟨d,g,h⟩<|B_<|G<|AA<|AZ D<|?_
      exact⟨_,D,d⟩
    ·
     refine MG 16 D D D D aB D D ⟨d,g,h⟩<|Hh 17 D D D ⟨d,g,h⟩<|Bk 18 D D ⟨d,g,h⟩<|Ci 19 D D D D D D D ⟨d,g,h⟩<|Ci 20 D D D D D D D ⟨d,g,h⟩<|Ci 21 D D D D D D D ⟨d,g,h⟩<|Ci 22 D D D D D D D ⟨d,g,h⟩<|Ci 23 D D D D D D D ⟨d,g,h⟩<|Ci 24 D D D D D D D ⟨d,g,h⟩<|Ci 25 D D D D D D D ⟨d,g,h⟩<|Ci 26 D D D D D D D ⟨d,g,h⟩<|Ik 27 D D D ⟨d,g,h⟩<|EY 28 D D ⟨d,g,h⟩<|B_<|G<|AA<|AZ D<|?_
     exact⟨_,D,d⟩
   ·
    refine MG 8 D D D D aA D D ⟨d,g,h⟩<|Hh 9 D D D ⟨d,g,h⟩<|Bk 10 D D ⟨d,g,h⟩<|Ci 11 D D D D D D D ⟨d,g,h⟩<|Ci 12 D D D D D D D ⟨d,g,h⟩<|Ci 13 D D D D D D D ⟨d,g,h⟩<|Ci 14 D D D D D D D ⟨d,g,h⟩<|Ci 15 D D D D D D D ⟨d,g,h⟩<|Ci 16 D D D D D D D ⟨d,g,h⟩<|Ik 17 D D D ⟨d,g,h⟩<|Bk 18 D D ⟨d,g,h⟩<|Ci 19 D D D D D D D ⟨d,g,h⟩<|Ci 20 D D D D D D D ⟨d,g,h⟩<|Ci 21 D D D D D D D ⟨d,g,h⟩<|Ci 22 D D D D D D D ⟨d,g,h⟩<|Ci 23 D D D D D D D ⟨d,g,h⟩<|Ci 24 D D D D D D D ⟨d,g,h⟩<|Ci 25 D D D D D D D ⟨d,g,h⟩<|Ci 26 D D D D D D D ⟨d,g,h⟩<|Ik 27 D D D ⟨d,g,h⟩<|EY 28 D D ⟨d,g,h⟩<|B_<|G<|AA<|AZ D<|?_
    exact⟨_,D,d⟩
  ·
   refine Oo 3 D az D D ⟨d,g,h⟩<|Bk 4 D D ⟨d,g,h⟩<|Ci 5 D D D D D D D ⟨d,g,h⟩<|Ci 6 D D D D D D D ⟨d,g,h⟩<|Ci 7 D D D D D D D ⟨d,g,h⟩<|Ci 8 D D D D D D D ⟨d,g,h⟩<|Ik 9 D D D ⟨d,g,h⟩<|Bk 10 D D ⟨d,g,h⟩<|Ci 11 D D D D D D D ⟨d,g,h⟩<|Ci 12 D D D D D D D ⟨d,g,h⟩<|Ci 13 D D D D D D D ⟨d,g,h⟩<|Ci 14 D D D D D D D ⟨d,g,h⟩<|Ci 15 D D D D D D D ⟨d,g,h⟩<|Ci 16 D D D D D D D ⟨d,g,h⟩<|Ik 17 D D D ⟨d,g,h⟩<|Bk 18 D D ⟨d,g,h⟩<|Ci 19 D D D D D D D ⟨d,g,h⟩<|Ci 20 D D D D D D D ⟨d,g,h⟩<|Ci 21 D D D D D D D ⟨d,g,h⟩<|Ci 22 D D D D D D D ⟨d,g,h⟩<|Ci 23 D D D D D D D ⟨d,g,h⟩<|Ci 24 D D D D D D D ⟨d,g,h⟩<|Ci 25 D D D D D D D ⟨d,g,h⟩<|Ci 26 D D D D D D D ⟨d,g,h⟩<|Ik 27 D D D ⟨d,g,h⟩<|EY 28 D D ⟨d,g,h⟩<|B_<|G<|AA<|AZ D<|?_
   exact⟨_,D,d⟩
end Go.Proofs.YtcdaflcjhimimaaGreatDoor
