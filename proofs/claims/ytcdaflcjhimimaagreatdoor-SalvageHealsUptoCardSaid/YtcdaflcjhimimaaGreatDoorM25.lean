/- Laws and walks on the road to SalvageNever and SalvageHeals (part M25). No conditions beyond each law's own. -/
import Derived.Test.YtcdaflcjhimimaaGreatDoorM01
import Derived.Test.YtcdaflcjhimimaaGreatDoorM24
import Derived.Test.YtcdaflcjhimimaaGreatDoorM04
import Derived.Test.YtcdaflcjhimimaaGreatDoorM07
import Derived.Test.YtcdaflcjhimimaaGreatDoorM06
import Derived.Test.YtcdaflcjhimimaaGreatDoorM05
set_option linter.unusedVariables false
namespace Go.Proofs.YtcdaflcjhimimaaGreatDoor
open Go.RowKit
set_option maxRecDepth 100000
set_option maxHeartbeats 1000000
def Hc(o:Except Nat Fr.Ch):Value:=match o with
 |.ok s=>.tuple #[FI s,.int .i64 0]
 |.error n=>.tuple #[Fy,.int .i64 n]
theorem L3{l:List UInt8}{s:Fr.Ch}(h:Fr.DX l=some s):s.g≤1099511627776:=by
 unfold Fr.DX at h
 split at h
 ·split at h
  ·split at h
   ·rename_i a
    cases h
    simp only[Fr.Ei,Bool.and_eq_true,decide_eq_true_eq]at a
    omega
   ·cases h
  ·cases h
 ·cases h
theorem JR(q:Option Addr)(c:Nat)(l:List UInt8)(w:World){s:Fr.Ch}(a:Fr.DX l=some s)(b:View w (.slice q 256 c) 256 1 (bv l))(d:l.length=256):
 Calls Tryz.prog 34 #[.slice q 256 c] w fun e w'=>e=.returned (.tuple #[Value.agg (flat [[E s.w],[E s.g],[E s.m],[E s.h],[E s.p]]),.int .i64 ((0:Nat):Int)])∧Below w.heap.size w w':=by
 refine(Qn q c l w b d).mono ?_
 rintro e w' ⟨v,rfl,h,f⟩
 rw[a]at h
 exact⟨congrArg Ending.returned h,f⟩
theorem J'(q:Option Addr)(c:Nat)(l:List UInt8)(w:World)(a:Fr.DX l=none)(b:View w (.slice q 256 c) 256 1 (bv l))(d:l.length=256):
 Calls Tryz.prog 34 #[.slice q 256 c] w fun e w'=>∃x:Int,e=.returned (.tuple #[Value.agg (flat [[E 0],[E 0],[E 0],[E 0],[E 0]]),.int .i64 x])∧x≠0∧Below w.heap.size w w':=by
 refine(Qn q c l w b d).mono ?_
 rintro e w' ⟨v,rfl,h,f⟩
 rw[a]at h
 obtain⟨x,g,rfl⟩:=h
 exact⟨x,D,g,f⟩
theorem Um{x y z:Fr.Ch}{w:World}(h:Fr.E3 x y=some z)(b:x.g<4611686018427387904)(a:y.g<4611686018427387904):
 Calls Tryz.prog 70 #[Value.agg (flat [[E x.w],[E x.g],[E x.m],[E x.h],[E x.p]]),Value.agg (flat [[E y.w],[E y.g],[E y.m],[E y.h],[E y.p]])] w fun e w'=>e=.returned (.tuple #[Value.agg (flat [[E z.w],[E z.g],[E z.m],[E z.h],[E z.p]]),.int .i64 ((0:Nat):Int)])∧Below w.heap.size w w':=by
 refine(So x y w b a).mono ?_
 rintro e w' ⟨v,rfl,rfl,a⟩
 rw[h]
 exact⟨D,a⟩
theorem SX{x y:Fr.Ch}{w:World}(h:Fr.E3 x y=none)(b:x.g<4611686018427387904)(a:y.g<4611686018427387904):
 Calls Tryz.prog 70 #[Value.agg (flat [[E x.w],[E x.g],[E x.m],[E x.h],[E x.p]]),Value.agg (flat [[E y.w],[E y.g],[E y.m],[E y.h],[E y.p]])] w fun e w'=>e=.returned (.tuple #[Value.agg (flat [[E 0],[E 0],[E 0],[E 0],[E 0]]),.int .i64 ((4:Nat):Int)])∧Below w.heap.size w w':=by
 refine(So x y w b a).mono ?_
 rintro e w' ⟨v,rfl,rfl,a⟩
 rw[h]
 exact⟨D,a⟩
theorem choose_spec(q X:Option Addr)(c c':Nat)(l m:List UInt8)(w:World)(t:View w (.slice q 256 c) 256 1 (bv l))(u:l.length=256)(p:View w (.slice X 256 c') 256 1 (bv m))(r:m.length=256):
 Calls Tryz.prog 36 #[F q 256 c,F X 256 c'] w fun e w'=>e=.returned (Hc (Fr.choose l m))∧Below w.heap.size w w':=by
 have b:Below w.heap.size w w:=Bu _ _
 refine Bx N_ D 50 ?_
 refine K<|N<|BQ [[E 0],[E 0],[E 0],[E 0],[E 0]] ?_
 intro a5 a6 j i d k
 have a7:=Bg b j
 have b:=Ah b k
 refine O (v:=(E 0)) D<|M<|G<|K<|?_
 rcases A:Fr.DX l with _|x
 ·
  refine N<|I D<|AS GB D (J' _ _ _ _ A (t.below b) u) ?_
  rintro _ a8 ⟨B,rfl,C,Y⟩
  refine⟨_,D,?_⟩
  have d:=Q d Y
  have b:=Ah b Y
  refine I D<|BC D D<|BC D D<|BQ [[E 0],[E 0],[E 0],[E 0],[E 0]] ?_
  intro aj a9 j i h k
  have ak:=Bg b j
  have al:=AP d j
  have d:=Q d k
  have b:=Ah b k
  refine Bi 0 5 h D D ?_
  intro a_ i o Z
  have d:=Ag Z d (by omega)
  have b:=A1 b Z
  have h:=o
  refine O D<|M<|G<|K<|?_
  rcases s:Fr.DX m with _|y
  ·
   refine N<|I D<|AS GB D (J' _ _ _ _ s (p.below b) r) ?_
   rintro _ a' ⟨ba,rfl,bb,H⟩
   refine⟨_,D,?_⟩
   have d:=Q d H
   have h:=Q h H
   have b:=Ah b H
   refine I D<|BC D D<|BC D D<|BQ [[E 0],[E 0],[E 0],[E 0],[E 0]] ?_
   intro J bc j i n k
   have L:=Bg b j
   have P:=AP d j
   have R:=AP h j
   have d:=Q d k
   have b:=Ah b k
   refine Bi 0 5 n D D ?_
   intro bd i o aa
   have d:=Ag aa d (by omega)
   have b:=A1 b aa
   refine O D<|M<|G<|K<|A2<|K<|A2<|A2<|K<|A2<|K<|A2<|K<|K<|K<|N<|I D<|?_
   have an:¬((B:Int)=((0:Nat):Int)):=(by have:=C;omega)
   refine E0 an D D<|I D<|Ae D D D D<|Ae D D D D<|Ba D D<|O D<|M<|G<|BE D<|AE<|G<|K<|K<|N<|I D<|AS JD D (J1 _ _ _ _ (p.below b) r) ?_
   rintro _ _ ⟨rfl,rfl⟩
   refine⟨_,D,?_⟩
   refine Dn D<|O D<|M<|G<|Ej D (fun ao=>?_) fun ao=>?_
   ·
    refine BO<|AW<|AW<|ED<|AW<|BN<|G<|K<|K<|N<|AT (fun _ f=>CE f (Bf:=[]) D (v:=Value.agg (flat [[E 0],[E 0],[E 0],[E 0],[E 0]])) (run_build _ _ _ _ (by kernel_rfl)))<|Bi 0 5 d D D ?_
    intro bf i aq ar
    have b:=A1 b ar
    refine O (v:=(E 4)) D<|M<|G<|AA<|AX<|C1<|C1<|AX<|C1<|AX<|?_
    intro a f
    refine DG f D D D aq Bw D (by kernel_rfl) ?_
    exact⟨congrArg Ending.returned (show _=Hc (Fr.choose l m)from by rw[show Fr.choose l m=.error 4 from by simp_all [Fr.choose]];rfl),b⟩
   ·
    refine AE<|G<|K<|K<|N<|I D<|?_
    have au:¬((B:Int)=((0:Nat):Int)):=(by have:=C;omega)
    refine E0 au D D<|I D<|Ae D D D D<|Ae D D D D<|Ae D D D D<|Ba D D<|O D<|M<|G<|BE D<|AE<|G<|K<|N<|I D<|AS JD D (J1 _ _ _ _ (t.below b) u) ?_
    rintro _ _ ⟨rfl,rfl⟩
    refine⟨_,D,?_⟩
    refine O D<|M<|G<|Ej D (fun av=>?_) fun av=>?_
    ·
     refine BO<|AW<|ED<|AW<|ED<|AW<|ED<|BN<|G<|K<|K<|N<|AT (fun _ f=>CE f (Bf:=[]) D (v:=Value.agg (flat [[E 0],[E 0],[E 0],[E 0],[E 0]])) (run_build _ _ _ _ (by kernel_rfl)))<|Bi 0 5 d D D ?_
     intro bg i aw ax
     have b:=A1 b ax
     refine O (v:=(E 55)) D<|M<|G<|AA<|AX<|C1<|AX<|?_
     intro a f
     refine DG f D D D aw Bw D (by kernel_rfl) ?_
     exact⟨congrArg Ending.returned (show _=Hc (Fr.choose l m)from by rw[show Fr.choose l m=.error 55 from by simp_all [Fr.choose]];rfl),b⟩
    ·
     refine AE<|G<|BO<|ED<|AW<|ED<|AW<|ED<|ED<|AW<|BN<|G<|K<|N<|AT (fun _ f=>CE f (Bf:=[]) D (v:=Value.agg (flat [[E 0],[E 0],[E 0],[E 0],[E 0]])) (run_build _ _ _ _ (by kernel_rfl)))<|Bi 0 5 d D D ?_
     intro bh i ay az
     have b:=A1 b az
     refine O (v:=(E 4)) D<|M<|G<|AA<|?_
     intro a f
     refine DG f D D D ay Bw D (by kernel_rfl) ?_
     exact⟨congrArg Ending.returned (show _=Hc (Fr.choose l m)from by rw[show Fr.choose l m=.error 4 from by simp_all [Fr.choose]];rfl),b⟩
  ·
   refine N<|I D<|AS GB D (JR _ _ _ _ s (p.below b) r) ?_
   rintro _ bj ⟨rfl,S⟩
   refine⟨_,D,?_⟩
   have d:=Q d S
   have h:=Q h S
   have b:=Ah b S
   refine I D<|BC D D<|BC D D<|BQ [[E 0],[E 0],[E 0],[E 0],[E 0]] ?_
   intro J bk j i n k
   have L:=Bg b j
   have P:=AP d j
   have R:=AP h j
   have d:=Q d k
   have b:=Ah b k
   refine Bi 0 5 n D D ?_
   intro bl i o ab
   have d:=Ag ab d (by omega)
   have b:=A1 b ab
   refine O (v:=(E 0)) D<|M<|G<|K<|A2<|K<|A2<|A2<|K<|A2<|K<|A2<|K<|K<|K<|N<|I D<|?_
   have aA:¬((B:Int)=((0:Nat):Int)):=(by have:=C;omega)
   refine E0 aA D D<|I D<|Ae D D D D<|Ae D D D D<|Ba D D<|O D<|M<|G<|BE D<|AE<|G<|K<|K<|N<|I D<|AS JD D (J1 _ _ _ _ (p.below b) r) ?_
   rintro _ _ ⟨rfl,rfl⟩
   refine⟨_,D,?_⟩
   refine Dn D<|O D<|M<|G<|Ej D (fun aB=>?_) fun aB=>?_
   ·
    refine BO<|AW<|AW<|ED<|AW<|BN<|G<|K<|K<|N<|AT (fun _ f=>CE f (Bf:=[]) D (v:=Value.agg (flat [[E 0],[E 0],[E 0],[E 0],[E 0]])) (run_build _ _ _ _ (by kernel_rfl)))<|Bi 0 5 d D D ?_
    intro bm i aC aD
    have b:=A1 b aD
    refine O (v:=(E 4)) D<|M<|G<|AA<|AX<|C1<|C1<|AX<|C1<|AX<|?_
    intro a f
    refine DG f D D D aC Bw D (by kernel_rfl) ?_
    exact⟨congrArg Ending.returned (show _=Hc (Fr.choose l m)from by rw[show Fr.choose l m=.error 4 from by simp_all [Fr.choose]];rfl),b⟩
   ·
    refine AE<|G<|K<|K<|N<|I D<|?_
    have aE:¬((B:Int)=((0:Nat):Int)):=(by have:=C;omega)
    refine E0 aE D D<|I D<|Ae D D D D<|Ae D D D D<|Ae D D D D<|Ba D D<|O D<|M<|G<|BE D<|AE<|G<|K<|N<|I D<|AS JD D (J1 _ _ _ _ (t.below b) u) ?_
    rintro _ _ ⟨rfl,rfl⟩
    refine⟨_,D,?_⟩
    refine O D<|M<|G<|Ej D (fun aF=>?_) fun aF=>?_
    ·
     refine BO<|AW<|ED<|AW<|ED<|AW<|ED<|BN<|G<|K<|K<|N<|AT (fun _ f=>CE f (Bf:=[]) D (v:=Value.agg (flat [[E 0],[E 0],[E 0],[E 0],[E 0]])) (run_build _ _ _ _ (by kernel_rfl)))<|Bi 0 5 d D D ?_
     intro bn i aG aH
     have b:=A1 b aH
     refine O (v:=(E 55)) D<|M<|G<|AA<|AX<|C1<|AX<|?_
     intro a f
     refine DG f D D D aG Bw D (by kernel_rfl) ?_
     exact⟨congrArg Ending.returned (show _=Hc (Fr.choose l m)from by rw[show Fr.choose l m=.error 55 from by simp_all [Fr.choose]];rfl),b⟩
    ·
     refine AE<|G<|BO<|ED<|AW<|ED<|AW<|ED<|ED<|AW<|BN<|G<|K<|N<|AT (fun _ f=>CE f (Bf:=[]) D (v:=Value.agg (flat [[E 0],[E 0],[E 0],[E 0],[E 0]])) (run_build _ _ _ _ (by kernel_rfl)))<|Bi 0 5 d D D ?_
     intro bo i aI aJ
     have b:=A1 b aJ
     refine O (v:=(E 4)) D<|M<|G<|AA<|?_
     intro a f
     refine DG f D D D aI Bw D (by kernel_rfl) ?_
     exact⟨congrArg Ending.returned (show _=Hc (Fr.choose l m)from by rw[show Fr.choose l m=.error 4 from by simp_all [Fr.choose]];rfl),b⟩
 ·
  refine N<|I D<|AS GB D (JR _ _ _ _ A (t.below b) u) ?_
  rintro _ bp ⟨rfl,ad⟩
  refine⟨_,D,?_⟩
  have d:=Q d ad
  have b:=Ah b ad
  refine I D<|BC D D<|BC D D<|BQ [[E 0],[E 0],[E 0],[E 0],[E 0]] ?_
  intro aj bq j i h k
  have ak:=Bg b j
  have al:=AP d j
  have d:=Q d k
  have b:=Ah b k
  refine Bi 0 5 h D D ?_
  intro br i o ae
  have d:=Ag ae d (by omega)
  have b:=A1 b ae
  have h:=o
  refine O (v:=(E 0)) D<|M<|G<|K<|?_
  rcases s:Fr.DX m with _|y
  ·
   refine N<|I D<|AS GB D (J' _ _ _ _ s (p.below b) r) ?_
   rintro _ bs ⟨aK,rfl,aL,T⟩
   refine⟨_,D,?_⟩
   have d:=Q d T
   have h:=Q h T
   have b:=Ah b T
   refine I D<|BC D D<|BC D D<|BQ [[E 0],[E 0],[E 0],[E 0],[E 0]] ?_
   intro J bt j i n k
   have L:=Bg b j
   have P:=AP d j
   have R:=AP h j
   have d:=Q d k
   have h:=Q h k
   have b:=Ah b k
   refine Bi 0 5 n D D ?_
   intro bu i o U
   have d:=Ag U d (by omega)
   have h:=Ag U h (by omega)
   have b:=A1 b U
   refine O D<|M<|G<|K<|A2<|K<|A2<|A2<|K<|A2<|K<|A2<|K<|K<|K<|N<|I (v:=(E 0)) D<|?_
   have aM:(((0:Nat):Int)=((0:Nat):Int)):=D
   refine D5 aM D D<|I D<|Ad D D D<|I D<|?_
   have aN:¬((aK:Int)=((0:Nat):Int)):=(by have:=aL;omega)
   refine Ad D D D<|E0 aN D D<|Bn D D<|O D<|M<|G<|BE D<|AE<|G<|K<|K<|N<|I D<|AS JD D (J1 _ _ _ _ (p.below b) r) ?_
   rintro _ _ ⟨rfl,rfl⟩
   refine⟨_,D,?_⟩
   refine Dn D<|O D<|M<|G<|Ej D (fun aO=>?_) fun aO=>?_
   ·
    refine BO<|AW<|AW<|ED<|AW<|BN<|G<|K<|K<|N<|AT (fun _ f=>CE f (Bf:=[]) D (v:=Value.agg (flat [[E 0],[E 0],[E 0],[E 0],[E 0]])) (run_build _ _ _ _ (by kernel_rfl)))<|Bi 0 5 d D D ?_
    intro bw i aP aQ
    have b:=A1 b aQ
    refine O (v:=(E 4)) D<|M<|G<|AA<|AX<|C1<|C1<|AX<|C1<|AX<|?_
    intro a f
    refine DG f D D D aP Bw D (by kernel_rfl) ?_
    exact⟨congrArg Ending.returned (show _=Hc (Fr.choose l m)from by rw[show Fr.choose l m=.error 4 from by simp_all [Fr.choose]];rfl),b⟩
   ·
    refine AE<|G<|K<|K<|N<|I (v:=(E 0)) D<|?_
    have aR:(((0:Nat):Int)=((0:Nat):Int)):=D
    refine D5 aR D D<|I D<|Ad D D D<|Am Bw 1 D<|Ad D D D<|AK AH 1 h D D<|?_
    by_cases af:((x.g:Nat):Int)=((0:Nat):Int)
    ·
     refine Ad D D D<|D5 af D D<|Bn D D<|O D<|M<|G<|BS D<|BO<|AW<|AW<|ED<|AW<|ED<|AW<|BN<|Bq<|G<|K<|K<|N<|AT (fun _ f=>CE f (Bf:=[]) D (v:=Value.agg (flat [[E 0],[E 0],[E 0],[E 0],[E 0]])) (run_build _ _ _ _ (by kernel_rfl)))<|Bi 0 5 d D D ?_
     intro bx i aS aT
     have b:=A1 b aT
     refine O (v:=(E 55)) D<|M<|G<|AA<|AX<|C1<|AX<|?_
     intro a f
     refine DG f D D D aS Bw D (by kernel_rfl) ?_
     exact⟨congrArg Ending.returned (show _=Hc (Fr.choose l m)from by rw[show Fr.choose l m=.error 55 from by simp_all [Fr.choose]];rfl),b⟩
    ·
     refine Ad D D D<|E0 af D D<|Bn D D<|O D<|M<|G<|BE D<|AE<|G<|K<|N<|I D<|AS JD D (J1 _ _ _ _ (t.below b) u) ?_
     rintro _ _ ⟨rfl,rfl⟩
     refine⟨_,D,?_⟩
     refine O D<|M<|G<|Ej D (fun aU=>?_) fun aU=>?_
     ·
      refine BO<|AW<|ED<|AW<|ED<|AW<|ED<|BN<|G<|K<|K<|N<|AT (fun _ f=>CE f (Bf:=[]) D (v:=Value.agg (flat [[E 0],[E 0],[E 0],[E 0],[E 0]])) (run_build _ _ _ _ (by kernel_rfl)))<|Bi 0 5 d D D ?_
      intro bz i aV aW
      have b:=A1 b aW
      refine O (v:=(E 55)) D<|M<|G<|AA<|AX<|C1<|AX<|?_
      intro a f
      refine DG f D D D aV Bw D (by kernel_rfl) ?_
      exact⟨congrArg Ending.returned (show _=Hc (Fr.choose l m)from by rw[show Fr.choose l m=.error 55 from by simp_all [Fr.choose]];rfl),b⟩
     ·
      refine AE<|G<|BO<|ED<|AW<|ED<|AW<|ED<|ED<|AW<|BN<|G<|K<|N<|AT (fun _ f=>CE f (Bf:=[]) D (v:=Value.agg (flat [[E 0],[E 0],[E 0],[E 0],[E 0]])) (run_build _ _ _ _ (by kernel_rfl)))<|Bi 0 5 d D D ?_
      intro bA i aX aY
      have b:=A1 b aY
      refine O (v:=(E 4)) D<|M<|G<|AA<|?_
      intro a f
      refine DG f D D D aX Bw D (by kernel_rfl) ?_
      exact⟨congrArg Ending.returned (show _=Hc (Fr.choose l m)from by rw[show Fr.choose l m=.error 4 from by simp_all [Fr.choose]];rfl),b⟩
  ·
   refine N<|I D<|AS GB D (JR _ _ _ _ s (p.below b) r) ?_
   rintro _ bB ⟨rfl,V⟩
   refine⟨_,D,?_⟩
   have d:=Q d V
   have h:=Q h V
   have b:=Ah b V
   refine I D<|BC D D<|BC D D<|BQ [[E 0],[E 0],[E 0],[E 0],[E 0]] ?_
   intro J bC j i n k
   have L:=Bg b j
   have P:=AP d j
   have R:=AP h j
   have d:=Q d k
   have h:=Q h k
   have b:=Ah b k
   refine Bi 0 5 n D D ?_
   intro bD i o W
   have d:=Ag W d (by omega)
   have h:=Ag W h (by omega)
   have b:=A1 b W
   have n:=o
   refine O (v:=(E 0)) D<|M<|G<|K<|A2<|K<|A2<|A2<|K<|A2<|K<|A2<|K<|K<|K<|N<|I (v:=(E 0)) D<|?_
   have aZ:(((0:Nat):Int)=((0:Nat):Int)):=D
   refine D5 aZ D D<|I D<|Ad D D D<|I (v:=(E 0)) D<|?_
   have a0:(((0:Nat):Int)=((0:Nat):Int)):=D
   refine Ad D D D<|D5 a0 D D<|Bn D D<|O D<|M<|G<|BS D<|BO<|AW<|AW<|BN<|G<|K<|K<|?_
   rcases ag:Fr.E3 x y with _|z
   ·
    refine N<|BP Bw h D<|BP Bw n D<|AS N5 D (SX ag (by have:=L3 A;omega) (by have:=L3 s;omega)) ?_
    rintro _ bE ⟨rfl,ah⟩
    refine⟨_,D,?_⟩
    have d:=Q d ah
    have b:=Ah b ah
    refine BC D D<|BC D D<|Bi 0 5 d D D ?_
    intro bF i a1 a2
    have b:=A1 b a2
    refine O (v:=(E 4)) D<|M<|G<|AA<|AX<|C1<|AX<|C1<|C1<|AX<|C1<|AX<|?_
    intro a f
    refine DG f D D D a1 Bw D (by kernel_rfl) ?_
    exact⟨congrArg Ending.returned (show _=Hc (Fr.choose l m)from by rw[show Fr.choose l m=.error 4 from by simp_all [Fr.choose]];rfl),b⟩
   ·
    refine N<|BP Bw h D<|BP Bw n D<|AS N5 D (Um ag (by have:=L3 A;omega) (by have:=L3 s;omega)) ?_
    rintro _ bG ⟨rfl,ai⟩
    refine⟨_,D,?_⟩
    have d:=Q d ai
    have b:=Ah b ai
    refine BC D D<|BC D D<|Bi 0 5 d D D ?_
    intro bH i a3 a4
    have b:=A1 b a4
    refine O (v:=(E 0)) D<|M<|G<|AA<|AX<|C1<|AX<|C1<|C1<|AX<|C1<|AX<|?_
    intro a f
    refine DG f D D D a3 Bw D (by kernel_rfl) ?_
    exact⟨congrArg Ending.returned (show _=Hc (Fr.choose l m)from by rw[show Fr.choose l m=.ok z from by simp_all [Fr.choose]];rfl),b⟩
end Go.Proofs.YtcdaflcjhimimaaGreatDoor
namespace Go.Proofs.YtcdaflcjhimimaaGreatDoor
open Go.RowKit
set_option maxHeartbeats 1000000
theorem Y1(q:Option Addr)(c p:Nat)(w:World)(b:(decide (2≤p)&&decide (p<4096))=false):
 Calls Tryz.prog 38 #[.int .i64 p,.slice q 256 c] w fun e w'=>e=.returned (.tuple #[.int .i64 0,.slice none 0 0,.int .i64 54])∧Below w.heap.size w w':=by
 have a:=JB p w
 rw[b]at a
 go_enter H6,Tryz.ntmps38
 go_wp2_with (first|go_skip|(go_at_call 72;with_reducible refine C5 ?_))
 refine⟨a.mono ?_⟩
 rintro e W ⟨rfl,rfl⟩
 go_wp2
 exact bodyPost_ret (v:=.tuple #[.int .i64 0,.slice none 0 0,.int .i64 54]) (by simp[results,Tryz.results38,go_sem]) D ⟨D,Bu _ _⟩
theorem Ws(q:Option Addr)(c p:Nat)(l:List UInt8)(w:World)(h:View w (.slice q 256 c) 256 1 (bv l))(i:l.length=256)(d:(decide (2≤p)&&decide (p<4096))=true)(f:Af.Cj l 252≠0):
 Calls Tryz.prog 38 #[.int .i64 p,.slice q 256 c] w fun e w'=>e=.returned (.tuple #[.int .i64 0,.slice none 0 0,.int .i64 52])∧Below w.heap.size w w':=by
 have a:=JB p w
 rw[d]at a
 have g:=Jt q 252 c l w h i
 have Ab:decide (Af.Cj l 252=0)=false:=by simpa using f
 rw[Ab]at g
 clear d f Ab
 go_enter H6,Tryz.ntmps38
 go_wp2_with (first|go_skip|(go_at_call 72;with_reducible refine C5 ?_))
 refine⟨a.mono ?_⟩
 rintro e W ⟨rfl,rfl⟩
 clear a
 go_wp2_with (first|go_skip|(go_at_call 63;with_reducible refine C5 ?_))
 refine⟨g.mono ?_⟩
 rintro e W ⟨rfl,b⟩
 go_wp2
 exact bodyPost_ret (v:=.tuple #[.int .i64 0,.slice none 0 0,.int .i64 52]) (by simp[results,Tryz.results38,go_sem]) D ⟨D,b⟩
theorem Ot(t:TypeId)(x y:Int)(r:Bool)(a:(!decide (x=y))=r)(w:World):(binOp .neq t (.int .i64 x) (.int .i64 y)).run Tryz.prog w=.ok (.bool r) w:=by
 subst a
 simp[binOp,Op.intCmp,go_sem]
 rfl
theorem W8(q:Option Addr)(c p a d:Nat)(l:List UInt8)(w:World)(g:View w (.slice q 256 c) 256 1 (bv l))(h:l.length=256)(i:(decide (2≤p)&&decide (p<4096))=true)(r:Af.Cj l 252=0)(j:a=(l.getD 0 0).toNat)(k:d=(l.getD 1 0).toNat)(s:(decide (1≤a)&&decide (a≤3))=false):
 Calls Tryz.prog 38 #[.int .i64 p,.slice q 256 c] w fun e w'=>e=.returned (.tuple #[.int .i64 0,.slice none 0 0,.int .i64 50])∧Below w.heap.size w w':=by
 have m:=JB p w
 rw[i]at m
 have t:=Jt q 252 c l w g h
 have Ab:decide (Af.Cj l 252=0)=true:=by simpa using r
 rw[Ab]at t
 have G:2≤p∧p<4096:=by simpa using i
 clear i r Ab
 have u:=Aw h
 have A:=Aw j
 have B:=Aw k
 have H:a<256:=by rw[j];exact(l.getD 0 0).toNat_lt
 have I:d<256:=by rw[k];exact(l.getD 1 0).toNat_lt
 have x:=fun w=>K2 a w
 rw[s]at x
 clear j k s h
 go_enter H6,Tryz.ntmps38
 go_wp2_with (first|go_skip|(go_at_call 72;with_reducible refine C5 ?_))
 refine⟨m.mono ?_⟩
 rintro e W ⟨rfl,rfl⟩
 clear m
 go_wp2_with (first|go_skip|(go_at_call 63;with_reducible refine C5 ?_))
 refine⟨t.mono ?_⟩
 rintro e W ⟨rfl,b⟩
 have y:=g.below b
 obtain⟨AL,z,rfl,C,n⟩:=y.some (by decide)
 have E:W.cell? ⟨AL,z,none⟩=some (.int .u8 a):=by
  have:=n 0 (.int .u8 a) (by rw[A.out];simp[bv,List.getD_eq_getElem?_getD,u.out])
  simpa using this
 have F:W.cell? ⟨AL,z+1,none⟩=some (.int .u8 d):=n 1 (.int .u8 d) (by rw[B.out];simp[bv,List.getD_eq_getElem?_getD,u.out])
 clear n
 go_wp2
 go_quiet (fail)
 obtain⟨f,o⟩:∃f,f=W.drewN nq:=⟨_,D⟩
 rw[←o]
 have b2:Below w.heap.size w f:=by rw[o];exact b.trans ⟨D,D,D,Be _,fun _ _=>rfl⟩
 have J:=g.below b2
 clear E F y C o
 go_wp2_with (first|go_skip|(go_at_call 73;with_reducible refine C5 ?_))
 refine⟨(x f).mono ?_⟩
 rintro e BT ⟨rfl,rfl⟩
 go_wp2
 exact bodyPost_ret (v:=.tuple #[.int .i64 0,.slice none 0 0,.int .i64 50]) (by simp[results,Tryz.results38,go_sem]) D ⟨D,b2⟩
theorem YD(q:Option Addr)(c p a d:Nat)(l:List UInt8)(w:World)(g:View w (.slice q 256 c) 256 1 (bv l))(h:l.length=256)(i:(decide (2≤p)&&decide (p<4096))=true)(r:Af.Cj l 252=0)(j:a=(l.getD 0 0).toNat)(k:d=(l.getD 1 0).toNat)(s:(decide (1≤a)&&decide (a≤3))=true)(G:246<d):
 Calls Tryz.prog 38 #[.int .i64 p,.slice q 256 c] w fun e w'=>e=.returned (.tuple #[.int .i64 0,.slice none 0 0,.int .i64 51])∧Below w.heap.size w w':=by
 have m:=JB p w
 rw[i]at m
 have t:=Jt q 252 c l w g h
 have Ab:decide (Af.Cj l 252=0)=true:=by simpa using r
 rw[Ab]at t
 have H:2≤p∧p<4096:=by simpa using i
 clear i r Ab
 have u:=Aw h
 have A:=Aw j
 have B:=Aw k
 have I:a<256:=by rw[j];exact(l.getD 0 0).toNat_lt
 have J:d<256:=by rw[k];exact(l.getD 1 0).toNat_lt
 have x:=fun w=>K2 a w
 rw[s]at x
 clear j k s h
 go_enter H6,Tryz.ntmps38
 go_wp2_with (first|go_skip|(go_at_call 72;with_reducible refine C5 ?_))
 refine⟨m.mono ?_⟩
 rintro e W ⟨rfl,rfl⟩
 clear m
 go_wp2_with (first|go_skip|(go_at_call 63;with_reducible refine C5 ?_))
 refine⟨t.mono ?_⟩
 rintro e W ⟨rfl,b⟩
 have y:=g.below b
 obtain⟨AL,z,rfl,C,n⟩:=y.some (by decide)
 have E:W.cell? ⟨AL,z,none⟩=some (.int .u8 a):=by
  have:=n 0 (.int .u8 a) (by rw[A.out];simp[bv,List.getD_eq_getElem?_getD,u.out])
  simpa using this
 have F:W.cell? ⟨AL,z+1,none⟩=some (.int .u8 d):=n 1 (.int .u8 d) (by rw[B.out];simp[bv,List.getD_eq_getElem?_getD,u.out])
 clear n
 go_wp2
 go_quiet (fail)
 obtain⟨f,o⟩:∃f,f=W.drewN nq:=⟨_,D⟩
 rw[←o]
 have b2:Below w.heap.size w f:=by rw[o];exact b.trans ⟨D,D,D,Be _,fun _ _=>rfl⟩
 have K:=g.below b2
 clear E F y C o
 go_wp2_with (first|go_skip|(go_at_call 73;with_reducible refine C5 ?_))
 refine⟨(x f).mono ?_⟩
 rintro e BT ⟨rfl,rfl⟩
 go_wp2
 exact bodyPost_ret (v:=.tuple #[.int .i64 0,.slice none 0 0,.int .i64 51]) (by simp[results,Tryz.results38,go_sem]) D ⟨D,b2⟩
theorem Wx(q:Option Addr)(c p a g:Nat)(l:List UInt8)(w:World)(h:View w (.slice q 256 c) 256 1 (bv l))(i:l.length=256)(j:(decide (2≤p)&&decide (p<4096))=true)(x:Af.Cj l 252=0)(k:a=(l.getD 0 0).toNat)(m:g=(l.getD 1 0).toNat)(z:(decide (1≤a)&&decide (a≤3))=true)(Q:g≤246)(f:Nat)(A:Fr.le ((l.drop 2).take 4)=f)(B:(!decide ((f:Int)=p))=true):
 Calls Tryz.prog 38 #[.int .i64 p,.slice q 256 c] w fun e w'=>e=.returned (.tuple #[.int .i64 0,.slice none 0 0,.int .i64 54])∧Below w.heap.size w w':=by
 have o:=JB p w
 rw[j]at o
 have C:=Jt q 252 c l w h i
 have Ab:decide (Af.Cj l 252=0)=true:=by simpa using x
 rw[Ab]at C
 have R:2≤p∧p<4096:=by simpa using j
 clear j x Ab
 have r:=Aw i
 have H:=Aw k
 have I:=Aw m
 have S:a<256:=by rw[k];exact(l.getD 0 0).toNat_lt
 have T:g<256:=by rw[m];exact(l.getD 1 0).toNat_lt
 have E:=fun w=>K2 a w
 rw[z]at E
 clear k m z i
 go_enter H6,Tryz.ntmps38
 go_wp2_with (first|go_skip|(go_at_call 72;with_reducible refine C5 ?_))
 refine⟨o.mono ?_⟩
 rintro e W ⟨rfl,rfl⟩
 clear o
 go_wp2_with (first|go_skip|(go_at_call 63;with_reducible refine C5 ?_))
 refine⟨C.mono ?_⟩
 rintro e W ⟨rfl,b⟩
 have F:=h.below b
 obtain⟨AL,s,rfl,J,t⟩:=F.some (by decide)
 have K:W.cell? ⟨AL,s,none⟩=some (.int .u8 a):=by
  have:=t 0 (.int .u8 a) (by rw[H.out];simp[bv,List.getD_eq_getElem?_getD,r.out])
  simpa using this
 have L:W.cell? ⟨AL,s+1,none⟩=some (.int .u8 g):=t 1 (.int .u8 g) (by rw[I.out];simp[bv,List.getD_eq_getElem?_getD,r.out])
 clear t
 go_wp2
 go_quiet (fail)
 obtain⟨d,u⟩:∃d,d=W.drewN nq:=⟨_,D⟩
 rw[←u]
 have b2:Below w.heap.size w d:=by rw[u];exact b.trans ⟨D,D,D,Be _,fun _ _=>rfl⟩
 have M:=h.below b2
 clear K L F J u
 go_wp2_with (first|go_skip|(go_at_call 73;with_reducible refine C5 ?_))
 refine⟨(E d).mono ?_⟩
 rintro e BT ⟨rfl,rfl⟩
 have N:=Aw B
 clear B
 have O:=Aw A
 clear A
 go_wp2_with (first|go_skip|(with_reducible refine Gr ?_))
 refine⟨OG A0 D (.tmp 34) (.const (.int .i64 2)) D (y:=some ⟨AL,s,none⟩) (n:=256) (c:=c) (xs:=bv l) D M 2 D (by decide) ?_⟩
 intro pp G _
 have P:View d (.slice pp 254 (c - 2)) 254 1 (bv (l.drop 2)):=by rw[←Ge];exact G
 clear G
 go_wp2_with (first|go_skip|(go_at_call 65;with_reducible refine C5 ?_))
 refine⟨(JE pp 254 (c - 2) 4 (l.drop 2) d P (by rw[List.length_drop,r.out])).mono ?_⟩
 rintro e BT ⟨rfl,rfl⟩
 rw[O.out]
 go_wp2_with (first|go_skip|(with_reducible refine JQ .neq ?_))
 refine⟨bin rfl .neq _ _ _ _ D (p:=.int .i64 f) (q:=.int .i64 p) D D (by simp[eqGuard]) (Ot _ f p true N.out _) ?_⟩
 go_wp2
 exact bodyPost_ret (v:=.tuple #[.int .i64 0,.slice none 0 0,.int .i64 54]) (by simp[results,Tryz.results38,go_sem]) D ⟨D,b2⟩
theorem Uo(q:Option Addr)(c p f a:Nat)(l:List UInt8)(w:World)(i:View w (.slice q 256 c) 256 1 (bv l))(j:l.length=256)(k:(decide (2≤p)&&decide (p<4096))=true)(u:Af.Cj l 252=0)(m:f=(l.getD 0 0).toNat)(o:a=(l.getD 1 0).toNat)(x:(decide (1≤f)&&decide (f≤3))=true)(T:a≤246)(z:Fr.le ((l.drop 2).take 4)=p)(A:Fr.Dq ((l.drop (6+a)).take (252 - (6+a)))=false):
 Calls Tryz.prog 38 #[.int .i64 p,.slice q 256 c] w fun e w'=>e=.returned (.tuple #[.int .i64 0,.slice none 0 0,.int .i64 53])∧Below w.heap.size w w':=by
 have r:=JB p w
 rw[k]at r
 have B:=Jt q 252 c l w i j
 have Ab:decide (Af.Cj l 252=0)=true:=by simpa using u
 rw[Ab]at B
 have U:2≤p∧p<4096:=by simpa using k
 clear k u Ab
 have g:=Aw j
 have K:=Aw m
 have L:=Aw o
 have V:f<256:=by rw[m];exact(l.getD 0 0).toNat_lt
 have X:a<256:=by rw[o];exact(l.getD 1 0).toNat_lt
 have C:=fun w=>K2 f w
 rw[x]at C
 clear m o x j
 go_enter H6,Tryz.ntmps38
 go_wp2_with (first|go_skip|(go_at_call 72;with_reducible refine C5 ?_))
 refine⟨r.mono ?_⟩
 rintro e W ⟨rfl,rfl⟩
 clear r
 go_wp2_with (first|go_skip|(go_at_call 63;with_reducible refine C5 ?_))
 refine⟨B.mono ?_⟩
 rintro e W ⟨rfl,b⟩
 have E:=i.below b
 obtain⟨AL,h,rfl,M,s⟩:=E.some (by decide)
 have N:W.cell? ⟨AL,h,none⟩=some (.int .u8 f):=by
  have:=s 0 (.int .u8 f) (by rw[K.out];simp[bv,List.getD_eq_getElem?_getD,g.out])
  simpa using this
 have O:W.cell? ⟨AL,h+1,none⟩=some (.int .u8 a):=s 1 (.int .u8 a) (by rw[L.out];simp[bv,List.getD_eq_getElem?_getD,g.out])
 clear s
 go_wp2
 go_quiet (fail)
 obtain⟨d,t⟩:∃d,d=W.drewN nq:=⟨_,D⟩
 rw[←t]
 have b2:Below w.heap.size w d:=by rw[t];exact b.trans ⟨D,D,D,Be _,fun _ _=>rfl⟩
 have F:=i.below b2
 clear N O E M t
 go_wp2_with (first|go_skip|(go_at_call 73;with_reducible refine C5 ?_))
 refine⟨(C d).mono ?_⟩
 rintro e BT ⟨rfl,rfl⟩
 have P:=Aw A
 clear A
 have Q:=Aw z
 clear z
 go_wp2_with (first|go_skip|(with_reducible refine Gr ?_))
 refine⟨OG A0 D (.tmp 34) (.const (.int .i64 2)) D (y:=some ⟨AL,h,none⟩) (n:=256) (c:=c) (xs:=bv l) D F 2 D (by decide) ?_⟩
 intro pp G _
 have R:View d (.slice pp 254 (c - 2)) 254 1 (bv (l.drop 2)):=by rw[←Ge];exact G
 clear G
 go_wp2_with (first|go_skip|(go_at_call 65;with_reducible refine C5 ?_))
 refine⟨(JE pp 254 (c - 2) 4 (l.drop 2) d R (by rw[List.length_drop,g.out])).mono ?_⟩
 rintro e BT ⟨rfl,rfl⟩
 rw[Q.out]
 go_wp2_with (first|go_skip|(with_reducible refine JQ .neq ?_))
 refine⟨bin rfl .neq _ _ _ _ D (p:=.int .i64 p) (q:=.int .i64 p) D D (by simp[eqGuard]) (Ot _ p p false (by simp) _) ?_⟩
 go_wp2_with (first|go_skip|(with_reducible refine Gr ?_))
 refine⟨M6 A0 D (.tmp 40) (.tmp 42) (.const (.int .i64 252)) D (y:=some ⟨AL,h,none⟩) (n:=256) (c:=c) (xs:=bv l) D F (6+a) 252 D D (by omega) (by rw[D_,g.out];decide) ?_⟩
 intro H I _
 have J:View d (.slice H (252 - (6+a)) (c - (6+a))) (252 - (6+a)) 1 (bv (l.drop (6+a))):=by rw[←Ge];simpa using I
 have S:=J.pre (252 - (6+a)) (Be _) (by rw[List.length_drop,g.out];omega)
 clear I J
 go_wp2_with (first|go_skip|(go_at_call 64;with_reducible refine C5 ?_))
 refine⟨(KJ H (252 - (6+a)) (c - (6+a)) _ d S (by rw[List.length_take,List.length_drop,g.out];omega)).mono ?_⟩
 rintro e BT ⟨rfl,rfl⟩
 rw[P.out]
 go_wp2
 exact bodyPost_ret (v:=.tuple #[.int .i64 0,.slice none 0 0,.int .i64 53]) (by simp[results,Tryz.results38,go_sem]) D ⟨D,b2⟩
theorem S0(q:Option Addr)(c p f a:Nat)(l:List UInt8)(w:World)(j:View w (.slice q 256 c) 256 1 (bv l))(m:l.length=256)(o:(decide (2≤p)&&decide (p<4096))=true)(A:Af.Cj l 252=0)(r:f=(l.getD 0 0).toNat)(s:a=(l.getD 1 0).toNat)(i:(decide (1≤f)&&decide (f≤3))=true)(ag:a≤246)(B:Fr.le ((l.drop 2).take 4)=p)(C:Fr.Dq ((l.drop (6+a)).take (252 - (6+a)))=true):
 Calls Tryz.prog 38 #[.int .i64 p,.slice q 256 c] w fun e w'=>(∃P,e=.returned (.tuple #[.int .i64 f,P,.int .i64 0]))∧Below w.heap.size w w':=by
 have t:=JB p w
 rw[o]at t
 have E:=Jt q 252 c l w j m
 have Ab:decide (Af.Cj l 252=0)=true:=by simpa using A
 rw[Ab]at E
 have ah:2≤p∧p<4096:=by simpa using o
 clear o A Ab
 have g:=Aw m
 have Q:=Aw r
 have R:=Aw s
 have ai:f<256:=by rw[r];exact(l.getD 0 0).toNat_lt
 have aj:a<256:=by rw[s];exact(l.getD 1 0).toNat_lt
 have F:=fun w=>K2 f w
 rw[i]at F
 clear r s i m
 go_enter H6,Tryz.ntmps38
 go_wp2_with (first|go_skip|(go_at_call 72;with_reducible refine C5 ?_))
 refine⟨t.mono ?_⟩
 rintro e W ⟨rfl,rfl⟩
 clear t
 go_wp2_with (first|go_skip|(go_at_call 63;with_reducible refine C5 ?_))
 refine⟨E.mono ?_⟩
 rintro e W ⟨rfl,b⟩
 have G:=j.below b
 obtain⟨AL,h,rfl,S,u⟩:=G.some (by decide)
 have T:W.cell? ⟨AL,h,none⟩=some (.int .u8 f):=by
  have:=u 0 (.int .u8 f) (by rw[Q.out];simp[bv,List.getD_eq_getElem?_getD,g.out])
  simpa using this
 have U:W.cell? ⟨AL,h+1,none⟩=some (.int .u8 a):=u 1 (.int .u8 a) (by rw[R.out];simp[bv,List.getD_eq_getElem?_getD,g.out])
 clear u
 go_wp2
 go_quiet (fail)
 obtain⟨d,x⟩:∃d,d=W.drewN nq:=⟨_,D⟩
 rw[←x]
 have b2:Below w.heap.size w d:=by rw[x];exact b.trans ⟨D,D,D,Be _,fun _ _=>rfl⟩
 have z:=j.below b2
 clear T U G S x
 go_wp2_with (first|go_skip|(go_at_call 73;with_reducible refine C5 ?_))
 refine⟨(F d).mono ?_⟩
 rintro e BT ⟨rfl,rfl⟩
 have V:=Aw C
 clear C
 have X:=Aw B
 clear B
 go_wp2_with (first|go_skip|(with_reducible refine Gr ?_))
 refine⟨OG A0 D (.tmp 34) (.const (.int .i64 2)) D (y:=some ⟨AL,h,none⟩) (n:=256) (c:=c) (xs:=bv l) D z 2 D (by decide) ?_⟩
 intro pp H _
 have Y:View d (.slice pp 254 (c - 2)) 254 1 (bv (l.drop 2)):=by rw[←Ge];exact H
 clear H
 go_wp2_with (first|go_skip|(go_at_call 65;with_reducible refine C5 ?_))
 refine⟨(JE pp 254 (c - 2) 4 (l.drop 2) d Y (by rw[List.length_drop,g.out])).mono ?_⟩
 rintro e BT ⟨rfl,rfl⟩
 rw[X.out]
 go_wp2_with (first|go_skip|(with_reducible refine JQ .neq ?_))
 refine⟨bin rfl .neq _ _ _ _ D (p:=.int .i64 p) (q:=.int .i64 p) D D (by simp[eqGuard]) (Ot _ p p false (by simp) _) ?_⟩
 go_wp2_with (first|go_skip|(with_reducible refine Gr ?_))
 refine⟨M6 A0 D (.tmp 40) (.tmp 42) (.const (.int .i64 252)) D (y:=some ⟨AL,h,none⟩) (n:=256) (c:=c) (xs:=bv l) D z (6+a) 252 D D (by omega) (by rw[D_,g.out];decide) ?_⟩
 intro I J _
 have K:View d (.slice I (252 - (6+a)) (c - (6+a))) (252 - (6+a)) 1 (bv (l.drop (6+a))):=by rw[←Ge];simpa using J
 have Z:=K.pre (252 - (6+a)) (Be _) (by rw[List.length_drop,g.out];omega)
 clear J K
 go_wp2_with (first|go_skip|(go_at_call 64;with_reducible refine C5 ?_))
 refine⟨(KJ I (252 - (6+a)) (c - (6+a)) _ d Z (by rw[List.length_take,List.length_drop,g.out];omega)).mono ?_⟩
 rintro e BT ⟨rfl,rfl⟩
 rw[V.out]
 go_wp2_with (first|go_skip|(with_reducible refine Gr ?_))
 refine⟨M6 A0 D (.tmp 47) (.const (.int .i64 6)) (.tmp 49) D (y:=some ⟨AL,h,none⟩) (n:=256) (c:=c) (xs:=bv l) D z 6 (6+a) D D (by omega) (by rw[D_,g.out];omega) ?_⟩
 intro aa L _
 have M:View d (.slice aa (6+a - 6) (c - 6)) (6+a - 6) 1 (bv (l.drop 6)):=by rw[←Ge];simpa using L
 have N:=M.pre (6+a - 6) (Be _) (by rw[List.length_drop,g.out];omega)
 clear L M
 have O:6+a - 6=a:=by omega
 rw[O]at N
 clear O
 go_wp2_with (with_reducible refine Qx ?_)
 refine⟨OR A0 D (.const (.slice none 0 0)) (.tmp 50) D d.heap.size (v:=.slice none 0 0) D D (xs:=[]) (World.ownsRow_nil d _ _ 1) N (Be _) (0+a) D (by omega) _ D ?_⟩
 intro ab AR ad ak ae
 have af:Below w.heap.size w ad:=b2.trans ((ae.below (Be _) (fun k i=>by cases i)).mono (by have:=b2.size;omega))
 go_wp2
 exact bodyPost_ret (v:=.tuple #[.int .i64 f,.slice ab (0+a) AR,.int .i64 0]) (by simp[results,Tryz.results38,go_sem]) D ⟨⟨_,D⟩,af⟩
end Go.Proofs.YtcdaflcjhimimaaGreatDoor
namespace Go.Proofs.YtcdaflcjhimimaaGreatDoor
open Go.RowKit
theorem Rw(q:Option Addr)(c p:Nat)(l:List UInt8)(w:World)(f:View w (.slice q 256 c) 256 1 (bv l))(g:l.length=256):
 Calls Tryz.prog 38 #[.int .i64 p,.slice q 256 c] w fun e w'=>∃k i,∃x:Int,e=.returned (.tuple #[k,i,.int .i64 x])∧decide (x=0)=Fr.Di p l∧Below w.heap.size w w':=by
 have no:∀ {e:Ending} {w':World} (n:Int),n≠0→Fr.Di p l=false→e=.returned (.tuple #[.int .i64 0,.slice none 0 0,.int .i64 n])∧Below w.heap.size w w'→∃k i,∃x:Int,e=.returned (.tuple #[k,i,.int .i64 x])∧decide (x=0)=Fr.Di p l∧Below w.heap.size w w':=by
  rintro e w' n hn h ⟨rfl,r⟩
  exact⟨_,_,n,D,by rw[h];simpa using hn,r⟩
 cases a:(decide (2≤p)&&decide (p<4096))with
 |false=>exact(Y1 q c p w a).mono (fun _ _=>no 54 (by decide) (by simp[Fr.Di,a]))
 |true=>
  by_cases b:Af.Cj l 252=0
  ·cases d:(decide (1≤(l.getD 0 0).toNat)&&decide ((l.getD 0 0).toNat≤3))with
   |false=>exact(W8 q c p _ _ l w f g a b D D d).mono (fun _ _=>no 50 (by decide) (by unfold Fr.Di;rw[d];simp))
   |true=>
    by_cases j:(l.getD 1 0).toNat≤246
    ·by_cases m:Fr.le ((l.drop 2).take 4)=p
     ·cases o:Fr.Dq ((l.drop (6+(l.getD 1 0).toNat)).take (252 - (6+(l.getD 1 0).toNat)))with
      |false=>exact(Uo q c p _ _ l w f g a b D D d j m o).mono (fun _ _=>no 53 (by decide) (by unfold Fr.Di;rw[o];simp))
      |true=>
       refine(S0 q c p _ _ l w f g a b D D d j m o).mono ?_
       rintro e w' ⟨⟨i,rfl⟩,r⟩
       refine⟨_,i,0,D,?_,r⟩
       unfold Fr.Di
       rw[o,d,a,decide_eq_true b,decide_eq_true j,decide_eq_true m]
       rfl
     ·exact(Wx q c p _ _ l w f g a b D D d j _ D (by simp;omega)).mono (fun _ _=>no 54 (by decide) (by unfold Fr.Di;rw[decide_eq_false m];simp))
    ·exact(YD q c p _ _ l w f g a b D D d (by omega)).mono (fun _ _=>no 51 (by decide) (by unfold Fr.Di;rw[decide_eq_false j];simp))
  ·exact(Ws q c p l w f g a b).mono (fun _ _=>no 52 (by decide) (by unfold Fr.Di;rw[decide_eq_false b];simp))
end Go.Proofs.YtcdaflcjhimimaaGreatDoor
namespace Go.Proofs.YtcdaflcjhimimaaGreatDoor
open Go.RowKit Go.Maps
variable {Bc:Nat}
def Lv(W:World)(n:Nat)(a b d:Value):Prop:=(a=.int .u32 0∧b=.int .i32 0)∨∃B2,a=.int .u32 1∧d=.map (some B2)∧W.ownsMap Tryz.prog 75 (plainElem (H:=Unit) Tryz.prog 3) B2 (8*n+32) (Af.Fa (Af.Eb n) (.map []))
theorem Lv.kept{w W:World}{n:Nat}{a b d:Value}(h:Lv w n a b d)(g:∀k,k<w.heap.size→(∃es c,w.heap[k]? =some (.map es c))→W.heap[k]? =w.heap[k]?):Lv W n a b d:=by
 rcases h with e|⟨B2,e,i,f⟩
 ·exact .inl e
 ·have j:=f.lt
  have l:=f
  obtain⟨es,c,q,_⟩:=l
  exact .inr ⟨B2,e,i,Iv f (g B2 j ⟨es,c,q⟩)⟩
def K1(AL n c:Nat)(u:Fr.Ch)(a a1 a2 b d b1 b2 e:Value):Array Value:=flat [[.slice (some ⟨AL,0,none⟩) n c],[.int .i64 ((u.w:Nat):Int)],[.int .i64 ((u.g:Nat):Int)],[.int .i64 ((u.m:Nat):Int)],[.int .i64 ((u.h:Nat):Int)],[.int .i64 ((u.p:Nat):Int)],[a],[a1],[a2],[b],[d],[b1],[b2],[e]]
structure LH (Aj A6 AL n c:Nat) (W:World) (l:List UInt8) (u:Fr.Ch) (Zu a1 a2 ao Z9 b1 b2 ZT:Value):Prop where
 H:W.heap[A6]? =some (.cells (K1 AL n c u Zu a1 a2 ao Z9 b1 b2 ZT) 88 (0,0))
 o:W.ownsRow Aj 5 1 (.slice (some ⟨AL,0,none⟩) n c) n (bv l)
 A:Lv W 252 Zu a1 ao
 B:Lv W 60 Z9 b1 ZT
 Z7:Aj≤A6
 ne:AL≠A6
def B9(Aj A6 AL n c:Nat)(W:World)(l:List UInt8)(u:Fr.Ch):Prop:=∃a a1 a2 b d b1 b2 e,LH Aj A6 AL n c W l u a a1 a2 b d b1 b2 e
def E2(A6 AL k:Nat):Prop:=k=A6∨k=AL
section
variable {Aj A6 AL n c p k:Nat} {w W:World} {l:List UInt8} {u:Fr.Ch}
theorem H7{Aj AL n c:Nat}{w:World}{e:TypeId}{xs:List Value}(h:w.ownsRow Aj e 1 (.slice (some ⟨AL,0,none⟩) n c) n xs):Aj≤AL∧∃cur,w.heap[AL]? =some (.cells cur e (0,0))∧cur.size=c∧n≤c∧c≤maxLen∧cur.toList.take n=xs:=by
 rcases h.2 with⟨q,_⟩|⟨g,cap,cur,a,b,d,f,i,j,k⟩
 ·cases q
 ·simp only[Value.slice.injEq,Option.some.injEq,Addr.mk.injEq]at a
  obtain⟨⟨rfl,_⟩,_,rfl⟩:=a
  exact⟨b,cur,d,by simpa using j,f,i,by simpa using k⟩
theorem Ms{Aj AL n c:Nat}{w:World}{e:TypeId}{xs:List Value}{cur:Array Value}(b:Aj≤AL)(h:w.heap[AL]? =some (.cells cur e (0,0)))(d:cur.size=c)(hn:n≤c)(f:c≤maxLen)(a:cur.toList.take n=xs):w.ownsRow Aj e 1 (.slice (some ⟨AL,0,none⟩) n c) n xs:=by
 refine⟨?_,.inr ⟨AL,c,cur,D,b,h,hn,f,by simpa using d,by simpa using a⟩⟩
 rw[←a,List.length_take]
 simp
 omega
theorem B9.Hl(h:B9 Aj A6 AL n c w l u):AL<w.heap.size:=by
 obtain⟨_,_,_,_,_,_,_,_,h⟩:=h
 obtain⟨_,cur,a,_⟩:=H7 h.o
 exact Ar a
theorem B9.GW(h:B9 Aj A6 AL n c w l u):A6<w.heap.size:=by
 obtain⟨_,_,_,_,_,_,_,_,h⟩:=h
 exact Ar h.H
theorem B9.len(h:B9 Aj A6 AL n c w l u):l.length=n:=by
 obtain⟨_,_,_,_,_,_,_,_,h⟩:=h
 exact CS h.o
theorem B9.low(h:B9 Aj A6 AL n c w l u):Aj≤A6∧Aj≤AL:=by
 obtain⟨_,_,_,_,_,_,_,_,h⟩:=h
 exact⟨h.Z7,(H7 h.o).1⟩
theorem B9.Ag(h:B9 Aj A6 AL n c w l u)(a:W.heap[A6]? =w.heap[A6]?)(b:W.heap[AL]? =w.heap[AL]?)(hm:∀k,k<w.heap.size→(∃es c,w.heap[k]? =some (.map es c))→W.heap[k]? =w.heap[k]?):B9 Aj A6 AL n c W l u:=by
 obtain⟨d,a1,a2,e,f,b1,b2,g,h⟩:=h
 obtain⟨i,cur,j,m,p,q,r⟩:=H7 h.o
 exact⟨d,a1,a2,e,f,b1,b2,g,a.trans h.H,Ms i (b.trans j) m p q r,h.A.kept hm,h.B.kept hm,h.Z7,h.ne⟩
theorem B9.below(h:B9 Aj A6 AL n c w l u)(a:Below w.heap.size w W):B9 Aj A6 AL n c W l u:=h.Ag (a.block _ h.GW) (a.block _ h.Hl) (fun k b _=>a.block k b)
theorem B9.grown(h:B9 Aj A6 AL n c w l u)(g:w.grownBy W (some k))(b:k≠A6)(d:k≠AL)(a:∃c t,w.heap[k]? =some (.cells c t (0,0))):B9 Aj A6 AL n c W l u:=by
 obtain⟨c',i,a⟩:=a
 exact h.Ag (g.block _ h.GW (fun e=>b (by cases e;rfl))) (g.block _ h.Hl (fun e=>d (by cases e;rfl))) (fun j f ⟨es,m,hm⟩=>g.block j f (by
  intro e
  cases e
  rw[a]at hm
  cases hm))
theorem B9.C9{v BL:Value}{B size m:Nat}{e:TypeId}{xs:List Value}(h:B9 Aj A6 AL n c w l u)(a:C' w W v BL)(b:w.ownsRow B e size v m xs)(d:∀k,v.ownBlock=some k→k≠A6)(f:∀k,v.ownBlock=some k→k≠AL):B9 Aj A6 AL n c W l u:=by
 have g:=a.ai
 refine h.Ag (g.block _ h.GW (fun e=>d _ e.symm D)) (g.block _ h.Hl (fun e=>f _ e.symm D)) (fun j i ⟨es,s,hm⟩=>g.block j i ?_)
 intro e
 rcases b.2 with⟨q,_⟩|⟨F8,cap,cur,o,_,p,_⟩
 ·rw[q]at e;cases e
 ·rw[o]at e
  simp only[Value.ownBlock,Option.some.injEq]at e
  subst e
  rw[p]at hm
  cases hm
theorem FY{l:List UInt8}{n p:Nat}(h:l.length=n)(a:256*(p+1)≤n:=by omega):(BB l p).length=256:=by unfold BB;rw[List.length_take,List.length_drop];omega
theorem B9.view(h:B9 Aj A6 AL n c w l u)(off m:Nat)(hm:off+m≤n):View w (.slice (some ⟨AL,off,none⟩) m (c - off)) m 1 (bv ((l.drop off).take m)):=by
 obtain⟨f,a1,a2,g,i,b1,b2,k,h⟩:=h
 obtain⟨p,cur,b,q,r,s,d⟩:=H7 h.o
 have t:=CS h.o
 have e:(bv ((l.drop off).take m))=((bv l).drop off).take m:=by simp[bv,List.map_drop,List.map_take]
 refine⟨by rw[D_,List.length_take,List.length_drop];omega,.inr ⟨AL,off,c - off,D,by rw[D_,List.length_take,List.length_drop];omega,by omega,by omega,Ar b,fun j v a=>?_⟩⟩
 rw[cell_of_row _ _ _ _ _ _ b]
 rw[e,List.getElem?_take]at a
 split at a
 ·rw[List.getElem?_drop,←d,List.getElem?_take]at a
  split at a
  ·simpa using a
  ·cases a
 ·cases a
theorem B9.FW(h:B9 Aj A6 AL n c w l u)(a:256*(p+1)≤n):View w (.slice (some ⟨AL,256*p,none⟩) 256 (c - 256*p)) 256 1 (bv (BB l p)):=h.view (256*p) 256 (by omega)
theorem B9.cell(h:B9 Aj A6 AL n c w l u){i:Nat}(a:i<n):w.cell? ⟨AL,i,none⟩=some (.int .u8 (((l.getD i 0).toNat:Nat):Int)):=by
 obtain⟨e,a1,a2,f,g,b1,b2,j,h⟩:=h
 obtain⟨k,cur,b,m,p,q,d⟩:=H7 h.o
 have r:=CS h.o
 rw[cell_of_row _ _ _ _ _ _ b]
 have:(bv l)[i]? =some (.int .u8 (((l.getD i 0).toNat:Nat):Int)):=by
  unfold bv
  rw[List.getElem?_map,List.getElem?_eq_getElem (by omega),List.getD_eq_getElem?_getD,List.getElem?_eq_getElem (by omega)]
  rfl
 rw[←d,List.getElem?_take,if_pos a]at this
 simpa using this
theorem B9.set(h:B9 Aj A6 AL n c w l u){i:Nat}{x:UInt8}(C:i<n){cur:Array Value}(a:w.heap[AL]? =some (.cells cur 5 (0,0)))(d:W.heap[AL]? =some (.cells (cur.setIfInBounds i (.int .u8 ((x.toNat:Nat):Int))) 5 (0,0)))(g:w.grownBy W (some AL)):B9 Aj A6 AL n c W (l.set i x) u:=by
 have f:=h.GW
 obtain⟨k,a1,a2,m,p,b1,b2,q,h⟩:=h
 obtain⟨r,D,b,s,t,v,y⟩:=H7 h.o
 rw[a]at b
 cases b
 have hm:∀j,j<w.heap.size→(∃es c,w.heap[j]? =some (.map es c))→W.heap[j]? =w.heap[j]? :=fun j z ⟨es,E,hm⟩=>g.block j z (by
  intro e
  cases e
  rw[a]at hm
  cases hm)
 refine⟨k,a1,a2,m,p,b1,b2,q,(g.block _ f (fun e=>h.ne (by cases e;rfl))).trans h.H,Ms r d (by simpa using s) t v ?_,h.A.kept hm,h.B.kept hm,h.Z7,h.ne⟩
 rw[Array.toList_setIfInBounds,List.take_set,y]
 simp[bv,List.map_set]
theorem Vi{cs:Array Value}{v a1 a2 x y b1 b2 z:Value}(A:cs.size=14)(h:∀j,j<6→cs[j]? =(K1 AL n c u v a1 a2 x y b1 b2 z)[j]?):∃Fp a b d e f i k,cs=K1 AL n c u Fp a b d e f i k:=by
 have l:=h 0 (by decide)
 have o:=h 1 (by decide)
 have q:=h 2 (by decide)
 have r:=h 3 (by decide)
 have s:=h 4 (by decide)
 have t:=h 5 (by decide)
 obtain⟨L⟩:=cs
 match L,A,l,o,q,r,s,t with
 |[B,C,D,E,F,G,Fp,a,b,d,e,f,i,k],_,l,o,q,r,s,t=>
  have H:B=Value.slice (some ⟨AL,0,none⟩) n c:=Option.some.inj l
  have I:C=Value.int .i64 ((u.w:Nat):Int):=Option.some.inj o
  have J:D=Value.int .i64 ((u.g:Nat):Int):=Option.some.inj q
  have K:E=Value.int .i64 ((u.m:Nat):Int):=Option.some.inj r
  have M:F=Value.int .i64 ((u.h:Nat):Int):=Option.some.inj s
  have N:G=Value.int .i64 ((u.p:Nat):Int):=Option.some.inj t
  exact⟨Fp,a,b,d,e,f,i,k,by rw[H,I,J,K,M,N];rfl⟩
theorem B9.Rs{k:Nat}{a a1 a2 b d b1 b2 f:Value}(h:LH Aj A6 AL n c w l u a a1 a2 b d b1 b2 f)(v:(Bc=6∧k=252)∨(Bc=10∧k=60))(t:GN w W A6 Bc k (K1 AL n c u a a1 a2 b d b1 b2 f) 88):B9 Aj A6 AL n c W l u∧w.grownBy W (some A6):=by
 obtain⟨I,g,r1,r2,Ig,Hp⟩:=t
 have hm:∀j,j<w.heap.size→(∃es c,w.heap[j]? =some (.map es c))→W.heap[j]? =w.heap[j]? :=fun j x ⟨es,R,y⟩=>g.block j x (by
  intro e
  cases e
  rw[h.H]at y
  cases y)
 obtain⟨J,cur,z,K,L,M,N⟩:=H7 h.o
 have O:W.heap[AL]? =some (.cells cur 5 (0,0)):=(g.block _ (Ar z) (fun e=>h.ne (by cases e;rfl))).trans z
 obtain⟨Fp,C,P,D,E,F,Q,G,e⟩:=Vi (cs:=I) (by rw[Ig];rfl) (fun j x=>Hp j (by omega))
 subst e
 refine⟨⟨Fp,C,P,D,E,F,Q,G,r1,Ms J O K L M N,?_,?_,h.Z7,h.ne⟩,g⟩
 ·rcases v with⟨rfl,rfl⟩|⟨rfl,rfl⟩
  ·rcases r2.2 with⟨p,q⟩|⟨B2,p,q,m⟩
   ·exact .inl ⟨Option.some.inj p,Option.some.inj q⟩
   ·exact .inr ⟨B2,Option.some.inj p,Option.some.inj q,m⟩
  ·have i:Fp=a:=Option.some.inj (Hp 6 (by omega))
   have r:C=a1:=Option.some.inj (Hp 7 (by omega))
   have s:D=b:=Option.some.inj (Hp 9 (by omega))
   rw[i,r,s]
   exact h.A.kept hm
 ·rcases v with⟨rfl,rfl⟩|⟨rfl,rfl⟩
  ·have i:E=d:=Option.some.inj (Hp 10 (by omega))
   have r:F=b1:=Option.some.inj (Hp 11 (by omega))
   have s:G=f:=Option.some.inj (Hp 13 (by omega))
   rw[i,r,s]
   exact h.B.kept hm
  ·rcases r2.2 with⟨p,q⟩|⟨B2,p,q,m⟩
   ·exact .inl ⟨Option.some.inj p,Option.some.inj q⟩
   ·exact .inr ⟨B2,Option.some.inj p,Option.some.inj q,m⟩
theorem LH.OX{a a1 a2 b d b1 b2 e:Value}(h:LH Aj A6 AL n c w l u a a1 a2 b d b1 b2 e){k:Nat}(f:(Bc=6∧k=252)∨(Bc=10∧k=60)):TabIs w A6 Bc k (K1 AL n c u a a1 a2 b d b1 b2 e):=by
 rcases f with⟨rfl,rfl⟩|⟨rfl,rfl⟩
 ·refine⟨by show 6+3<14;decide,?_⟩
  rcases h.A with⟨p,q⟩|⟨B2,p,q,m⟩
  ·exact .inl ⟨congrArg some p,congrArg some q⟩
  ·exact .inr ⟨B2,congrArg some p,congrArg some q,m⟩
 ·refine⟨by show 10+3<14;decide,?_⟩
  rcases h.B with⟨p,q⟩|⟨B2,p,q,m⟩
  ·exact .inl ⟨congrArg some p,congrArg some q⟩
  ·exact .inr ⟨B2,congrArg some p,congrArg some q,m⟩
theorem Bd.OE{X:Nat→Prop}{b:Nat}(g:w.grownBy W (some b))(a:X b):Bd X w W:=⟨g.os,g.tape,g.output,g.size,fun k c hn=>g.block k c (fun e=>hn (by cases e;exact a))⟩
theorem RY{k m:Nat}(h:B9 Aj A6 AL n c w l u)(d:(Bc=6∧k=252∧m=256)∨(Bc=10∧k=60∧m=64))(f:256*(p+1)≤n)(a:Af.last (Af.Eb k) (Af.Cj ((BB l p).take m) k)=none):
 Calls Tryz.prog 35 #[.pointer (some ⟨A6,Bc,none⟩),.slice (some ⟨AL,256*p,none⟩) m (c - 256*p),.int .i64 ((k:Nat):Int)] w fun e w'=>e=.returned (.tuple #[.nilFunc,.bool false])∧B9 Aj A6 AL n c w' l u∧Bd (E2 A6 AL) w w':=by
 have i:=h.len
 have b:=h.view (256*p) m (by omega)
 obtain⟨j,a1,a2,o,r,b1,b2,s,h⟩:=h
 have e:(BB l p).take m=(l.drop (256*p)).take m:=by unfold BB;rw[List.take_take,Nat.min_eq_left (by omega)]
 rw[e]at a
 refine(Ta A6 Bc k m (c - 256*p) (some ⟨AL,256*p,none⟩) _ _ _ w h.H (h.OX (by omega)) (by omega) (by omega) b (by rw[List.length_take,List.length_drop];omega) (by omega) a).mono ?_
 rintro e w' ⟨rfl,t⟩
 obtain⟨q,g⟩:=B9.Rs h (by omega) t
 exact⟨D,q,Bd.OE g (.inl D)⟩
theorem P9{k m j:Nat}(h:B9 Aj A6 AL n c w l u)(A:(Bc=6∧k=252∧m=256)∨(Bc=10∧k=60∧m=64))(B:256*(p+1)≤n)(b:Af.last (Af.Eb k) (Af.Cj ((BB l p).take m) k)=some j)(f:j<8*m):
 Calls Tryz.prog 35 #[.pointer (some ⟨A6,Bc,none⟩),.slice (some ⟨AL,256*p,none⟩) m (c - 256*p),.int .i64 ((k:Nat):Int)] w fun e w'=>∃v,e=.returned (.tuple #[v,.bool true])∧B9 Aj A6 AL n c w' (Af.bit l (2048*p+j)) u∧Bd (E2 A6 AL) w w':=by
 have C:=h.len
 have i:=h.view (256*p) m (by omega)
 obtain⟨E,a1,a2,F,G,b1,b2,I,h⟩:=h
 have e:(BB l p).take m=(l.drop (256*p)).take m:=by unfold BB;rw[List.take_take,Nat.min_eq_left (by omega)]
 rw[e]at b
 obtain⟨J,cur,a,K,L,M,N⟩:=H7 h.o
 refine(WC A6 Bc k m (c - 256*p) (256*p) AL j _ cur _ _ w h.H (h.OX (by omega)) (by omega) (by omega) a h.ne i (by rw[List.length_take,List.length_drop];omega) (by omega) b f (by omega)).mono ?_
 rintro e w' ⟨v,r,rfl,t,g,hw⟩
 obtain⟨q,d⟩:=B9.Rs h (by omega) t
 have x:r.heap[AL]? =some (.cells cur 5 (0,0)):=(d.block _ (Ar a) (fun e=>h.ne (by cases e;rfl))).trans a
 have y:((l.drop (256*p)).take m).getD (j/8) 0=l.getD (256*p+j/8) 0:=by
  rw[List.getD_eq_getElem?_getD,List.getD_eq_getElem?_getD,List.getElem?_take,if_pos (by omega),List.getElem?_drop]
 rw[y]at hw
 have s:=q.set (by omega) x hw g
 refine⟨v,D,?_,(Bd.OE (X:=E2 A6 AL) d (.inl D)).trans (Bd.OE (X:=E2 A6 AL) g (.inr D)) (fun _ h _=>h)⟩
 have z:Af.bit l (2048*p+j)=l.set (256*p+j/8) (l.getD (256*p+j/8) 0^^^UInt8.ofNat (2^(j % 8))):=by
  unfold Af.bit Af.Es
  rw[show(2048*p+j)/8=256*p+j/8 by omega,show(2048*p+j) % 8=j % 8 by omega]
 rw[z]
 exact s
end
end Go.Proofs.YtcdaflcjhimimaaGreatDoor
namespace Go.Proofs.YtcdaflcjhimimaaGreatDoor
open Go.RowKit Go.Maps
set_option maxRecDepth 100000
set_option maxHeartbeats 1000000
theorem WB(b o n c l h a Dp:Nat)(d:l≤h)(e:h≤c)(q:l<c)(f:o+l=a)(g:h - l=Dp)(W:World)(k k':IntKind):(Instr.sliceAt 28 (.slice (some ⟨b,o,none⟩) n c) (some (.int k ((l:Nat):Int))) (some (.int k' ((h:Nat):Int))) none).run Tryz.prog W=.ok (.slice (some ⟨b,a,none⟩) Dp (c - l)) W:=by
 subst f
 subst g
 obtain⟨i,j,r,m,s⟩:=A0.bl
 have p:=NY (P:=Tryz.prog) (w:=W) k k' n c l h d e
 simp[Instr.sliceAt,Instr.slice,run_underlying A0.ZJ,p,sizeOf,typeInfo,j,m,GO,show¬c=l by omega]
theorem Rl(b o n c l a Dp:Nat)(d:l≤n)(m:n≤c)(p:l<c)(e:o+l=a)(f:n - l=Dp)(W:World)(k:IntKind):(Instr.sliceAt 28 (.slice (some ⟨b,o,none⟩) n c) (some (.int k ((l:Nat):Int))) none none).run Tryz.prog W=.ok (.slice (some ⟨b,a,none⟩) Dp (c - l)) W:=by
 subst e
 subst f
 obtain⟨i,g,q,h,r⟩:=A0.bl
 have j:=NT (P:=Tryz.prog) (w:=W) k n c l d
 simp[Instr.sliceAt,Instr.slice,run_underlying A0.ZJ,j,sizeOf,typeInfo,g,h,GO,show¬c=l by omega]
section
variable {Aj A6 AL n c p k:Nat} {w W:World} {l:List UInt8} {u:Fr.Ch}
theorem B9.cap(h:B9 Aj A6 AL n c w l u):n≤c∧AL≠A6:=by
 obtain⟨_,_,_,_,_,_,_,_,h⟩:=h
 obtain⟨_,cur,b,d,a,e,f⟩:=H7 h.o
 exact⟨a,h.ne⟩
theorem B9.own(h:B9 Aj A6 AL n c w l u):w.ownsRow Aj 5 1 (.slice (some ⟨AL,0,none⟩) n c) n (bv l):=by
 obtain⟨_,_,_,_,_,_,_,_,h⟩:=h
 exact h.o
theorem B9.Oh(h:B9 Aj A6 AL n c w l u):w.cell? ⟨A6,0,none⟩=some (.slice (some ⟨AL,0,none⟩) n c):=by
 obtain⟨_,_,_,_,_,_,_,_,h⟩:=h
 rw[cell_of_row _ _ _ _ _ _ h.H];rfl
theorem B9.mark(h:B9 Aj A6 AL n c w l u):w.cell? ⟨A6,3,none⟩=some (.int .i64 ((u.m:Nat):Int)):=by
 obtain⟨_,_,_,_,_,_,_,_,h⟩:=h
 rw[cell_of_row _ _ _ _ _ _ h.H];rfl
theorem B9.VV(h:B9 Aj A6 AL n c w l u):w.cell? ⟨A6,5,none⟩=some (.int .i64 ((u.p:Nat):Int)):=by
 obtain⟨_,_,_,_,_,_,_,_,h⟩:=h
 rw[cell_of_row _ _ _ _ _ _ h.H];rfl
end
section
variable {P:Program} {w w':World} {a:Act} {U d:Nat} {f:Db} {Aa:Act→World→Prop} {Ac:Exit→Act→World→Prop} {ty:TypeId} {pos:String} {AF:Array Edge} {g:Option (Nat×Bool)} {Aj A6 AL n c:Nat} {l:List UInt8} {u:Fr.Ch}
theorem QJ(k:Ao U a f){Az:TypeId}{x y:Operand}(e:B9 Aj A6 AL n c w l u){j:Nat}(m:Au f x=some (.pointer (some ⟨AL,j,none⟩)))(o:j<n){b:UInt8}(p:Au f y=some (.int .u8 ((b.toNat:Nat):Int)))(q:(P.info? Az).map (·.size)=some 1)
 (h:∀d W,Ao U d f→B9 Aj A6 AL n c W (l.set j b) u→w.grownBy W (some AL)→Aa d W):DP P ⟨none,.store Az x y,ty,pos,AF,g⟩ a w Aa Ac:=by
 obtain⟨_,cur,i,t,v,z,A⟩:=H7 e.own
 exact Kx k m i p D q (by omega) D (fun d W r _ s g=>h d W r (e.set o i s g) g)
theorem R1(z:Ao U a f){Az:TypeId}{x y:Operand}(b:B9 Aj A6 AL n c w l u)(s:Fr.Ch)(C:Au f x=some (.pointer (some ⟨A6,1,none⟩)))(E:Au f y=some (.agg (flat [[.int .i64 ((s.w:Nat):Int)],[.int .i64 ((s.g:Nat):Int)],[.int .i64 ((s.m:Nat):Int)],[.int .i64 ((s.h:Nat):Int)],[.int .i64 ((s.p:Nat):Int)]])))(F:(P.info? Az).map (·.size)=some 5)
 (h:∀d W,Ao U d f→B9 Aj A6 AL n c W l s→w.grownBy W (some A6)→Aa d W):DP P ⟨none,.store Az x y,ty,pos,AF,g⟩ a w Aa Ac:=by
 obtain⟨i,a1,a2,k,q,b1,b2,r,b⟩:=b
 refine Gs z C [[.slice (some ⟨AL,0,none⟩) n c]] [[.int .i64 ((u.w:Nat):Int)],[.int .i64 ((u.g:Nat):Int)],[.int .i64 ((u.m:Nat):Int)],[.int .i64 ((u.h:Nat):Int)],[.int .i64 ((u.p:Nat):Int)]] [[i],[a1],[a2],[k],[q],[b1],[b2],[r]] [[.int .i64 ((s.w:Nat):Int)],[.int .i64 ((s.g:Nat):Int)],[.int .i64 ((s.m:Nat):Int)],[.int .i64 ((s.h:Nat):Int)],[.int .i64 ((s.p:Nat):Int)]] b.H E D D F (Jc.one D (Jc.one D (Jc.one D (Jc.one D (Jc.one D Jc.nil))))) (fun d W G _ I g=>?_)
 have hm:∀j,j<w.heap.size→(∃es c,w.heap[j]? =some (.map es c))→W.heap[j]? =w.heap[j]? :=fun j J ⟨es,R,t⟩=>g.block j J (by
  intro e
  cases e
  rw[b.H]at t
  cases t)
 obtain⟨K,cur,v,L,M,N,O⟩:=H7 b.o
 have Q:W.heap[AL]? =some (.cells cur 5 (0,0)):=(g.block _ (Ar v) (fun e=>b.ne (by cases e;rfl))).trans v
 exact h d W G ⟨i,a1,a2,k,q,b1,b2,r,I,Ms K Q L M N O,b.A.kept hm,b.B.kept hm,b.Z7,b.ne⟩ g
end
def Gd(l:List UInt8)(p k:Nat):List UInt8:=l.take (256*p+64)++(List.replicate k 0++l.drop (256*p+64+k))
theorem Jz{l:List UInt8}{p k:Nat}(h:256*p+64+k≤l.length)(i:Nat):(Gd l p k)[i]? =if 256*p+64≤i∧i<256*p+64+k then some 0 else l[i]? :=by
 unfold Gd
 have a:(l.take (256*p+64)).length=256*p+64:=by rw[List.length_take];omega
 by_cases q:i<256*p+64
 ·rw[List.getElem?_append_left (by omega),List.getElem?_take,if_pos q,if_neg (by omega)]
 ·rw[List.getElem?_append_right (by omega),a]
  by_cases r:i<256*p+64+k
  ·rw[List.getElem?_append_left (by rw[List.length_replicate];omega),List.getElem?_replicate,if_pos (by omega),if_pos (by omega)]
  ·rw[List.getElem?_append_right (by rw[List.length_replicate];omega),List.length_replicate,List.getElem?_drop,if_neg (by omega),show 256*p+64+k+(i - (256*p+64) - k)=i by omega]
theorem St(l:List UInt8)(p:Nat):Gd l p 0=l:=by unfold Gd;simp
theorem Nb{l:List UInt8}{p k:Nat}(h:256*p+64+k≤l.length:=by omega):(Gd l p k).length=l.length:=by
 unfold Gd
 rw[List.length_append,List.length_append,List.length_take,List.length_replicate,List.length_drop]
 omega
theorem Ma{l:List UInt8}{p k:Nat}(h:256*p+64+k≤l.length:=by omega):(Gd l p k).getD (256*p+64+k) 0=l.getD (256*p+64+k) 0:=by
 rw[List.getD_eq_getElem?_getD,List.getD_eq_getElem?_getD,Jz h,if_neg (by omega)]
theorem O9{l:List UInt8}{p k:Nat}(h:256*p+64+(k+1)≤l.length):(Gd l p k).set (256*p+(64+k)) 0=Gd l p (k+1):=by
 apply List.ext_getElem?
 intro i
 rw[List.getElem?_set,Jz h,Jz (by omega),Nb]
 by_cases q:256*p+(64+k)=i
 ·rw[if_pos q,if_pos (by omega),if_pos (by omega)]
 ·rw[if_neg q]
  by_cases r:256*p+64≤i∧i<256*p+64+k
  ·rw[if_pos r,if_pos (by omega)]
  ·rw[if_neg r,if_neg (by omega)]
theorem QL{l:List UInt8}{p k:Nat}(h:256*p+64+(k+1)≤l.length)(a:l.getD (256*p+64+k) 0=0):Gd l p k=Gd l p (k+1):=by
 apply List.ext_getElem?
 intro i
 rw[Jz h,Jz (by omega)]
 by_cases q:i=256*p+64+k
 ·subst q
  rw[if_neg (by omega),if_pos (by omega),List.getElem?_eq_getElem (by omega)]
  rw[List.getD_eq_getElem?_getD,List.getElem?_eq_getElem (by omega)]at a
  congr 1
 ·by_cases r:256*p+64≤i∧i<256*p+64+k
  ·rw[if_pos r,if_pos (by omega)]
  ·rw[if_neg r,if_neg (by omega)]
theorem RN{l:List UInt8}{p:Nat}(h:256*(p+1)≤l.length):BB (Gd l p 192) p=(BB l p).take 64++List.replicate 192 0:=by
 apply List.ext_getElem?
 intro i
 have a:((BB l p).take 64).length=64:=by rw[List.length_take,FY D h];rfl
 rw[H3]
 by_cases q:i<256
 ·rw[if_pos q,Jz (by omega)]
  by_cases r:i<64
  ·rw[if_neg (by omega),List.getElem?_append_left (by omega),List.getElem?_take,if_pos r,H3,if_pos q]
  ·rw[if_pos (by omega),List.getElem?_append_right (by omega),a,List.getElem?_replicate,if_pos (by omega)]
 ·rw[if_neg q,List.getElem?_eq_none (by rw[List.length_append,a,List.length_replicate];omega)]
theorem Rg{l:List UInt8}{p q:Nat}(h:256*(p+1)≤l.length)(a:q≠p):BB (Gd l p 192) q=BB l q:=by
 apply List.ext_getElem?
 intro i
 rw[H3,H3]
 split
 ·rw[Jz (by omega),if_neg (by omega)]
 ·rfl
theorem RX(q:Option Addr)(c p:Nat)(l:List UInt8)(w:World)(b:Fr.Di p l=true)(d:View w (.slice q 256 c) 256 1 (bv l))(f:l.length=256):
 Calls Tryz.prog 38 #[.int .i64 ((p:Nat):Int),.slice q 256 c] w fun e w'=>∃k a,e=.returned (.tuple #[k,a,.int .i64 ((0:Nat):Int)])∧Below w.heap.size w w':=by
 refine(Rw q c p l w d f).mono ?_
 rintro e w' ⟨k,a,x,rfl,h,g⟩
 rw[b]at h
 obtain rfl:x=0:=by simpa using h
 exact⟨k,a,D,g⟩
theorem O5(q:Option Addr)(c p:Nat)(l:List UInt8)(w:World)(b:Fr.Di p l=false)(d:View w (.slice q 256 c) 256 1 (bv l))(f:l.length=256):
 Calls Tryz.prog 38 #[.int .i64 ((p:Nat):Int),.slice q 256 c] w fun e w'=>∃k a,∃x:Int,e=.returned (.tuple #[k,a,.int .i64 x])∧x≠0∧Below w.heap.size w w':=by
 refine(Rw q c p l w d f).mono ?_
 rintro e w' ⟨k,a,x,rfl,h,g⟩
 rw[b]at h
 exact⟨k,a,x,D,by simpa using h,g⟩
theorem T4(q a:Option Addr)(c c':Nat)(l m:List UInt8)(w:World){s:Fr.Ch}(b:Fr.choose l m=.ok s)(d:View w (.slice q 256 c) 256 1 (bv l))(f:l.length=256)(i:View w (.slice a 256 c') 256 1 (bv m))(j:m.length=256):
 Calls Tryz.prog 36 #[.slice q 256 c,.slice a 256 c'] w fun e w'=>e=.returned (.tuple #[.agg (flat [[.int .i64 ((s.w:Nat):Int)],[.int .i64 ((s.g:Nat):Int)],[.int .i64 ((s.m:Nat):Int)],[.int .i64 ((s.h:Nat):Int)],[.int .i64 ((s.p:Nat):Int)]]),.int .i64 ((0:Nat):Int)])∧Below w.heap.size w w':=by
 refine(choose_spec q a c c' l m w d f i j).mono ?_
 rintro e w' ⟨rfl,k⟩
 rw[b]
 exact⟨D,k⟩
theorem Wy(q a:Option Addr)(c c':Nat)(l m:List UInt8)(w:World)(b:Fr.choose l m=.error 4)(d:View w (.slice q 256 c) 256 1 (bv l))(f:l.length=256)(g:View w (.slice a 256 c') 256 1 (bv m))(h:m.length=256):
 Calls Tryz.prog 36 #[.slice q 256 c,.slice a 256 c'] w fun e w'=>e=.returned (.tuple #[.agg (flat [[.int .i64 ((0:Nat):Int)],[.int .i64 ((0:Nat):Int)],[.int .i64 ((0:Nat):Int)],[.int .i64 ((0:Nat):Int)],[.int .i64 ((0:Nat):Int)]]),.int .i64 ((4:Nat):Int)])∧Below w.heap.size w w':=by
 refine(choose_spec q a c c' l m w d f g h).mono ?_
 rintro e w' ⟨rfl,i⟩
 rw[b]
 exact⟨D,i⟩
theorem R8(q:Option Addr)(n c P:Nat)(l:List UInt8)(w:World)(j:View w (.slice q n c) n 1 (bv l))(g:l.length=n)(hn:n=256*P)(t:3≤P)(u:P≤4096):
 Calls Tryz.prog 17 #[.slice q n c] w fun e w'=>∃A6 AL c',e=.returned (.tuple #[.pointer (some ⟨A6,0,none⟩),.int .i64 ((0:Nat):Int)])∧B9 w.heap.size A6 AL n c' w' l ⟨0,0,0,0,0⟩∧Below w.heap.size w w':=by
 have hm:((n:Int) % 256)=0:=by omega
 have Ab:((n:Int)/256)=(P:Int):=by omega
 have x:=Aw hn
 have m:=Aw g
 have y:n≤1048576:=by omega
 have o:0<n:=by omega
 clear hn g
 go_enter NP,Tryz.ntmps17
 go_wp2_with (first|go_skip|(with_reducible refine Qx ?_))
 have lt:l.take n=l:=List.take_of_length_le (by rw[m.out];exact Be _)
 refine⟨OR A0 D (.const (.slice none 0 0)) (.tmp 18) D w.heap.size (v:=.slice none 0 0) (xs:=[]) D D (World.ownsRow_nil w _ _ _) j (Be _) n (by simp) (by omega) l (by simp[lt]) ?_⟩
 intro z d a b h
 obtain⟨AL,rfl⟩:=Ia b o
 have p:=Aw b
 have b1:Below w.heap.size w a:=(Bu _ _).grown h.ai (Be _) (fun k r=>by simp[Value.ownBlock]at r)
 have i:=b1.size
 have li:AL<a.heap.size:=(b.lt AL D).2
 clear b h lt
 go_wp2_with (first|go_skip|(with_reducible refine KF 88 ?_))
 refine⟨KM D 88 (.tmp 20) D (v:=.agg (S' (some ⟨AL,0,none⟩) n d)) D ?_⟩
 intro s B f b2
 simp only[Value.cells]at f
 have I2:B9 w.heap.size a.heap.size AL n d s l ⟨0,0,0,0,0⟩:=
  ⟨.int .u32 0,.int .i32 0,.int .u32 0,.map none,.int .u32 0,.int .i32 0,.int .u32 0,.map none,f,Q5 p.out b2,.inl ⟨D,D⟩,.inl ⟨D,D⟩,i,by omega⟩
 clear f
 go_wp2
 go_ret2
 exact⟨a.heap.size,AL,d,D,I2,b1.trans (b2.mono i)⟩
end Go.Proofs.YtcdaflcjhimimaaGreatDoor
