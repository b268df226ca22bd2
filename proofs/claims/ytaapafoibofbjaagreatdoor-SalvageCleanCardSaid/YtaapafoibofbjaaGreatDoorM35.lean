/- Laws and walks on the road to SalvageClean (part M35). No conditions beyond each law's own. -/
import Derived.Test.YtaapafoibofbjaaGreatDoorM01
import Derived.Test.YtaapafoibofbjaaGreatDoorM34
import Derived.Test.YtaapafoibofbjaaGreatDoorM07
import Derived.Test.YtaapafoibofbjaaGreatDoorM29
import Derived.Test.YtaapafoibofbjaaGreatDoorM11
set_option linter.unusedVariables false
namespace Go.Proofs.YtaapafoibofbjaaGreatDoor
open Go.RowKit
set_option maxRecDepth 100000
set_option maxHeartbeats 1000000
def bG(o:Option Fr.Bu):Value:=match o with
 |some s=>.tuple #[FV s,.int .i64 0]
 |none=>.tuple #[FK,.int .i64 4]
theorem QU{w:World}{c:Act}{N:Nat}{f:BW}{ty t:TypeId}{pos:String}{An:Array Edge}{dst:Option Tmp}{g:Option (Nat×Bool)}(d:AH N c f){x y:Operand}{a b:Fr.Bu}(e:Aj f x=some (FV a))(h:Aj f y=some (FV b))(r:Bool)(hr:(!decide (a=b))=r):CD Tryz.prog c w ⟨dst,.binOp .neq 68 x y t,ty,pos,An,g⟩ (.bool r) w:=by
 subst hr
 exact ED d e h (hz _ _ _ _ _) (h2 _ _ _)
theorem Vz(x y:Fr.Bu)(w:World)(aG:x.g<4611686018427387904)(J:y.g<4611686018427387904):
 Calls Tryz.prog 78 #[Value.agg (flat [[E x.w],[E x.g],[E x.m],[E x.h],[E x.p]]),Value.agg (flat [[E y.w],[E y.g],[E y.m],[E y.h],[E y.p]])] w fun e w'=>∃v,e=.returned v∧v=bG (Fr.Ed x y)∧Below w.heap.size w w':=by
 have c:Below w.heap.size w w:=Cn _ _
 refine DZ SO D 48 ?_
 refine Ao<|AD<|Hf D ?_
 intro V aH o n i J
 have aI:=C8 c o
 have c:=BG c J
 refine Hf D ?_
 intro X aJ o n j J
 have aK:=C8 c o
 have aL:=C6 i o
 have i:=Bl i J
 have c:=BG c J
 refine D4 [[E 0],[E 0],[E 0],[E 0],[E 0]] ?_
 intro Y aM o n d J
 have aN:=C8 c o
 have aO:=C6 i o
 have aP:=C6 j o
 have i:=Bl i J
 have j:=Bl j J
 have c:=BG c J
 refine AV (v:=(E 0)) D<|Aw<|Ai<|Ao<|Ao<|AD<|Gt BM 1 D<|Hv AF 1 i D D<|Mz (q:=2) D D<|?_
 by_cases Z:((x.g % 2:Nat):Int)=((0:Nat):Int)
 ·
  refine Mg Z D D<|Az D<|ES D D D<|Gt BM 1 D<|ES D D D<|Hv AF 1 j D D<|ES D D D<|Mz (q:=2) D D<|?_
  by_cases aa:((y.g % 2:Nat):Int)=((1:Nat):Int)
  ·
   refine ES D D D<|Mg aa D D<|I0 D D<|Aw<|Ai<|FQ D<|CA<|Ai<|Ao<|Ao<|AD<|Gt BM 1 D<|Hv AF 1 i D D<|Gt BM 1 D<|Hv AF 1 j D D<|D_ D D<|Aw<|Ai<|DU D (fun ae=>?_) fun ae=>?_
   ·
    refine AD<|Ef BM j D<|Ef BM i D<|CK 0 5 i D D ?_
    intro aQ n k N
    have j:=Bn N j (by omega)
    have d:=Bn N d (by omega)
    have c:=CJ c N
    refine CK 0 5 j D D ?_
    intro aR n l O
    have d:=Bn O d (by omega)
    have k:=Bn O k (by omega)
    have c:=CJ c O
    refine Aw<|Ai<|Ao<|AD<|Ef BM l D<|D4 [[E 0],[E 0],[E 0],[E 0],[E 0]] ?_
    intro af aS o n P J
    have ag:=C8 c o
    have ah:=C6 d o
    have ai:=C6 k o
    have aj:=C6 l o
    have d:=Bl d J
    have k:=Bl k J
    have l:=Bl l J
    have c:=BG c J
    refine CK 0 5 P D D ?_
    intro aT n Q z
    have d:=Bn z d (by omega)
    have k:=Bn z k (by omega)
    have l:=Bn z l (by omega)
    have c:=CJ c z
    refine Aw<|Ai<|Ao<|?_
    intro a f
    refine KB (fun W=>Below w.heap.size w W∧CY W Y [[E 0],[E 0],[E 0],[E 0],[E 0]] 68∧CY W V [[E y.w],[E y.g],[E y.m],[E y.h],[E y.p]] 68∧CY W X [[E x.w],[E x.g],[E x.m],[E x.h],[E x.p]] 68) ?_
    intro aU n J
    have d:=Bl d J
    have k:=Bl k J
    have l:=Bl l J
    have Q:=Bl Q J
    have c:=BG c J
    revert a
    refine G_ 0 D BM 1 D ⟨c,d,k,l⟩<|C4 1 D (fun W r a f=>by obtain⟨c,d,k,l⟩:=r;exact IV f D AF D [[E x.w]] (E x.g) [[E x.m],[E x.h],[E x.p]] l D) ⟨c,d,k,l⟩<|Zl 2 D (q:=1) D D ⟨c,d,k,l⟩<|G_ 3 D BM 2 D ⟨c,d,k,l⟩<|C4 4 D (fun W r a f=>by obtain⟨c,d,k,l⟩:=r;exact IV f D AF D [[E y.w],[E y.g]] (E y.m) [[E y.h],[E y.p]] k D) ⟨c,d,k,l⟩<|G_ 5 D BM 3 D ⟨c,d,k,l⟩<|C4 6 D (fun W r a f=>by obtain⟨c,d,k,l⟩:=r;exact IV f D AF D [[E y.w],[E y.g],[E y.m]] (E y.h) [[E y.p]] k D) ⟨c,d,k,l⟩<|G_ 7 D BM 1 D ⟨c,d,k,l⟩<|?_
    intro u s
    refine Gh 8 4 D D ?_
    intro K t
    refine M7 s 1 Q D D ?_
    intro a aV f n ak A
    have d:=Bn A d (by omega)
    have k:=Bn A k (by omega)
    have l:=Bn A l (by omega)
    have c:=CJ c A
    refine t _ _ ⟨c,d,k,l⟩ ?_;revert a
    refine G_ 9 D BM 2 D ⟨c,d,k,l⟩<|?_
    intro u s
    refine Gh 10 2 D D ?_
    intro K t
    refine M7 s 2 ak D D ?_
    intro a aW f n R B
    have d:=Bn B d (by omega)
    have k:=Bn B k (by omega)
    have l:=Bn B l (by omega)
    have c:=CJ c B
    refine t _ _ ⟨c,d,k,l⟩ ?_;revert a
    refine G_ 11 D BM 3 D ⟨c,d,k,l⟩<|?_
    intro u s
    refine Gh 12 0 D D ?_
    intro K t
    refine M7 s 3 R D D ?_
    intro a aX f n S C
    have d:=Bn C d (by omega)
    have k:=Bn C k (by omega)
    have l:=Bn C l (by omega)
    have c:=CJ c C
    have R:=S
    refine t _ _ ⟨c,d,k,l⟩ ?_;revert a
    refine KC<|Ai<|Ao<|Ao<|AD<|Ef BM R D<|Ef BM k D<|?_
    by_cases F:(⟨x.w,x.g+1,y.m,y.h,x.p⟩:Fr.Bu)=(⟨y.w,y.g,y.m,y.h,y.p⟩:Fr.Bu)
    ·
     refine Cc (fun _ f=>QU f (a:=(⟨x.w,x.g+1,y.m,y.h,x.p⟩:Fr.Bu)) (b:=(⟨y.w,y.g,y.m,y.h,y.p⟩:Fr.Bu)) D D false (by rw[decide_eq_true F];rfl))<|Az D<|ES D D D<|Gt Tryz.underlying68 2 D<|ES D D D<|Hv Tryz.underlying3 2 k D D<|ES D D D<|Gt Tryz.underlying68 2 D<|ES D D D<|Hv Tryz.underlying3 2 l D D<|?_
     by_cases ab:((y.m:Nat):Int)<((x.m:Nat):Int)
     ·
      refine ES D D D<|Ur ab D D<|I0 D D<|Aw<|Ai<|Gf D<|Ao<|AD<|Cc (fun _ f=>Cs f (BH:=[]) D (v:=Value.agg (flat [[E 0],[E 0],[E 0],[E 0],[E 0]])) (run_build _ _ _ _ (by kernel_rfl)))<|CK 0 5 d D D ?_
      intro aY n al an
      have c:=CJ c an
      refine AV (v:=(E 4)) D<|Aw<|Ai<|C0<|DK<|?_
      intro a f
      refine FL f D D D al BM D (by kernel_rfl) ?_
      exact⟨_,D,(by rw[show Fr.Ed x y=none from by unfold Fr.Ed;rw[if_neg (by omega),if_pos (by omega),if_neg (fun q=>by have:=q.2;omega)]];rfl),c⟩
     ·
      refine ES D D D<|Zn ab D D<|I0 D D<|Aw<|Ai<|FQ D<|CA<|Ai<|Ao<|AD<|Ef BM k D<|CK 0 5 d D D ?_
      intro aZ n ao aq
      have c:=CJ c aq
      refine AV (v:=(E 0)) D<|Aw<|Ai<|C0<|?_
      intro a f
      refine FL f D D D ao BM D (by kernel_rfl) ?_
      exact⟨_,D,(by rw[show Fr.Ed x y=some y from by unfold Fr.Ed;rw[if_neg (by omega),if_pos (by omega),if_pos ⟨F.symm,by omega⟩]];rfl),c⟩
    ·
     refine Cc (fun _ f=>QU f (a:=(⟨x.w,x.g+1,y.m,y.h,x.p⟩:Fr.Bu)) (b:=(⟨y.w,y.g,y.m,y.h,y.p⟩:Fr.Bu)) D D true (by rw[decide_eq_false F];rfl))<|Az D<|E6 D D D D<|E6 D D D D<|E6 D D D D<|E6 D D D D<|E6 D D D D<|LD D D<|Aw<|Ai<|Gf D<|Ao<|AD<|Cc (fun _ f=>Cs f (BH:=[]) D (v:=Value.agg (flat [[E 0],[E 0],[E 0],[E 0],[E 0]])) (run_build _ _ _ _ (by kernel_rfl)))<|CK 0 5 d D D ?_
     intro a0 n ar au
     have c:=CJ c au
     refine AV (v:=(E 4)) D<|Aw<|Ai<|C0<|DK<|?_
     intro a f
     refine FL f D D D ar BM D (by kernel_rfl) ?_
     exact⟨_,D,(by rw[show Fr.Ed x y=none from by unfold Fr.Ed;rw[if_neg (by omega),if_pos (by omega),if_neg (fun q=>F q.1.symm)]];rfl),c⟩
   ·
    refine CA<|Ai<|Ao<|AD<|Ef BM j D<|D4 [[E 0],[E 0],[E 0],[E 0],[E 0]] ?_
    intro af a1 o n P J
    have ag:=C8 c o
    have ai:=C6 i o
    have aj:=C6 j o
    have ah:=C6 d o
    have i:=Bl i J
    have j:=Bl j J
    have d:=Bl d J
    have c:=BG c J
    refine CK 0 5 P D D ?_
    intro a2 n T G
    have i:=Bn G i (by omega)
    have j:=Bn G j (by omega)
    have d:=Bn G d (by omega)
    have c:=CJ c G
    refine Aw<|Ai<|Ao<|?_
    intro a f
    refine KB (fun W=>Below w.heap.size w W∧CY W V [[E x.w],[E x.g],[E x.m],[E x.h],[E x.p]] 68∧CY W X [[E y.w],[E y.g],[E y.m],[E y.h],[E y.p]] 68∧CY W Y [[E 0],[E 0],[E 0],[E 0],[E 0]] 68) ?_
    intro Da n J
    have i:=Bl i J
    have j:=Bl j J
    have d:=Bl d J
    have T:=Bl T J
    have c:=BG c J
    revert a
    refine G_ 0 D BM 1 D ⟨c,i,j,d⟩<|C4 1 D (fun W r a f=>by obtain⟨c,i,j,d⟩:=r;exact IV f D AF D [[E y.w]] (E y.g) [[E y.m],[E y.h],[E y.p]] j D) ⟨c,i,j,d⟩<|Zl 2 D (q:=1) D D ⟨c,i,j,d⟩<|G_ 3 D BM 2 D ⟨c,i,j,d⟩<|C4 4 D (fun W r a f=>by obtain⟨c,i,j,d⟩:=r;exact IV f D AF D [[E x.w],[E x.g]] (E x.m) [[E x.h],[E x.p]] i D) ⟨c,i,j,d⟩<|G_ 5 D BM 3 D ⟨c,i,j,d⟩<|C4 6 D (fun W r a f=>by obtain⟨c,i,j,d⟩:=r;exact IV f D AF D [[E x.w],[E x.g],[E x.m]] (E x.h) [[E x.p]] i D) ⟨c,i,j,d⟩<|G_ 7 D BM 1 D ⟨c,i,j,d⟩<|?_
    intro u s
    refine Gh 8 4 D D ?_
    intro K t
    refine M7 s 1 T D D ?_
    intro a a3 f n av H
    have i:=Bn H i (by omega)
    have j:=Bn H j (by omega)
    have d:=Bn H d (by omega)
    have c:=CJ c H
    refine t _ _ ⟨c,i,j,d⟩ ?_;revert a
    refine G_ 9 D BM 2 D ⟨c,i,j,d⟩<|?_
    intro u s
    refine Gh 10 2 D D ?_
    intro K t
    refine M7 s 2 av D D ?_
    intro a a4 f n U I
    have i:=Bn I i (by omega)
    have j:=Bn I j (by omega)
    have d:=Bn I d (by omega)
    have c:=CJ c I
    refine t _ _ ⟨c,i,j,d⟩ ?_;revert a
    refine G_ 11 D BM 3 D ⟨c,i,j,d⟩<|?_
    intro u s
    refine Gh 12 0 D D ?_
    intro K t
    refine M7 s 3 U D D ?_
    intro a a5 f n S L
    have i:=Bn L i (by omega)
    have j:=Bn L j (by omega)
    have d:=Bn L d (by omega)
    have c:=CJ c L
    have U:=S
    refine t _ _ ⟨c,i,j,d⟩ ?_;revert a
    refine KC<|Ai<|Ao<|Ao<|AD<|Ef BM U D<|Ef BM i D<|?_
    by_cases M:(⟨y.w,y.g+1,x.m,x.h,y.p⟩:Fr.Bu)=(⟨x.w,x.g,x.m,x.h,x.p⟩:Fr.Bu)
    ·
     refine Cc (fun _ f=>QU f (a:=(⟨y.w,y.g+1,x.m,x.h,y.p⟩:Fr.Bu)) (b:=(⟨x.w,x.g,x.m,x.h,x.p⟩:Fr.Bu)) D D false (by rw[decide_eq_true M];rfl))<|Az D<|ES D D D<|Gt Tryz.underlying68 2 D<|ES D D D<|Hv Tryz.underlying3 2 i D D<|ES D D D<|Gt Tryz.underlying68 2 D<|ES D D D<|Hv Tryz.underlying3 2 j D D<|?_
     by_cases ad:((x.m:Nat):Int)<((y.m:Nat):Int)
     ·
      refine ES D D D<|Ur ad D D<|I0 D D<|Aw<|Ai<|Gf D<|Ao<|AD<|Cc (fun _ f=>Cs f (BH:=[]) D (v:=Value.agg (flat [[E 0],[E 0],[E 0],[E 0],[E 0]])) (run_build _ _ _ _ (by kernel_rfl)))<|CK 0 5 d D D ?_
      intro a6 n aw ax
      have c:=CJ c ax
      refine AV (v:=(E 4)) D<|Aw<|Ai<|C0<|DK<|?_
      intro a f
      refine FL f D D D aw BM D (by kernel_rfl) ?_
      exact⟨_,D,(by rw[show Fr.Ed x y=none from by unfold Fr.Ed;rw[if_neg (by omega),if_neg (by omega),if_neg (fun q=>by have:=q.2;omega)]];rfl),c⟩
     ·
      refine ES D D D<|Zn ad D D<|I0 D D<|Aw<|Ai<|FQ D<|CA<|Ai<|Ao<|AD<|Ef BM i D<|CK 0 5 d D D ?_
      intro a7 n ay az
      have c:=CJ c az
      refine AV (v:=(E 0)) D<|Aw<|Ai<|C0<|?_
      intro a f
      refine FL f D D D ay BM D (by kernel_rfl) ?_
      exact⟨_,D,(by rw[show Fr.Ed x y=some x from by unfold Fr.Ed;rw[if_neg (by omega),if_neg (by omega),if_pos ⟨M.symm,by omega⟩]];rfl),c⟩
    ·
     refine Cc (fun _ f=>QU f (a:=(⟨y.w,y.g+1,x.m,x.h,y.p⟩:Fr.Bu)) (b:=(⟨x.w,x.g,x.m,x.h,x.p⟩:Fr.Bu)) D D true (by rw[decide_eq_false M];rfl))<|Az D<|E6 D D D D<|E6 D D D D<|E6 D D D D<|E6 D D D D<|E6 D D D D<|LD D D<|Aw<|Ai<|Gf D<|Ao<|AD<|Cc (fun _ f=>Cs f (BH:=[]) D (v:=Value.agg (flat [[E 0],[E 0],[E 0],[E 0],[E 0]])) (run_build _ _ _ _ (by kernel_rfl)))<|CK 0 5 d D D ?_
     intro a8 n aA aB
     have c:=CJ c aB
     refine AV (v:=(E 4)) D<|Aw<|Ai<|C0<|DK<|?_
     intro a f
     refine FL f D D D aA BM D (by kernel_rfl) ?_
     exact⟨_,D,(by rw[show Fr.Ed x y=none from by unfold Fr.Ed;rw[if_neg (by omega),if_neg (by omega),if_neg (fun q=>M q.1.symm)]];rfl),c⟩
  ·
   refine ES D D D<|Ky aa D D<|I0 D D<|Aw<|Ai<|Gf D<|Ao<|AD<|Cc (fun _ f=>Cs f (BH:=[]) D (v:=Value.agg (flat [[E 0],[E 0],[E 0],[E 0],[E 0]])) (run_build _ _ _ _ (by kernel_rfl)))<|CK 0 5 d D D ?_
   intro a9 n aC aD
   have c:=CJ c aD
   refine AV (v:=(E 4)) D<|Aw<|Ai<|C0<|DK<|?_
   intro a f
   refine FL f D D D aC BM D (by kernel_rfl) ?_
   exact⟨_,D,(by rw[show Fr.Ed x y=none from by unfold Fr.Ed;rw[if_pos (by omega)]];rfl),c⟩
 ·
  refine Ky Z D D<|Az D<|E6 D D D D<|E6 D D D D<|E6 D D D D<|E6 D D D D<|LD D D<|Aw<|Ai<|Gf D<|Ao<|AD<|Cc (fun _ f=>Cs f (BH:=[]) D (v:=Value.agg (flat [[E 0],[E 0],[E 0],[E 0],[E 0]])) (run_build _ _ _ _ (by kernel_rfl)))<|CK 0 5 d D D ?_
  intro a_ n aE aF
  have c:=CJ c aF
  refine AV (v:=(E 4)) D<|Aw<|Ai<|C0<|DK<|?_
  intro a f
  refine FL f D D D aE BM D (by kernel_rfl) ?_
  exact⟨_,D,(by rw[show Fr.Ed x y=none from by unfold Fr.Ed;rw[if_pos (by omega)]];rfl),c⟩
def HP(o:Except Nat Fr.Bu):Value:=match o with
 |.ok s=>.tuple #[FV s,.int .i64 0]
 |.error n=>.tuple #[FK,.int .i64 n]
theorem QH{l:List UInt8}{s:Fr.Bu}(h:Fr.DP l=some s):s.g≤1099511627776:=by
 unfold Fr.DP at h
 split at h
 ·split at h
  ·split at h
   ·rename_i V
    cases h
    simp only[Fr.DE,Bool.and_eq_true,decide_eq_true_eq]at V
    omega
   ·cases h
  ·cases h
 ·cases h
theorem KR(q:Option Addr)(c:Nat)(l:List UInt8)(w:World){s:Fr.Bu}(a:Fr.DP l=some s)(V:View w (.slice q 256 c) 256 1 (bv l))(hl:l.length=256):
 Calls Tryz.prog 36 #[.slice q 256 c] w fun e w'=>e=.returned (.tuple #[Value.agg (flat [[E s.w],[E s.g],[E s.m],[E s.h],[E s.p]]),.int .i64 ((0:Nat):Int)])∧Below w.heap.size w w':=by
 refine(Xz q c l w V hl).mono ?_
 rintro e w' ⟨v,rfl,h,J⟩
 rw[a]at h
 exact⟨congrArg Ending.returned h,J⟩
theorem IX(q:Option Addr)(c:Nat)(l:List UInt8)(w:World)(a:Fr.DP l=none)(V:View w (.slice q 256 c) 256 1 (bv l))(hl:l.length=256):
 Calls Tryz.prog 36 #[.slice q 256 c] w fun e w'=>∃x:Int,e=.returned (.tuple #[Value.agg (flat [[E 0],[E 0],[E 0],[E 0],[E 0]]),.int .i64 x])∧x≠0∧Below w.heap.size w w':=by
 refine(Xz q c l w V hl).mono ?_
 rintro e w' ⟨v,rfl,h,J⟩
 rw[a]at h
 obtain⟨x,b,rfl⟩:=h
 exact⟨x,D,b,J⟩
theorem bT{x y z:Fr.Bu}{w:World}(h:Fr.Ed x y=some z)(a:x.g<4611686018427387904)(J:y.g<4611686018427387904):
 Calls Tryz.prog 78 #[Value.agg (flat [[E x.w],[E x.g],[E x.m],[E x.h],[E x.p]]),Value.agg (flat [[E y.w],[E y.g],[E y.m],[E y.h],[E y.p]])] w fun e w'=>e=.returned (.tuple #[Value.agg (flat [[E z.w],[E z.g],[E z.m],[E z.h],[E z.p]]),.int .i64 ((0:Nat):Int)])∧Below w.heap.size w w':=by
 refine(Vz x y w a J).mono ?_
 rintro e w' ⟨v,rfl,rfl,J⟩
 rw[h]
 exact⟨D,J⟩
theorem ab{x y:Fr.Bu}{w:World}(h:Fr.Ed x y=none)(a:x.g<4611686018427387904)(J:y.g<4611686018427387904):
 Calls Tryz.prog 78 #[Value.agg (flat [[E x.w],[E x.g],[E x.m],[E x.h],[E x.p]]),Value.agg (flat [[E y.w],[E y.g],[E y.m],[E y.h],[E y.p]])] w fun e w'=>e=.returned (.tuple #[Value.agg (flat [[E 0],[E 0],[E 0],[E 0],[E 0]]),.int .i64 ((4:Nat):Int)])∧Below w.heap.size w w':=by
 refine(Vz x y w a J).mono ?_
 rintro e w' ⟨v,rfl,rfl,J⟩
 rw[h]
 exact⟨D,J⟩
theorem choose_spec(q O:Option Addr)(c c':Nat)(l m:List UInt8)(w:World)(V:View w (.slice q 256 c) 256 1 (bv l))(hl:l.length=256)(o:View w (.slice O 256 c') 256 1 (bv m))(p:m.length=256):
 Calls Tryz.prog 38 #[I q 256 c,I O 256 c'] w fun e w'=>e=.returned (HP (Fr.choose l m))∧Below w.heap.size w w':=by
 have b:Below w.heap.size w w:=Cn _ _
 refine DZ OJ D 50 ?_
 refine Ao<|AD<|D4 [[E 0],[E 0],[E 0],[E 0],[E 0]] ?_
 intro aY aZ j i d J
 have a0:=C8 b j
 have b:=BG b J
 refine AV (v:=(E 0)) D<|Aw<|Ai<|Ao<|?_
 rcases s:Fr.DP l with _|x
 ·
  refine AD<|Az D<|CL FW D (IX _ _ _ _ s (V.below b) hl) ?_
  rintro _ a1 ⟨t,rfl,u,P⟩
  refine⟨_,D,?_⟩
  have d:=Bl d P
  have b:=BG b P
  refine Az D<|CH D D<|CH D D<|D4 [[E 0],[E 0],[E 0],[E 0],[E 0]] ?_
  intro aa a2 j i h J
  have ad:=C8 b j
  have ae:=C6 d j
  have d:=Bl d J
  have b:=BG b J
  refine CK 0 5 h D D ?_
  intro a3 i n Q
  have d:=Bn Q d (by omega)
  have b:=CJ b Q
  have h:=n
  refine AV D<|Aw<|Ai<|Ao<|?_
  rcases r:Fr.DP m with _|y
  ·
   refine AD<|Az D<|CL FW D (IX _ _ _ _ r (o.below b) p) ?_
   rintro _ a4 ⟨a5,rfl,a6,A⟩
   refine⟨_,D,?_⟩
   have d:=Bl d A
   have h:=Bl h A
   have b:=BG b A
   refine Az D<|CH D D<|CH D D<|D4 [[E 0],[E 0],[E 0],[E 0],[E 0]] ?_
   intro B a7 j i k J
   have C:=C8 b j
   have F:=C6 d j
   have G:=C6 h j
   have d:=Bl d J
   have b:=BG b J
   refine CK 0 5 k D D ?_
   intro a8 i n R
   have d:=Bn R d (by omega)
   have b:=CJ b R
   refine AV D<|Aw<|Ai<|Ao<|B'<|Ao<|B'<|B'<|Ao<|B'<|Ao<|B'<|Ao<|Ao<|Ao<|AD<|Az D<|?_
   have af:¬((t:Int)=((0:Nat):Int)):=(by have:=u;omega)
   refine Kr af D D<|Az D<|E6 D D D D<|E6 D D D D<|I0 D D<|AV D<|Aw<|Ai<|FQ D<|CA<|Ai<|Ao<|Ao<|AD<|Az D<|CL Lu D (M8 _ _ _ _ (o.below b) p) ?_
   rintro _ _ ⟨rfl,rfl⟩
   refine⟨_,D,?_⟩
   refine M5 D<|AV D<|Aw<|Ai<|I5 D (fun ag=>?_) fun ag=>?_
   ·
    refine Dv<|BY<|BY<|EP<|BY<|Ds<|Ai<|Ao<|Ao<|AD<|Cc (fun _ f=>Cs f (BH:=[]) D (v:=Value.agg (flat [[E 0],[E 0],[E 0],[E 0],[E 0]])) (run_build _ _ _ _ (by kernel_rfl)))<|CK 0 5 d D D ?_
    intro a9 i ah ai
    have b:=CJ b ai
    refine AV (v:=(E 4)) D<|Aw<|Ai<|C0<|DK<|FE<|FE<|DK<|FE<|DK<|?_
    intro a f
    refine FL f D D D ah BM D (by kernel_rfl) ?_
    exact⟨congrArg Ending.returned (show _=HP (Fr.choose l m)from by rw[show Fr.choose l m=.error 4 from by simp_all [Fr.choose]];rfl),b⟩
   ·
    refine CA<|Ai<|Ao<|Ao<|AD<|Az D<|?_
    have aj:¬((t:Int)=((0:Nat):Int)):=(by have:=u;omega)
    refine Kr aj D D<|Az D<|E6 D D D D<|E6 D D D D<|E6 D D D D<|I0 D D<|AV D<|Aw<|Ai<|FQ D<|CA<|Ai<|Ao<|AD<|Az D<|CL Lu D (M8 _ _ _ _ (V.below b) hl) ?_
    rintro _ _ ⟨rfl,rfl⟩
    refine⟨_,D,?_⟩
    refine AV D<|Aw<|Ai<|I5 D (fun ak=>?_) fun ak=>?_
    ·
     refine Dv<|BY<|EP<|BY<|EP<|BY<|EP<|Ds<|Ai<|Ao<|Ao<|AD<|Cc (fun _ f=>Cs f (BH:=[]) D (v:=Value.agg (flat [[E 0],[E 0],[E 0],[E 0],[E 0]])) (run_build _ _ _ _ (by kernel_rfl)))<|CK 0 5 d D D ?_
     intro a_ i al an
     have b:=CJ b an
     refine AV (v:=(E 55)) D<|Aw<|Ai<|C0<|DK<|FE<|DK<|?_
     intro a f
     refine FL f D D D al BM D (by kernel_rfl) ?_
     exact⟨congrArg Ending.returned (show _=HP (Fr.choose l m)from by rw[show Fr.choose l m=.error 55 from by simp_all [Fr.choose]];rfl),b⟩
    ·
     refine CA<|Ai<|Dv<|EP<|BY<|EP<|BY<|EP<|EP<|BY<|Ds<|Ai<|Ao<|AD<|Cc (fun _ f=>Cs f (BH:=[]) D (v:=Value.agg (flat [[E 0],[E 0],[E 0],[E 0],[E 0]])) (run_build _ _ _ _ (by kernel_rfl)))<|CK 0 5 d D D ?_
     intro a' i ao aq
     have b:=CJ b aq
     refine AV (v:=(E 4)) D<|Aw<|Ai<|C0<|?_
     intro a f
     refine FL f D D D ao BM D (by kernel_rfl) ?_
     exact⟨congrArg Ending.returned (show _=HP (Fr.choose l m)from by rw[show Fr.choose l m=.error 4 from by simp_all [Fr.choose]];rfl),b⟩
  ·
   refine AD<|Az D<|CL FW D (KR _ _ _ _ r (o.below b) p) ?_
   rintro _ ba ⟨rfl,H⟩
   refine⟨_,D,?_⟩
   have d:=Bl d H
   have h:=Bl h H
   have b:=BG b H
   refine Az D<|CH D D<|CH D D<|D4 [[E 0],[E 0],[E 0],[E 0],[E 0]] ?_
   intro B bb j i k J
   have C:=C8 b j
   have F:=C6 d j
   have G:=C6 h j
   have d:=Bl d J
   have b:=BG b J
   refine CK 0 5 k D D ?_
   intro bc i n S
   have d:=Bn S d (by omega)
   have b:=CJ b S
   refine AV (v:=(E 0)) D<|Aw<|Ai<|Ao<|B'<|Ao<|B'<|B'<|Ao<|B'<|Ao<|B'<|Ao<|Ao<|Ao<|AD<|Az D<|?_
   have ar:¬((t:Int)=((0:Nat):Int)):=(by have:=u;omega)
   refine Kr ar D D<|Az D<|E6 D D D D<|E6 D D D D<|I0 D D<|AV D<|Aw<|Ai<|FQ D<|CA<|Ai<|Ao<|Ao<|AD<|Az D<|CL Lu D (M8 _ _ _ _ (o.below b) p) ?_
   rintro _ _ ⟨rfl,rfl⟩
   refine⟨_,D,?_⟩
   refine M5 D<|AV D<|Aw<|Ai<|I5 D (fun au=>?_) fun au=>?_
   ·
    refine Dv<|BY<|BY<|EP<|BY<|Ds<|Ai<|Ao<|Ao<|AD<|Cc (fun _ f=>Cs f (BH:=[]) D (v:=Value.agg (flat [[E 0],[E 0],[E 0],[E 0],[E 0]])) (run_build _ _ _ _ (by kernel_rfl)))<|CK 0 5 d D D ?_
    intro bd i av aw
    have b:=CJ b aw
    refine AV (v:=(E 4)) D<|Aw<|Ai<|C0<|DK<|FE<|FE<|DK<|FE<|DK<|?_
    intro a f
    refine FL f D D D av BM D (by kernel_rfl) ?_
    exact⟨congrArg Ending.returned (show _=HP (Fr.choose l m)from by rw[show Fr.choose l m=.error 4 from by simp_all [Fr.choose]];rfl),b⟩
   ·
    refine CA<|Ai<|Ao<|Ao<|AD<|Az D<|?_
    have ax:¬((t:Int)=((0:Nat):Int)):=(by have:=u;omega)
    refine Kr ax D D<|Az D<|E6 D D D D<|E6 D D D D<|E6 D D D D<|I0 D D<|AV D<|Aw<|Ai<|FQ D<|CA<|Ai<|Ao<|AD<|Az D<|CL Lu D (M8 _ _ _ _ (V.below b) hl) ?_
    rintro _ _ ⟨rfl,rfl⟩
    refine⟨_,D,?_⟩
    refine AV D<|Aw<|Ai<|I5 D (fun ay=>?_) fun ay=>?_
    ·
     refine Dv<|BY<|EP<|BY<|EP<|BY<|EP<|Ds<|Ai<|Ao<|Ao<|AD<|Cc (fun _ f=>Cs f (BH:=[]) D (v:=Value.agg (flat [[E 0],[E 0],[E 0],[E 0],[E 0]])) (run_build _ _ _ _ (by kernel_rfl)))<|CK 0 5 d D D ?_
     intro bf i az aA
     have b:=CJ b aA
     refine AV (v:=(E 55)) D<|Aw<|Ai<|C0<|DK<|FE<|DK<|?_
     intro a f
     refine FL f D D D az BM D (by kernel_rfl) ?_
     exact⟨congrArg Ending.returned (show _=HP (Fr.choose l m)from by rw[show Fr.choose l m=.error 55 from by simp_all [Fr.choose]];rfl),b⟩
    ·
     refine CA<|Ai<|Dv<|EP<|BY<|EP<|BY<|EP<|EP<|BY<|Ds<|Ai<|Ao<|AD<|Cc (fun _ f=>Cs f (BH:=[]) D (v:=Value.agg (flat [[E 0],[E 0],[E 0],[E 0],[E 0]])) (run_build _ _ _ _ (by kernel_rfl)))<|CK 0 5 d D D ?_
     intro bg i aB aC
     have b:=CJ b aC
     refine AV (v:=(E 4)) D<|Aw<|Ai<|C0<|?_
     intro a f
     refine FL f D D D aB BM D (by kernel_rfl) ?_
     exact⟨congrArg Ending.returned (show _=HP (Fr.choose l m)from by rw[show Fr.choose l m=.error 4 from by simp_all [Fr.choose]];rfl),b⟩
 ·
  refine AD<|Az D<|CL FW D (KR _ _ _ _ s (V.below b) hl) ?_
  rintro _ bh ⟨rfl,T⟩
  refine⟨_,D,?_⟩
  have d:=Bl d T
  have b:=BG b T
  refine Az D<|CH D D<|CH D D<|D4 [[E 0],[E 0],[E 0],[E 0],[E 0]] ?_
  intro aa bj j i h J
  have ad:=C8 b j
  have ae:=C6 d j
  have d:=Bl d J
  have b:=BG b J
  refine CK 0 5 h D D ?_
  intro bk i n U
  have d:=Bn U d (by omega)
  have b:=CJ b U
  have h:=n
  refine AV (v:=(E 0)) D<|Aw<|Ai<|Ao<|?_
  rcases r:Fr.DP m with _|y
  ·
   refine AD<|Az D<|CL FW D (IX _ _ _ _ r (o.below b) p) ?_
   rintro _ bl ⟨aD,rfl,aE,K⟩
   refine⟨_,D,?_⟩
   have d:=Bl d K
   have h:=Bl h K
   have b:=BG b K
   refine Az D<|CH D D<|CH D D<|D4 [[E 0],[E 0],[E 0],[E 0],[E 0]] ?_
   intro B bm j i k J
   have C:=C8 b j
   have F:=C6 d j
   have G:=C6 h j
   have d:=Bl d J
   have h:=Bl h J
   have b:=BG b J
   refine CK 0 5 k D D ?_
   intro bn i n L
   have d:=Bn L d (by omega)
   have h:=Bn L h (by omega)
   have b:=CJ b L
   refine AV D<|Aw<|Ai<|Ao<|B'<|Ao<|B'<|B'<|Ao<|B'<|Ao<|B'<|Ao<|Ao<|Ao<|AD<|Az (v:=(E 0)) D<|?_
   have aF:(((0:Nat):Int)=((0:Nat):Int)):=D
   refine MD aF D D<|Az D<|ES D D D<|Az D<|?_
   have aG:¬((aD:Int)=((0:Nat):Int)):=(by have:=aE;omega)
   refine ES D D D<|Kr aG D D<|LD D D<|AV D<|Aw<|Ai<|FQ D<|CA<|Ai<|Ao<|Ao<|AD<|Az D<|CL Lu D (M8 _ _ _ _ (o.below b) p) ?_
   rintro _ _ ⟨rfl,rfl⟩
   refine⟨_,D,?_⟩
   refine M5 D<|AV D<|Aw<|Ai<|I5 D (fun aH=>?_) fun aH=>?_
   ·
    refine Dv<|BY<|BY<|EP<|BY<|Ds<|Ai<|Ao<|Ao<|AD<|Cc (fun _ f=>Cs f (BH:=[]) D (v:=Value.agg (flat [[E 0],[E 0],[E 0],[E 0],[E 0]])) (run_build _ _ _ _ (by kernel_rfl)))<|CK 0 5 d D D ?_
    intro bo i aI aJ
    have b:=CJ b aJ
    refine AV (v:=(E 4)) D<|Aw<|Ai<|C0<|DK<|FE<|FE<|DK<|FE<|DK<|?_
    intro a f
    refine FL f D D D aI BM D (by kernel_rfl) ?_
    exact⟨congrArg Ending.returned (show _=HP (Fr.choose l m)from by rw[show Fr.choose l m=.error 4 from by simp_all [Fr.choose]];rfl),b⟩
   ·
    refine CA<|Ai<|Ao<|Ao<|AD<|Az (v:=(E 0)) D<|?_
    have aK:(((0:Nat):Int)=((0:Nat):Int)):=D
    refine MD aK D D<|Az D<|ES D D D<|Gt BM 1 D<|ES D D D<|Hv AF 1 h D D<|?_
    by_cases W:((x.g:Nat):Int)=((0:Nat):Int)
    ·
     refine ES D D D<|MD W D D<|LD D D<|AV D<|Aw<|Ai<|Gf D<|Dv<|BY<|BY<|EP<|BY<|EP<|BY<|Ds<|DN<|Ai<|Ao<|Ao<|AD<|Cc (fun _ f=>Cs f (BH:=[]) D (v:=Value.agg (flat [[E 0],[E 0],[E 0],[E 0],[E 0]])) (run_build _ _ _ _ (by kernel_rfl)))<|CK 0 5 d D D ?_
     intro bp i aL aM
     have b:=CJ b aM
     refine AV (v:=(E 55)) D<|Aw<|Ai<|C0<|DK<|FE<|DK<|?_
     intro a f
     refine FL f D D D aL BM D (by kernel_rfl) ?_
     exact⟨congrArg Ending.returned (show _=HP (Fr.choose l m)from by rw[show Fr.choose l m=.error 55 from by simp_all [Fr.choose]];rfl),b⟩
    ·
     refine ES D D D<|Kr W D D<|LD D D<|AV D<|Aw<|Ai<|FQ D<|CA<|Ai<|Ao<|AD<|Az D<|CL Lu D (M8 _ _ _ _ (V.below b) hl) ?_
     rintro _ _ ⟨rfl,rfl⟩
     refine⟨_,D,?_⟩
     refine AV D<|Aw<|Ai<|I5 D (fun aN=>?_) fun aN=>?_
     ·
      refine Dv<|BY<|EP<|BY<|EP<|BY<|EP<|Ds<|Ai<|Ao<|Ao<|AD<|Cc (fun _ f=>Cs f (BH:=[]) D (v:=Value.agg (flat [[E 0],[E 0],[E 0],[E 0],[E 0]])) (run_build _ _ _ _ (by kernel_rfl)))<|CK 0 5 d D D ?_
      intro bq i aO aP
      have b:=CJ b aP
      refine AV (v:=(E 55)) D<|Aw<|Ai<|C0<|DK<|FE<|DK<|?_
      intro a f
      refine FL f D D D aO BM D (by kernel_rfl) ?_
      exact⟨congrArg Ending.returned (show _=HP (Fr.choose l m)from by rw[show Fr.choose l m=.error 55 from by simp_all [Fr.choose]];rfl),b⟩
     ·
      refine CA<|Ai<|Dv<|EP<|BY<|EP<|BY<|EP<|EP<|BY<|Ds<|Ai<|Ao<|AD<|Cc (fun _ f=>Cs f (BH:=[]) D (v:=Value.agg (flat [[E 0],[E 0],[E 0],[E 0],[E 0]])) (run_build _ _ _ _ (by kernel_rfl)))<|CK 0 5 d D D ?_
      intro br i aQ aR
      have b:=CJ b aR
      refine AV (v:=(E 4)) D<|Aw<|Ai<|C0<|?_
      intro a f
      refine FL f D D D aQ BM D (by kernel_rfl) ?_
      exact⟨congrArg Ending.returned (show _=HP (Fr.choose l m)from by rw[show Fr.choose l m=.error 4 from by simp_all [Fr.choose]];rfl),b⟩
  ·
   refine AD<|Az D<|CL FW D (KR _ _ _ _ r (o.below b) p) ?_
   rintro _ bs ⟨rfl,M⟩
   refine⟨_,D,?_⟩
   have d:=Bl d M
   have h:=Bl h M
   have b:=BG b M
   refine Az D<|CH D D<|CH D D<|D4 [[E 0],[E 0],[E 0],[E 0],[E 0]] ?_
   intro B bt j i k J
   have C:=C8 b j
   have F:=C6 d j
   have G:=C6 h j
   have d:=Bl d J
   have h:=Bl h J
   have b:=BG b J
   refine CK 0 5 k D D ?_
   intro bu i n N
   have d:=Bn N d (by omega)
   have h:=Bn N h (by omega)
   have b:=CJ b N
   have k:=n
   refine AV (v:=(E 0)) D<|Aw<|Ai<|Ao<|B'<|Ao<|B'<|B'<|Ao<|B'<|Ao<|B'<|Ao<|Ao<|Ao<|AD<|Az (v:=(E 0)) D<|?_
   have aS:(((0:Nat):Int)=((0:Nat):Int)):=D
   refine MD aS D D<|Az D<|ES D D D<|Az (v:=(E 0)) D<|?_
   have aT:(((0:Nat):Int)=((0:Nat):Int)):=D
   refine ES D D D<|MD aT D D<|LD D D<|AV D<|Aw<|Ai<|Gf D<|Dv<|BY<|BY<|Ds<|Ai<|Ao<|Ao<|?_
   rcases X:Fr.Ed x y with _|z
   ·
    refine AD<|Ef BM h D<|Ef BM k D<|CL SO D (ab X (by have:=QH s;omega) (by have:=QH r;omega)) ?_
    rintro _ bw ⟨rfl,Y⟩
    refine⟨_,D,?_⟩
    have d:=Bl d Y
    have b:=BG b Y
    refine CH D D<|CH D D<|CK 0 5 d D D ?_
    intro bx i aU aV
    have b:=CJ b aV
    refine AV (v:=(E 4)) D<|Aw<|Ai<|C0<|DK<|FE<|DK<|FE<|FE<|DK<|FE<|DK<|?_
    intro a f
    refine FL f D D D aU BM D (by kernel_rfl) ?_
    exact⟨congrArg Ending.returned (show _=HP (Fr.choose l m)from by rw[show Fr.choose l m=.error 4 from by simp_all [Fr.choose]];rfl),b⟩
   ·
    refine AD<|Ef BM h D<|Ef BM k D<|CL SO D (bT X (by have:=QH s;omega) (by have:=QH r;omega)) ?_
    rintro _ bz ⟨rfl,Z⟩
    refine⟨_,D,?_⟩
    have d:=Bl d Z
    have b:=BG b Z
    refine CH D D<|CH D D<|CK 0 5 d D D ?_
    intro bA i aW aX
    have b:=CJ b aX
    refine AV (v:=(E 0)) D<|Aw<|Ai<|C0<|DK<|FE<|DK<|FE<|FE<|DK<|FE<|DK<|?_
    intro a f
    refine FL f D D D aW BM D (by kernel_rfl) ?_
    exact⟨congrArg Ending.returned (show _=HP (Fr.choose l m)from by rw[show Fr.choose l m=.ok z from by simp_all [Fr.choose]];rfl),b⟩
end Go.Proofs.YtaapafoibofbjaaGreatDoor
