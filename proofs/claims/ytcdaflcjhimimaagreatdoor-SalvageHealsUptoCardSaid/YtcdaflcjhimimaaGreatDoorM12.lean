/- Laws and walks on the road to SalvageNever and SalvageHeals (part M12). No conditions beyond each law's own. -/
import Derived.Test.YtcdaflcjhimimaaGreatDoorM01
import Derived.Test.YtcdaflcjhimimaaGreatDoorM11
import Derived.Test.YtcdaflcjhimimaaGreatDoorM04
import Derived.Test.YtcdaflcjhimimaaGreatDoorM07
import Derived.Test.YtcdaflcjhimimaaGreatDoorM05
set_option linter.unusedVariables false
namespace Go.Proofs.YtcdaflcjhimimaaGreatDoor
open Go.RowKit
set_option maxRecDepth 100000
set_option maxHeartbeats 1000000
theorem Sg(p c:Int)(x:Jd)(w:World):
 Calls Tryz.prog 121 #[Value.int .i64 (p:Int),Value.int .i64 (c:Int),Value.agg (flat [bv x.l])] w fun e w'=>∃t:Bool,e=.returned (.bool t)∧Below w.heap.size w w':=by
 have a:Below w.heap.size w w:=Bu _ _
 refine Bx MX D 30 ?_
 refine K<|N<|CW D ?_
 intro s u m y n o
 have z:=Bg a m
 have a:=Ah a o
 refine O D<|M<|G<|K<|K<|N<|I D<|Dk (q:=(0:Nat)) D D<|M<|G<|Bl D (fun r=>?_) fun r=>?_
 ·
  refine K<|N<|I D<|?_
  by_cases d:(c:Int)=((0:Nat):Int)
  ·
   refine D5 d D D<|I D<|Ad D D D<|BP BZ n D<|Ad D D D<|AT (fun _ b=>CE b (Bf:=[]) D (v:=Value.agg (flat [Av 32])) (run_build _ _ _ _ (by kernel_rfl)))<|?_
   by_cases f:x.l=Bh.l
   ·
    refine Ad D D D<|AT (fun _ b=>Fu b x.h Bh.h D D true (decide_eq_true f))<|Bn D D<|O D<|M<|G<|AA<|AX<|AZ D<|?_
    exact⟨_,D,a⟩
   ·
    refine Ad D D D<|AT (fun _ b=>Fu b x.h Bh.h D D false (decide_eq_false f))<|Bn D D<|O D<|M<|G<|AA<|AX<|AZ D<|?_
    exact⟨_,D,a⟩
  ·
   refine E0 d D D<|I D<|Ae D D D D<|Ae D D D D<|Ae D D D D<|Ba D D<|O D<|M<|G<|AA<|AX<|AZ D<|?_
   exact⟨_,D,a⟩
 ·
  refine AE<|G<|K<|N<|I D<|?_
  by_cases g:((2:Nat):Int)≤(p:Int)
  ·
   refine Gy g D D<|I D<|Ad D D D<|I D<|?_
   by_cases i:(p:Int)<((4096:Nat):Int)
   ·
    refine Ad D D D<|D8 i D D<|Bn D D<|I D<|Ad D D D<|I D<|?_
    by_cases j:((0:Nat):Int)<(c:Int)
    ·
     refine Ad D D D<|Gp j D D<|Bn D D<|I D<|Ad D D D<|I D<|?_
     by_cases k:(c:Int)≤((4096:Nat):Int)
     ·
      refine Ad D D D<|Let k D D<|Bn D D<|O D<|M<|G<|AA<|AZ D<|?_
      exact⟨_,D,a⟩
     ·
      refine Ad D D D<|NG k D D<|Bn D D<|O D<|M<|G<|AA<|AZ D<|?_
      exact⟨_,D,a⟩
    ·
     refine Ad D D D<|FV j D D<|Bn D D<|I D<|Ae D D D D<|Ae D D D D<|Ba D D<|O D<|M<|G<|AA<|AZ D<|?_
     exact⟨_,D,a⟩
   ·
    refine Ad D D D<|DO i D D<|Bn D D<|I D<|Ae D D D D<|Ae D D D D<|Ba D D<|I D<|Ae D D D D<|Ae D D D D<|Ba D D<|O D<|M<|G<|AA<|AZ D<|?_
    exact⟨_,D,a⟩
  ·
   refine GL g D D<|I D<|Ae D D D D<|Ae D D D D<|Ba D D<|I D<|Ae D D D D<|Ae D D D D<|Ba D D<|I D<|Ae D D D D<|Ae D D D D<|Ba D D<|O D<|M<|G<|AA<|AZ D<|?_
   exact⟨_,D,a⟩
theorem Wu(x:DD)(w:World)(ad:x.lc<4294967296)(ae:x.rc<4294967296):
 Calls Tryz.prog 94 #[Value.agg (flat [[E x.ZI],[E x.l],[E x.r],[E x.lc],[E x.rc],bv x.ls.l,bv x.rs.l,bv x.k.l,[F x.s.p x.s.v.length x.s.c]])] w fun e w'=>∃t:Bool,e=.returned (.bool t)∧Below w.heap.size w w':=by
 have b:Below w.heap.size w w:=Bu _ _
 refine Bx Rf D 102 ?_
 refine K<|N<|CW D ?_
 intro b1 af Z ag H1 aa
 have ah:=Bg b Z
 have b:=Ah b aa
 refine O D<|M<|G<|K<|K<|N<|Am BD 0 D<|AK AH 0 H1 D D<|Dk (q:=(1:Nat)) D D<|M<|G<|Bl D (fun ab=>?_) fun ab=>?_
 ·
  refine K<|N<|Am BD 1 D<|AK AH 1 H1 D D<|?_
  by_cases g:((x.l:Nat):Int)=((0:Nat):Int)
  ·
   refine D5 g D D<|I D<|Ad D D D<|Am BD 2 D<|Ad D D D<|AK AH 2 H1 D D<|?_
   by_cases i:((x.r:Nat):Int)=((0:Nat):Int)
   ·
    refine Ad D D D<|D5 i D D<|Bn D D<|I D<|Ad D D D<|Am BD 3 D<|Ad D D D<|AK AH 3 H1 D D<|?_
    by_cases j:((x.lc:Nat):Int)=((0:Nat):Int)
    ·
     refine Ad D D D<|D5 j D D<|Bn D D<|I D<|Ad D D D<|Am BD 4 D<|Ad D D D<|AK AH 4 H1 D D<|?_
     by_cases m:((x.rc:Nat):Int)=((0:Nat):Int)
     ·
      refine Ad D D D<|D5 m D D<|Bn D D<|O D<|M<|G<|K<|N<|Am BD 5 D<|Eu BZ 5 1 [bv x.ls.l] H1 D<|AT (fun _ a=>CE a (Bf:=[]) D (v:=Value.agg (flat [Av 32])) (run_build _ _ _ _ (by kernel_rfl)))<|?_
      by_cases n:x.ls.l=Bh.l
      ·
       refine AT (fun _ a=>Fu a x.ls.h Bh.h D D true (decide_eq_true n))<|I D<|Ad D D D<|Am BD 37 D<|Ad D D D<|Eu BZ 6 1 [bv x.rs.l] H1 D<|Ad D D D<|AT (fun _ a=>CE a (Bf:=[]) D (v:=Value.agg (flat [Av 32])) (run_build _ _ _ _ (by kernel_rfl)))<|?_
       by_cases o:x.rs.l=Bh.l
       ·
        refine Ad D D D<|AT (fun _ a=>Fu a x.rs.h Bh.h D D true (decide_eq_true o))<|Bn D D<|O D<|M<|G<|K<|N<|I D<|I D<|Ad D D D<|I D<|Bn D D<|I D<|Ad D D D<|Am BD 101 D<|Ad D D D<|AK Cr 8 H1 D D<|Ad D D D<|BY Cr D<|?_
        by_cases u:((x.s.v.length:Nat):Int)≤((128:Nat):Int)
        ·
         refine Ad D D D<|Let u D D<|Bn D D<|O D<|M<|G<|AA<|AX<|AZ D<|?_
         exact⟨_,D,b⟩
        ·
         refine Ad D D D<|NG u D D<|Bn D D<|O D<|M<|G<|AA<|AX<|AZ D<|?_
         exact⟨_,D,b⟩
       ·
        refine Ad D D D<|AT (fun _ a=>Fu a x.rs.h Bh.h D D false (decide_eq_false o))<|Bn D D<|O D<|M<|G<|K<|N<|I D<|I D<|Ad D D D<|I D<|Bn D D<|I D<|Ae D D D D<|Ae D D D D<|Ae D D D D<|Ae D D D D<|Ba D D<|O D<|M<|G<|AA<|AX<|AZ D<|?_
        exact⟨_,D,b⟩
      ·
       refine AT (fun _ a=>Fu a x.ls.h Bh.h D D false (decide_eq_false n))<|I D<|Ae D D D D<|Ae D D D D<|Ae D D D D<|Ae D D D D<|Ba D D<|O D<|M<|G<|K<|N<|I D<|I D<|Ad D D D<|I D<|Bn D D<|I D<|Ae D D D D<|Ae D D D D<|Ae D D D D<|Ae D D D D<|Ba D D<|O D<|M<|G<|AA<|AX<|AZ D<|?_
       exact⟨_,D,b⟩
     ·
      refine Ad D D D<|E0 m D D<|Bn D D<|O D<|M<|G<|K<|N<|Am BD 5 D<|Eu BZ 5 1 [bv x.ls.l] H1 D<|AT (fun _ a=>CE a (Bf:=[]) D (v:=Value.agg (flat [Av 32])) (run_build _ _ _ _ (by kernel_rfl)))<|?_
      by_cases y:x.ls.l=Bh.l
      ·
       refine AT (fun _ a=>Fu a x.ls.h Bh.h D D true (decide_eq_true y))<|I D<|Ad D D D<|Am BD 37 D<|Ad D D D<|Eu BZ 6 1 [bv x.rs.l] H1 D<|Ad D D D<|AT (fun _ a=>CE a (Bf:=[]) D (v:=Value.agg (flat [Av 32])) (run_build _ _ _ _ (by kernel_rfl)))<|?_
       by_cases z:x.rs.l=Bh.l
       ·
        refine Ad D D D<|AT (fun _ a=>Fu a x.rs.h Bh.h D D true (decide_eq_true z))<|Bn D D<|O D<|M<|G<|K<|N<|I D<|I D<|Ae D D D D<|Ba D D<|I D<|Ae D D D D<|Ae D D D D<|Ae D D D D<|Ae D D D D<|Ba D D<|O D<|M<|G<|AA<|AX<|AZ D<|?_
        exact⟨_,D,b⟩
       ·
        refine Ad D D D<|AT (fun _ a=>Fu a x.rs.h Bh.h D D false (decide_eq_false z))<|Bn D D<|O D<|M<|G<|K<|N<|I D<|I D<|Ae D D D D<|Ba D D<|I D<|Ae D D D D<|Ae D D D D<|Ae D D D D<|Ae D D D D<|Ba D D<|O D<|M<|G<|AA<|AX<|AZ D<|?_
        exact⟨_,D,b⟩
      ·
       refine AT (fun _ a=>Fu a x.ls.h Bh.h D D false (decide_eq_false y))<|I D<|Ae D D D D<|Ae D D D D<|Ae D D D D<|Ae D D D D<|Ba D D<|O D<|M<|G<|K<|N<|I D<|I D<|Ae D D D D<|Ba D D<|I D<|Ae D D D D<|Ae D D D D<|Ae D D D D<|Ae D D D D<|Ba D D<|O D<|M<|G<|AA<|AX<|AZ D<|?_
       exact⟨_,D,b⟩
    ·
     refine Ad D D D<|E0 j D D<|Bn D D<|I D<|Ae D D D D<|Ae D D D D<|Ae D D D D<|Ba D D<|O D<|M<|G<|K<|N<|Am BD 5 D<|Eu BZ 5 1 [bv x.ls.l] H1 D<|AT (fun _ a=>CE a (Bf:=[]) D (v:=Value.agg (flat [Av 32])) (run_build _ _ _ _ (by kernel_rfl)))<|?_
     by_cases A:x.ls.l=Bh.l
     ·
      refine AT (fun _ a=>Fu a x.ls.h Bh.h D D true (decide_eq_true A))<|I D<|Ad D D D<|Am BD 37 D<|Ad D D D<|Eu BZ 6 1 [bv x.rs.l] H1 D<|Ad D D D<|AT (fun _ a=>CE a (Bf:=[]) D (v:=Value.agg (flat [Av 32])) (run_build _ _ _ _ (by kernel_rfl)))<|?_
      by_cases B:x.rs.l=Bh.l
      ·
       refine Ad D D D<|AT (fun _ a=>Fu a x.rs.h Bh.h D D true (decide_eq_true B))<|Bn D D<|O D<|M<|G<|K<|N<|I D<|I D<|Ae D D D D<|Ba D D<|I D<|Ae D D D D<|Ae D D D D<|Ae D D D D<|Ae D D D D<|Ba D D<|O D<|M<|G<|AA<|AX<|AZ D<|?_
       exact⟨_,D,b⟩
      ·
       refine Ad D D D<|AT (fun _ a=>Fu a x.rs.h Bh.h D D false (decide_eq_false B))<|Bn D D<|O D<|M<|G<|K<|N<|I D<|I D<|Ae D D D D<|Ba D D<|I D<|Ae D D D D<|Ae D D D D<|Ae D D D D<|Ae D D D D<|Ba D D<|O D<|M<|G<|AA<|AX<|AZ D<|?_
       exact⟨_,D,b⟩
     ·
      refine AT (fun _ a=>Fu a x.ls.h Bh.h D D false (decide_eq_false A))<|I D<|Ae D D D D<|Ae D D D D<|Ae D D D D<|Ae D D D D<|Ba D D<|O D<|M<|G<|K<|N<|I D<|I D<|Ae D D D D<|Ba D D<|I D<|Ae D D D D<|Ae D D D D<|Ae D D D D<|Ae D D D D<|Ba D D<|O D<|M<|G<|AA<|AX<|AZ D<|?_
      exact⟨_,D,b⟩
   ·
    refine Ad D D D<|E0 i D D<|Bn D D<|I D<|Ae D D D D<|Ae D D D D<|Ae D D D D<|Ba D D<|I D<|Ae D D D D<|Ae D D D D<|Ae D D D D<|Ba D D<|O D<|M<|G<|K<|N<|Am BD 5 D<|Eu BZ 5 1 [bv x.ls.l] H1 D<|AT (fun _ a=>CE a (Bf:=[]) D (v:=Value.agg (flat [Av 32])) (run_build _ _ _ _ (by kernel_rfl)))<|?_
    by_cases C:x.ls.l=Bh.l
    ·
     refine AT (fun _ a=>Fu a x.ls.h Bh.h D D true (decide_eq_true C))<|I D<|Ad D D D<|Am BD 37 D<|Ad D D D<|Eu BZ 6 1 [bv x.rs.l] H1 D<|Ad D D D<|AT (fun _ a=>CE a (Bf:=[]) D (v:=Value.agg (flat [Av 32])) (run_build _ _ _ _ (by kernel_rfl)))<|?_
     by_cases H:x.rs.l=Bh.l
     ·
      refine Ad D D D<|AT (fun _ a=>Fu a x.rs.h Bh.h D D true (decide_eq_true H))<|Bn D D<|O D<|M<|G<|K<|N<|I D<|I D<|Ae D D D D<|Ba D D<|I D<|Ae D D D D<|Ae D D D D<|Ae D D D D<|Ae D D D D<|Ba D D<|O D<|M<|G<|AA<|AX<|AZ D<|?_
      exact⟨_,D,b⟩
     ·
      refine Ad D D D<|AT (fun _ a=>Fu a x.rs.h Bh.h D D false (decide_eq_false H))<|Bn D D<|O D<|M<|G<|K<|N<|I D<|I D<|Ae D D D D<|Ba D D<|I D<|Ae D D D D<|Ae D D D D<|Ae D D D D<|Ae D D D D<|Ba D D<|O D<|M<|G<|AA<|AX<|AZ D<|?_
      exact⟨_,D,b⟩
    ·
     refine AT (fun _ a=>Fu a x.ls.h Bh.h D D false (decide_eq_false C))<|I D<|Ae D D D D<|Ae D D D D<|Ae D D D D<|Ae D D D D<|Ba D D<|O D<|M<|G<|K<|N<|I D<|I D<|Ae D D D D<|Ba D D<|I D<|Ae D D D D<|Ae D D D D<|Ae D D D D<|Ae D D D D<|Ba D D<|O D<|M<|G<|AA<|AX<|AZ D<|?_
     exact⟨_,D,b⟩
  ·
   refine E0 g D D<|I D<|Ae D D D D<|Ae D D D D<|Ae D D D D<|Ba D D<|I D<|Ae D D D D<|Ae D D D D<|Ae D D D D<|Ba D D<|I D<|Ae D D D D<|Ae D D D D<|Ae D D D D<|Ba D D<|O D<|M<|G<|K<|N<|Am BD 5 D<|Eu BZ 5 1 [bv x.ls.l] H1 D<|AT (fun _ a=>CE a (Bf:=[]) D (v:=Value.agg (flat [Av 32])) (run_build _ _ _ _ (by kernel_rfl)))<|?_
   by_cases J:x.ls.l=Bh.l
   ·
    refine AT (fun _ a=>Fu a x.ls.h Bh.h D D true (decide_eq_true J))<|I D<|Ad D D D<|Am BD 37 D<|Ad D D D<|Eu BZ 6 1 [bv x.rs.l] H1 D<|Ad D D D<|AT (fun _ a=>CE a (Bf:=[]) D (v:=Value.agg (flat [Av 32])) (run_build _ _ _ _ (by kernel_rfl)))<|?_
    by_cases L:x.rs.l=Bh.l
    ·
     refine Ad D D D<|AT (fun _ a=>Fu a x.rs.h Bh.h D D true (decide_eq_true L))<|Bn D D<|O D<|M<|G<|K<|N<|I D<|I D<|Ae D D D D<|Ba D D<|I D<|Ae D D D D<|Ae D D D D<|Ae D D D D<|Ae D D D D<|Ba D D<|O D<|M<|G<|AA<|AX<|AZ D<|?_
     exact⟨_,D,b⟩
    ·
     refine Ad D D D<|AT (fun _ a=>Fu a x.rs.h Bh.h D D false (decide_eq_false L))<|Bn D D<|O D<|M<|G<|K<|N<|I D<|I D<|Ae D D D D<|Ba D D<|I D<|Ae D D D D<|Ae D D D D<|Ae D D D D<|Ae D D D D<|Ba D D<|O D<|M<|G<|AA<|AX<|AZ D<|?_
     exact⟨_,D,b⟩
   ·
    refine AT (fun _ a=>Fu a x.ls.h Bh.h D D false (decide_eq_false J))<|I D<|Ae D D D D<|Ae D D D D<|Ae D D D D<|Ae D D D D<|Ba D D<|O D<|M<|G<|K<|N<|I D<|I D<|Ae D D D D<|Ba D D<|I D<|Ae D D D D<|Ae D D D D<|Ae D D D D<|Ae D D D D<|Ba D D<|O D<|M<|G<|AA<|AX<|AZ D<|?_
    exact⟨_,D,b⟩
 ·
  refine AE<|G<|K<|K<|N<|Am BD 0 D<|AK AH 0 H1 D D<|?_
  by_cases P:((x.ZI:Nat):Int)=((2:Nat):Int)
  ·
   refine Dr P D D<|I D<|Ad D D D<|Am BD 69 D<|Ad D D D<|Eu Ce 7 1 [bv x.k.l] H1 D<|Ad D D D<|AT (fun _ a=>CE a (Bf:=[]) D (v:=Value.agg (flat [Av 32])) (run_build _ _ _ _ (by kernel_rfl)))<|?_
   by_cases R:x.k.l=Bh.l
   ·
    refine Ad D D D<|AT (fun _ a=>LD a x.k.h Bh.h D D false (by rw[decide_eq_true R];rfl))<|Ba D D<|I D<|Ad D D D<|Am Tryz.underlying127 101 D<|Ad D D D<|AK Tryz.underlying28 8 H1 D D<|Ad D D D<|BY Tryz.underlying28 D<|?_
    by_cases S:((0:Nat):Int)<((x.s.v.length:Nat):Int)
    ·
     refine Ad D D D<|Gp S D D<|Ba D D<|I D<|Ae D D D D<|Ae D D D D<|Ae D D D D<|Ae D D D D<|Ae D D D D<|Bn D D<|M<|G<|BS D<|K<|N<|O D<|M<|G<|AA<|AX<|AZ D<|?_
     exact⟨_,D,b⟩
    ·
     refine Ad D D D<|FV S D D<|Ba D D<|I D<|Ad D D D<|Am BD 1 D<|Ad D D D<|AK AH 1 H1 D D<|Ad D D D<|Am BD 2 D<|Ad D D D<|AK AH 2 H1 D D<|?_
     by_cases T:((x.l:Nat):Int)=((x.r:Nat):Int)
     ·
      refine Ad D D D<|D5 T D D<|Ba D D<|M<|G<|BS D<|K<|N<|O D<|M<|G<|AA<|AX<|AZ D<|?_
      exact⟨_,D,b⟩
     ·
      refine Ad D D D<|E0 T D D<|Ba D D<|M<|G<|BE D<|AE<|G<|K<|N<|Am BD 1 D<|AK AH 1 H1 D D<|Am BD 3 D<|AK AH 3 H1 D D<|Am BD 5 D<|Eu BZ 5 1 [bv x.ls.l] H1 D<|AS MX D (Sg ((x.l:Nat):Int) ((x.lc:Nat):Int) x.ls _) ?_
      rintro _ ai ⟨t22,rfl,U⟩
      refine⟨_,D,?_⟩
      have H1:=Q H1 U
      have b:=Ah b U
      refine O D<|M<|G<|K<|N<|Am BD 2 D<|AK AH 2 H1 D D<|Am BD 4 D<|AK AH 4 H1 D D<|Am BD 37 D<|Eu BZ 6 1 [bv x.rs.l] H1 D<|AS MX D (Sg ((x.r:Nat):Int) ((x.rc:Nat):Int) x.rs _) ?_
      rintro _ aj ⟨t25,rfl,V⟩
      refine⟨_,D,?_⟩
      have H1:=Q H1 V
      have b:=Ah b V
      refine O D<|M<|G<|K<|K<|N<|?_
      rcases Bool.eq_false_or_eq_true t22 with d|d
      ·
       refine AT (fun _ a=>Fk (Ew a (v:=(Br t22)) D) (congrArg Value.bool d))<|Dn D<|I D<|?_
       rcases Bool.eq_false_or_eq_true t25 with f|f
       ·
        refine Ad D D D<|AT (fun _ a=>Fk (Ew a (v:=(Br t25)) D) (congrArg Value.bool f))<|Ad D D D<|Dn D<|Ba D D<|M<|G<|BE D<|AE<|G<|K<|N<|Am BD 3 D<|AK AH 3 H1 D D<|Am BD 4 D<|AK AH 4 H1 D D<|A_ D D<|O D<|M<|G<|K<|N<|I D<|?_
        by_cases W:((2:Nat):Int)≤((x.lc+x.rc:Nat):Int)
        ·
         refine Gy W D D<|I D<|Ad D D D<|I D<|?_
         by_cases X:((x.lc+x.rc:Nat):Int)≤((4096:Nat):Int)
         ·
          refine Ad D D D<|Let X D D<|Bn D D<|O D<|M<|G<|AA<|AZ D<|?_
          exact⟨_,D,b⟩
         ·
          refine Ad D D D<|NG X D D<|Bn D D<|O D<|M<|G<|AA<|AZ D<|?_
          exact⟨_,D,b⟩
        ·
         refine GL W D D<|I D<|Ae D D D D<|Ae D D D D<|Ba D D<|O D<|M<|G<|AA<|AZ D<|?_
         exact⟨_,D,b⟩
       ·
        refine Ad D D D<|AT (fun _ a=>Fk (Ew a (v:=(Br t25)) D) (congrArg Value.bool f))<|Ad D D D<|Dn D<|Ba D D<|M<|G<|BS D<|K<|N<|O D<|M<|G<|AA<|AX<|AZ D<|?_
        exact⟨_,D,b⟩
      ·
       refine AT (fun _ a=>Fk (Ew a (v:=(Br t22)) D) (congrArg Value.bool d))<|Dn D<|I D<|Ae D D D D<|Ae D D D D<|Bn D D<|M<|G<|BS D<|K<|N<|O D<|M<|G<|AA<|AX<|AZ D<|?_
       exact⟨_,D,b⟩
   ·
    refine Ad D D D<|AT (fun _ a=>LD a x.k.h Bh.h D D true (by rw[decide_eq_false R];rfl))<|Ba D D<|I D<|Ae D D D D<|Ae D D D D<|Ae D D D D<|Ae D D D D<|Bn D D<|I D<|Ae D D D D<|Ae D D D D<|Ae D D D D<|Ae D D D D<|Ae D D D D<|Bn D D<|M<|G<|BS D<|K<|N<|O D<|M<|G<|AA<|AX<|AZ D<|?_
    exact⟨_,D,b⟩
  ·
   refine F6 P D D<|I D<|Ae D D D D<|Ae D D D D<|Ae D D D D<|Ae D D D D<|Bn D D<|I D<|Ae D D D D<|Ae D D D D<|Ae D D D D<|Ae D D D D<|Bn D D<|I D<|Ae D D D D<|Ae D D D D<|Ae D D D D<|Ae D D D D<|Ae D D D D<|Bn D D<|M<|G<|BS D<|K<|N<|O D<|M<|G<|AA<|AX<|AZ D<|?_
   exact⟨_,D,b⟩
theorem Mj(q:Option Addr)(n c:Nat)(l:List UInt8)(i:Nat)(w:World)(t:i+4≤n)(hn:n≤1000000)(g:View w (.slice q n c) n 1 (bv l))(u:l.length=n):
 Calls Tryz.prog 93 #[F q n c,E i] w fun e w'=>∃r:Nat,r<4294967296∧e=.returned (.int .i64 ((r:Nat):Int))∧Below w.heap.size w w':=by
 have b:Below w.heap.size w w:=Bu _ _
 refine Bx KK D 34 ?_
 refine K<|N<|O (v:=(E 0)) D<|M<|G<|K<|?_
 intro a d
 refine Gm (by kernel_rfl) (by kernel_rfl) ?_
 intro x y h
 have b:=Ah b h
 revert a
 have z:=(l.getD i 0).toNat_lt
 have A:=(l.getD (i+1) 0).toNat_lt
 have B:=(l.getD (i+2) 0).toNat_lt
 have C:=(l.getD (i+3) 0).toNat_lt
 refine A3 D<|A3 D<|?_
 obtain⟨b2,f,rfl⟩:=Ca (g.below b)
 have j:=De (g.below b) i (o:=f+i*1)
 refine C0 A0 i (f+i*1) D D<|Dw BA j D<|Cz (fun _ d=>C3 d (p:=((((l.getD i 0).toNat:Nat):Int):Int)) (r:=(((l.getD i 0).toNat:Nat):Int)) D BA AH (GR ((l.getD i 0).toNat) (Nat.lt_trans (UInt8.toNat_lt _) (by decide))))<|A3 D<|A3 D<|Fv (q:=1) D D<|?_
 have k:=De (g.below b) (i+1) (o:=f+(i+1)*1)
 refine C0 A0 (i+1) (f+(i+1)*1) D D<|Dw BA k D<|Cz (fun _ d=>C3 d (p:=((((l.getD (i+1) 0).toNat:Nat):Int):Int)) (r:=(((l.getD (i+1) 0).toNat:Nat):Int)) D BA AH (GR ((l.getD (i+1) 0).toNat) (Nat.lt_trans (UInt8.toNat_lt _) (by decide))))<|G_ (p:=256) D D<|Fv D D<|A3 D<|A3 D<|Fv (q:=2) D D<|?_
 have m:=De (g.below b) (i+2) (o:=f+(i+2)*1)
 refine C0 A0 (i+2) (f+(i+2)*1) D D<|Dw BA m D<|Cz (fun _ d=>C3 d (p:=((((l.getD (i+2) 0).toNat:Nat):Int):Int)) (r:=(((l.getD (i+2) 0).toNat:Nat):Int)) D BA AH (GR ((l.getD (i+2) 0).toNat) (Nat.lt_trans (UInt8.toNat_lt _) (by decide))))<|G_ (p:=65536) D D<|Fv D D<|A3 D<|A3 D<|Fv (q:=3) D D<|?_
 have s:=De (g.below b) (i+3) (o:=f+(i+3)*1)
 refine C0 A0 (i+3) (f+(i+3)*1) D D<|Dw BA s D<|Cz (fun _ d=>C3 d (p:=((((l.getD (i+3) 0).toNat:Nat):Int):Int)) (r:=(((l.getD (i+3) 0).toNat:Nat):Int)) D BA AH (GR ((l.getD (i+3) 0).toNat) (Nat.lt_trans (UInt8.toNat_lt _) (by decide))))<|G_ (p:=16777216) D D<|Fv D D<|Ff D<|Er<|G<|AA<|AZ D<|?_
 exact⟨_,by omega,D,b⟩
theorem LO(v:Nat)(w:World)(j:v≤4611686018427387904:=by omega):
 Calls Tryz.prog 81 #[E v] w fun e w'=>∃p,∃L:List UInt8,e=.returned (.slice p 4 4)∧View w' (.slice p 4 4) 4 1 (bv L)∧L.length=4∧(∀a,p=some a→w.heap.size≤a.block)∧Below w.heap.size w w':=by
 have c:Below w.heap.size w w:=Bu _ _
 refine Bx KY D 19 ?_
 refine K<|N<|O D<|M<|G<|K<|N<|I D<|EM (q:=256) D D<|AT (fun _ b=>C3 b (p:=((v % 256:Nat):Int)) (r:=(((UInt8.ofNat (v % 256)).toNat:Nat):Int)) D AH BA (Fw (v % 256)))<|I D<|FK (q:=256) D D<|EM (q:=256) D D<|AT (fun _ b=>C3 b (p:=(((v/256) % 256:Nat):Int)) (r:=(((UInt8.ofNat ((v/256) % 256)).toNat:Nat):Int)) D AH BA (Fw ((v/256) % 256)))<|I D<|FK (q:=65536) D D<|EM (q:=256) D D<|AT (fun _ b=>C3 b (p:=(((v/65536) % 256:Nat):Int)) (r:=(((UInt8.ofNat ((v/65536) % 256)).toNat:Nat):Int)) D AH BA (Fw ((v/65536) % 256)))<|I D<|FK (q:=16777216) D D<|EM (q:=256) D D<|AT (fun _ b=>C3 b (p:=(((v/16777216) % 256:Nat):Int)) (r:=(((UInt8.ofNat ((v/16777216) % 256)).toNat:Nat):Int)) D AH BA (Fw ((v/16777216) % 256)))<|?_
 intro k d
 refine Bj D (fun Aa f=>Mb d D (e:=5) (Bf:=[(0,(Value.int .u8 ((((UInt8.ofNat (v % 256)).toNat:Nat):Int):Int))),(1,(Value.int .u8 ((((UInt8.ofNat ((v/256) % 256)).toNat:Nat):Int):Int))),(2,(Value.int .u8 ((((UInt8.ofNat ((v/65536) % 256)).toNat:Nat):Int):Int))),(3,(Value.int .u8 ((((UInt8.ofNat ((v/16777216) % 256)).toNat:Nat):Int):Int)))]) D (cs:=#[Value.int .u8 ((((UInt8.ofNat (v % 256)).toNat:Nat):Int):Int),Value.int .u8 ((((UInt8.ofNat ((v/256) % 256)).toNat:Nat):Int):Int),Value.int .u8 ((((UInt8.ofNat ((v/65536) % 256)).toNat:Nat):Int):Int),Value.int .u8 ((((UInt8.ofNat ((v/16777216) % 256)).toNat:Nat):Int):Int)]) D (by unfold maxLen;omega) (by kernel_rfl) ?_)
 intro a g b l v2 h
 have v2:View g (F (some ⟨w.heap.size,0,none⟩) 4 4) 4 1 (bv [UInt8.ofNat (v % 256),UInt8.ofNat ((v/256) % 256),UInt8.ofNat ((v/65536) % 256),UInt8.ofNat ((v/16777216) % 256)]):=v2
 have c:=Ah c h
 refine f _ _ ?_;revert a
 refine O D<|M<|G<|AA<|AZ D<|?_
 exact⟨_,_,D,v2,D,(fun a i=>by cases i;have:=c.size;first|exact Be _|omega),c⟩
theorem KT(Aj:Nat)(f:Option Addr)(b AG:Nat)(h:List UInt8)(q:Option Addr)(n c:Nat)(l:List UInt8)(w:World)(hn:b+n≤1000000)(An:Aj≤w.heap.size)(own:w.ownsRow Aj 5 1 (.slice f b AG) b (bv h))(r:M_ w (.slice f b AG) q n c 1 (bv l))(u:l.length=n):
 Calls Tryz.prog 80 #[F f b AG,F q n c] w fun e w'=>∃p k,e=.returned (.slice p (b+n) k)∧w'.ownsRow Aj 5 1 (.slice p (b+n) k) (b+n) (bv (h++l))∧C' w w' (.slice f b AG) (.slice p (b+n) k):=by
 have d:C' w w (.slice f b AG) (.slice f b AG):=C'.refl _ _
 refine Bx Kj D 20 ?_
 refine K<|N<|O D<|M<|G<|K<|K<|N<|O (v:=(E 0)) D<|M<|G<|A2<|?_
 intro a g
 refine Cb (fun x a W=>∃i j m,x=n - i∧Ao 20 a (Ja (Ja (Ja (Ja Je 1 (F q n c)) 4 (F none 0 0)) 5 (E i)) 0 (F j (b+i) m))∧i≤n∧W.ownsRow Aj 5 1 (.slice j (b+i) m) (b+i) (bv (h++l.take i))∧C' w W (F f b AG) (F j (b+i) m)) _ ⟨0,_,_,D,At g,by omega,by simpa using own,d⟩ ?_
 rintro _ a L ⟨i,j,m,rfl,g,P,own,d⟩
 revert a
 refine K<|K<|N<|I D<|I D<|BY Cr D<|B5 D D<|M<|G<|Bl D (fun y=>?_) fun y=>?_
 ·
  refine AE<|G<|K<|A2<|N<|I D<|I D<|I D<|?_
  obtain⟨Q,s,rfl⟩:=Ca (r.below d)
  have z:=De (r.below d) i (o:=s+i*1)
  refine Cn A0 i (s+i*1) D D<|Cg BA z D<|D6 A0 D (cs:=#[Value.int .u8 ((((l.getD i 0).toNat:Nat):Int):Int)]) D D ?_
  intro R S A t
  have own:=V own t
  have d:=d.Pd t
  intro T B
  refine Bj D (fun Aa C=>BK B A0 own A (by simp[Value.oneCell']) (Bs An d.ai.size) ((b+i)+1) (zs:=bv (h++l.take i++[l.getD i 0])) (by simp[bv]) ?_)
  intro a X Y Z g H J
  have d:=d.trans J
  refine C _ _ ?_;revert a
  refine O D<|M<|Bq<|G<|N<|I D<|A_ (q:=1) D D<|O D<|M<|G<|?_
  intro a g
  exact⟨_,by omega,i+1,_,_,D,At g,by omega,by rw[←P0 l i (by omega),←List.append_assoc];exact H,d⟩
 ·
  obtain rfl:n=i:=by omega
  refine BO<|AW<|AW<|BN<|G<|K<|N<|I D<|O D<|M<|G<|AA<|AZ D<|?_
  rw[List.take_of_length_le (Nat.le_of_eq u)]at own
  exact⟨_,_,D,own,d⟩
theorem WM(x:DD)(w:World)(ak:x.s.ok w)(a':x.s.v.length≤128)(ba:x.l≤4611686018427387904)(bb:x.r≤4611686018427387904)(bc:x.lc≤4611686018427387904)(bd:x.rc≤4611686018427387904):
 Calls Tryz.prog 45 #[Value.agg (flat [[E x.ZI],[E x.l],[E x.r],[E x.lc],[E x.rc],bv x.ls.l,bv x.rs.l,bv x.k.l,[F x.s.p x.s.v.length x.s.c]])] w fun e w'=>∃p k n,∃L:List UInt8,e=.returned (.slice p n k)∧n≤160∧w'.ownsRow w.heap.size 5 1 (.slice p n k) n (bv L)∧Below w.heap.size w w':=by
 have b:Below w.heap.size w w:=Bu _ _
 have ar:View w (.slice x.s.p x.s.v.length x.s.c) x.s.v.length 1 (bv x.s.v):=ak
 refine Bx PO D 68 ?_
 refine K<|N<|CW D ?_
 intro b1 au av U H1 o
 have bf:=Bg b av
 have b:=Ah b o
 refine O D<|M<|G<|K<|N<|O D<|?_
 have own:au.ownsRow w.heap.size 5 1 (.slice none 0 0) 0 (bv []):=World.ownsRow_nil _ _ _ _
 have C:Z (F none 0 0) b1:=FL
 refine M<|G<|K<|K<|N<|Am BD 0 D<|AK AH 0 H1 D D<|Dk (q:=(1:Nat)) D D<|M<|G<|Bl D (fun aw=>?_) fun aw=>?_
 ·
  refine K<|K<|N<|O (v:=(E 0)) D<|M<|G<|A2<|?_
  intro a f
  refine Cb (fun H a W=>∃i g m t,H=32 - i∧Ao 68 a (Ja (Ja (Ja (Ja Je 1 (AB b1)) 2 (F none 0 0)) 4 (E i)) 3 (F g i m))∧i≤32∧W.ownsRow w.heap.size 5 1 (.slice g i m) i (bv t)∧Below w.heap.size w W∧Ai W b1 [[E x.ZI],[E x.l],[E x.r],[E x.lc],[E x.rc],bv x.ls.l,bv x.rs.l,bv x.k.l,[F x.s.p x.s.v.length x.s.c]] 127∧Z (F g i m) b1) _ ⟨0,_,_,_,D,At f,by omega,own,b,H1,T C⟩ ?_
  rintro _ a bg ⟨i,g,m,t,rfl,f,al,own,b,H1,C⟩
  revert a
  refine K<|K<|N<|I D<|B5 (q:=(32:Nat)) D D<|M<|G<|Bl D (fun ax=>?_) fun ax=>?_
  ·
   refine AE<|G<|K<|A2<|N<|I D<|I D<|Am BD 69 D<|Dg Ce 1 i (69+i*1) D D<|Cg BA (LQ (j:=i) (k:=69) [[E x.ZI],[E x.l],[E x.r],[E x.lc],[E x.rc],bv x.ls.l,bv x.rs.l] x.k.l [[F x.s.p x.s.v.length x.s.c]] (HE H1) (Jb.one (Jb.one (Jb.one (Jb.one (Jb.one (Jb.row x.ls.row (Jb.row x.rs.row Jb.nil))))))) x.k.h) D<|D6 A0 D (cs:=#[Value.int .u8 ((((x.k.l.getD i 0).toNat:Nat):Int):Int)]) D D ?_
   intro bh U v6 o
   have own:=V own o
   have H1:=Q H1 o
   have b:=Ah b o
   intro an J
   refine Bj D (fun Aa P=>BK J A0 own v6 (by simp[Value.oneCell']) b.size (i+1) (zs:=bv (t++[x.k.l.getD i 0])) (by simp[bv]) ?_)
   intro a bj bk bl f ay X
   have az:=A9 X C (Ar H1)
   have H1:=A' H1 X C
   have b:=Cm b X own
   refine P _ _ ?_;revert a
   refine O D<|M<|Bq<|G<|N<|I D<|A_ (q:=1) D D<|O D<|M<|G<|?_
   intro a f
   exact⟨_,by omega,i+1,_,_,_,D,At f,by omega,ay,b,H1,T az⟩
  ·
   obtain rfl:i=32:=by omega
   refine BO<|AW<|AW<|BN<|G<|K<|N<|I D<|Am BD 101 D<|AK Cr 8 H1 D D<|AS Kj D (KT _ _ _ _ _ _ _ _ _ _ (by omega) b.size own ⟨ar.below b,fun k y a z=>by have:=(own.lt k y).1;have:=B8.ok.lt ak a z;omega⟩ D) ?_
   rintro _ bm ⟨bn,bo,rfl,aA,aB⟩
   refine⟨_,D,?_⟩
   have b:=Cm b aB own
   refine O D<|M<|G<|AA<|AX<|AZ D<|?_
   exact⟨_,_,_,_,D,by omega,aA,b⟩
 ·
  refine AE<|G<|K<|N<|I D<|Am BD 1 D<|AK AH 1 H1 D D<|AS KY D (LO x.l _) ?_
  rintro _ bp ⟨aC,bq,rfl,aD,aE,aF,Y⟩
  refine⟨_,D,?_⟩
  have A:=own.lt
  have H1:=Q H1 Y
  have own:=V own Y
  have b:=Ah b Y
  have aG:∀k,(F none 0 0).ownBlock=some k→∀a,aC=some a→a.block≠k:=fun k y a z=>by have:=(A k y).2;have:=aF a z;omega
  refine AS Kj D (KT _ _ _ _ _ _ _ _ _ _ (by omega) b.size own ⟨aD,aG⟩ aE) ?_
  rintro _ br ⟨aH,aI,rfl,R,aa⟩
  refine⟨_,D,?_⟩
  have ao:=A9 aa C (Ar H1)
  have H1:=A' H1 aa C
  have b:=Cm b aa own
  refine O D<|M<|G<|K<|N<|I D<|Am BD 2 D<|AK AH 2 H1 D D<|AS KY D (LO x.r _) ?_
  rintro _ bs ⟨aJ,bt,rfl,v30,aK,aL,ab⟩
  refine⟨_,D,?_⟩
  have A:=R.lt
  have H1:=Q H1 ab
  have R:=V R ab
  have b:=Ah b ab
  have aM:∀k,(F aH (0+4) aI).ownBlock=some k→∀a,aJ=some a→a.block≠k:=fun k y a z=>by have:=(A k y).2;have:=aL a z;omega
  refine AS Kj D (KT _ _ _ _ _ _ _ _ _ _ (by omega) b.size R ⟨v30,aM⟩ aK) ?_
  rintro _ bu ⟨aN,aO,rfl,S,ad⟩
  refine⟨_,D,?_⟩
  have aq:=A9 ad ao (Ar H1)
  have H1:=A' H1 ad ao
  have b:=Cm b ad R
  refine O D<|M<|G<|K<|N<|I D<|Am BD 3 D<|AK AH 3 H1 D D<|AS KY D (LO x.lc _) ?_
  rintro _ bw ⟨aP,bx,rfl,aQ,aR,aS,ae⟩
  refine⟨_,D,?_⟩
  have A:=S.lt
  have H1:=Q H1 ae
  have S:=V S ae
  have b:=Ah b ae
  have aT:∀k,(F aN ((0+4)+4) aO).ownBlock=some k→∀a,aP=some a→a.block≠k:=fun k y a z=>by have:=(A k y).2;have:=aS a z;omega
  refine AS Kj D (KT _ _ _ _ _ _ _ _ _ _ (by omega) b.size S ⟨aQ,aT⟩ aR) ?_
  rintro _ bz ⟨aU,aV,rfl,d,af⟩
  refine⟨_,D,?_⟩
  have u:=A9 af aq (Ar H1)
  have H1:=A' H1 af aq
  have b:=Cm b af S
  refine O D<|M<|G<|K<|N<|I D<|Am BD 4 D<|AK AH 4 H1 D D<|AS KY D (LO x.rc _) ?_
  rintro _ bA ⟨aW,bB,rfl,aX,aY,aZ,ag⟩
  refine⟨_,D,?_⟩
  have A:=d.lt
  have H1:=Q H1 ag
  have d:=V d ag
  have b:=Ah b ag
  have a0:∀k,(F aU (((0+4)+4)+4) aV).ownBlock=some k→∀a,aW=some a→a.block≠k:=fun k y a z=>by have:=(A k y).2;have:=aZ a z;omega
  refine AS Kj D (KT _ _ _ _ _ _ _ _ _ _ (by omega) b.size d ⟨aX,a0⟩ aY) ?_
  rintro _ bC ⟨bD,bE,rfl,a1,ah⟩
  refine⟨_,D,?_⟩
  have a2:=A9 ah u (Ar H1)
  have H1:=A' H1 ah u
  have u:=a2
  have b:=Cm b ah d
  have d:=a1
  refine O D<|M<|G<|K<|K<|N<|O (v:=(E 0)) D<|M<|G<|A2<|?_
  intro a f
  refine Cb (fun H a W=>∃i g m t,H=32 - i∧Ao 68 a (Ja (Ja (Ja (Ja Je 1 (AB b1)) 2 (F none 0 0)) 5 (E i)) 3 (F g (16+i) m))∧i≤32∧W.ownsRow w.heap.size 5 1 (.slice g (16+i) m) (16+i) (bv t)∧Below w.heap.size w W∧Ai W b1 [[E x.ZI],[E x.l],[E x.r],[E x.lc],[E x.rc],bv x.ls.l,bv x.rs.l,bv x.k.l,[F x.s.p x.s.v.length x.s.c]] 127∧Z (F g (16+i) m) b1) _ ⟨0,_,_,_,D,At f,by omega,d,b,H1,T u⟩ ?_
  rintro _ a bF ⟨i,g,m,t,rfl,f,al,d,b,H1,u⟩
  revert a
  refine K<|K<|N<|I D<|B5 (q:=(32:Nat)) D D<|M<|G<|Bl D (fun a3=>?_) fun a3=>?_
  ·
   refine AE<|G<|K<|A2<|N<|I D<|I D<|Am BD 5 D<|Dg BZ 1 i (5+i*1) D D<|Cg BA (LQ (j:=i) (k:=5) [[E x.ZI],[E x.l],[E x.r],[E x.lc],[E x.rc]] x.ls.l [bv x.rs.l,bv x.k.l,[F x.s.p x.s.v.length x.s.c]] (HE H1) D x.ls.h) D<|D6 A0 D (cs:=#[Value.int .u8 ((((x.ls.l.getD i 0).toNat:Nat):Int):Int)]) D D ?_
   intro bG U a4 o
   have d:=V d o
   have H1:=Q H1 o
   have b:=Ah b o
   intro an J
   refine Bj D (fun Aa P=>BK J A0 d a4 (by simp[Value.oneCell']) b.size ((16+i)+1) (zs:=bv (t++[x.ls.l.getD i 0])) (by simp[bv]) ?_)
   intro a bH bI bJ f a5 ai
   have a6:=A9 ai u (Ar H1)
   have H1:=A' H1 ai u
   have b:=Cm b ai d
   refine P _ _ ?_;revert a
   refine O D<|M<|Bq<|G<|N<|I D<|A_ (q:=1) D D<|O D<|M<|G<|?_
   intro a f
   exact⟨_,by omega,i+1,_,_,_,D,At f,by omega,a5,b,H1,T a6⟩
  ·
   obtain rfl:i=32:=by omega
   refine BO<|AW<|AW<|BN<|G<|K<|K<|N<|O (v:=(E 0)) D<|M<|G<|A2<|?_
   intro a f
   refine Cb (fun H a W=>∃i g m t,H=32 - i∧Ao 68 a (Ja (Ja (Ja (Ja Je 1 (AB b1)) 2 (F none 0 0)) 6 (E i)) 3 (F g (48+i) m))∧i≤32∧W.ownsRow w.heap.size 5 1 (.slice g (48+i) m) (48+i) (bv t)∧Below w.heap.size w W∧Ai W b1 [[E x.ZI],[E x.l],[E x.r],[E x.lc],[E x.rc],bv x.ls.l,bv x.rs.l,bv x.k.l,[F x.s.p x.s.v.length x.s.c]] 127∧Z (F g (48+i) m) b1) _ ⟨0,_,_,_,D,At f,by omega,d,b,H1,T u⟩ ?_
   rintro _ a bK ⟨i,g,m,t,rfl,f,al,d,b,H1,u⟩
   revert a
   refine K<|K<|N<|I D<|B5 (q:=(32:Nat)) D D<|M<|G<|Bl D (fun a7=>?_) fun a7=>?_
   ·
    refine AE<|G<|K<|A2<|N<|I D<|I D<|Am BD 37 D<|Dg BZ 1 i (37+i*1) D D<|Cg BA (LQ (j:=i) (k:=37) [[E x.ZI],[E x.l],[E x.r],[E x.lc],[E x.rc],bv x.ls.l] x.rs.l [bv x.k.l,[F x.s.p x.s.v.length x.s.c]] (HE H1) (Jb.one (Jb.one (Jb.one (Jb.one (Jb.one (Jb.row x.ls.row Jb.nil)))))) x.rs.h) D<|D6 A0 D (cs:=#[Value.int .u8 ((((x.rs.l.getD i 0).toNat:Nat):Int):Int)]) D D ?_
    intro bL U a8 o
    have d:=V d o
    have H1:=Q H1 o
    have b:=Ah b o
    intro an J
    refine Bj D (fun Aa P=>BK J A0 d a8 (by simp[Value.oneCell']) b.size ((48+i)+1) (zs:=bv (t++[x.rs.l.getD i 0])) (by simp[bv]) ?_)
    intro a bM bN bO f a9 aj
    have a_:=A9 aj u (Ar H1)
    have H1:=A' H1 aj u
    have b:=Cm b aj d
    refine P _ _ ?_;revert a
    refine O D<|M<|Bq<|G<|N<|I D<|A_ (q:=1) D D<|O D<|M<|G<|?_
    intro a f
    exact⟨_,by omega,i+1,_,_,_,D,At f,by omega,a9,b,H1,T a_⟩
   ·
    obtain rfl:i=32:=by omega
    refine BO<|AW<|AW<|BN<|G<|K<|N<|I D<|O D<|M<|G<|AA<|AZ D<|?_
    exact⟨_,_,_,_,D,by omega,d,b⟩
theorem T6(m:Nat)(q:Option Addr)(n c:Nat)(l:List UInt8)(w:World)(hn:n≤1000000)(J:View w (.slice q n c) n 1 (bv l))(ao:l.length=n):
 Calls Tryz.prog 59 #[E m,F q n c] w fun e w'=>∃x:DD,∃z:Nat,e=.returned (.tuple #[.agg (flat [[E x.ZI],[E x.l],[E x.r],[E x.lc],[E x.rc],bv x.ls.l,bv x.rs.l,bv x.k.l,[F x.s.p x.s.v.length x.s.c]]),.int .i64 ((z:Nat):Int)])∧(x.ZI≠2→x.l=0∧x.r=0)∧(x.l<4294967296∧x.r<4294967296∧x.lc<4294967296∧x.rc<4294967296)∧x.s.v.length≤128∧x.s.ok w'∧(∀a,x.s.p=some a→w.heap.size≤a.block)∧Below w.heap.size w w':=by
 have b:Below w.heap.size w w:=Bu _ _
 refine Bx PC D 97 ?_
 refine K<|N<|BQ [[E 0],[E 0],[E 0],[E 0],[E 0],Av 32,Av 32,Av 32,[F none 0 0]] ?_
 intro S bD aq y d B
 have bE:=Bg b aq
 have b:=Ah b B
 refine O (v:=(E 0)) D<|M<|G<|K<|N<|I D<|AT (fun _ f=>CE f (Bf:=[(0,(E m))]) D (v:=Value.agg (flat [[E m],[E 0],[E 0],[E 0],[E 0],Av 32,Av 32,Av 32,[F none 0 0]])) (run_build _ _ _ _ (by kernel_rfl)))<|BQ [[E 0],[E 0],[E 0],[E 0],[E 0],Av 32,Av 32,Av 32,[F none 0 0]] ?_
 intro L bF aq y g B
 have bG:=Bg b aq
 have bH:=AP d aq
 have d:=Q d B
 have b:=Ah b B
 refine Bi 0 9 g D D ?_
 intro bI y H aG
 have d:=Ag aG d (by omega)
 have b:=A1 b aG
 have g:=H
 refine M<|G<|K<|K<|N<|I D<|Dk (q:=(1:Nat)) D D<|M<|G<|Bl D (fun aY=>?_) fun aY=>?_
 ·
  refine K<|K<|N<|I D<|BY Cr D<|?_
  by_cases aH:((n:Nat):Int)<((32:Nat):Int)
  ·
   refine D8 aH D D<|I D<|Ae D D D D<|Ae D D D D<|Ae D D D D<|Bn D D<|M<|G<|BS D<|K<|N<|AT (fun _ f=>CE f (Bf:=[]) D (v:=Value.agg (flat [[E 0],[E 0],[E 0],[E 0],[E 0],Av 32,Av 32,Av 32,[F none 0 0]])) (run_build _ _ _ _ (by kernel_rfl)))<|Bi 0 9 d D D ?_
   intro bJ y aZ a0
   have b:=A1 b a0
   refine O (v:=(E 90)) D<|M<|G<|AA<|AX<|AX<|?_
   intro a f
   refine DG f D D D aZ BD D (Cf 102) ?_
   exact⟨⟨0,0,0,0,0,Bh,Bh,Bh,DZ⟩,90,D,fun _=>⟨D,D⟩,⟨by dsimp only;omega,by dsimp only;omega,by dsimp only;omega,by dsimp only;omega⟩,Nat.zero_le _,DZ.isOk _,(fun a P=>by cases P),b⟩
  ·
   refine DO aH D D<|I D<|Ad D D D<|I D<|Ad D D D<|BY Cr D<|?_
   by_cases aI:((160:Nat):Int)<((n:Nat):Int)
   ·
    refine Ad D D D<|Gp aI D D<|Ba D D<|M<|G<|BS D<|K<|N<|AT (fun _ f=>CE f (Bf:=[]) D (v:=Value.agg (flat [[E 0],[E 0],[E 0],[E 0],[E 0],Av 32,Av 32,Av 32,[F none 0 0]])) (run_build _ _ _ _ (by kernel_rfl)))<|Bi 0 9 d D D ?_
    intro bK y a1 a2
    have b:=A1 b a2
    refine O (v:=(E 90)) D<|M<|G<|AA<|AX<|AX<|?_
    intro a f
    refine DG f D D D a1 BD D (Cf 102) ?_
    exact⟨⟨0,0,0,0,0,Bh,Bh,Bh,DZ⟩,90,D,fun _=>⟨D,D⟩,⟨by dsimp only;omega,by dsimp only;omega,by dsimp only;omega,by dsimp only;omega⟩,Nat.zero_le _,DZ.isOk _,(fun a P=>by cases P),b⟩
   ·
    refine Ad D D D<|FV aI D D<|Ba D D<|M<|G<|BE D<|AE<|G<|K<|K<|N<|O (v:=(E 0)) D<|M<|G<|A2<|?_
    simp only[show Av 32=bv Bh.l from Du _]at g
    intro a f
    refine Cb (fun aj a W=>∃i,∃R:Jd,aj=32 - i∧Ao 97 a (Ja (Ja (Ja (Ja (Ja (Ja Je 0 (E m)) 1 (F q n c)) 4 (AB S)) 5 (E 0)) 6 (AB L)) 7 (E i))∧i≤32∧Below w.heap.size w W∧Ai W S [[E 0],[E 0],[E 0],[E 0],[E 0],Av 32,Av 32,Av 32,[F none 0 0]] 127∧Ai W L [[E m],[E 0],[E 0],[E 0],[E 0],bv Bh.l,bv Bh.l,bv R.l,[F none 0 0]] 127) _ ⟨0,Bh,D,At f,by omega,b,d,g⟩ ?_
    rintro _ a a3 ⟨i,R,rfl,f,aJ,b,d,g⟩
    revert a
    refine K<|K<|N<|I D<|B5 (q:=(32:Nat)) D D<|M<|G<|Bl D (fun a4=>?_) fun a4=>?_
    ·
     refine AE<|G<|K<|A2<|N<|I D<|I D<|I D<|?_
     obtain⟨bL,aK,rfl⟩:=Ca (J.below b)
     have a5:=De (J.below b) i (o:=aK+i*1)
     refine Cn A0 i (aK+i*1) D D<|Cg BA a5 D<|Am BD 69 D<|Dg Ce 1 i (69+i*1) D D<|?_
     intro U t
     refine Bj D (fun Aa A=>LZ t (j:=i) (k:=69) D [[E m],[E 0],[E 0],[E 0],[E 0],bv Bh.l,bv Bh.l] [[F none 0 0]] g (Jb.one (Jb.one (Jb.one (Jb.one (Jb.one (Jb.row Bh.row (Jb.row Bh.row Jb.nil))))))) R.h (by omega) (by first|rfl|omega) (u:=(l.getD i 0)) D (by kernel_rfl) ?_)
     intro a a6 f y H aL
     have d:=Ag aL d (by omega)
     have b:=A1 b aL
     obtain⟨a7,a8⟩:∃q:Jd,q.l=(R.l).set i (l.getD i 0):=⟨⟨_,by rw[List.length_set];exact R.h⟩,D⟩
     rw[←a8]at H
     have g:Ai a6 L [[E m],[E 0],[E 0],[E 0],[E 0],bv Bh.l,bv Bh.l,bv a7.l,[F none 0 0]] 127:=H
     refine A _ _ ?_;revert a
     refine M<|Bq<|G<|N<|I D<|A_ (q:=1) D D<|O D<|M<|G<|?_
     intro a f
     exact⟨_,by omega,i+1,_,D,At f,by omega,b,d,g⟩
    ·
     refine BO<|AW<|AW<|BN<|G<|K<|K<|N<|O (v:=(E 32)) D<|M<|G<|A2<|?_
     have own:a3.ownsRow w.heap.size 5 1 (.slice none 0 0) 0 (bv []):=World.ownsRow_nil _ _ _ _
     have ab:Z (F none 0 0) S:=FL
     have ai:Z (F none 0 0) L:=FL
     intro a f
     refine Cb (fun aj a W=>∃i Y aa ak,aj=n - i∧Ao 97 a (Ja (Ja (Ja (Ja (Ja (Ja Je 0 (E m)) 1 (F q n c)) 4 (AB S)) 5 (E 0)) 6 (AB L)) 8 (E i))∧(32≤i∧i≤n)∧W.ownsRow w.heap.size 5 1 (.slice Y (i - 32) aa) (i - 32) (bv ak)∧Below w.heap.size w W∧Ai W S [[E 0],[E 0],[E 0],[E 0],[E 0],Av 32,Av 32,Av 32,[F none 0 0]] 127∧Ai W L [[E m],[E 0],[E 0],[E 0],[E 0],bv Bh.l,bv Bh.l,bv R.l,[F Y (i - 32) aa]] 127∧Z (F Y (i - 32) aa) S∧Z (F Y (i - 32) aa) L) _ ⟨32,_,_,_,D,At f,by omega,own,b,d,g,T ab,T ai⟩ ?_
     rintro _ a bM ⟨i,Y,aa,ak,rfl,f,aJ,own,b,d,g,ab,ai⟩
     revert a
     refine K<|K<|N<|I D<|I D<|BY Cr D<|B5 D D<|M<|G<|Bl D (fun a9=>?_) fun a9=>?_
     ·
      refine AE<|G<|K<|A2<|?_
      intro a f
      refine C7 (fun W=>Below w.heap.size w W∧Ai W S [[E 0],[E 0],[E 0],[E 0],[E 0],Av 32,Av 32,Av 32,[F none 0 0]] 127) ?_
      intro bN y B
      have own:=V own B
      have d:=Q d B
      have g:=Q g B
      have b:=Ah b B
      revert a
      refine BW 0 D BD 101 D ⟨b,d⟩<|Bk 2 D D ⟨b,d⟩<|Bk 3 D D ⟨b,d⟩<|?_
      obtain⟨bO,aM,rfl⟩:=Ca (J.below b)
      refine GY 4 D A0 i (aM+i*1) D D ⟨b,d⟩<|A5 5 D (fun W a_ a f=>by obtain⟨b,d⟩:=a_;have a':=De (J.below b) i (o:=aM+i*1);exact D1 f D BA D a') ⟨b,d⟩<|?_
      intro U t
      refine EW 1 6 4 D D D D ?_ ?_
      ·
       intro Aa A
       refine DI t D (Cl t D Cr D [[E m],[E 0],[E 0],[E 0],[E 0],bv Bh.l,bv Bh.l,bv R.l] (F Y (i - 32) aa) [] g (Jb.one (Jb.one (Jb.one (Jb.one (Jb.one (Jb.row Bh.row (Jb.row Bh.row (Jb.row R.row Jb.nil))))))))) ?_
       intro a f
       refine A _ _ ⟨b,d⟩ ?_;revert a
       intro U t
       refine A8 6 3 D D ?_
       intro Aa A
       refine Gh t D A0 (v:=(Value.int .u8 ((((l.getD i 0).toNat:Nat):Int):Int))) D (cs:=#[Value.int .u8 ((((l.getD i 0).toNat:Nat):Int):Int)]) D D (Nat.le_of_ble_eq_true D) ?_
       intro a bP f y ba B
       have own:=V own B
       have d:=Q d B
       have g:=Q g B
       have b:=Ah b B
       refine A _ _ ⟨b,d⟩ ?_;revert a
       intro U t
       refine A8 7 2 D D ?_
       intro Aa A
       refine BK t A0 own ba (by simp[Value.oneCell']) b.size ((i - 32)+1) (zs:=bv (ak++[l.getD i 0])) (by simp[bv]) ?_
       intro a bQ bR bS f av al
       have bb:=A9 al ab (Ar d)
       have aN:=A9 al ai (Ar g)
       have d:=A' d al ab
       have g:=A' g al ai
       have b:=Cm b al own
       refine A _ _ ⟨b,d⟩ ?_;revert a
       refine BW 8 D BD 101 D ⟨b,d⟩<|?_
       intro U t
       refine A8 9 0 D D ?_
       intro Aa A
       refine DM t 8 g D D ?_
       intro a CM f y bc aw
       have d:=Ag aw d (by omega)
       have av:=Ax av aw aN
       have b:=A1 b aw
       refine A _ _ ⟨b,d⟩ ?_;revert a
       refine B_<|Bq<|G<|N<|I D<|A_ (q:=1) D D<|O D<|M<|G<|?_
       intro a f
       exact⟨_,by omega,i+1,_,_,_,D,At f,by omega,HO (by omega) av,b,d,by rw[show i+1 - 32=i - 32+1 by omega];exact bc,T bb,T aN⟩
      ·
       intro Aa A
       refine Gh t D A0 (v:=(Value.int .u8 ((((l.getD i 0).toNat:Nat):Int):Int))) D (cs:=#[Value.int .u8 ((((l.getD i 0).toNat:Nat):Int):Int)]) D D (Nat.le_of_ble_eq_true D) ?_
       intro a bT f y bd B
       have own:=V own B
       have d:=Q d B
       have g:=Q g B
       have b:=Ah b B
       refine A _ _ ⟨b,d⟩ ?_;revert a
       intro U t
       refine A8 1 3 D D ?_
       intro Aa A
       refine DI t D (Cl t D Cr D [[E m],[E 0],[E 0],[E 0],[E 0],bv Bh.l,bv Bh.l,bv R.l] (F Y (i - 32) aa) [] g (Jb.one (Jb.one (Jb.one (Jb.one (Jb.one (Jb.row Bh.row (Jb.row Bh.row (Jb.row R.row Jb.nil))))))))) ?_
       intro a f
       refine A _ _ ⟨b,d⟩ ?_;revert a
       intro U t
       refine A8 7 2 D D ?_
       intro Aa A
       refine BK t A0 own bd (by simp[Value.oneCell']) b.size ((i - 32)+1) (zs:=bv (ak++[l.getD i 0])) (by simp[bv]) ?_
       intro a bU bV bW f ax an
       have bf:=A9 an ab (Ar d)
       have aO:=A9 an ai (Ar g)
       have d:=A' d an ab
       have g:=A' g an ai
       have b:=Cm b an own
       refine A _ _ ⟨b,d⟩ ?_;revert a
       refine BW 8 D BD 101 D ⟨b,d⟩<|?_
       intro U t
       refine A8 9 0 D D ?_
       intro Aa A
       refine DM t 8 g D D ?_
       intro a bX f y bg ay
       have d:=Ag ay d (by omega)
       have ax:=Ax ax ay aO
       have b:=A1 b ay
       refine A _ _ ⟨b,d⟩ ?_;revert a
       refine B_<|Bq<|G<|N<|I D<|A_ (q:=1) D D<|O D<|M<|G<|?_
       intro a f
       exact⟨_,by omega,i+1,_,_,_,D,At f,by omega,HO (by omega) ax,b,d,by rw[show i+1 - 32=i - 32+1 by omega];exact bg,T bf,T aO⟩
     ·
      refine BO<|AW<|AW<|BN<|G<|K<|N<|BP BD g D<|Bi 0 9 d D D ?_
      intro bY y bh aP
      have own:=Ax own aP ab
      have b:=A1 b aP
      refine O (v:=(E 0)) D<|M<|G<|AA<|AX<|?_
      intro a f
      refine DG f D D D bh BD D (Cf 102) ?_
      have bj:=CS own
      exact⟨⟨m,0,0,0,0,Bh,Bh,R,⟨Y,ak,aa⟩⟩,0,by simp only[bj],fun _=>⟨D,D⟩,⟨by dsimp only;omega,by dsimp only;omega,by dsimp only;omega,by dsimp only;omega⟩,by dsimp only;omega,B8.own own,QY own,b⟩
 ·
  refine AE<|G<|K<|K<|N<|I D<|?_
  by_cases aQ:((m:Nat):Int)=((2:Nat):Int)
  ·
   refine Dr aQ D D<|I D<|Ad D D D<|I D<|Ad D D D<|BY Cr D<|?_
   by_cases aR:((n:Nat):Int)=((80:Nat):Int)
   ·
    refine Ad D D D<|Dr aR D D<|Ba D D<|M<|G<|BE D<|AE<|G<|K<|N<|I D<|AS KK D (Mj _ _ _ _ 0 _ (by omega) (by omega) (J.below b) ao) ?_
    rintro _ bZ ⟨ad,b0,rfl,az⟩
    refine⟨_,D,?_⟩
    have d:=Q d az
    have g:=Q g az
    have b:=Ah b az
    refine Am BD 1 D<|C_ 1 g D D ?_
    intro b1 y aA aS
    have d:=Ag aS d (by omega)
    have b:=A1 b aS
    refine M<|G<|K<|N<|I D<|AS KK D (Mj _ _ _ _ 4 _ (by omega) (by omega) (J.below b) ao) ?_
    rintro _ b2 ⟨ae,b3,rfl,aB⟩
    refine⟨_,D,?_⟩
    have d:=Q d aB
    have aA:=Q aA aB
    have b:=Ah b aB
    refine Am BD 2 D<|C_ 2 aA D D ?_
    intro b4 y aC aT
    have d:=Ag aT d (by omega)
    have b:=A1 b aT
    refine M<|G<|K<|N<|I D<|AS KK D (Mj _ _ _ _ 8 _ (by omega) (by omega) (J.below b) ao) ?_
    rintro _ b5 ⟨af,b6,rfl,aD⟩
    refine⟨_,D,?_⟩
    have d:=Q d aD
    have aC:=Q aC aD
    have b:=Ah b aD
    refine Am BD 3 D<|C_ 3 aC D D ?_
    intro b7 y C aU
    have d:=Ag aU d (by omega)
    have b:=A1 b aU
    refine M<|G<|K<|N<|I D<|AS KK D (Mj _ _ _ _ 12 _ (by omega) (by omega) (J.below b) ao) ?_
    rintro _ b8 ⟨ag,b9,rfl,aE⟩
    refine⟨_,D,?_⟩
    have d:=Q d aE
    have C:=Q C aE
    have b:=Ah b aE
    refine Am BD 4 D<|C_ 4 C D D ?_
    intro b_ y H aV
    have d:=Ag aV d (by omega)
    have b:=A1 b aV
    have C:=H
    refine M<|G<|K<|K<|N<|O (v:=(E 0)) D<|M<|G<|A2<|?_
    simp only[show Av 32=bv Bh.l from Du _]at C
    intro a f
    refine Cb (fun aj a W=>∃i,∃ah X:Jd,aj=32 - i∧Ao 97 a (Ja (Ja (Ja (Ja (Ja Je 1 (F q n c)) 4 (AB S)) 5 (E 0)) 6 (AB L)) 9 (E i))∧i≤32∧Below w.heap.size w W∧Ai W S [[E 0],[E 0],[E 0],[E 0],[E 0],Av 32,Av 32,Av 32,[F none 0 0]] 127∧Ai W L [[E m],[E ad],[E ae],[E af],[E ag],bv ah.l,bv X.l,bv Bh.l,[F none 0 0]] 127) _ ⟨0,Bh,Bh,D,At f,by omega,b,d,C⟩ ?_
    rintro _ a b' ⟨i,ah,X,rfl,f,aJ,b,d,C⟩
    revert a
    refine K<|K<|N<|I D<|B5 (q:=(32:Nat)) D D<|M<|G<|Bl D (fun bk=>?_) fun bk=>?_
    ·
     refine AE<|G<|K<|A2<|K<|N<|I D<|I D<|I D<|A_ (p:=16) D D<|?_
     obtain⟨ca,ar,rfl⟩:=Ca (J.below b)
     have bl:=De (J.below b) (16+i) (o:=ar+(16+i)*1)
     refine Cn A0 (16+i) (ar+(16+i)*1) D D<|Cg BA bl D<|Am BD 5 D<|Dg BZ 1 i (5+i*1) D D<|?_
     intro U t
     refine Bj D (fun Aa A=>LZ t (j:=i) (k:=5) D [[E m],[E ad],[E ae],[E af],[E ag]] [bv X.l,bv Bh.l,[F none 0 0]] C D ah.h (by omega) (by first|rfl|omega) (u:=(l.getD (16+i) 0)) D (by kernel_rfl) ?_)
     intro a bm f y H aW
     have d:=Ag aW d (by omega)
     have b:=A1 b aW
     obtain⟨au,bn⟩:∃q:Jd,q.l=(ah.l).set i (l.getD (16+i) 0):=⟨⟨_,by rw[List.length_set];exact ah.h⟩,D⟩
     rw[←bn]at H
     have C:Ai bm L [[E m],[E ad],[E ae],[E af],[E ag],bv au.l,bv X.l,bv Bh.l,[F none 0 0]] 127:=H
     refine A _ _ ?_;revert a
     refine M<|G<|N<|I D<|I D<|I D<|A_ (p:=48) D D<|?_
     have bo:=De (J.below b) (48+i) (o:=ar+(48+i)*1)
     refine Cn A0 (48+i) (ar+(48+i)*1) D D<|Cg BA bo D<|Am BD 37 D<|Dg BZ 1 i (37+i*1) D D<|?_
     intro U t
     refine Bj D (fun Aa A=>LZ t (j:=i) (k:=37) D [[E m],[E ad],[E ae],[E af],[E ag],bv au.l] [bv Bh.l,[F none 0 0]] C (Jb.one (Jb.one (Jb.one (Jb.one (Jb.one (Jb.row au.row Jb.nil)))))) X.h (by omega) (by first|rfl|omega) (u:=(l.getD (48+i) 0)) D (by kernel_rfl) ?_)
     intro a bp f y H aX
     have d:=Ag aX d (by omega)
     have b:=A1 b aX
     obtain⟨bq,br⟩:∃q:Jd,q.l=(X.l).set i (l.getD (48+i) 0):=⟨⟨_,by rw[List.length_set];exact X.h⟩,D⟩
     rw[←br]at H
     have C:Ai bp L [[E m],[E ad],[E ae],[E af],[E ag],bv au.l,bv bq.l,bv Bh.l,[F none 0 0]] 127:=H
     refine A _ _ ?_;revert a
     refine M<|Bq<|G<|N<|I D<|A_ (q:=1) D D<|O D<|M<|G<|?_
     intro a f
     exact⟨_,by omega,i+1,_,_,D,At f,by omega,b,d,C⟩
    ·
     refine BO<|AW<|AW<|BN<|G<|K<|N<|BP BD C D<|AS Rf D (Wu (⟨m,ad,ae,af,ag,ah,X,Bh,DZ⟩:DD) _ (by(try dsimp only);omega) (by(try dsimp only);omega)) ?_
     rintro _ cb ⟨t82,rfl,aF⟩
     refine⟨_,D,?_⟩
     have d:=Q d aF
     have C:=Q C aF
     have b:=Ah b aF
     refine O D<|M<|G<|K<|K<|N<|I D<|Dn D<|M<|G<|Ej D (fun bs=>?_) fun bs=>?_
     ·
      refine K<|N<|AT (fun _ f=>CE f (Bf:=[]) D (v:=Value.agg (flat [[E 0],[E 0],[E 0],[E 0],[E 0],Av 32,Av 32,Av 32,[F none 0 0]])) (run_build _ _ _ _ (by kernel_rfl)))<|Bi 0 9 d D D ?_
      intro cc y bt bu
      have b:=A1 b bu
      refine O (v:=(E 90)) D<|M<|G<|AA<|AX<|?_
      intro a f
      refine DG f D D D bt BD D (Cf 102) ?_
      exact⟨⟨0,0,0,0,0,Bh,Bh,Bh,DZ⟩,90,D,fun _=>⟨D,D⟩,⟨by dsimp only;omega,by dsimp only;omega,by dsimp only;omega,by dsimp only;omega⟩,Nat.zero_le _,DZ.isOk _,(fun a P=>by cases P),b⟩
     ·
      refine AE<|G<|K<|N<|BP BD C D<|Bi 0 9 d D D ?_
      intro cd y bw bx
      have b:=A1 b bx
      refine O (v:=(E 0)) D<|M<|G<|AA<|?_
      intro a f
      refine DG f D D D bw BD D (Cf 102) ?_
      obtain rfl:m=2:=by omega
      exact⟨(⟨2,ad,ae,af,ag,ah,X,Bh,DZ⟩:DD),0,D,fun h=>absurd D h,⟨by dsimp only;omega,by dsimp only;omega,by dsimp only;omega,by dsimp only;omega⟩,Nat.zero_le _,DZ.isOk _,(fun a P=>by cases P),b⟩
   ·
    refine Ad D D D<|F6 aR D D<|Ba D D<|M<|G<|BS D<|K<|N<|AT (fun _ f=>CE f (Bf:=[]) D (v:=Value.agg (flat [[E 0],[E 0],[E 0],[E 0],[E 0],Av 32,Av 32,Av 32,[F none 0 0]])) (run_build _ _ _ _ (by kernel_rfl)))<|Bi 0 9 d D D ?_
    intro cf y bz bA
    have b:=A1 b bA
    refine O (v:=(E 90)) D<|M<|G<|AA<|AX<|?_
    intro a f
    refine DG f D D D bz BD D (Cf 102) ?_
    exact⟨⟨0,0,0,0,0,Bh,Bh,Bh,DZ⟩,90,D,fun _=>⟨D,D⟩,⟨by dsimp only;omega,by dsimp only;omega,by dsimp only;omega,by dsimp only;omega⟩,Nat.zero_le _,DZ.isOk _,(fun a P=>by cases P),b⟩
  ·
   refine F6 aQ D D<|I D<|Ae D D D D<|Ae D D D D<|Ae D D D D<|Bn D D<|M<|G<|BS D<|K<|N<|AT (fun _ f=>CE f (Bf:=[]) D (v:=Value.agg (flat [[E 0],[E 0],[E 0],[E 0],[E 0],Av 32,Av 32,Av 32,[F none 0 0]])) (run_build _ _ _ _ (by kernel_rfl)))<|Bi 0 9 d D D ?_
   intro cg y bB bC
   have b:=A1 b bC
   refine O (v:=(E 90)) D<|M<|G<|AA<|AX<|?_
   intro a f
   refine DG f D D D bB BD D (Cf 102) ?_
   exact⟨⟨0,0,0,0,0,Bh,Bh,Bh,DZ⟩,90,D,fun _=>⟨D,D⟩,⟨by dsimp only;omega,by dsimp only;omega,by dsimp only;omega,by dsimp only;omega⟩,Nat.zero_le _,DZ.isOk _,(fun a P=>by cases P),b⟩
end Go.Proofs.YtcdaflcjhimimaaGreatDoor
