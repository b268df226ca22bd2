/- Laws and walks on the road to SalvageNever and SalvageHeals (part M13). No conditions beyond each law's own. -/
import Derived.Test.YtcdaflcjhimimaaGreatDoorM01
import Derived.Test.YtcdaflcjhimimaaGreatDoorM12
import Derived.Test.YtcdaflcjhimimaaGreatDoorM04
import Derived.Test.YtcdaflcjhimimaaGreatDoorM07
import Derived.Test.YtcdaflcjhimimaaGreatDoorM05
import Derived.Test.YtcdaflcjhimimaaGreatDoorM08
import Derived.Test.YtcdaflcjhimimaaGreatDoorM10
set_option linter.unusedVariables false
namespace Go.Proofs.YtcdaflcjhimimaaGreatDoor
open Go.RowKit
set_option maxRecDepth 100000
set_option maxHeartbeats 1000000
theorem Ph(v f:Nat)(w:World)(b:f≤v)(c:v≤4611686018427387904):
 Calls Tryz.prog 120 #[E v,E f] w fun e w'=>∃r:Nat,(1≤v→1≤r)∧r≤v+1∧e=.returned (.int .i64 ((r:Nat):Int))∧w=w':=by
 refine Bx NM D 12 ?_
 refine K<|N<|O (v:=(E 0)) D<|M<|G<|K<|K<|N<|I D<|Dk (q:=(0:Nat)) D D<|M<|G<|Bl D (fun a=>?_) fun a=>?_
 ·
  refine K<|N<|I D<|O D<|M<|G<|AA<|AX<|AZ D<|?_
  exact⟨_,by omega,by omega,D,D⟩
 ·
  refine AE<|G<|K<|N<|I D<|I D<|E' D D<|A_ (q:=1) D D<|O D<|M<|G<|AA<|AZ D<|?_
  exact⟨_,by omega,by omega,D,D⟩
theorem UY{i p:Nat}(a:1≤i)(h:i %(2*p)=0):2*p≤i:=Nat.le_of_dvd a (Nat.dvd_of_mod_eq_zero h)
theorem L_(i:Nat)(w:World)(g:1≤i:=by omega)(j:i≤1152921504606846976:=by omega):
 Calls Tryz.prog 83 #[E i] w fun e w'=>∃r:Nat,r<i∧e=.returned (.int .i64 ((r:Nat):Int))∧Below w.heap.size w w':=by
 have c:Below w.heap.size w w:=Bu _ _
 refine Bx K_ D 19 ?_
 refine K<|N<|O (v:=(E 0)) D<|M<|G<|K<|N<|O (v:=(E 1)) D<|M<|G<|K<|A2<|?_
 intro a b
 refine Cb (fun h a W=>∃p,h=i - p∧W=w∧Ao 19 a (Ja (Ja (Ja Je 0 (E i)) 2 (E 0)) 3 (E p))∧(1≤p∧p≤i)) _ ⟨1,D,D,At b,by omega⟩ ?_
 rintro _ a w ⟨p,rfl,rfl,b,k⟩
 revert a
 refine K<|K<|N<|I D<|I D<|FT (p:=2) D D<|EM D D<|?_
 by_cases d:((i %(2*p):Nat):Int)=((0:Nat):Int)
 ·
  refine D5 d D D<|I D<|Ad D D D<|I D<|Ad D D D<|I D<|?_
  by_cases f:((p:Nat):Int)<((i:Nat):Int)
  ·
   refine Ad D D D<|D8 f D D<|Bn D D<|M<|G<|BS D<|AE<|G<|A2<|N<|I D<|FT (p:=2) D D<|O D<|M<|Bq<|G<|?_
   intro a b
   exact⟨_,by omega,2*p,D,D,At b,by have:=UY (p:=p) g (by omega);omega⟩
  ·
   refine Ad D D D<|DO f D D<|Bn D D<|M<|G<|BE D<|BO<|AW<|AW<|BN<|G<|K<|N<|I D<|I D<|E' D D<|O D<|M<|G<|AA<|AZ D<|?_
   exact⟨_,by omega,D,c⟩
 ·
  refine E0 d D D<|I D<|Ae D D D D<|Ae D D D D<|Ae D D D D<|Ba D D<|M<|G<|BE D<|BO<|AW<|AW<|BN<|G<|K<|N<|I D<|I D<|E' D D<|O D<|M<|G<|AA<|AZ D<|?_
  exact⟨_,by omega,D,c⟩
theorem KD(z:Int)(w:World):
 Calls Tryz.prog 119 #[Value.int .i64 (z:Int)] w fun e w'=>∃t:Bool,e=.returned (.bool t)∧Below w.heap.size w w':=by
 have a:Below w.heap.size w w:=Bu _ _
 refine Bx J9 D 9 ?_
 refine K<|N<|O D<|M<|G<|K<|N<|I D<|?_
 by_cases b:((2:Nat):Int)≤(z:Int)
 ·
  refine Gy b D D<|I D<|Ad D D D<|I D<|?_
  by_cases c:(z:Int)<((4096:Nat):Int)
  ·
   refine Ad D D D<|D8 c D D<|Bn D D<|O D<|M<|G<|AA<|AZ D<|?_
   exact⟨_,D,a⟩
  ·
   refine Ad D D D<|DO c D D<|Bn D D<|O D<|M<|G<|AA<|AZ D<|?_
   exact⟨_,D,a⟩
 ·
  refine GL b D D<|I D<|Ae D D D D<|Ae D D D D<|Ba D D<|O D<|M<|G<|AA<|AZ D<|?_
  exact⟨_,D,a⟩
theorem Yb(x:Ef)(w:World):
 Calls Tryz.prog 92 #[Value.agg (flat [[E x.v],[E x.f],[E x.ZG],[E x.ZZ],[E x.r],[E x.c],bv x.s.l])] w fun e w'=>∃t:Bool,e=.returned (.bool t)∧Below w.heap.size w w':=by
 have a:Below w.heap.size w w:=Bu _ _
 refine Bx PH D 95 ?_
 refine K<|N<|CW D ?_
 intro b1 ag R ah H1 S
 have ai:=Bg a R
 have a:=Ah a S
 refine O D<|M<|G<|K<|K<|N<|Am BV 1 D<|AK AH 1 H1 D D<|?_
 by_cases g:((x.f:Nat):Int)<((0:Nat):Int)
 ·
  refine D8 g D D<|I D<|Ae D D D D<|Ae D D D D<|Ae D D D D<|Bn D D<|I D<|Ae D D D D<|Ae D D D D<|Ae D D D D<|Bn D D<|I D<|Ae D D D D<|Ae D D D D<|Ae D D D D<|Bn D D<|I D<|Ae D D D D<|Ae D D D D<|Ae D D D D<|Ae D D D D<|Ae D D D D<|Bn D D<|M<|G<|BS D<|K<|N<|O D<|M<|G<|AA<|AX<|AZ D<|?_
  exact⟨_,D,a⟩
 ·
  refine DO g D D<|I D<|Ad D D D<|Am BV 1 D<|Ad D D D<|AK AH 1 H1 D D<|?_
  by_cases h:((1073741824:Nat):Int)<((x.f:Nat):Int)
  ·
   refine Ad D D D<|Gp h D D<|Ba D D<|I D<|Ae D D D D<|Ae D D D D<|Ae D D D D<|Bn D D<|I D<|Ae D D D D<|Ae D D D D<|Ae D D D D<|Bn D D<|I D<|Ae D D D D<|Ae D D D D<|Ae D D D D<|Ae D D D D<|Ae D D D D<|Bn D D<|M<|G<|BS D<|K<|N<|O D<|M<|G<|AA<|AX<|AZ D<|?_
   exact⟨_,D,a⟩
  ·
   refine Ad D D D<|FV h D D<|Ba D D<|I D<|Ad D D D<|Am BV 0 D<|Ad D D D<|AK AH 0 H1 D D<|?_
   by_cases i:((x.v:Nat):Int)<((1:Nat):Int)
   ·
    refine Ad D D D<|D8 i D D<|Ba D D<|I D<|Ae D D D D<|Ae D D D D<|Ae D D D D<|Bn D D<|I D<|Ae D D D D<|Ae D D D D<|Ae D D D D<|Ae D D D D<|Ae D D D D<|Bn D D<|M<|G<|BS D<|K<|N<|O D<|M<|G<|AA<|AX<|AZ D<|?_
    exact⟨_,D,a⟩
   ·
    refine Ad D D D<|DO i D D<|Ba D D<|I D<|Ad D D D<|Am BV 0 D<|Ad D D D<|AK AH 0 H1 D D<|?_
    by_cases j:((1073741824:Nat):Int)<((x.v:Nat):Int)
    ·
     refine Ad D D D<|Gp j D D<|Ba D D<|I D<|Ae D D D D<|Ae D D D D<|Ae D D D D<|Ae D D D D<|Ae D D D D<|Bn D D<|M<|G<|BS D<|K<|N<|O D<|M<|G<|AA<|AX<|AZ D<|?_
     exact⟨_,D,a⟩
    ·
     refine Ad D D D<|FV j D D<|Ba D D<|I D<|Ad D D D<|Am BV 0 D<|Ad D D D<|AK AH 0 H1 D D<|Ad D D D<|Am BV 1 D<|Ad D D D<|AK AH 1 H1 D D<|?_
     by_cases k:((x.v:Nat):Int)<((x.f:Nat):Int)
     ·
      refine Ad D D D<|D8 k D D<|Ba D D<|M<|G<|BS D<|K<|N<|O D<|M<|G<|AA<|AX<|AZ D<|?_
      exact⟨_,D,a⟩
     ·
      refine Ad D D D<|DO k D D<|Ba D D<|M<|G<|BE D<|AE<|G<|K<|K<|N<|Am BV 4 D<|AK AH 4 H1 D D<|Dk (q:=(0:Nat)) D D<|M<|G<|Bl D (fun T=>?_) fun T=>?_
      ·
       refine K<|N<|Am BV 5 D<|AK AH 5 H1 D D<|Fi (q:=(0:Nat)) D D<|M<|G<|E7 D (fun U=>?_) fun U=>?_
       ·
        refine K<|N<|O D<|M<|G<|AA<|AX<|AZ D<|?_
        exact⟨_,D,a⟩
       ·
        refine AE<|G<|K<|N<|Am BV 0 D<|AK AH 0 H1 D D<|Am BV 1 D<|AK AH 1 H1 D D<|AS NM D (Ph x.v x.f _ (by omega) (by omega)) ?_
        rintro _ _ ⟨V,aj,ak,rfl,rfl⟩
        refine⟨_,D,?_⟩
        refine O D<|M<|G<|K<|K<|N<|I D<|Dk (q:=(1:Nat)) D D<|M<|G<|Bl D (fun W=>?_) fun W=>?_
        ·
         refine K<|N<|Am BV 2 D<|AK AH 2 H1 D D<|?_
         by_cases m:((x.ZG:Nat):Int)=((0:Nat):Int)
         ·
          refine D5 m D D<|I D<|Ad D D D<|Am BV 3 D<|Ad D D D<|AK AH 3 H1 D D<|?_
          by_cases n:((x.ZZ:Nat):Int)=((0:Nat):Int)
          ·
           refine Ad D D D<|D5 n D D<|Bn D D<|O D<|M<|G<|AA<|AX<|AZ D<|?_
           exact⟨_,D,a⟩
          ·
           refine Ad D D D<|E0 n D D<|Bn D D<|O D<|M<|G<|AA<|AX<|AZ D<|?_
           exact⟨_,D,a⟩
         ·
          refine E0 m D D<|I D<|Ae D D D D<|Ae D D D D<|Ae D D D D<|Ba D D<|O D<|M<|G<|AA<|AX<|AZ D<|?_
          exact⟨_,D,a⟩
        ·
         refine AE<|G<|K<|K<|N<|Am BV 2 D<|AK AH 2 H1 D D<|AS J9 D (KD ((x.ZG:Nat):Int) _) ?_
         rintro _ al ⟨t15,rfl,o⟩
         refine⟨_,D,?_⟩
         have H1:=Q H1 o
         have a:=Ah a o
         refine Dn D<|M<|G<|Ej D (fun X=>?_) fun X=>?_
         ·
          refine K<|N<|O D<|M<|G<|AA<|AX<|AZ D<|?_
          exact⟨_,D,a⟩
         ·
          refine AE<|G<|K<|N<|I D<|AS K_ D (L_ V _) ?_
          rintro _ an ⟨ao,aq,rfl,p⟩
          refine⟨_,D,?_⟩
          have H1:=Q H1 p
          have a:=Ah a p
          refine O D<|M<|G<|K<|K<|N<|I D<|Dk (q:=(0:Nat)) D D<|M<|G<|Bl D (fun Y=>?_) fun Y=>?_
          ·
           refine K<|N<|Am BV 3 D<|AK AH 3 H1 D D<|Dk (q:=(0:Nat)) D D<|O D<|M<|G<|AA<|AX<|AZ D<|?_
           exact⟨_,D,a⟩
          ·
           refine AE<|G<|K<|K<|N<|I D<|I D<|E' (q:=1) D D<|Dk D D<|M<|G<|Bl D (fun Z=>?_) fun Z=>?_
           ·
            refine K<|N<|Am BV 3 D<|AK AH 3 H1 D D<|Am BV 2 D<|AK AH 2 H1 D D<|Dk D D<|O D<|M<|G<|AA<|AX<|AZ D<|?_
            exact⟨_,D,a⟩
           ·
            refine AE<|G<|K<|N<|Am BV 3 D<|AK AH 3 H1 D D<|AS J9 D (KD ((x.ZZ:Nat):Int) _) ?_
            rintro _ ar ⟨t25,rfl,u⟩
            refine⟨_,D,?_⟩
            have H1:=Q H1 u
            have a:=Ah a u
            cases t25 with
            |true=>
             refine I D<|Ad D D D<|Am BV 3 D<|Ad D D D<|AK AH 3 H1 D D<|Ad D D D<|Am BV 2 D<|Ad D D D<|AK AH 2 H1 D D<|?_
             by_cases y:((x.ZZ:Nat):Int)<((x.ZG:Nat):Int)
             ·
              refine Ad D D D<|D8 y D D<|Bn D D<|O D<|M<|G<|AA<|AZ D<|?_
              exact⟨_,D,a⟩
             ·
              refine Ad D D D<|DO y D D<|Bn D D<|O D<|M<|G<|AA<|AZ D<|?_
              exact⟨_,D,a⟩
            |false=>
             refine I D<|Ae D D D D<|Ae D D D D<|Ae D D D D<|Ae D D D D<|Ae D D D D<|Ba D D<|O D<|M<|G<|AA<|AZ D<|?_
             exact⟨_,D,a⟩
      ·
       refine K<|N<|Am BV 4 D<|AK AH 4 H1 D D<|AS J9 D (KD ((x.r:Nat):Int) _) ?_
       rintro _ au ⟨t29,rfl,z⟩
       refine⟨_,D,?_⟩
       have H1:=Q H1 z
       have a:=Ah a z
       cases t29 with
       |true=>
        refine Dn D<|I D<|Ad D D D<|Am BV 5 D<|Ad D D D<|AK AH 5 H1 D D<|?_
        by_cases A:((x.c:Nat):Int)<((1:Nat):Int)
        ·
         refine Ad D D D<|D8 A D D<|Ba D D<|I D<|Ae D D D D<|Ae D D D D<|Ae D D D D<|Bn D D<|M<|G<|BS D<|K<|N<|O D<|M<|G<|AA<|AX<|AZ D<|?_
         exact⟨_,D,a⟩
        ·
         refine Ad D D D<|DO A D D<|Ba D D<|I D<|Ad D D D<|Am BV 5 D<|Ad D D D<|AK AH 5 H1 D D<|?_
         by_cases B:((4096:Nat):Int)<((x.c:Nat):Int)
         ·
          refine Ad D D D<|Gp B D D<|Ba D D<|M<|G<|BS D<|K<|N<|O D<|M<|G<|AA<|AX<|AZ D<|?_
          exact⟨_,D,a⟩
         ·
          refine Ad D D D<|FV B D D<|Ba D D<|M<|G<|BE D<|AE<|G<|K<|N<|Am BV 0 D<|AK AH 0 H1 D D<|Am BV 1 D<|AK AH 1 H1 D D<|AS NM D (Ph x.v x.f _ (by omega) (by omega)) ?_
          rintro _ _ ⟨aa,av,aw,rfl,rfl⟩
          refine⟨_,D,?_⟩
          refine O D<|M<|G<|K<|K<|N<|I D<|Dk (q:=(1:Nat)) D D<|M<|G<|Bl D (fun ab=>?_) fun ab=>?_
          ·
           refine K<|N<|Am BV 2 D<|AK AH 2 H1 D D<|?_
           by_cases C:((x.ZG:Nat):Int)=((0:Nat):Int)
           ·
            refine D5 C D D<|I D<|Ad D D D<|Am BV 3 D<|Ad D D D<|AK AH 3 H1 D D<|?_
            by_cases F:((x.ZZ:Nat):Int)=((0:Nat):Int)
            ·
             refine Ad D D D<|D5 F D D<|Bn D D<|O D<|M<|G<|AA<|AX<|AZ D<|?_
             exact⟨_,D,a⟩
            ·
             refine Ad D D D<|E0 F D D<|Bn D D<|O D<|M<|G<|AA<|AX<|AZ D<|?_
             exact⟨_,D,a⟩
           ·
            refine E0 C D D<|I D<|Ae D D D D<|Ae D D D D<|Ae D D D D<|Ba D D<|O D<|M<|G<|AA<|AX<|AZ D<|?_
            exact⟨_,D,a⟩
          ·
           refine AE<|G<|K<|K<|N<|Am BV 2 D<|AK AH 2 H1 D D<|AS J9 D (KD ((x.ZG:Nat):Int) _) ?_
           rintro _ ax ⟨t40,rfl,H⟩
           refine⟨_,D,?_⟩
           have H1:=Q H1 H
           have a:=Ah a H
           refine Dn D<|M<|G<|Ej D (fun ad=>?_) fun ad=>?_
           ·
            refine K<|N<|O D<|M<|G<|AA<|AX<|AZ D<|?_
            exact⟨_,D,a⟩
           ·
            refine AE<|G<|K<|N<|I D<|AS K_ D (L_ aa _) ?_
            rintro _ ay ⟨az,aA,rfl,J⟩
            refine⟨_,D,?_⟩
            have H1:=Q H1 J
            have a:=Ah a J
            refine O D<|M<|G<|K<|K<|N<|I D<|Dk (q:=(0:Nat)) D D<|M<|G<|Bl D (fun ae=>?_) fun ae=>?_
            ·
             refine K<|N<|Am BV 3 D<|AK AH 3 H1 D D<|Dk (q:=(0:Nat)) D D<|O D<|M<|G<|AA<|AX<|AZ D<|?_
             exact⟨_,D,a⟩
            ·
             refine AE<|G<|K<|K<|N<|I D<|I D<|E' (q:=1) D D<|Dk D D<|M<|G<|Bl D (fun af=>?_) fun af=>?_
             ·
              refine K<|N<|Am BV 3 D<|AK AH 3 H1 D D<|Am BV 2 D<|AK AH 2 H1 D D<|Dk D D<|O D<|M<|G<|AA<|AX<|AZ D<|?_
              exact⟨_,D,a⟩
             ·
              refine AE<|G<|K<|N<|Am BV 3 D<|AK AH 3 H1 D D<|AS J9 D (KD ((x.ZZ:Nat):Int) _) ?_
              rintro _ aB ⟨t50,rfl,L⟩
              refine⟨_,D,?_⟩
              have H1:=Q H1 L
              have a:=Ah a L
              cases t50 with
              |true=>
               refine I D<|Ad D D D<|Am BV 3 D<|Ad D D D<|AK AH 3 H1 D D<|Ad D D D<|Am BV 2 D<|Ad D D D<|AK AH 2 H1 D D<|?_
               by_cases P:((x.ZZ:Nat):Int)<((x.ZG:Nat):Int)
               ·
                refine Ad D D D<|D8 P D D<|Bn D D<|O D<|M<|G<|AA<|AZ D<|?_
                exact⟨_,D,a⟩
               ·
                refine Ad D D D<|DO P D D<|Bn D D<|O D<|M<|G<|AA<|AZ D<|?_
                exact⟨_,D,a⟩
              |false=>
               refine I D<|Ae D D D D<|Ae D D D D<|Ae D D D D<|Ae D D D D<|Ae D D D D<|Ba D D<|O D<|M<|G<|AA<|AZ D<|?_
               exact⟨_,D,a⟩
       |false=>
        refine Dn D<|I D<|Ae D D D D<|Ae D D D D<|Ae D D D D<|Bn D D<|I D<|Ae D D D D<|Ae D D D D<|Ae D D D D<|Bn D D<|M<|G<|BS D<|K<|N<|O D<|M<|G<|AA<|AX<|AZ D<|?_
        exact⟨_,D,a⟩
theorem Kg(Aj:Nat)(f:Option Addr)(b AG:Nat)(i:List UInt8)(v:Nat)(w:World)(hn:b≤1000000)(s:v≤4611686018427387904)(An:Aj≤w.heap.size)(own:w.ownsRow Aj 5 1 (.slice f b AG) b (bv i)):
 Calls Tryz.prog 84 #[F f b AG,E v] w fun e w'=>∃p k,∃L:List UInt8,e=.returned (.slice p (b+4) k)∧w'.ownsRow Aj 5 1 (.slice p (b+4) k) (b+4) (bv L)∧C' w w' (.slice f b AG) (.slice p (b+4) k):=by
 have d:C' w w (.slice f b AG) (.slice f b AG):=C'.refl _ _
 refine Bx Jx D 23 ?_
 refine K<|N<|O D<|M<|G<|K<|N<|I D<|I D<|EM (q:=256) D D<|AT (fun _ c=>C3 c (p:=((v % 256:Nat):Int)) (r:=(((UInt8.ofNat (v % 256)).toNat:Nat):Int)) D AH BA (Fw (v % 256)))<|I D<|FK (q:=256) D D<|EM (q:=256) D D<|AT (fun _ c=>C3 c (p:=(((v/256) % 256:Nat):Int)) (r:=(((UInt8.ofNat ((v/256) % 256)).toNat:Nat):Int)) D AH BA (Fw ((v/256) % 256)))<|I D<|FK (q:=65536) D D<|EM (q:=256) D D<|AT (fun _ c=>C3 c (p:=(((v/65536) % 256:Nat):Int)) (r:=(((UInt8.ofNat ((v/65536) % 256)).toNat:Nat):Int)) D AH BA (Fw ((v/65536) % 256)))<|I D<|FK (q:=16777216) D D<|EM (q:=256) D D<|AT (fun _ c=>C3 c (p:=(((v/16777216) % 256:Nat):Int)) (r:=(((UInt8.ofNat ((v/16777216) % 256)).toNat:Nat):Int)) D AH BA (Fw ((v/16777216) % 256)))<|?_
 intro l g
 refine Bj D (fun Aa h=>Mb g D (e:=5) (Bf:=[(0,(Value.int .u8 ((((UInt8.ofNat (v % 256)).toNat:Nat):Int):Int))),(1,(Value.int .u8 ((((UInt8.ofNat ((v/256) % 256)).toNat:Nat):Int):Int))),(2,(Value.int .u8 ((((UInt8.ofNat ((v/65536) % 256)).toNat:Nat):Int):Int))),(3,(Value.int .u8 ((((UInt8.ofNat ((v/16777216) % 256)).toNat:Nat):Int):Int)))]) D (cs:=#[Value.int .u8 ((((UInt8.ofNat (v % 256)).toNat:Nat):Int):Int),Value.int .u8 ((((UInt8.ofNat ((v/256) % 256)).toNat:Nat):Int):Int),Value.int .u8 ((((UInt8.ofNat ((v/65536) % 256)).toNat:Nat):Int):Int),Value.int .u8 ((((UInt8.ofNat ((v/16777216) % 256)).toNat:Nat):Int):Int)]) D (by unfold maxLen;omega) (by kernel_rfl) ?_)
 intro a m c t v2 j
 have v2:View m (F (some ⟨w.heap.size,0,none⟩) 4 4) 4 1 (bv [UInt8.ofNat (v % 256),UInt8.ofNat ((v/256) % 256),UInt8.ofNat ((v/65536) % 256),UInt8.ofNat ((v/16777216) % 256)]):=v2
 have d:=d.Pd j
 have own:=V own j
 refine h _ _ ?_;revert a
 intro l g
 refine Bj D (fun Aa h=>BK g A0 own v2 (G4 _) (Bs An d.ai.size) (b+4) (zs:=bv (i++([UInt8.ofNat (v % 256),UInt8.ofNat ((v/256) % 256),UInt8.ofNat ((v/65536) % 256),UInt8.ofNat ((v/16777216) % 256)]))) (by rw[Nat.mul_one,List.take_of_length_le (by rw[D_];exact Nat.le_of_eq (by rfl)),Hv]) ?_)
 intro a x y z c n o
 have d:=d.trans o
 refine h _ _ ?_;revert a
 refine O D<|M<|G<|AA<|AZ D<|?_
 exact⟨_,_,_,D,n,d⟩
theorem Ww(x:Ef)(w:World)(aw:x.v≤4611686018427387904∧x.f≤4611686018427387904∧x.ZG≤4611686018427387904∧x.ZZ≤4611686018427387904∧x.r≤4611686018427387904∧x.c≤4611686018427387904):
 Calls Tryz.prog 48 #[Value.agg (flat [[E x.v],[E x.f],[E x.ZG],[E x.ZZ],[E x.r],[E x.c],bv x.s.l])] w fun e w'=>∃p k,∃L:List UInt8,e=.returned (.slice p 56 k)∧w'.ownsRow w.heap.size 5 1 (.slice p 56 k) 56 (bv L)∧Below w.heap.size w w':=by
 have b:Below w.heap.size w w:=Bu _ _
 refine Bx QN D 41 ?_
 refine K<|N<|CW D ?_
 intro b1 ag ah ai H1 m
 have ax:=Bg b ah
 have b:=Ah b m
 refine O D<|M<|G<|K<|N<|O D<|?_
 have own:ag.ownsRow w.heap.size 5 1 (.slice none 0 0) 0 (bv []):=World.ownsRow_nil _ _ _ _
 have S:Z (F none 0 0) b1:=FL
 refine M<|G<|K<|N<|I D<|Am BV 0 D<|AK AH 0 H1 D D<|AS Jx D (Kg _ _ _ _ _ x.v _ (by omega) (by omega) b.size own) ?_
 rintro _ ay ⟨az,aA,aB,rfl,U,z⟩
 refine⟨_,D,?_⟩
 have X:=A9 z S (Ar H1)
 have H1:=A' H1 z S
 have b:=Cm b z own
 refine O D<|M<|G<|K<|N<|I D<|Am BV 1 D<|AK AH 1 H1 D D<|AS Jx D (Kg _ _ _ _ _ x.f _ (by omega) (by omega) b.size U) ?_
 rintro _ aC ⟨aD,aE,aF,rfl,Y,A⟩
 refine⟨_,D,?_⟩
 have aa:=A9 A X (Ar H1)
 have H1:=A' H1 A X
 have b:=Cm b A U
 refine O D<|M<|G<|K<|N<|I D<|Am BV 2 D<|AK AH 2 H1 D D<|AS Jx D (Kg _ _ _ _ _ x.ZG _ (by omega) (by omega) b.size Y) ?_
 rintro _ aG ⟨aH,aI,aJ,rfl,ab,B⟩
 refine⟨_,D,?_⟩
 have ad:=A9 B aa (Ar H1)
 have H1:=A' H1 B aa
 have b:=Cm b B Y
 refine O D<|M<|G<|K<|N<|I D<|Am BV 3 D<|AK AH 3 H1 D D<|AS Jx D (Kg _ _ _ _ _ x.ZZ _ (by omega) (by omega) b.size ab) ?_
 rintro _ aK ⟨aL,aM,aN,rfl,ae,C⟩
 refine⟨_,D,?_⟩
 have af:=A9 C ad (Ar H1)
 have H1:=A' H1 C ad
 have b:=Cm b C ab
 refine O D<|M<|G<|K<|N<|I D<|Am BV 4 D<|AK AH 4 H1 D D<|AS Jx D (Kg _ _ _ _ _ x.r _ (by omega) (by omega) b.size ae) ?_
 rintro _ aO ⟨aP,aQ,aR,rfl,d,H⟩
 refine⟨_,D,?_⟩
 have g:=A9 H af (Ar H1)
 have H1:=A' H1 H af
 have b:=Cm b H ae
 refine O D<|M<|G<|K<|N<|I D<|Am BV 5 D<|AK AH 5 H1 D D<|AS Jx D (Kg _ _ _ _ _ x.c _ (by omega) (by omega) b.size d) ?_
 rintro _ aS ⟨aT,aU,aV,rfl,aj,J⟩
 refine⟨_,D,?_⟩
 have ak:=A9 J g (Ar H1)
 have H1:=A' H1 J g
 have g:=ak
 have b:=Cm b J d
 have d:=aj
 refine O D<|M<|G<|K<|K<|N<|O (v:=(E 0)) D<|M<|G<|A2<|?_
 intro a n
 refine Cb (fun al a W=>∃i u y P,al=32 - i∧Ao 41 a (Ja (Ja (Ja (Ja Je 1 (AB b1)) 2 (F none 0 0)) 4 (E i)) 3 (F u (24+i) y))∧i≤32∧W.ownsRow w.heap.size 5 1 (.slice u (24+i) y) (24+i) (bv P)∧Below w.heap.size w W∧Ai W b1 [[E x.v],[E x.f],[E x.ZG],[E x.ZZ],[E x.r],[E x.c],bv x.s.l] 131∧Z (F u (24+i) y) b1) _ ⟨0,_,_,_,D,At n,by omega,d,b,H1,T g⟩ ?_
 rintro _ a CM ⟨i,u,y,P,rfl,n,aW,d,b,H1,g⟩
 revert a
 refine K<|K<|N<|I D<|B5 (q:=(32:Nat)) D D<|M<|G<|Bl D (fun an=>?_) fun an=>?_
 ·
  refine AE<|G<|K<|A2<|N<|I D<|I D<|Am BV 6 D<|Dg BZ 1 i (6+i*1) D D<|Cg BA (LQ (j:=i) (k:=6) [[E x.v],[E x.f],[E x.ZG],[E x.ZZ],[E x.r],[E x.c]] x.s.l [] (HE H1) D x.s.h) D<|D6 A0 D (cs:=#[Value.int .u8 ((((x.s.l.getD i 0).toNat:Nat):Int):Int)]) D D ?_
  intro aX ai ao m
  have d:=V d m
  have H1:=Q H1 m
  have b:=Ah b m
  intro aY aq
  refine Bj D (fun Aa ar=>BK aq A0 d ao (by simp[Value.oneCell']) b.size ((24+i)+1) (zs:=bv (P++[x.s.l.getD i 0])) (by simp[bv]) ?_)
  intro a aZ a0 a1 n au R
  have av:=A9 R g (Ar H1)
  have H1:=A' H1 R g
  have b:=Cm b R d
  refine ar _ _ ?_;revert a
  refine O D<|M<|Bq<|G<|N<|I D<|A_ (q:=1) D D<|O D<|M<|G<|?_
  intro a n
  exact⟨_,by omega,i+1,_,_,_,D,At n,by omega,au,b,H1,T av⟩
 ·
  obtain rfl:i=32:=by omega
  refine BO<|AW<|AW<|BN<|G<|K<|N<|I D<|O D<|M<|G<|AA<|AZ D<|?_
  exact⟨_,_,_,D,d,b⟩
theorem Kh(q:Option Addr)(n c:Nat)(l:List UInt8)(i:Nat)(w:World)(t:i+4≤n)(hn:n≤1000000)(g:View w (.slice q n c) n 1 (bv l))(u:l.length=n):
 Calls Tryz.prog 91 #[F q n c,E i] w fun e w'=>∃r:Nat,r<4294967296∧e=.returned (.int .i64 ((r:Nat):Int))∧Below w.heap.size w w':=by
 have b:Below w.heap.size w w:=Bu _ _
 refine Bx Jy D 34 ?_
 refine K<|N<|O (v:=(E 0)) D<|M<|G<|K<|?_
 intro a d
 refine Gm (by kernel_rfl) (by kernel_rfl) ?_
 intro x y h
 have b:=Ah b h
 revert a
 have z:=(l.getD i 0).toNat_lt
 have A:=(l.getD (i+1) 0).toNat_lt
 have B:=(l.getD (i+2) 0).toNat_lt
 have C:=(l.getD (i+3) 0).toNat_lt
 refine A3 D<|A3 D<|?_
 obtain⟨b2,f,rfl⟩:=Ca (g.below b)
 have j:=De (g.below b) i (o:=f+i*1)
 refine C0 A0 i (f+i*1) D D<|Dw BA j D<|Cz (fun _ d=>C3 d (p:=((((l.getD i 0).toNat:Nat):Int):Int)) (r:=(((l.getD i 0).toNat:Nat):Int)) D BA AH (GR ((l.getD i 0).toNat) (Nat.lt_trans (UInt8.toNat_lt _) (by decide))))<|A3 D<|A3 D<|Fv (q:=1) D D<|?_
 have k:=De (g.below b) (i+1) (o:=f+(i+1)*1)
 refine C0 A0 (i+1) (f+(i+1)*1) D D<|Dw BA k D<|Cz (fun _ d=>C3 d (p:=((((l.getD (i+1) 0).toNat:Nat):Int):Int)) (r:=(((l.getD (i+1) 0).toNat:Nat):Int)) D BA AH (GR ((l.getD (i+1) 0).toNat) (Nat.lt_trans (UInt8.toNat_lt _) (by decide))))<|G_ (p:=256) D D<|Fv D D<|A3 D<|A3 D<|Fv (q:=2) D D<|?_
 have m:=De (g.below b) (i+2) (o:=f+(i+2)*1)
 refine C0 A0 (i+2) (f+(i+2)*1) D D<|Dw BA m D<|Cz (fun _ d=>C3 d (p:=((((l.getD (i+2) 0).toNat:Nat):Int):Int)) (r:=(((l.getD (i+2) 0).toNat:Nat):Int)) D BA AH (GR ((l.getD (i+2) 0).toNat) (Nat.lt_trans (UInt8.toNat_lt _) (by decide))))<|G_ (p:=65536) D D<|Fv D D<|A3 D<|A3 D<|Fv (q:=3) D D<|?_
 have s:=De (g.below b) (i+3) (o:=f+(i+3)*1)
 refine C0 A0 (i+3) (f+(i+3)*1) D D<|Dw BA s D<|Cz (fun _ d=>C3 d (p:=((((l.getD (i+3) 0).toNat:Nat):Int):Int)) (r:=(((l.getD (i+3) 0).toNat:Nat):Int)) D BA AH (GR ((l.getD (i+3) 0).toNat) (Nat.lt_trans (UInt8.toNat_lt _) (by decide))))<|G_ (p:=16777216) D D<|Fv D D<|Ff D<|Er<|G<|AA<|AZ D<|?_
 exact⟨_,by omega,D,b⟩
theorem Wp(q:Option Addr)(n c:Nat)(l:List UInt8)(w:World)(hn:n≤1000000)(t:View w (.slice q n c) n 1 (bv l))(P:l.length=n):
 Calls Tryz.prog 58 #[F q n c] w fun e w'=>∃x:Ef,∃z:Nat,e=.returned (.tuple #[.agg (flat [[E x.v],[E x.f],[E x.ZG],[E x.ZZ],[E x.r],[E x.c],bv x.s.l]),.int .i64 ((z:Nat):Int)])∧(x.v<4294967296∧x.f<4294967296∧x.ZG<4294967296∧x.ZZ<4294967296∧x.r<4294967296∧x.c<4294967296)∧Below w.heap.size w w':=by
 have b:Below w.heap.size w w:=Bu _ _
 refine Bx Si D 42 ?_
 refine K<|N<|BQ [[E 0],[E 0],[E 0],[E 0],[E 0],[E 0],Av 32] ?_
 intro b2 aE S R d T
 have aF:=Bg b S
 have b:=Ah b T
 refine O (v:=(E 0)) D<|M<|G<|K<|K<|N<|I D<|BY Cr D<|Fi (q:=(56:Nat)) D D<|M<|G<|E7 D (fun ak=>?_) fun ak=>?_
 ·
  refine K<|N<|AT (fun _ g=>CE g (Bf:=[]) D (v:=Value.agg (flat [[E 0],[E 0],[E 0],[E 0],[E 0],[E 0],Av 32])) (run_build _ _ _ _ (by kernel_rfl)))<|Bi 0 7 d D D ?_
  intro aG R al an
  have b:=A1 b an
  refine O (v:=(E 150)) D<|M<|G<|AA<|AX<|?_
  intro a g
  refine DG g D D D al BV D (Cf 38) ?_
  exact⟨⟨0,0,0,0,0,0,Bh⟩,150,D,⟨by decide,by decide,by decide,by decide,by decide,by decide⟩,b⟩
 ·
  refine AE<|G<|K<|N<|I D<|AS Jy D (Kh _ _ _ _ 0 _ (by omega) (by omega) (t.below b) P) ?_
  rintro _ aH ⟨y,aI,rfl,Y⟩
  refine⟨_,D,?_⟩
  have d:=Q d Y
  have b:=Ah b Y
  refine I D<|AS Jy D (Kh _ _ _ _ 4 _ (by omega) (by omega) (t.below b) P) ?_
  rintro _ aJ ⟨A,aK,rfl,Z⟩
  refine⟨_,D,?_⟩
  have d:=Q d Z
  have b:=Ah b Z
  refine I D<|AS Jy D (Kh _ _ _ _ 8 _ (by omega) (by omega) (t.below b) P) ?_
  rintro _ aL ⟨B,aM,rfl,aa⟩
  refine⟨_,D,?_⟩
  have d:=Q d aa
  have b:=Ah b aa
  refine I D<|AS Jy D (Kh _ _ _ _ 12 _ (by omega) (by omega) (t.below b) P) ?_
  rintro _ aN ⟨C,aO,rfl,ab⟩
  refine⟨_,D,?_⟩
  have d:=Q d ab
  have b:=Ah b ab
  refine I D<|AS Jy D (Kh _ _ _ _ 16 _ (by omega) (by omega) (t.below b) P) ?_
  rintro _ aP ⟨H,aQ,rfl,ad⟩
  refine⟨_,D,?_⟩
  have d:=Q d ad
  have b:=Ah b ad
  refine I D<|AS Jy D (Kh _ _ _ _ 20 _ (by omega) (by omega) (t.below b) P) ?_
  rintro _ aR ⟨J,aS,rfl,ae⟩
  refine⟨_,D,?_⟩
  have d:=Q d ae
  have b:=Ah b ae
  refine AT (fun _ g=>CE g (Bf:=[(0,(E y)),(1,(E A)),(2,(E B)),(3,(E C)),(4,(E H)),(5,(E J))]) D (v:=Value.agg (flat [[E y],[E A],[E B],[E C],[E H],[E J],Av 32])) (run_build _ _ _ _ (by kernel_rfl)))<|BQ [[E 0],[E 0],[E 0],[E 0],[E 0],[E 0],Av 32] ?_
  intro V aT S R m T
  have aU:=Bg b S
  have aV:=AP d S
  have d:=Q d T
  have b:=Ah b T
  refine Bi 0 7 m D D ?_
  intro aW R U af
  have d:=Ag af d (by omega)
  have b:=A1 b af
  have m:=U
  refine M<|G<|K<|K<|N<|O (v:=(E 0)) D<|M<|G<|A2<|?_
  simp only[show Av 32=bv Bh.l from Du _]at m
  intro a g
  refine Cb (fun ao a W=>∃i,∃L:Jd,ao=32 - i∧Ao 42 a (Ja (Ja (Ja (Ja (Ja Je 0 (F q n c)) 2 (AB b2)) 3 (E 0)) 4 (AB V)) 5 (E i))∧i≤32∧Below w.heap.size w W∧Ai W b2 [[E 0],[E 0],[E 0],[E 0],[E 0],[E 0],Av 32] 131∧Ai W V [[E y],[E A],[E B],[E C],[E H],[E J],bv L.l] 131) _ ⟨0,Bh,D,At g,by omega,b,d,m⟩ ?_
  rintro _ a CM ⟨i,L,rfl,g,aX,b,d,m⟩
  revert a
  refine K<|K<|N<|I D<|B5 (q:=(32:Nat)) D D<|M<|G<|Bl D (fun aq=>?_) fun aq=>?_
  ·
   refine AE<|G<|K<|A2<|N<|I D<|I D<|I D<|A_ (p:=24) D D<|?_
   obtain⟨aY,ag,rfl⟩:=Ca (t.below b)
   have ar:=De (t.below b) (24+i) (o:=ag+(24+i)*1)
   refine Cn A0 (24+i) (ag+(24+i)*1) D D<|Cg BA ar D<|Am BV 6 D<|Dg BZ 1 i (6+i*1) D D<|?_
   intro aZ au
   refine Bj D (fun Aa av=>LZ au (j:=i) (k:=6) D [[E y],[E A],[E B],[E C],[E H],[E J]] [] m D L.h (by omega) (by first|rfl|omega) (u:=(l.getD (24+i) 0)) D (by kernel_rfl) ?_)
   intro a aw g R U ah
   have d:=Ag ah d (by omega)
   have b:=A1 b ah
   obtain⟨ax,ay⟩:∃q:Jd,q.l=(L.l).set i (l.getD (24+i) 0):=⟨⟨_,by rw[List.length_set];exact L.h⟩,D⟩
   rw[←ay]at U
   have m:Ai aw V [[E y],[E A],[E B],[E C],[E H],[E J],bv ax.l] 131:=U
   refine av _ _ ?_;revert a
   refine M<|Bq<|G<|N<|I D<|A_ (q:=1) D D<|O D<|M<|G<|?_
   intro a g
   exact⟨_,by omega,i+1,_,D,At g,by omega,b,d,m⟩
  ·
   refine BO<|AW<|AW<|BN<|G<|K<|N<|BP BV m D<|AS PH D (Yb (⟨y,A,B,C,H,J,L⟩:Ef) _) ?_
   rintro _ a0 ⟨t40,rfl,X⟩
   refine⟨_,D,?_⟩
   have d:=Q d X
   have m:=Q m X
   have b:=Ah b X
   refine O D<|M<|G<|K<|K<|N<|I D<|Dn D<|M<|G<|Ej D (fun az=>?_) fun az=>?_
   ·
    refine K<|N<|AT (fun _ g=>CE g (Bf:=[]) D (v:=Value.agg (flat [[E 0],[E 0],[E 0],[E 0],[E 0],[E 0],Av 32])) (run_build _ _ _ _ (by kernel_rfl)))<|Bi 0 7 d D D ?_
    intro a1 R aA aB
    have b:=A1 b aB
    refine O (v:=(E 150)) D<|M<|G<|AA<|AX<|?_
    intro a g
    refine DG g D D D aA BV D (Cf 38) ?_
    exact⟨⟨0,0,0,0,0,0,Bh⟩,150,D,⟨by decide,by decide,by decide,by decide,by decide,by decide⟩,b⟩
   ·
    refine AE<|G<|K<|N<|BP BV m D<|Bi 0 7 d D D ?_
    intro a2 R aC aD
    have b:=A1 b aD
    refine O (v:=(E 0)) D<|M<|G<|AA<|?_
    intro a g
    refine DG g D D D aC BV D (Cf 38) ?_
    exact⟨(⟨y,A,B,C,H,J,L⟩:Ef),0,D,⟨by dsimp only;omega,by dsimp only;omega,by dsimp only;omega,by dsimp only;omega,by dsimp only;omega,by dsimp only;omega⟩,b⟩
theorem UU(qr:Option Addr)(n AR:Nat)(R:List Ef)(af:Option Addr)(ag:Nat)(z:List Nat)(x:Ef)(B C:Nat)(w:World)(hn:n≤1000000000)(aN:B≤1152921504606846976)(aO:C≤1152921504606846976)(ah:View w (.slice qr n AR) n 38 (Al DY R))(au:R.length=n)(S:View w (.slice af n ag) n 1 (Al Ct z))(ai:z.length=n)(av:∀y∈R,y.v≤B∧y.f≤B)(T:∀y∈z,y≤C)(aP:x.v≤B∧x.f≤B):
 Calls Tryz.prog 47 #[F qr n AR,F af n ag,Value.agg (flat [[E x.v],[E x.f],[E x.ZG],[E x.ZZ],[E x.r],[E x.c],bv x.s.l])] w fun e w'=>∃y:Ef,e=.returned (.agg (flat [[E y.v],[E y.f],[E y.ZG],[E y.ZZ],[E y.r],[E y.c],bv y.s.l]))∧y.v≤B+1∧y.f≤B∧y.ZG≤C∧y.ZZ≤C∧y.r=x.r∧y.c=x.c∧Below w.heap.size w w':=by
 have b:Below w.heap.size w w:=Bu _ _
 refine Bx Pr D 60 ?_
 refine K<|N<|CW D ?_
 intro aQ aR i h g k
 have aS:=Bg b i
 have b:=Ah b k
 refine BQ [[E 0],[E 0],[E 0],[E 0],[E 0],[E 0],Av 32] ?_
 intro aT aU i h d k
 have aV:=Bg b i
 have aW:=AP g i
 have g:=Q g k
 have b:=Ah b k
 refine M<|G<|K<|N<|Am BV 4 D<|AK AH 4 g D D<|Am BV 5 D<|AK AH 5 g D D<|Am BV 6 D<|Eu BZ 6 1 [bv x.s.l] g D<|AT (fun _ t=>GG t (Bf:=[(4,(E x.r)),(5,(E x.c)),(6,(Value.agg (flat [bv x.s.l])))]) D (r:=flat [[E 0],[E 0],[E 0],[E 0],[E x.r],[E x.c],bv x.s.l]) (GI BV (ss:=[[E 0],[E 0],[E 0],[E 0],[E 0],[E 0],Av 32]) (by kernel_rfl) (places:=[(0,1),(1,1),(2,1),(3,1),(4,1),(5,1),(6,32)]) (by kernel_rfl) (C2 [[E 0],[E 0],[E 0],[E 0]] [[E 0]] [[E 0],Av 32] [[E x.r]] D (Jb.one (Jb.one (Jb.one (Jb.one Jb.nil)))) (Jb.one Jb.nil) (Jb.one Jb.nil) D (C2 [[E 0],[E 0],[E 0],[E 0],[E x.r]] [[E 0]] [Av 32] [[E x.c]] D (Jb.one (Jb.one (Jb.one (Jb.one (Jb.one Jb.nil))))) (Jb.one Jb.nil) (Jb.one Jb.nil) D (C2 [[E 0],[E 0],[E 0],[E 0],[E x.r],[E x.c]] [Av 32] [] [bv x.s.l] D (Jb.one (Jb.one (Jb.one (Jb.one (Jb.one (Jb.one Jb.nil)))))) (Jb.row (Jg 32) Jb.nil) (Jb.row x.s.row Jb.nil) D D)))))<|BQ [[E 0],[E 0],[E 0],[E 0],[E 0],[E 0],Av 32] ?_
 intro aX aY i h p k
 have aZ:=Bg b i
 have a0:=AP g i
 have a1:=AP d i
 have g:=Q g k
 have d:=Q d k
 have b:=Ah b k
 refine Bi 0 7 p D D ?_
 intro a2 h W X
 have g:=Ag X g (by omega)
 have d:=Ag X d (by omega)
 have b:=A1 b X
 have p:=W
 refine M<|G<|K<|K<|N<|I D<|BY Hb D<|Dk (q:=(0:Nat)) D D<|M<|G<|Bl D (fun aw=>?_) fun aw=>?_
 ·
  refine K<|N<|Am BV 0 D<|AK AH 0 g D D<|Am BV 0 D<|C_ 0 p D D ?_
  intro a3 h ax Y
  have g:=Ag Y g (by omega)
  have d:=Ag Y d (by omega)
  have b:=A1 b Y
  refine M<|G<|K<|N<|Am BV 1 D<|AK AH 1 g D D<|Am BV 1 D<|C_ 1 ax D D ?_
  intro a4 h ay aj
  have d:=Ag aj d (by omega)
  have b:=A1 b aj
  refine M<|G<|K<|N<|BP BV ay D<|Bi 0 7 d D D ?_
  intro a5 h az aA
  have b:=A1 b aA
  refine M<|G<|AA<|AX<|?_
  intro a t
  refine E4 t D D az BV D (Cf 38) ?_
  exact⟨(⟨x.v,x.f,0,0,x.r,x.c,x.s⟩:Ef),D,by(try dsimp only);omega,by(try dsimp only);omega,by(try dsimp only);omega,by(try dsimp only);omega,D,D,b⟩
 ·
  refine AE<|G<|K<|N<|I D<|I D<|BY Hb D<|E' (q:=1) D D<|?_
  obtain⟨a6,ak,rfl⟩:=Ca (ah.below b)
  obtain⟨m,al⟩:=getD_some (L:=R) (j:=n - 1) au (by omega)
  have aB:=BJ Ha (ah.below b) al (o:=ak+(n - 1)*38)
  refine Cn F_ (n - 1) (ak+(n - 1)*38) D D<|D9 BV 0 7 [[E m.v],[E m.f],[E m.ZG],[E m.ZZ],[E m.r],[E m.c],bv m.s.l] aB D<|BQ [[E 0],[E 0],[E 0],[E 0],[E 0],[E 0],Av 32] ?_
  intro a7 a8 i h aC k
  have a9:=Bg b i
  have a_:=AP g i
  have a':=AP d i
  have ba:=AP p i
  have d:=Q d k
  have p:=Q p k
  have b:=Ah b k
  refine Bi 0 7 aC D D ?_
  intro bb h H Z
  have d:=Ag Z d (by omega)
  have p:=Ag Z p (by omega)
  have b:=A1 b Z
  refine M<|G<|K<|N<|Am BV 0 D<|AK AH 0 H D D<|?_
  have A6:=av m (List.mem_of_getElem? al)
  refine A_ (q:=1) D D<|Am BV 0 D<|C_ 0 p D D ?_
  intro bc h aD aa
  have d:=Ag aa d (by omega)
  have H:=Ag aa H (by omega)
  have b:=A1 b aa
  refine M<|G<|K<|N<|Am BV 1 D<|AK AH 1 H D D<|Am BV 1 D<|C_ 1 aD D D ?_
  intro bd h u an
  have d:=Ag an d (by omega)
  have b:=A1 b an
  refine M<|G<|K<|N<|I D<|I D<|BY Eo D<|E' (q:=1) D D<|?_
  obtain⟨bf,J,rfl⟩:=Ca (S.below b)
  obtain⟨A,ab⟩:=getD_some (L:=z) (j:=n - 1) ai (by omega)
  have aE:=BJ En (S.below b) ab (o:=J+(n - 1)*1)
  refine Cn DK (n - 1) (J+(n - 1)*1) D D<|Cg AH (Dh [] (E A) [] aE D) D<|Am BV 2 D<|C_ 2 u D D ?_
  intro bg h W ao
  have d:=Ag ao d (by omega)
  have b:=A1 b ao
  have u:=W
  refine M<|G<|K<|N<|I D<|BY Hb D<|A_ (q:=1) D D<|AS K_ D (L_ (n+1) _) ?_
  rintro _ CM ⟨P,bh,rfl,ad⟩
  refine⟨_,D,?_⟩
  have d:=Q d ad
  have u:=Q u ad
  have b:=Ah b ad
  refine O D<|M<|G<|K<|K<|N<|I D<|Ip (q:=(0:Nat)) D D<|M<|G<|Bl D (fun aF=>?_) fun aF=>?_
  ·
   refine N<|I D<|I D<|E' (q:=1) D D<|?_
   obtain⟨ae,aq⟩:=getD_some (L:=z) (j:=P - 1) ai (by omega)
   have aG:=BJ En (S.below b) aq (o:=J+(P - 1)*1)
   refine Cn DK (P - 1) (J+(P - 1)*1) D D<|Cg AH (Dh [] (E ae) [] aG D) D<|Am BV 3 D<|C_ 3 u D D ?_
   intro bj h aH ar
   have d:=Ag ar d (by omega)
   have b:=A1 b ar
   refine M<|G<|K<|N<|BP BV aH D<|Bi 0 7 d D D ?_
   intro bk h aI aJ
   have b:=A1 b aJ
   refine M<|G<|AA<|?_
   intro a t
   refine E4 t D D aI BV D (Cf 38) ?_
   have aK:=T A (List.mem_of_getElem? ab)
   have bl:=T ae (List.mem_of_getElem? aq)
   exact⟨(⟨m.v+1,m.f,A,ae,x.r,x.c,x.s⟩:Ef),D,by(try dsimp only);omega,by(try dsimp only);omega,by(try dsimp only);omega,by(try dsimp only);omega,D,D,b⟩
  ·
   refine AE<|G<|K<|N<|BP BV u D<|Bi 0 7 d D D ?_
   intro bm h aL aM
   have b:=A1 b aM
   refine M<|G<|AA<|?_
   intro a t
   refine E4 t D D aL BV D (Cf 38) ?_
   have aK:=T A (List.mem_of_getElem? ab)
   exact⟨(⟨m.v+1,m.f,A,0,x.r,x.c,x.s⟩:Ef),D,by(try dsimp only);omega,by(try dsimp only);omega,by(try dsimp only);omega,by(try dsimp only);omega,D,D,b⟩
end Go.Proofs.YtcdaflcjhimimaaGreatDoor
namespace Go.Proofs.YtcdaflcjhimimaaGreatDoor
open Go.RowKit
variable {n:Nat}
def F9:List UInt8→Nat
 |[]=>0
 |x::l=>x.toNat*2^(8*l.length)+F9 l
theorem K9(l:List UInt8):F9 l<2^(8*l.length):=by
 induction l with
 |nil=>simp[F9]
 |cons x l d=>
  have a:x.toNat<256:=x.toNat_lt
  have b:2^(8*(l.length+1))=256*2^(8*l.length):=by rw[Nat.mul_add,Nat.pow_add,Nat.mul_comm]
  simp only[F9,List.length_cons,b]
  have c:(x.toNat+1)*2^(8*l.length)≤256*2^(8*l.length):=Nat.mul_le_mul_right _ a
  rw[Nat.add_mul,Nat.one_mul]at c
  omega
theorem MO:∀(l m:List UInt8),l.length=m.length→(B' l m<0↔F9 l<F9 m):=by
 intro l
 induction l with
 |nil=>intro m h;match m,h with|[],_=>simp[B',F9]
 |cons x l a=>
  intro m h
  match m,h with
  |y::m,h=>
   simp only[List.length_cons,Nat.add_right_cancel_iff]at h
   unfold B'
   simp only[F9,h]
   by_cases e:x=y
   ·subst e
    rw[if_pos D,a m h]
    omega
   ·rw[if_neg e]
    have c:x.toNat≠y.toNat:=fun q=>e (UInt8.toNat_inj.1 q)
    have b:=K9 l
    have hm:=K9 m
    rw[h]at b
    by_cases q:x.toNat<y.toNat
    ·rw[if_pos q]
     have:(x.toNat+1)*2^(8*m.length)≤y.toNat*2^(8*m.length):=Nat.mul_le_mul_right _ q
     rw[Nat.add_mul,Nat.one_mul]at this
     constructor
     ·intro _;omega
     ·intro _;decide
    ·rw[if_neg q]
     have:(y.toNat+1)*2^(8*m.length)≤x.toNat*2^(8*m.length):=Nat.mul_le_mul_right _ (by omega)
     rw[Nat.add_mul,Nat.one_mul]at this
     constructor
     ·intro h;exact absurd h (by decide)
     ·intro _;omega
theorem L4:∀(l:List UInt8) (i:Nat),i<8*l.length→F9 l/2^(8*l.length - 1 - i) % 2=(l.getD (i/8) 0).toNat/2^(7 - i % 8) % 2:=by
 intro l
 induction l with
 |nil=>intro i h;simp at h
 |cons x l c=>
  intro i h
  simp only[List.length_cons]at h
  have f:=K9 l
  simp only[F9,List.length_cons]
  generalize m:8*l.length=L at*
  rcases Nat.lt_or_ge i 8 with q|q
  ·have e:8*(l.length+1) - 1 - i=L+(7 - i):=by omega
   have a:i/8=0:=by omega
   have b:i % 8=i:=by omega
   rw[e,Nat.pow_add,←Nat.div_div_eq_div_mul,a,b]
   have:(x.toNat*2^L+F9 l)/2^L=x.toNat:=by
    rw[Nat.mul_comm,Nat.mul_add_div (Nat.two_pow_pos _),Nat.div_eq_of_lt f,Nat.add_zero]
   rw[this]
   rfl
  ·have e:8*(l.length+1) - 1 - i=L - 1 - (i - 8):=by omega
   have Ab:∃d r,L - 1 - (i - 8)=d∧L=d+(r+1):=⟨L - 1 - (i - 8),i - 8,D,by omega⟩
   obtain⟨d,r,g,j⟩:=Ab
   have a:i/8=(i - 8)/8+1:=by omega
   have b:i % 8=(i - 8) % 8:=by omega
   have:=c (i - 8) (by omega)
   rw[e,a,b,List.getD_cons_succ,←this,g]
   have k:x.toNat*2^L=2^d*(x.toNat*2^r*2):=by
    rw[j,Nat.pow_add,Nat.pow_succ]
    simp only[Nat.mul_comm,Nat.mul_left_comm,Nat.mul_assoc]
   rw[k,Nat.mul_add_div (Nat.two_pow_pos _),Nat.add_mod,Nat.mul_mod_left,Nat.zero_add,Nat.mod_mod]
theorem Zd(x:Jd)(i:Nat)(h:i<256):Cu x.l i=F9 x.l/2^(255 - i) % 2:=by
 unfold Cu
 rw[if_neg (by omega)]
 have:=L4 x.l i (by rw[x.h];omega)
 rw[x.h]at this
 rw[←this]
theorem Mg(x:Jd)(n:Nat)(h:n<256):F9 x.l/2^(255 - n)=2*(F9 x.l/2^(256 - n))+Cu x.l n:=by
 rw[Zd x n h,show 256 - n=(255 - n)+1 by omega,Nat.pow_succ,←Nat.div_div_eq_div_mul]
 omega
theorem R3(x y:Jd):∀n,n≤256→(∀i,i<n→Cu x.l i=Cu y.l i)→F9 x.l/2^(256 - n)=F9 y.l/2^(256 - n):=by
 intro n
 induction n with
 |zero=>
  intro _ _
  have a:=K9 x.l
  have b:=K9 y.l
  rw[x.h]at a
  rw[y.h]at b
  rw[Nat.sub_zero,Nat.div_eq_of_lt a,Nat.div_eq_of_lt b]
 |succ n c=>
  intro hn h
  have:=c (by omega) (fun i d=>h i (by omega))
  rw[show 256 - (n+1)=255 - n by omega,Mg x n (by omega),Mg y n (by omega),this,h n (by omega)]
theorem Va(x y:Jd)(n:Nat)(hn:n<256)(h:∀i,i<n→Cu x.l i=Cu y.l i)(a:Cu x.l n=0)(b:Cu y.l n=1):B' x.l y.l<0:=by
 rw[MO _ _ (by rw[x.h,y.h])]
 have d:=Mg x n hn
 have e:=Mg y n hn
 rw[R3 x y n (by omega) h,a]at d
 rw[b]at e
 rcases Nat.lt_or_ge (F9 x.l) (F9 y.l)with q|q
 ·exact q
 ·have:=Nat.div_le_div_right (c:=2^(255 - n)) q
  omega
theorem G1{l m:List UInt8}(hn:n≤256:=by omega):n≤Da l m↔∀i,i<n→Cu l i=Cu m i:=by
 unfold Da
 cases h:(List.range 256).find? (fun i=>Cu l i !=Cu m i)with
 |none=>
  rw[List.find?_eq_none]at h
  constructor
  ·intro _ i a
   simpa using h i (List.mem_range.2 (by omega))
  ·intro _;exact hn
 |some j=>
  rw[List.find?_range_eq_some]at h
  obtain⟨b,d,c⟩:=h
  constructor
  ·intro q i a
   simpa using c i (by simp at q;omega)
  ·intro q
   show n≤j
   rcases Nat.lt_or_ge j n with r|r
   ·have:=q j r;simp[this]at b
   ·exact r
theorem Vu{x y:Jd}(h:256≤Da x.l y.l):x.l=y.l:=by
 have d:=R3 x y 256 (Be _) ((G1 (Be _)).1 h)
 simp at d
 have a:=MO x.l y.l (by rw[x.h,y.h])
 have b:=MO y.l x.l (by rw[x.h,y.h])
 have c:=JL x.l y.l (by rw[x.h,y.h])
 refine JG _ _ (by rw[x.h,y.h]) ?_
 rw[d]at a b
 have e:¬B' x.l y.l<0:=fun q=>Nat.lt_irrefl _ (a.1 q)
 have f:¬B' y.l x.l<0:=fun q=>Nat.lt_irrefl _ (b.1 q)
 omega
structure EA (L:List B7) (n:Nat):Prop where
 aI:L.Pairwise Ez
 aO:∀x∈L,∀y∈L,n≤Da x.k.l y.k.l
theorem EA.zero{L:List B7}(h:L.Pairwise Ez):EA L 0:=⟨h,fun _ _ _ _=>Nat.zero_le _⟩
theorem EA.one{L:List B7}(h:EA L 256):L.length<2:=by
 match L,h with
 |[],_=>decide
 |[_],_=>simp
 |x::y::L,h=>
  have b:=Vu (h.aO x (by simp) y (by simp))
  have a:=(List.pairwise_cons.1 h.aI).1 y (by simp)
  unfold Ez at a
  rw[b,I7]at a
  exact absurd a (by decide)
theorem EA.lt{L:List B7}(h:EA L n)(hn:n≤256)(a:2≤L.length):n<256:=by
 rcases Nat.lt_or_ge n 256 with q|q
 ·exact q
 ·obtain rfl:n=256:=by omega
  have:=h.one
  omega
def BF(L:List B7)(n:Nat):Nat:=(L.takeWhile (fun x=>Cu x.k.l n==0)).length
theorem N4(L:List B7)(n:Nat):BF L n≤L.length:=(List.takeWhile_sublist _).length_le
theorem JZ(L:List B7)(n:Nat):∀x∈L.take (BF L n),Cu x.k.l n=0:=by
 induction L with
 |nil=>intro x b;simp at b
 |cons a L c=>
  intro x b
  unfold BF at b c
  rw[List.takeWhile_cons]at b
  split at b
  ·rename_i q
   simp only[List.length_cons,List.take_succ_cons,List.mem_cons]at b
   rcases b with rfl|b
   ·simpa using q
   ·exact c x b
  ·simp at b
theorem J5{L:List B7}(h:EA L n)(hn:n<256):∀x∈L.drop (BF L n),Cu x.k.l n=1:=by
 induction L with
 |nil=>intro x b;simp at b
 |cons a L c=>
  intro x b
  have e:EA L n:=⟨(List.pairwise_cons.1 h.aI).2,fun x b y g=>h.aO x (by simp[b]) y (by simp[g])⟩
  unfold BF at b c
  rw[List.takeWhile_cons]at b
  split at b
  ·simp only[List.length_cons,List.drop_succ_cons]at b
   exact c e x b
  ·rename_i q
   have j:=PJ a.k.l n
   have d:Cu a.k.l n=1:=by
    have:Cu a.k.l n≠0:=by simpa using q
    omega
   simp only[List.length_nil,List.drop_zero,List.mem_cons]at b
   rcases b with rfl|b
   ·exact d
   ·have m:=(List.pairwise_cons.1 h.aI).1 x b
    have o:=h.aO x (by simp[b]) a (by simp)
    have j:=PJ x.k.l n
    rcases Nat.eq_zero_or_pos (Cu x.k.l n)with z|z
    ·have p:=Va x.k a.k n hn ((G1).1 o) z d
     unfold Ez at m
     have:=JL a.k.l x.k.l (by rw[a.k.h,x.k.h])
     omega
    ·omega
theorem EA.step{L a:List B7}{b:Nat}(h:EA L n)(hn:n<256)(c:a.Sublist L)(d:∀x∈a,Cu x.k.l n=b):EA a (n+1):=by
 refine⟨h.aI.sublist c,fun x e y f=>?_⟩
 rw[G1]
 intro i j
 rcases Nat.lt_or_ge i n with q|q
 ·exact(G1).1 (h.aO x (c.subset e) y (c.subset f)) i q
 ·obtain rfl:i=n:=by omega
  rw[d x e,d y f]
theorem EA.left{L:List B7}(h:EA L n)(hn:n<256):EA (L.take (BF L n)) (n+1):=h.step hn (List.take_sublist _ _) (JZ L n)
theorem EA.right{L:List B7}(h:EA L n)(hn:n<256):EA (L.drop (BF L n)) (n+1):=h.step hn (List.drop_sublist _ _) (J5 h hn)
theorem YN{L:List B7}{i:Nat}{x:B7}(h:∀j,j<i→∀y,L[j]? =some y→Cu y.k.l n=0)(b:L[i]? =some x)(c:¬Cu x.k.l n=0):BF L n=i:=by
 induction L generalizing i with
 |nil=>simp at b
 |cons a L d=>
  unfold BF
  rw[List.takeWhile_cons]
  cases i with
  |zero=>
   simp at b
   subst b
   rw[if_neg (by simpa using c)]
   rfl
  |succ i=>
   have e:=h 0 (by omega) a D
   rw[if_pos (by simpa using e),List.length_cons]
   have:=d (i:=i) (fun j g y f=>h (j+1) (by omega) y (by simpa using f)) (by simpa using b)
   unfold BF at this
   rw[this]
theorem V8{L:List B7}(h:∀j,j<L.length→∀y,L[j]? =some y→Cu y.k.l n=0):BF L n=L.length:=by
 induction L with
 |nil=>rfl
 |cons a L b=>
  unfold BF
  rw[List.takeWhile_cons,if_pos (by simpa using h 0 (by simp) a D),List.length_cons]
  have:=b (fun j d y c=>h (j+1) (by simp;omega) y (by simpa using c))
  unfold BF at this
  rw[this,List.length_cons]
def A7(L:List B7):List (List UInt8×List UInt8):=L.map (fun x=>(x.k.l,x.s.v))
theorem It(L:List B7):(A7 L).length=L.length:=by simp[A7]
end Go.Proofs.YtcdaflcjhimimaaGreatDoor
namespace Go.Proofs.YtcdaflcjhimimaaGreatDoor
open Go.RowKit
set_option maxRecDepth 100000
set_option maxHeartbeats 1000000
theorem Pn(g:Option Addr)(b h:Nat)(d:List UInt8)(i:Option Addr)(c j:Nat)(f:List UInt8)(w:World)(k:View w (.slice g b h) b 1 (bv d))(l:d.length=b)(m:View w (.slice i c j) c 1 (bv f))(n:f.length=c):
 Calls Tryz.prog 108 #[F g b h,F i c j] w fun e w'=>e=.returned (.bool (decide (d=f)))∧Below w.heap.size w w':=by
 have o:Below w.heap.size w w:=Bu _ _
 refine Bx Nz D 10 ?_
 refine K<|N<|O D<|M<|G<|K<|N<|I D<|AT (fun _ a=>H_ a A0 BA HG D k l)<|I D<|AT (fun _ a=>H_ a A0 BA HG D m n)<|AT (fun _ a=>J8 a D D _ D)<|O D<|M<|G<|AA<|AZ D<|?_
 exact⟨D,o⟩
theorem Sw{A:List B7}{i:Nat}{x:B7}(h:A[i]? =some x):(A7 A)[i]? =some (x.k.l,x.s.v):=by unfold A7;rw[List.getElem?_map,h];rfl
theorem RU{A B:List B7}{i:Nat}{x y:B7}(b:A[i]? =some x)(c:B[i]? =some y)(h:¬x.k.l=y.k.l∨¬x.s.v=y.s.v):¬A7 A=A7 B:=by
 intro e
 have a:=Sw b
 rw[e,Sw c]at a
 simp only[Option.some.injEq,Prod.mk.injEq]at a
 rcases h with h|h
 ·exact h a.1.symm
 ·exact h a.2.symm
theorem UW{A B:List B7}{n:Nat}(c:A.length=n)(d:B.length=n)(h:∀i,i<n→∀x y,A[i]? =some x→B[i]? =some y→x.k.l=y.k.l∧x.s.v=y.s.v):A7 A=A7 B:=by
 refine List.ext_getElem (by rw[It,It,c,d]) (fun i a b=>?_)
 rw[It]at a b
 have:=h i (by omega) A[i] B[i] (List.getElem?_eq_getElem a) (List.getElem?_eq_getElem b)
 simp[A7,this.1,this.2]
theorem TN(Q:Option Addr)(n R:Nat)(A:List B7)(S:Option Addr)(B T:Nat)(C:List B7)(w:World)(hm:n≤1000000000)(U:View w (.slice Q n R) n 33 (Al FJ A))(X:A.length=n)(V:View w (.slice S B T) B 33 (Al FJ C))(ab:C.length=B)(s1:∀x∈A,B8.ok w x.s)(s2:∀x∈C,B8.ok w x.s):
 Calls Tryz.prog 104 #[F Q n R,F S B T] w fun e w'=>e=.returned (.bool (decide (A7 A=A7 C)))∧Below w.heap.size w w':=by
 have g:Below w.heap.size w w:=Bu _ _
 refine Bx QA D 42 ?_
 refine K<|N<|O D<|M<|G<|K<|K<|N<|I D<|BY FB D<|I D<|BY FB D<|Fi D D<|M<|G<|E7 D (fun ad=>?_) fun ad=>?_
 ·
  refine K<|N<|O D<|M<|G<|AA<|AX<|AZ D<|?_
  exact⟨by rw[decide_eq_false (fun e=>by have:=congrArg List.length e;rw[It,It]at this;omega)],g⟩
 ·
  refine AE<|G<|K<|K<|N<|O (v:=(E 0)) D<|M<|G<|A2<|?_
  intro a m
  refine Cb (fun ae a W=>∃i,ae=n - i∧Ao 42 a (Ja (Ja (Ja Je 0 (F Q n R)) 1 (F S B T)) 5 (E i))∧i≤n∧Hid (∀j,j<i→∀x y,A[j]? =some x→C[j]? =some y→x.k.l=y.k.l∧x.s.v=y.s.v)∧Below w.heap.size w W) _ ⟨0,D,At m,by omega,Aw (fun j ar=>by omega),g⟩ ?_
  rintro _ a au ⟨i,rfl,m,av,J,g⟩
  revert a
  refine K<|K<|N<|I D<|I D<|BY FB D<|B5 D D<|M<|G<|Bl D (fun af=>?_) fun af=>?_
  ·
   refine AE<|G<|K<|A2<|K<|?_
   intro a m
   refine EJ 22 ?_
   intro aw J ag
   have g:=Ah g ag
   clear J
   revert a
   refine A3 D<|A3 D<|?_
   obtain⟨ax,r,rfl⟩:=Ca (U.below g)
   obtain⟨d,t⟩:=getD_some (L:=A) (j:=i) X (by omega)
   have ah:=BJ Ep (U.below g) t (o:=r+i*33)
   refine C0 DH i (r+i*33) D D<|Cx FE (r+i*33) D<|FG Ce 0 1 [bv d.k.l] ah D<|A3 D<|A3 D<|?_
   obtain⟨ay,u,rfl⟩:=Ca (V.below g)
   obtain⟨f,z⟩:=getD_some (L:=C) (j:=i) ab (by omega)
   have ai:=BJ Ep (V.below g) z (o:=u+i*33)
   refine C0 DH i (u+i*33) D D<|Cx FE (u+i*33) D<|FG Ce 0 1 [bv f.k.l] ai D<|?_
   by_cases P:d.k.l=f.k.l
   ·
    refine Cz (fun _ m=>LD m d.k.h f.k.h D D false (by rw[decide_eq_true P];rfl))<|A3 D<|BI D D D<|A3 D<|BI D D D<|A3 D<|?_
    have aj:=BJ Ep (U.below g) t (o:=r+i*33)
    refine BI D D D<|C0 DH i (r+i*33) D D<|BI D D D<|Cx FE (r+i*33+32) D<|BI D D D<|Dw Cr (Dh [bv d.k.l] (F d.s.p d.s.v.length d.s.c) [] aj (Jb.row d.k.row Jb.nil)) D<|BI D D D<|A3 D<|BI D D D<|A3 D<|?_
    have ak:=BJ Ep (V.below g) z (o:=u+i*33)
    refine BI D D D<|C0 DH i (u+i*33) D D<|BI D D D<|Cx FE (u+i*33+32) D<|BI D D D<|Dw Cr (Dh [bv f.k.l] (F f.s.p f.s.v.length f.s.c) [] ak (Jb.row f.k.row Jb.nil)) D<|?_
    intro a m;refine EG ?_;revert a
    intro az Y
    have al:View w (.slice d.s.p d.s.v.length d.s.c) d.s.v.length 1 (bv d.s.v):=s1 d (List.mem_of_getElem? t)
    have an:View w (.slice f.s.p f.s.v.length f.s.c) f.s.v.length 1 (bv f.s.v):=s2 f (List.mem_of_getElem? z)
    refine Re D D D Y D (fun Aa ao=>B0 Y #[F d.s.p d.s.v.length d.s.c,F f.s.p f.s.v.length f.s.c] Nz (Pn _ _ _ _ _ _ _ _ _ (al.below g) D (an.below g) D) ?_)
    rintro _ aA ⟨rfl,aq⟩
    refine⟨_,D,?_⟩
    intro a m
    have g:=Ah g aq
    refine ao _ _ ?_;revert a
    rcases Bool.eq_false_or_eq_true (!(decide (d.s.v=f.s.v)))with H|H
    ·
     refine Ad D D D<|AT (fun _ m=>Fk (LN m (b:=decide (d.s.v=f.s.v)) D) (congrArg Value.bool H))<|Ba D D<|M<|G<|BS D<|K<|N<|O D<|M<|G<|AA<|C1<|AX<|AX<|C1<|AX<|AZ D<|?_
     exact⟨by rw[decide_eq_false (RU t z (.inr (by simpa using H)))],g⟩
    ·
     refine Ad D D D<|AT (fun _ m=>Fk (LN m (b:=decide (d.s.v=f.s.v)) D) (congrArg Value.bool H))<|Ba D D<|M<|G<|BE D<|AE<|Bq<|G<|N<|I D<|A_ (q:=1) D D<|O D<|M<|G<|?_
     intro a m
     exact⟨_,by omega,i+1,D,At m,by omega,(Aw (Jn J.out (fun x y Z aa=>by rw[t]at Z;rw[z]at aa;cases Z;cases aa;exact⟨by simpa using P,by simpa using H⟩))),g⟩
   ·
    refine Cz (fun _ m=>LD m d.k.h f.k.h D D true (by rw[decide_eq_false P];rfl))<|A3 D<|Bo D D D D<|Bo D D D D<|Bo D D D D<|Bo D D D D<|Bo D D D D<|Bo D D D D<|Bo D D D D<|Bo D D D D<|Bo D D D D<|Bo D D D D<|?_
    intro a m;refine EG ?_;revert a
    refine Ae D D D D<|Ae D D D D<|Bn D D<|M<|G<|BS D<|K<|N<|O D<|M<|G<|AA<|C1<|AX<|AX<|C1<|AX<|AZ D<|?_
    exact⟨by rw[decide_eq_false (RU t z (.inl P))],g⟩
  ·
   refine BO<|AW<|AW<|BN<|G<|K<|N<|O D<|M<|G<|AA<|AZ D<|?_
   obtain rfl:n=i:=by omega
   exact⟨by rw[decide_eq_true (UW X (by omega) J.out)],g⟩
theorem MH(q:Option Addr)(m c:Nat)(L:List B7)(n:Nat)(w:World)(hm:m≤1000000000)(hn:n≤256)(r:View w (.slice q m c) m 33 (Al FJ L))(s:L.length=m):
 Calls Tryz.prog 112 #[F q m c,E n] w fun e w'=>e=.returned (.int .i64 ((BF L n:Nat):Int))∧Below w.heap.size w w':=by
 have b:Below w.heap.size w w:=Bu _ _
 refine Bx Mw D 23 ?_
 refine K<|N<|O (v:=(E 0)) D<|M<|G<|K<|N<|O (v:=(E 0)) D<|M<|G<|K<|A2<|?_
 intro a d
 refine Cb (fun z a W=>∃i,z=m - i∧Ao 23 a (Ja (Ja (Ja (Ja Je 0 (F q m c)) 1 (E n)) 4 (E 0)) 5 (E i))∧i≤m∧Hid (∀j,j<i→∀y,L[j]? =some y→Cu y.k.l n=0)∧Below w.heap.size w W) _ ⟨0,D,At d,by omega,Aw (fun j A=>by omega),b⟩ ?_
 rintro _ a H ⟨i,rfl,d,J,f,b⟩
 revert a
 refine K<|K<|N<|I D<|I D<|BY FB D<|?_
 by_cases t:((i:Nat):Int)<((m:Nat):Int)
 ·
  refine D8 t D D<|I D<|Ad D D D<|I D<|Ad D D D<|I D<|?_
  obtain⟨P,g,rfl⟩:=Ca (r.below b)
  obtain⟨h,p⟩:=getD_some (L:=L) (j:=i) s (by omega)
  have B:=BJ Ep (r.below b) p (o:=g+i*33)
  refine Ad D D D<|Cn DH i (g+i*33) D D<|Ad D D D<|Am FE (g+i*33) D<|Ad D D D<|D9 Ce 0 1 [bv h.k.l] B D<|Ad D D D<|I D<|Ad D D D<|AS Mu D (Oz h.k n _) ?_
  rintro _ Q ⟨rfl,C⟩
  refine⟨_,D,?_⟩
  have b:=Ah b C
  by_cases u:((Cu h.k.l n:Nat):Int)=((0:Nat):Int)
  ·
   refine Ad D D D<|D5 u D D<|Bn D D<|M<|G<|BS D<|AE<|G<|A2<|N<|I D<|A_ (q:=1) D D<|O D<|M<|Bq<|G<|?_
   intro a d
   exact⟨_,by omega,i+1,D,At d,by omega,(Aw (Jn f.out (fun y x=>by rw[p]at x;cases x;omega))),b⟩
  ·
   refine Ad D D D<|E0 u D D<|Bn D D<|M<|G<|BE D<|BO<|AW<|AW<|BN<|G<|K<|N<|I D<|O D<|M<|G<|AA<|AZ D<|?_
   exact⟨by rw[YN f.out p (by omega)],b⟩
 ·
  refine DO t D D<|I D<|Ae D D D D<|Ae D D D D<|Ae D D D D<|Ae D D D D<|Ae D D D D<|Ae D D D D<|Ae D D D D<|Ae D D D D<|Ba D D<|M<|G<|BE D<|BO<|AW<|AW<|BN<|G<|K<|N<|I D<|O D<|M<|G<|AA<|AZ D<|?_
  obtain rfl:m=i:=by omega
  exact⟨by rw[V8 (fun j A=>f.out j (by omega)),s],b⟩
theorem NL:∀(f n:Nat) (z:Int) (AQ:Option Addr) (ce:Nat) (D':List Jd) (q:Option Addr) (m c:Nat) (u:List B7) (w:World),n+f=257→n≤256→m≤1000000000→CT w→View w (.slice AQ 257 ce) 257 32 (Al Ex D')→D'.length=257→View w (.slice q m c) m 33 (Al FJ u)→u.length=m→(∀x∈u,B8.ok w x.s)→EA u n→(∀x∈u,x.s.v.length≤128)→
 Calls Tryz.prog 82 #[.int .i64 z,.slice AQ 257 ce,.slice q m c,.int .i64 ((n:Nat):Int)] w fun e w'=>∃d:Jd,e=.returned (.agg (flat [bv d.l]))∧Below w.heap.size w w':=by
 intro f
 induction f with
 |zero=>intro n z AQ ce D' q m c u w a5 a6;omega
 |succ f ak=>
 intro n z AQ ce D' q m c u w a7 hn hm T he V H X Y ad Z
 have b:Below w.heap.size w w:=Bu _ _
 refine Bx Ks D 67 ?_
 refine K<|N<|BQ [Av 32] ?_
 intro aD a8 A y g t
 have a9:=Bg b A
 have b:=Ah b t
 rw[Du]at g
 refine M<|G<|K<|K<|N<|I D<|BY FB D<|Dk (q:=(0:Nat)) D D<|M<|G<|Bl D (fun aE=>?_) fun aE=>?_
 ·
  refine K<|N<|I D<|I D<|E' (p:=256) D D<|?_
  obtain⟨a_,al,rfl⟩:=Ca (he.below b)
  obtain⟨ae,aF⟩:=getD_some (L:=D') (j:=256 - n) V (by omega)
  have aG:=BJ G8 (he.below b) aF (o:=al+(256 - n)*32)
  refine Cn HF (256 - n) (al+(256 - n)*32) D D<|D9 BZ 0 1 [bv ae.l] aG D<|Bi 0 1 g D D ?_
  intro a' y aH aI
  have b:=A1 b aI
  refine M<|G<|AA<|AX<|?_
  intro a r
  refine E4 r D D aH BZ D (Cf 32) ?_
  exact⟨⟨ae.l,ae.h⟩,D,b⟩
 ·
  refine AE<|G<|K<|K<|N<|I D<|BY FB D<|Dk (q:=(1:Nat)) D D<|M<|G<|Bl D (fun aJ=>?_) fun aJ=>?_
  ·
   refine K<|?_
   intro a r
   refine C7 (fun W=>Below w.heap.size w W∧Ai W aD [bv (List.replicate 32 0)] 125) ?_
   intro ba y t
   have g:=Q g t
   have b:=Ah b t
   revert a
   refine Bk 0 D D ⟨b,g⟩<|Bk 1 D D ⟨b,g⟩<|?_
   obtain⟨bb,B,rfl⟩:=Ca (H.below b)
   obtain⟨i,P⟩:=getD_some (L:=u) (j:=0) X (by omega)
   refine GY 2 D DH 0 (B+0*33) D D ⟨b,g⟩<|BW 3 D FE (B+0*33) D ⟨b,g⟩<|A5 4 D (fun W af a r=>by obtain⟨b,g⟩:=af;have aK:=BJ Ep (H.below b) P (o:=B+0*33);exact H9 r D Ce D (mid:=[bv i.k.l]) (HM [] [bv i.k.l] [[F i.s.p i.s.v.length i.s.c]] aK D (by first|rfl|omega)) (Cf 32)) ⟨b,g⟩<|Bk 5 D D ⟨b,g⟩<|GY 6 D DH 0 (B+0*33) D D ⟨b,g⟩<|BW 7 D FE (B+0*33+32) D ⟨b,g⟩<|A5 8 D (fun W af a r=>by obtain⟨b,g⟩:=af;have aL:=BJ Ep (H.below b) P (o:=B+0*33);exact D1 r D Cr D (Dh [bv i.k.l] (F i.s.p i.s.v.length i.s.c) [] aL (Jb.row i.k.row Jb.nil))) ⟨b,g⟩<|?_
   intro aa J
   refine EW 9 10 2 D D D D ?_ ?_
   ·
    intro Aa C
    have aM:=Z i (List.mem_of_getElem? P)
    have aN:View w (.slice i.s.p i.s.v.length i.s.c) i.s.v.length 1 (bv i.s.v):=Y i (List.mem_of_getElem? P)
    refine B0 J #[Value.int .i64 (z:Int),Value.agg (flat [bv i.k.l]),F i.s.p i.s.v.length i.s.c] My (NF (z:Int) i.k _ _ _ _ _ (T.below b (Be _)) (by omega) (aN.below b) D) ?_
    rintro _ bc ⟨d17,rfl,an⟩
    refine⟨_,D,?_⟩
    intro a r
    have g:=Q g an
    have b:=Ah b an
    refine C _ _ ⟨b,g⟩ ?_;revert a
    intro aa J
    refine A8 10 1 D D ?_
    intro Aa C
    refine Fq J D (z:=(Value.agg (flat [Av 32]))) (by kernel_rfl) (ss:=[Av 32]) D ?_
    intro a aO bd A r y U t
    have bf:=Bg b A
    have bg:=AP g A
    have g:=Q g t
    have b:=Ah b t
    rw[Du]at U
    refine C _ _ ⟨b,g⟩ ?_;revert a
    intro aa J
    refine A8 11 0 D D ?_
    intro Aa C
    refine Gs J D [] [bv (List.replicate 32 0)] [] [bv d17.l] U D D (Eq.trans (Jb.row (Jh List.length_replicate) Jb.nil) (Eq.symm (Jb.row d17.row Jb.nil))) (Cf 32) (Jc.row d17.row Jc.nil) ?_
    intro a aP r y ag ao
    have g:=Ag ao g (by omega)
    have b:=A1 b ao
    have U:Ai aP aO [bv d17.l] 125:=ag
    refine C _ _ ⟨b,g⟩ ?_;revert a
    refine B_<|G<|K<|?_
    intro a r
    refine EJ 9 ?_
    intro bh y t
    have g:=Q g t
    have U:=Q U t
    have b:=Ah b t
    revert a
    refine A3 D<|A3 D<|A3 D<|?_
    have aQ:=BJ Ep (H.below b) P (o:=B+0*33)
    refine C0 DH 0 (B+0*33) D D<|Cx FE (B+0*33) D<|FG Ce 0 1 [bv i.k.l] aQ D<|Ht BZ U D<|A3 D<|HI (p:=256) D D<|?_
    intro a r;refine EG ?_;revert a
    refine AS Lo D (LS _ _ D' (z:Int) i.k ((0:Nat):Int) d17 ((256 - n:Nat):Int) _ (T.below b (Be _)) (he.below b) V) ?_
    rintro _ bj ⟨d28,rfl,aq⟩
    refine⟨_,D,?_⟩
    have g:=Q g aq
    have b:=Ah b aq
    refine Bi 0 1 g D D ?_
    intro bk y aR aS
    have b:=A1 b aS
    refine M<|G<|AA<|AX<|?_
    intro a r
    refine E4 r D D aR BZ D (Cf 32) ?_
    exact⟨⟨d28.l,d28.h⟩,D,b⟩
   ·
    intro Aa C
    refine Fq J D (z:=(Value.agg (flat [Av 32]))) (by kernel_rfl) (ss:=[Av 32]) D ?_
    intro a aT bl A r y R t
    have bm:=Bg b A
    have bn:=AP g A
    have g:=Q g t
    have b:=Ah b t
    rw[Du]at R
    refine C _ _ ⟨b,g⟩ ?_;revert a
    intro aa J
    refine A8 9 1 D D ?_
    intro Aa C
    have aM:=Z i (List.mem_of_getElem? P)
    have aU:View w (.slice i.s.p i.s.v.length i.s.c) i.s.v.length 1 (bv i.s.v):=Y i (List.mem_of_getElem? P)
    refine B0 J #[Value.int .i64 (z:Int),Value.agg (flat [bv i.k.l]),F i.s.p i.s.v.length i.s.c] My (NF (z:Int) i.k _ _ _ _ _ (T.below b (Be _)) (by omega) (aU.below b) D) ?_
    rintro _ bo ⟨d36,rfl,ah⟩
    refine⟨_,D,?_⟩
    intro a r
    have g:=Q g ah
    have R:=Q R ah
    have b:=Ah b ah
    refine C _ _ ⟨b,g⟩ ?_;revert a
    intro aa J
    refine A8 11 0 D D ?_
    intro Aa C
    refine Gs J D [] [bv (List.replicate 32 0)] [] [bv d36.l] R D D (Eq.trans (Jb.row (Jh List.length_replicate) Jb.nil) (Eq.symm (Jb.row d36.row Jb.nil))) (Cf 32) (Jc.row d36.row Jc.nil) ?_
    intro a aV r y ag ar
    have g:=Ag ar g (by omega)
    have b:=A1 b ar
    have R:Ai aV aT [bv d36.l] 125:=ag
    refine C _ _ ⟨b,g⟩ ?_;revert a
    refine B_<|G<|K<|?_
    intro a r
    refine EJ 9 ?_
    intro bp y t
    have g:=Q g t
    have R:=Q R t
    have b:=Ah b t
    revert a
    refine A3 D<|A3 D<|A3 D<|?_
    have aW:=BJ Ep (H.below b) P (o:=B+0*33)
    refine C0 DH 0 (B+0*33) D D<|Cx FE (B+0*33) D<|FG Ce 0 1 [bv i.k.l] aW D<|Ht BZ R D<|A3 D<|HI (p:=256) D D<|?_
    intro a r;refine EG ?_;revert a
    refine AS Lo D (LS _ _ D' (z:Int) i.k ((0:Nat):Int) d36 ((256 - n:Nat):Int) _ (T.below b (Be _)) (he.below b) V) ?_
    rintro _ bq ⟨d44,rfl,au⟩
    refine⟨_,D,?_⟩
    have g:=Q g au
    have b:=Ah b au
    refine Bi 0 1 g D D ?_
    intro br y aX aY
    have b:=A1 b aY
    refine M<|G<|AA<|AX<|?_
    intro a r
    refine E4 r D D aX BZ D (Cf 32) ?_
    exact⟨⟨d44.l,d44.h⟩,D,b⟩
  ·
   refine AE<|G<|K<|N<|?_
   have av:n<256:=ad.lt hn (by omega)
   have bs:=N4 u n
   refine I D<|I D<|AS Mw D (MH _ _ _ _ n _ (by omega) (by omega) (H.below b) X) ?_
   rintro _ bt ⟨rfl,aw⟩
   refine⟨_,D,?_⟩
   have g:=Q g aw
   have b:=Ah b aw
   refine O D<|M<|G<|K<|N<|I D<|I D<|I D<|I D<|?_
   have hcap:=(H.below b).cap
   have ax:=Kl H (BF u n)
   rw[KQ Ep]at ax
   have aZ:(u.take (BF u n)).length=(BF u n):=by have:=X;simp only[List.length_take];omega
   refine AT (fun _ r=>IW r DH D (BF u n) (k:=.i64) D)<|I D<|A_ (q:=1) D D<|AS Ks D (ak (n+1) _ _ _ _ _ _ _ _ _ (by omega) (by omega) (by omega) (T.below b (Be _)) (he.below b) V (ax.below b) aZ (fun x E=>(fun x E=>(Y x E).below b D) x (List.mem_of_mem_take E)) (ad.left av) (fun x E=>Z x (List.mem_of_mem_take E))) ?_
   rintro _ bu ⟨d53,rfl,ay⟩
   refine⟨_,D,?_⟩
   have g:=Q g ay
   have b:=Ah b ay
   refine BQ [Av 32] ?_
   intro bw bx A y az t
   have bz:=Bg b A
   have bA:=AP g A
   have g:=Q g t
   have b:=Ah b t
   rw[Du]at az
   refine Bi 0 1 az D D ?_
   intro bB y S aA
   have g:=Ag aA g (by omega)
   have b:=A1 b aA
   refine M<|G<|K<|N<|I D<|I D<|I D<|I D<|?_
   obtain⟨bC,a0,ab,bD⟩:=JY DH H (BF u n)
   have ab:=ab _ H
   rw[Lj Ep]at ab
   have a1:(u.drop (BF u n)).length=m - (BF u n):=by have:=X;simp only[List.length_drop];omega
   refine AT (fun _ r=>I_ r D (BF u n) (k:=.i64) D a0)<|I D<|A_ (q:=1) D D<|AS Ks D (ak (n+1) _ _ _ _ _ _ _ _ _ (by omega) (by omega) (by omega) (T.below b (Be _)) (he.below b) V (ab.below b) a1 (fun x E=>(fun x E=>(Y x E).below b D) x (List.mem_of_mem_drop E)) (ad.right av) (fun x E=>Z x (List.mem_of_mem_drop E))) ?_
   rintro _ bE ⟨d66,rfl,ai⟩
   refine⟨_,D,?_⟩
   have g:=Q g ai
   have S:=Q S ai
   have b:=Ah b ai
   refine BQ [Av 32] ?_
   intro bF bG A y aB t
   have bH:=Bg b A
   have bI:=AP g A
   have bJ:=AP S A
   have g:=Q g t
   have S:=Q S t
   have b:=Ah b t
   rw[Du]at aB
   refine Bi 0 1 aB D D ?_
   intro bK y a2 aj
   have g:=Ag aj g (by omega)
   have S:=Ag aj S (by omega)
   have b:=A1 b aj
   refine M<|G<|K<|N<|I D<|BP BZ S D<|BP BZ a2 D<|AS I6 D (JM (z:Int) d53 d66 _ (T.below b (Be _))) ?_
   rintro _ bL ⟨d74,rfl,aC⟩
   refine⟨_,D,?_⟩
   have g:=Q g aC
   have b:=Ah b aC
   refine Bi 0 1 g D D ?_
   intro bM y a3 a4
   have b:=A1 b a4
   refine M<|G<|AA<|?_
   intro a r
   refine E4 r D D a3 BZ D (Cf 32) ?_
   exact⟨⟨d74.l,d74.h⟩,D,b⟩
theorem Rq(z:Int)(AQ:Option Addr)(ce:Nat)(D':List Jd)(q:Option Addr)(m c:Nat)(f:List B7)(w:World)(hm:m≤1000000000)(j:CT w)(he:View w (.slice AQ 257 ce) 257 32 (Al Ex D'))(k:D'.length=257)(n:View w (.slice q m c) m 33 (Al FJ f))(o:f.length=m)(p:∀x∈f,B8.ok w x.s)(r:f.Pairwise Ez)(t:(∀x∈f,x.s.v.length≤128)):
 Calls Tryz.prog 46 #[Value.int .i64 (z:Int),F AQ 257 ce,F q m c] w fun e w'=>∃d:Jd,e=.returned (.agg (flat [bv d.l]))∧Below w.heap.size w w':=by
 have b:Below w.heap.size w w:=Bu _ _
 refine Bx NI D 11 ?_
 refine K<|N<|BQ [Av 32] ?_
 intro J L u y g A
 have O:=Bg b u
 have b:=Ah b A
 rw[Du]at g
 refine M<|G<|K<|N<|I D<|I D<|I D<|AS Ks D (NL (257 - 0) 0 (z:Int) _ _ _ _ _ _ _ _ (by omega) (by omega) (by omega) (j.below b (Be _)) (he.below b) k (n.below b) o (fun x B=>(p x B).below b D) (EA.zero r) t) ?_
 rintro _ P ⟨d2,rfl,i⟩
 refine⟨_,D,?_⟩
 have g:=Q g i
 have b:=Ah b i
 refine Bi 0 1 g D D ?_
 intro R y C E
 have b:=A1 b E
 refine M<|G<|AA<|?_
 intro a H
 refine E4 H D D C BZ D (Cf 32) ?_
 exact⟨⟨d2.l,d2.h⟩,D,b⟩
theorem RZ(x:DD)(w:World)(g:x.lc<4294967296)(h:x.rc<4294967296):
 Calls Tryz.prog 122 #[Value.agg (flat [[E x.ZI],[E x.l],[E x.r],[E x.lc],[E x.rc],bv x.ls.l,bv x.rs.l,bv x.k.l,[F x.s.p x.s.v.length x.s.c]])] w fun e w'=>∃r:Nat,e=.returned (.int .i64 ((r:Nat):Int))∧Below w.heap.size w w':=by
 have a:Below w.heap.size w w:=Bu _ _
 refine Bx Nf D 11 ?_
 refine K<|N<|CW D ?_
 intro b1 j b m H1 d
 have n:=Bg a b
 have a:=Ah a d
 refine O (v:=(E 0)) D<|M<|G<|K<|K<|N<|Am BD 0 D<|AK AH 0 H1 D D<|Dk (q:=(1:Nat)) D D<|M<|G<|Bl D (fun f=>?_) fun f=>?_
 ·
  refine K<|N<|O (v:=(E 1)) D<|M<|G<|AA<|AX<|AZ D<|?_
  exact⟨_,D,a⟩
 ·
  refine AE<|G<|K<|N<|Am BD 3 D<|AK AH 3 H1 D D<|Am BD 4 D<|AK AH 4 H1 D D<|A_ D D<|O D<|M<|G<|AA<|AZ D<|?_
  exact⟨_,D,a⟩
end Go.Proofs.YtcdaflcjhimimaaGreatDoor
