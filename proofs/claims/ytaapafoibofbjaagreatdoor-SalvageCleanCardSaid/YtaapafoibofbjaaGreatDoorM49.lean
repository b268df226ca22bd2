/- Laws and walks on the road to SalvageClean (part M49). No conditions beyond each law's own. -/
import Derived.Test.YtaapafoibofbjaaGreatDoorM01
import Derived.Test.YtaapafoibofbjaaGreatDoorM48
import Derived.Test.YtaapafoibofbjaaGreatDoorM05
set_option linter.unusedVariables false
namespace Go.Proofs.YtaapafoibofbjaaGreatDoor
open Go.RowKit
set_option maxRecDepth 100000
set_option maxHeartbeats 1000000
theorem h'(Ag Ac Al n r a:Nat)(Y:Ji n)(t:Fr.Bu)(Ax:Nat)(w:World)(f:BE [Bd Ag Ac Al n r a,O Ac [bv Y.l] 111,BU Al] w)(G:r≤1000)(H:768≤n∧n≤1048576)(I:a≤1000)(s:Fr.choose (AI Y.l 0) (AI Y.l 1)=.ok t)(u:n=256*t.p)(FJ:1≤Ax∧Ax≤4096)(J:t.m≤t.p∧2≤t.m)(y:t.h=0)(A5:CG w)(z:∀k,CB k→¬A6 [Bd Ag Ac Al n r a,O Ac [bv Y.l] 111,BU Al] k)(K:t.w≤32):Calls Tryz.prog 27 #[S Ag,E Ax,Value.string ⟨([111,112,101,110]).toArray⟩] w fun e W=>∃g Q b d A,e=.returned (.tuple #[S g,.nilIface])∧Sat (A6 [Bd Ag Ac Al n r a,O Ac [bv Y.l] 111,BU Al]) w [O g [[Be .i32 0],[Be .u32 0],[S Q],[E t.w],[E 0],[E 0],[E 0],[E 0],[E 0],[E 0],[E 0],bv (AL.bare t.w 256).l,[E 0]] 117,BF Q b d,Bs b Ag t (a+1),Bd Ag Ac Al n A (a+1)] W:=by
 have j:∀F,A6 [Bd Ag Ac Al n r a,O Ac [bv Y.l] 111,BU Al]=F→∀k,CB k→¬F k:=fun F i k B q=>z k B (i▸q)
 refine Cb f QQ D 80 fun F i=>M ?_
 refine U<|?_
 refine Ba Ty D (fun w c=>Wb Ag Ac Al n r a Y t w (c.Ad (H1:=[Bd Ag Ac Al n r a,O Ac [bv Y.l] 111,BU Al]) [0,1,2]) (by omega) (by omega) (by omega) s u) fun _ e W c ⟨b,he,q⟩=>⟨_,_,he,Sat.call (H1:=[Bd Ag Ac Al n r a,O Ac [bv Y.l] 111,BU Al]) (H2:=[]) (c.pick [0,1,2]) q,?_⟩
 refine Jd D<|Bc D D<|Bc D D<|M ?_
 refine Ci D D D<|M ?_
 refine U<|?_
 refine Ba Si D (fun w c=>Vw b Ag Ac Al n (r+2) (a+1) Ax t w (c.Ad (H1:=[Bs b Ag t (a+1),Bd Ag Ac Al n (r+2) (a+1)]) [0,1]) (by omega)) fun _ e W c ⟨Q,d,o,he,q⟩=>⟨_,_,he,Sat.call (H1:=[Bs b Ag t (a+1),Bd Ag Ac Al n (r+2) (a+1)]) (H2:=[O Ac [bv Y.l] 111,BU Al]) (c.pick [0,1,2,3]) q,?_⟩
 refine Jd D<|Bc D D<|Bc D D<|M ?_
 refine Ci D D D<|M ?_
 refine U<|Cx K6 D [0,3] (H1:=[BF Q b d,Bs b Ag t (a+1)]) (fun w f=>Lw Q b d Ag t (a+1) w f)<|Af (Io BM 0 D D D AF)<|Jd D<|U<|Cx K6 D [0,3] (H1:=[BF Q b d,Bs b Ag t (a+1)]) (fun w f=>Lw Q b d Ag t (a+1) w f)<|Af (Io BM 3 D D D AF)<|?_
 refine CR 41 D (show _=(E 0)from(congrArg (fun x:Nat=>E x) y))<|Af (fun _ _ C c=>Cs C (BH:=[(1,(S Q)),(2,(E t.w)),(5,(E 0))]) D (v:=Value.agg (flat [[Be .i32 0],[Be .u32 0],[S Q],[E t.w],[E 0],[E 0],[E 0],[E 0],[E 0],[E 0],[E 0],Ak 32,[E 0]])) (run_build _ _ _ _ (by kernel_rfl)))<|U<|Cv D fun g=>M ?_
 refine By D<|AG F5 43 D<|AZ AF 0 12 D D D<|U<|Cx Qd D [1,4,5] (H1:=[BF Q b d,Bs b Ag t (a+1),Bd Ag Ac Al n (r+2) (a+1)]) (fun w f=>gd Q b d Ag Ac Al n (r+2) (a+1) t w f (by omega))<|Jd D<|Bc D D<|Bc D D<|Bc D D<|M ?_
 refine Ci D D D<|M ?_
 refine By D<|AG F5 4 D<|U<|Cq 0 4 D D D<|?_
 refine M ?_
 refine U<|?_
 refine Ba PF D (fun w c=>gh g Q b d Ag Ac Al n (r+2) (a+1) t w (c.Ad (H1:=[O g [[Be .i32 0],[Be .u32 0],[S Q],[E t.w],[E 0],[E 0],[E 0],[E 0],[E 0],[E 0],[E 0],Ak 32,[E 0]] 117,BF Q b d,Bs b Ag t (a+1),Bd Ag Ac Al n (r+2) (a+1)]) [0,1,4,5]) (A5.sat c (j F i)) (c.Eb A5 (j F i) [0,1,4,5]) (by omega) (by omega)) fun _ e W c ⟨he,q⟩=>⟨_,_,he,Sat.call (H1:=[O g [[Be .i32 0],[Be .u32 0],[S Q],[E t.w],[E 0],[E 0],[E 0],[E 0],[E 0],[E 0],[E 0],Ak 32,[E 0]] 117,BF Q b d,Bs b Ag t (a+1),Bd Ag Ac Al n (r+2) (a+1)]) (H2:=[Cj d o Ax (A2 d 2) (A2 d 2) 0 0 0,Ap Tryz.prog 3 Am Cw o 0 (fun _=>none),O Ac [bv Y.l] 111,BU Al]) (c.pick [0,1,4,5,2,3,6,7]) q,?_⟩
 refine Jd D<|Bc D D<|Bc D D<|By D<|AG F5 5 D<|U<|Bk 0 5 7 D D D<|?_
 refine M ?_
 refine Ci D D D<|A7 ?_
 intro W c
 subst i
 exact⟨g,Q,b,d,_,D,c.pick [0,1,2,3]⟩
theorem eW(Ag Ac Al n r a:Nat)(Y:Ji n)(t:Fr.Bu)(Ax:Nat)(w:World)(i:BE [Bd Ag Ac Al n r a,O Ac [bv Y.l] 111,BU Al] w)(u:r≤1000)(v:768≤n∧n≤1048576)(x:a≤1000)(y:Fr.choose (AI Y.l 0) (AI Y.l 1)=.ok t)(z:n=256*t.p)(FJ:1≤Ax∧Ax≤4096)(A:t.m≤t.p∧2≤t.m)(B:t.h=0)(A5:CG w)(C:∀k,CB k→¬A6 [Bd Ag Ac Al n r a,O Ac [bv Y.l] 111,BU Al] k)(G:t.w≤32):Calls Tryz.prog 13 #[S Ag,E Ax] w fun e W=>∃f Q g j o,e=.returned (.tuple #[S f,.nilIface])∧Sat (A6 [Bd Ag Ac Al n r a,O Ac [bv Y.l] 111,BU Al]) w [O f [[Be .i32 0],[Be .u32 0],[S Q],[E t.w],[E 0],[E 0],[E 0],[E 0],[E 0],[E 0],[E 0],bv (AL.bare t.w 256).l,[E 0]] 117,BF Q g j,Bs g Ag t (a+1),Bd Ag Ac Al n o (a+1)] W:=by
 have s:∀F,A6 [Bd Ag Ac Al n r a,O Ac [bv Y.l] 111,BU Al]=F→∀k,CB k→¬F k:=fun F d k H q=>C k H (d▸q)
 refine Cb i S9 D 28 fun F d=>M ?_
 refine Af (JZ (by kernel_rfl) D false D)<|M ?_
 refine U<|Cx Pd D [0] (H1:=[Bd Ag Ac Al n r a]) (fun w i=>Q6 Ag Ac Al n r a w i)<|Af (fun _ _ I c=>CE I (b:=true) D)<|M ?_
 refine ET (by omega) D D<|M ?_
 refine HF (by omega) D D<|M ?_
 refine U<|?_
 refine Ba QQ D (fun w c=>h' Ag Ac Al n r a Y t Ax w (c.Ad (H1:=[Bd Ag Ac Al n r a,O Ac [bv Y.l] 111,BU Al]) [0,1,2]) u v x y z FJ A B (A5.sat c (s F d)) (c.Eb A5 (s F d) [0,1,2]) G) fun _ e W c ⟨f,Q,g,j,o,he,q⟩=>⟨_,_,he,Sat.call (H1:=[Bd Ag Ac Al n r a,O Ac [bv Y.l] 111,BU Al]) (H2:=[]) (c.pick [0,1,2]) q,?_⟩
 refine Bc D D<|Bc D D<|A7 ?_
 intro W c
 subst d
 exact⟨f,Q,g,j,_,D,c.pick [0,1,2,3]⟩
theorem fa(Ag Ac Al n r a:Nat)(Y:Ji n)(t:Fr.Bu)(Ax:Nat)(p want:Nat)(Ah:B9)(w:World)(o:BE [Bd Ag Ac Al n r a,O Ac [bv Y.l] 111,BU Al] w)(P:r≤1000)(R:768≤n∧n≤1048576)(T:a≤1000)(y:Fr.choose (AI Y.l 0) (AI Y.l 1)=.ok t)(z:n=256*t.p)(FJ:1≤Ax∧Ax≤4096)(V:t.m≤t.p∧2≤t.m)(A:t.h=p)(X:2≤p∧p<t.m)(B:Fr.CZ p (AI Y.l p)=true)(u:((AI Y.l p).getD 0 0).toNat=3)(hr:G.record (G.load (AI Y.l p))=some Ah)(hm:max Ah.ju (max Ah.jt Ah.r)<p)(Z:1≤Ah.v∧Ah.f≤Ah.v∧Ah.v≤1073741824)(hw:(if Ah.f=0 then Ah.v else Ah.v - Ah.f+1)=want):Calls Tryz.prog 27 #[S Ag,E Ax,Value.string ⟨([111,112,101,110]).toArray⟩] w fun e W=>∃k Q d b J,e=.returned (.tuple #[S k,.nilIface])∧Sat (A6 [Bd Ag Ac Al n r a,O Ac [bv Y.l] 111,BU Al]) w [O k [[Be .i32 0],[Be .u32 0],[S Q],[E t.w],[E Ah.f],[E Ah.v],[E Ah.f],[E Ah.ju],[E Ah.jt],[E Ah.r],[E Ah.c],bv Ah.s.l,[E p]] 117,BF Q d b,Bs d Ag t (a+1),Bd Ag Ac Al n J (a+1)] W:=by
 have aa:(G.load (AI Y.l p)).length≤255:=by
  unfold G.load
  rw[List.length_take]
  have q:=((AI Y.l p).getD 1 0).toNat_lt
  omega
 refine Cb o QQ D 80 fun F K=>M ?_
 refine U<|?_
 refine Ba Ty D (fun w g=>Wb Ag Ac Al n r a Y t w (g.Ad (H1:=[Bd Ag Ac Al n r a,O Ac [bv Y.l] 111,BU Al]) [0,1,2]) (by omega) (by omega) (by omega) y z) fun _ e W g ⟨d,he,q⟩=>⟨_,_,he,Sat.call (H1:=[Bd Ag Ac Al n r a,O Ac [bv Y.l] 111,BU Al]) (H2:=[]) (g.pick [0,1,2]) q,?_⟩
 refine Jd D<|Bc D D<|Bc D D<|M ?_
 refine Ci D D D<|M ?_
 refine U<|?_
 refine Ba Si D (fun w g=>Vw d Ag Ac Al n (r+2) (a+1) Ax t w (g.Ad (H1:=[Bs d Ag t (a+1),Bd Ag Ac Al n (r+2) (a+1)]) [0,1]) (by omega)) fun _ e W g ⟨Q,b,i,he,q⟩=>⟨_,_,he,Sat.call (H1:=[Bs d Ag t (a+1),Bd Ag Ac Al n (r+2) (a+1)]) (H2:=[O Ac [bv Y.l] 111,BU Al]) (g.pick [0,1,2,3]) q,?_⟩
 refine Jd D<|Bc D D<|Bc D D<|M ?_
 refine Ci D D D<|M ?_
 refine U<|Cx K6 D [0,3] (H1:=[BF Q d b,Bs d Ag t (a+1)]) (fun w o=>Lw Q d b Ag t (a+1) w o)<|Af (Io BM 0 D D D AF)<|Jd D<|U<|Cx K6 D [0,3] (H1:=[BF Q d b,Bs d Ag t (a+1)]) (fun w o=>Lw Q d b Ag t (a+1) w o)<|Af (Io BM 3 D D D AF)<|?_
 refine CR 41 D (show _=(E p)from(congrArg (fun x:Nat=>E x) A))<|Af (fun _ _ N g=>Cs N (BH:=[(1,(S Q)),(2,(E t.w)),(5,(E p))]) D (v:=Value.agg (flat [[Be .i32 0],[Be .u32 0],[S Q],[E t.w],[E 0],[E 0],[E 0],[E 0],[E 0],[E 0],[E 0],Ak 32,[E p]])) (run_build _ _ _ _ (by kernel_rfl)))<|U<|Cv D fun k=>M ?_
 refine By D<|AG F5 43 D<|AZ AF 0 12 D D D<|U<|?_
 refine Ba Qd D (fun w g=>gM Q d Ag Ac Al b i n (r+2) (a+1) Ax 0 0 Y t p Ah w (g.Ad (H1:=[BF Q d b,Bs d Ag t (a+1),Bd Ag Ac Al n (r+2) (a+1),O Ac [bv Y.l] 111,BU Al,Cj b i Ax (A2 b 2) (A2 b 2) 0 0 0,Ap Tryz.prog 3 Am Cw i 0 (fun _=>none)]) [1,4,5,6,7,2,3]) (by omega) (by omega) (by omega) (by omega) B u hr hm) fun _ e W g ⟨j,L,G4,he,q⟩=>⟨_,_,he,Sat.call (H1:=[BF Q d b,Bs d Ag t (a+1),Bd Ag Ac Al n (r+2) (a+1),O Ac [bv Y.l] 111,BU Al,Cj b i Ax (A2 b 2) (A2 b 2) 0 0 0,Ap Tryz.prog 3 Am Cw i 0 (fun _=>none)]) (H2:=[O k [[Be .i32 0],[Be .u32 0],[S Q],[E t.w],[E 0],[E 0],[E 0],[E 0],[E 0],[E 0],[E 0],Ak 32,[E p]] 117]) (g.pick [1,4,5,6,7,2,3,0]) q,?_⟩
 refine Jd D<|Bc D D<|Bc D D<|Bc D D<|M ?_
 refine Ci D D D<|M ?_
 refine By D<|AG F5 4 D<|U<|Cq 9 4 D D D<|?_
 refine M ?_
 refine U<|?_
 refine Ba PF D (fun w g=>iO k want Q d Ag Ac Al b i j n (r+3) (a+1) Ax 0 1 Y t p Ah L w (g.Ad (H1:=[O k [[Be .i32 0],[Be .u32 0],[S Q],[E t.w],[E Ah.f],[E 0],[E 0],[E 0],[E 0],[E 0],[E 0],Ak 32,[E p]] 117,BF Q d b,Bs d Ag t (a+1),Bd Ag Ac Al n (r+3) (a+1),O Ac [bv Y.l] 111,BU Al,Cj b i Ax (S j) (S j) 1 0 1,Ap Tryz.prog 3 Am Cw i 1 (CF (fun _=>none) p j),Dp j p (((AI Y.l p).getD 0 0).toNat) L (A2 b 2) (A2 b 2),Ae 5 1 (I L.p L.n L.c) L.n (bv (G.load (AI Y.l p)))]) [9,0,1,2,3,4,5,6,7,8]) (by omega) (by omega) (by omega) (by omega) G4 u hr hm (by omega) hw) fun _ e W g ⟨he,q⟩=>⟨_,_,he,Sat.call (H1:=[O k [[Be .i32 0],[Be .u32 0],[S Q],[E t.w],[E Ah.f],[E 0],[E 0],[E 0],[E 0],[E 0],[E 0],Ak 32,[E p]] 117,BF Q d b,Bs d Ag t (a+1),Bd Ag Ac Al n (r+3) (a+1),O Ac [bv Y.l] 111,BU Al,Cj b i Ax (S j) (S j) 1 0 1,Ap Tryz.prog 3 Am Cw i 1 (CF (fun _=>none) p j),Dp j p (((AI Y.l p).getD 0 0).toNat) L (A2 b 2) (A2 b 2),Ae 5 1 (I L.p L.n L.c) L.n (bv (G.load (AI Y.l p)))]) (H2:=[]) (g.pick [9,0,1,2,3,4,5,6,7,8]) q,?_⟩
 refine Jd D<|Bc D D<|Bc D D<|By D<|AG F5 5 D<|U<|Bk 0 5 7 D D D<|?_
 refine M ?_
 refine Ci D D D<|A7 ?_
 intro W g
 subst K
 exact⟨k,Q,d,b,_,D,g.pick [0,1,2,3]⟩
theorem b9(Ag Ac Al n r a:Nat)(Y:Ji n)(t:Fr.Bu)(Ax:Nat)(p want:Nat)(Ah:B9)(w:World)(j:BE [Bd Ag Ac Al n r a,O Ac [bv Y.l] 111,BU Al] w)(u:r≤1000)(x:768≤n∧n≤1048576)(y:a≤1000)(z:Fr.choose (AI Y.l 0) (AI Y.l 1)=.ok t)(A:n=256*t.p)(FJ:1≤Ax∧Ax≤4096)(B:t.m≤t.p∧2≤t.m)(C:t.h=p)(H:2≤p∧p<t.m)(I:Fr.CZ p (AI Y.l p)=true)(J:((AI Y.l p).getD 0 0).toNat=3)(hr:G.record (G.load (AI Y.l p))=some Ah)(hm:max Ah.ju (max Ah.jt Ah.r)<p)(N:1≤Ah.v∧Ah.f≤Ah.v∧Ah.v≤1073741824)(hw:(if Ah.f=0 then Ah.v else Ah.v - Ah.f+1)=want):Calls Tryz.prog 13 #[S Ag,E Ax] w fun e W=>∃g Q i k o,e=.returned (.tuple #[S g,.nilIface])∧Sat (A6 [Bd Ag Ac Al n r a,O Ac [bv Y.l] 111,BU Al]) w [O g [[Be .i32 0],[Be .u32 0],[S Q],[E t.w],[E Ah.f],[E Ah.v],[E Ah.f],[E Ah.ju],[E Ah.jt],[E Ah.r],[E Ah.c],bv Ah.s.l,[E p]] 117,BF Q i k,Bs i Ag t (a+1),Bd Ag Ac Al n o (a+1)] W:=by
 refine Cb j S9 D 28 fun F P=>M ?_
 refine Af (JZ (by kernel_rfl) D false D)<|M ?_
 refine U<|Cx Pd D [0] (H1:=[Bd Ag Ac Al n r a]) (fun w j=>Q6 Ag Ac Al n r a w j)<|Af (fun _ _ R d=>CE R (b:=true) D)<|M ?_
 refine ET (by omega) D D<|M ?_
 refine HF (by omega) D D<|M ?_
 refine U<|?_
 refine Ba QQ D (fun w d=>fa Ag Ac Al n r a Y t Ax p want Ah w (d.Ad (H1:=[Bd Ag Ac Al n r a,O Ac [bv Y.l] 111,BU Al]) [0,1,2]) u x y z A FJ B C H I J hr hm N hw) fun _ e W d ⟨g,Q,i,k,o,he,q⟩=>⟨_,_,he,Sat.call (H1:=[Bd Ag Ac Al n r a,O Ac [bv Y.l] 111,BU Al]) (H2:=[]) (d.pick [0,1,2]) q,?_⟩
 refine Bc D D<|Bc D D<|A7 ?_
 intro W d
 subst P
 exact⟨g,Q,i,k,_,D,d.pick [0,1,2,3]⟩
end Go.Proofs.YtaapafoibofbjaaGreatDoor
namespace Go.Proofs.YtaapafoibofbjaaGreatDoor
open Go.RowKit
variable {w:World} {b:Nat} {ss:List (List Value)}
variable {P:Program} {ops:Array Oper} {Aa:Exit→Act→World→Prop} {N:Nat} {f:BW} {F:Nat→Prop} {w0:World} {H:List Atom} {K:Act→World→Prop}
def Lv(P:Program)(o:Oper):Bool:=match o.op with
 |.load _ _=>true|.store _ _ _=>true|.assign _=>true|.move _=>true|.nilCheck _=>true|.fieldAddr _ _ _=>true|.field _ _ _=>true|.binOp _ _ _ _ _=>true
 |.call c=>match c.callee with
  |.value (.func f)=>match P.funcs[f]? with|some fn=>fn.body.isSome&&!(fn.name== "runtime.NumGoroutine")|none=>false
  |_=>false
 |_=>false
theorem iP{o:Oper}(h:Lv P o=true){a:Operand→Value}(j:∀f,a (.func f)=.func (.func f) #[] #[]){w':World}{d:Deferred}:(execOp a o).run P w≠ .ok (.defer d) w':=by
 intro q
 unfold Lv at h
 split at h
 ·rename_i t x ho
  simp only[execOp,ho,Sem.run_bind]at q
  cases hr:(Instr.loadAt t (a x)).run P w<;>rw[hr]at q<;>simp[Result.andThen]at q
 ·rename_i t x y ho
  simp only[execOp,ho,Sem.run_bind]at q
  cases hr:(Instr.storeAt t (a x) (a y)).run P w<;>rw[hr]at q<;>simp[Result.andThen]at q
 ·rename_i x ho
  simp[execOp,ho]at q
 ·rename_i x ho
  simp[execOp,ho]at q
 ·rename_i x ho
  simp only[execOp,ho]at q
  split at q
  ·cases q
  ·cases q
  ·cases q
  ·split at q
   ·cases q
   ·rename_i t v _
    simp only[Sem.run_bind]at q
    generalize (program.run P w)=EF at q
    cases EF with
    |halt x w'=>cases q
    |ok p e=>
     simp only[Result.andThen]at q
     generalize Sem.run P (nilAhead _ _ _ _) _=Ev at q
     cases Ev with
     |halt x w'=>cases q
     |ok b n=>
      simp only[]at q
      split at q
      ·simp[unsupported,Sem.run,Result.andThen]at q
      ·simp at q
   ·simp at q
  ·simp at q
 ·rename_i t x i ho
  simp only[execOp,ho,Sem.run_bind]at q
  generalize Sem.run P (Instr.fieldAt t (a x) i) w=r at q
  cases r<;>simp[Result.andThen]at q
 ·rename_i t x i ho
  simp only[execOp,ho,Sem.run_bind]at q
  generalize Sem.run P (Instr.field t (a x) i) w=r at q
  cases r<;>simp[Result.andThen]at q
 ·rename_i ho
  simp only[execOp,ho,Sem.run_bind]at q
  generalize Sem.run P (eqGuard _ _ _ _ _ _) w=r at q
  cases r with
  |halt x w'=>simp[Result.andThen]at q
  |ok u e=>
   simp only[Result.andThen]at q
   generalize Sem.run P (binOp _ _ _ _) e=r at q
   cases r<;>simp at q
 ·rename_i c ho
  split at h
  ·rename_i g k
   split at h
   ·rename_i fn l
    rw[Bool.and_eq_true]at h
    have h1:¬fn.name= "runtime.NumGoroutine" :=by have:=h.2;simpa using this
    have m:¬fn.body=none:=by intro z;rw[z]at h;cases h.1
    have hr:(execOp a o).run P w=.ok (.enter g (c.args.map a)) w:=by
     simp[execOp,ho,resolve,k,j,Deferred.ofValue,invoke,callFunc,l,h1,m,mark,go_sem]
    rw[hr]at q
    cases q
   ·cases h
  ·cases h
 ·cases h
theorem YW{CX:List Deferred}{o:Oper}(ho:Lv P o=true){a:Act}{K Ft:Act→World→Prop}(b:∀a w,K a w→Ft (Act.Dm a CX) w)(h:o.wp P a w K (fun e a w=>Aa e (Act.Dm a CX) w)):o.wp P (Act.Dm a CX) w Ft Aa:=by
 unfold Oper.wp at h⊢
 rw[show(Act.Dm a CX).eval=a.eval from D]
 generalize hr:(execOp a.eval o).run P w=r at h⊢
 cases r with
 |ok x w'=>
  cases x with
  |value v=>exact IQ (C:=fun a=>Ft a w') (b _ _ h)
  |skip=>exact IQ (C:=fun a=>Ft a w') (b _ _ h)
  |defer d=>exact(iP ho (fun _=>rfl) hr).elim
  |enter g args=>exact Calls.mono h (fun e w q=>by
    cases e with
    |returned v=>exact IQ (C:=fun a=>Ft a w) (b _ _ q)
    |panicked c=>exact q
    |outgrown=>exact q.elim fun i f=>f.elim fun w' f=>⟨_,w',f⟩)
  |row r args=>exact Rows.mono h (fun v w q=>IQ (C:=fun a=>Ft a w) (b _ _ q))
  |_=>exact h.elim
 |halt x w'=>cases x<;>first|exact h|exact h.elim
theorem TL{CX:List Deferred}:∀(l:List Oper),l.all (Lv P)=true→∀a w,wpList P ops (fun e a w=>Aa e (Act.Dm a CX) w) l a w→wpList P ops Aa l (Act.Dm a CX) w
 |[],_,a,w,h=>h
 |o::l,hl,a,w,h=>by
  rw[List.all_cons,Bool.and_eq_true]at hl
  unfold wpList at h⊢
  by_cases hw:Region.wanted o (yielded ops a.tmps)=true
  ·rw[if_pos hw]at h
   rw[if_pos (show Region.wanted o (yielded ops (Act.Dm a CX).tmps)=true from hw)]
   rcases h with h|⟨h,c,w',b⟩
   ·exact .inl (YW hl.1 (fun a w q=>TL l hl.2 a w q) h)
   ·exact .inr ⟨h,_,w',b⟩
  ·rw[if_neg hw]at h
   rw[if_neg (show¬Region.wanted o (yielded ops (Act.Dm a CX).tmps)=true from hw)]
   exact IQ (C:=fun a=>wpList P ops Aa l a w) (TL l hl.2 _ _ h)
theorem Q3{CX:List Deferred}{BK:World→Prop}(hl:∀(i:Nat) (o:Oper),ops[i]? =some o→Lv P o=true):∀(fuel:Nat) (listed:Array Bool) a w,wpAnyH P .any ops (fun e a w=>Aa e (Act.Dm a CX) w) BK fuel listed a w→wpAnyH P .any ops Aa BK fuel listed (Act.Dm a CX) w
 |0,_,_,_,h=>h
 |fuel+1,listed,a,w,h=>⟨h.1,fun i b=>by
  have h:=h.2 i b
  unfold wpOp at h⊢
  split
  ·rename_i q
   rw[q]at h
   exact⟨h.1,Q3 hl fuel _ _ _ h.2⟩
  ·rename_i o q
   rw[q]at h
   simp only[]at h
   by_cases hw:Region.wanted o (yielded ops a.tmps)=true
   ·rw[if_pos hw]at h
    rw[if_pos (show Region.wanted o (yielded ops (Act.Dm a CX).tmps)=true from hw)]
    rcases h with h|⟨h,d,w',c⟩
    ·exact .inl (YW (hl i o q) (fun a w z=>⟨z.1,Q3 hl fuel _ _ _ z.2⟩) h)
    ·exact .inr ⟨h,_,w',c⟩
   ·rw[if_neg hw]at h
    rw[if_neg (show¬Region.wanted o (yielded ops (Act.Dm a CX).tmps)=true from hw)]
    exact IQ (C:=fun a=>BK w∧wpAnyH P .any ops Aa BK fuel (listed.setIfInBounds i true) a w) ⟨h.1,Q3 hl fuel _ _ _ h.2⟩⟩
section
variable {CX:List Deferred}
theorem Ph{x y:Code}(h:AT N f F w0 H (fun a w=>x.wp P (Exit.then (y.wp P Aa) Aa) (Act.Dm a CX) w)):AT N f F w0 H (fun a w=>(Code.seq x y).wp P Aa (Act.Dm a CX) w):=fun a w b c=>wp_seq (h a w b c)
theorem c0(h:AT N f F w0 H (fun a w=>Aa .normal (Act.Dm a CX) w)):AT N f F w0 H (fun a w=>Code.skip.wp P Aa (Act.Dm a CX) w):=fun a w b c=>wp_skip (h a w b c)
theorem cz{c:Operand}{x y:Code}(V:Aj f c=some (.bool false))(h:AT N f F w0 H (fun a w=>y.wp P Aa (Act.Dm a CX) w)):AT N f F w0 H (fun a w=>(Code.cond c x y).wp P Aa (Act.Dm a CX) w):=fun a w b d=>wp_cond_false (show(Act.Dm a CX).eval c=.bool false from b.A_ V) (h a w b d)
theorem O6(h:AT N f F w0 H (fun a w=>K (Act.Dm a CX) w)):AT N f F w0 H (fun a w=>Exit.then K Aa .normal (Act.Dm a CX) w):=h
theorem YU{id:Nat}{l:List Oper}(h:AT N f F w0 H (wpList P l.toArray (fun e a w=>Aa e (Act.Dm a CX) w) l))(hl:l.all (Lv P)=true:=by kernel_rfl):AT N f F w0 H (fun a w=>(Code.region id l.toArray false).wp P Aa (Act.Dm a CX) w):=fun a w b c=>wp_region_lit (TL l hl a w (h a w b c))
theorem bU{id:Nat}{l:List Oper}(BI:List Nat)(h:Hu P l.toArray (fun e a w=>Aa e (Act.Dm a CX) w) N f F w0 (KF H BI) H l.toArray.size (Array.replicate l.toArray.size false))(hl:l.all (Lv P)=true:=by kernel_rfl)(e:BI.map (fun i=>H[i]?)=(KF H BI).map some:=by exact rfl)(c:BI.Nodup:=by decide)(hm:P.follows .mixedOrders=true:=by kernel_rfl):AT N f F w0 H (fun a w=>(Code.region id l.toArray true).wp P Aa (Act.Dm a CX) w):=fun a w d b=>
 Qr (Sat F w0 (KF H BI)) hm (fun W _ J=>Q3 (fun i o q=>List.all_eq_true.1 hl o (by rw[List.getElem?_toArray]at q;exact List.mem_of_getElem? q)) _ _ a W (h a W d (b.below J) ((b.below J).pick BI e c)))
end
def Zc(P:Program)(fn:Func)(T:Ending→World→Prop):Exit→Act→World→Prop
 |.normal,a,w=>bodyPostD P fn T .normal a w
 |.ret,a,w=>bodyPostD P fn T .ret a w
 |_,_,_=>False
theorem fH{Cf:FuncId}{fn:Func}{c:Code}{args:List Value}{T:Ending→World→Prop}(b:BE H w)(d:P.funcs[Cf]? =some fn)(J:fn.body=some c)(N:Nat)(h:∀F,A6 H=F→AT N (JW args) F w H (c.wp P (Zc P fn T)))(f:args.toArray.size+(fn.ntmps - args.toArray.size)=N:=by kernel_rfl):Calls P Cf args.toArray w T:=
 calls_of_wp_defers d J (Code.wp_mono (fun e a w q=>by cases e<;>first|exact q|exact q.elim) (h _ D _ w (S2 f) (Sat.begin b)))
theorem bj{g:FuncId}{x:Operand}{ts:Array TypeId}{ty:TypeId}{pos:String}{An:Array Edge}{v:Value}(V:Aj f x=some v)(h:AT N f F w0 H (fun a w=>Aa .normal (Act.Dm a [⟨.fn (.func g) #[],#[v]⟩]) w)):AT N f F w0 H (wpList P ops Aa [⟨none,.defer {callee:=.value (.func g),args:=#[x],argTypes:=ts},ty,pos,An,none⟩]):=fun a w b c=>by
 refine wpList_plain D fun K e=>?_
 unfold Oper.wp
 have hr:(execOp a.eval ⟨none,.defer {callee:=.value (.func g),args:=#[x],argTypes:=ts},ty,pos,An,none⟩).run P w=.ok (.defer ⟨.fn (.func g) #[],#[v]⟩) w:=by
  have:=b.A_ V
  simp[execOp,resolve,Deferred.ofValue,go_sem]
  simpa[go_sem]using this
 rw[hr]
 refine e _ _ ?_
 have:=h a w b c
 show Aa .normal {a with defers:=_::a.defers} w
 rw[b.d]
 exact this
theorem Ra{DB v:Value}{T:TypeId}(h:w.heap[b]? =some (.cells (flat ([DB]::ss)) T (0,0))):(w.setCell ⟨b,0,none⟩ v).heap[b]? =some (.cells (flat ([v]::ss)) T (0,0))∧w.grownBy (w.setCell ⟨b,0,none⟩ v) (some b)∧w.cell? ⟨b,0,none⟩=some DB∧w.frozen? ⟨b,0,none⟩=false:=by
 have a:=DC h
 have c:w.heap[b]=.cells (flat ([DB]::ss)) T (0,0):=by
  have:=h
  rw[Array.getElem?_eq_getElem a]at this
  exact Option.some.inj this
 refine⟨?_,⟨D,D,D,by simp,fun k _ d=>Below.heap_setCell w ⟨b,0,none⟩ v k (fun e=>d (by rw[e]))⟩,?_,?_⟩
 ·show(w.heap.modify b _)[b]? =_
  rw[Array.getElem?_eq_getElem (by rw[Array.size_modify];exact a),Array.getElem_modify_self,c]
  rfl
 ·rw[cell_of_row _ _ _ _ _ _ h];simp[flat]
 ·unfold World.frozen?;rw[h];simp
theorem Sat.cell0{DB:Value}(v:Value){T:TypeId}(a:Sat F w0 H w)(i:Nat)(c:H[i]? =some (O b ([DB]::ss) T):=by exact rfl):Sat F w0 (H.set i (O b ([v]::ss) T)) (w.setCell ⟨b,0,none⟩ v):=
 a.set i c (C7.grown (Ra (a.Dq i c)).2.1) (Ra (a.Dq i c)).1 (fun k e=>.inl e)
theorem fv{T:TypeId}(w:World)(d:BE [O b ([Be .i32 0]::ss) T] w):Calls Tryz.prog 28 #[S b] w fun e W=>e=.returned (.tuple #[])∧Sat (A6 [O b ([Be .i32 0]::ss) T]) w [O b ([Be .i32 1]::ss) T] W:=by
 have a:=Sat.begin d
 have c:=Ra (v:=Be .i32 1) (a.Dq 0)
 refine(V9 ⟨b,0,none⟩ w c.2.2.1 c.2.2.2).mono ?_
 rintro e W ⟨rfl,rfl⟩
 exact⟨D,a.cell0 (Be .i32 1) 0⟩
theorem fq{fn:Func}{T:Ending→World→Prop}{t u:Nat}{BA:Value}{c:TypeId}{GO:Nat}{l:List (List Value)}{tb FY:TypeId}{BB:TypeDesc}(hu:Tryz.prog.underlying c=some BB)(j i:Nat)(hj:H[j]? =some (O GO ([Be .i32 1]::l) FY))(y:(H.set j (O GO ([Be .i32 0]::l) FY))[i]? =some (O b ss tb))(V:f t=some (.pointer (some ⟨b,0,none⟩)))(z:f u=some BA)(h:∀w,Sat F w0 (H.set j (O GO ([Be .i32 0]::l) FY)) w→T (.returned (.tuple #[.agg (flat ss),BA])) w){n:Nat}(s1:ss.flatten.length=n:=by exact Jp)(A:(Tryz.prog.info? c).map (·.size)=some n:=by kernel_rfl)(hr:fn.results=#[.cell t c,.tmp u]:=by exact rfl)(Ad:BB.isRow=true:=by exact rfl):
 AT N f F w0 H (fun a w=>Code.ret.wp Tryz.prog (Zc Tryz.prog fn T) (Act.Dm a [⟨.fn (.func 29) #[],#[S GO]⟩]) w):=fun a w k m=>by
 refine wp_ret ?_
 have o:=Ra (v:=Be .i32 0) (m.Dq j hj)
 show Leaves Tryz.prog fn a.tmps T [⟨.fn (.func 29) #[],#[S GO]⟩] .returning w
 refine⟨(by intro q;cases q),_,_,29,#[S GO],rfl,?_,(U3 ⟨GO,0,none⟩ .returning w o.2.2.1 o.2.2.2).mono ?_⟩
 ·have:=Go.Proofs.enters_of (P:=Tryz.prog) X6 (by kernel_rfl) D #[S GO] w
  simp[invoke,this]
 ·rintro e H8 W ⟨rfl,rfl,rfl⟩
  have p:=m.cell0 (Be .i32 0) j hj
  have B:=Md (d:=some 0) (ty:=0) (pos:= "") (An:=#[]) (g:=none) (BN (x:=.tmp t) hu i y V s1 A Ad a _ k p) (k.A_ (x:=.tmp t) V)
  show∃v,(results fn a.tmps).run Tryz.prog _=.ok v _∧T (.returned v) _
  refine⟨_,?_,h _ p⟩
  have r:a.tmps.getD t undef=.pointer (some ⟨b,0,none⟩):=k.h t _ V
  have s:a.tmps.getD u undef=BA:=k.h u _ z
  rw[Array.getD_eq_getD_getElem?]at r s
  have C:(loadVar c ⟨b,0,none⟩).run Tryz.prog (w.setCell ⟨GO,0,none⟩ (.int .i32 0))=.ok (.agg (flat ss)) (w.setCell ⟨GO,0,none⟩ (.int .i32 0)):=B
  simp[results,hr,r,s,asAddr,Result.andThen]
  rw[C]
end Go.Proofs.YtaapafoibofbjaaGreatDoor
