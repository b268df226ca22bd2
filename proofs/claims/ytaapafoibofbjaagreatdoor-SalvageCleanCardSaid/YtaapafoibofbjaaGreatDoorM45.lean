/- Laws and walks on the road to SalvageClean (part M45). No conditions beyond each law's own. -/
import Derived.Test.YtaapafoibofbjaaGreatDoorM01
import Derived.Test.YtaapafoibofbjaaGreatDoorM44
import Derived.Test.YtaapafoibofbjaaGreatDoorM07
import Derived.Test.YtaapafoibofbjaaGreatDoorM12
import Derived.Test.YtaapafoibofbjaaGreatDoorM32
import Derived.Test.YtaapafoibofbjaaGreatDoorM33
set_option linter.unusedVariables false
namespace Go.Proofs.YtaapafoibofbjaaGreatDoor
open Go.RowKit
set_option maxRecDepth 100000
set_option maxHeartbeats 1000000
abbrev BF(Q a b:Nat):Atom:=O Q [[S a],[Value.func (.func 90) #[S a] #[]],[S b],[I none 0 0]] 160
theorem e9{P:Program}{N:Nat}{f:BW}{d:Nat}{ty:TypeId}{pos:String}{An:Array Edge}{g:Option (Nat×Bool)}{F:Nat→Prop}{w0:World}{H:List Atom}{fn:Fn}{x:Operand}{v:Value}(b:Aj f x=some v):BR P N f F w0 H ⟨some d,.makeFunc fn #[x] #[],ty,pos,An,g⟩ (.func fn #[v] #[]):=fun a w c e=>by
 show(execOp a.eval _).run P w=_
 simp[execOp,c.A_ b]
 rfl
theorem Q1(Q b c Ag Ac Al n r a:Nat)(t:Fr.Bu)(w:World)(d:BE [BF Q b c,Bs b Ag t a,Bd Ag Ac Al n r a] w):Calls Tryz.prog 30 #[S Q] w fun e W=>e=.returned (E 0)∧Sat (A6 [BF Q b c,Bs b Ag t a,Bd Ag Ac Al n r a]) w [BF Q b c,Bs b Ag t a,Bd Ag Ac Al n r a] W:=by
 refine Cb d OQ D 8 fun F f=>M ?_
 refine By D<|AG Ld 0 D<|AZ RI 0 0 D D D<|U<|Cx P_ D [1,2] (H1:=[Bs b Ag t a,Bd Ag Ac Al n r a]) (fun w d=>SR b Ag Ac Al n r a t w d)<|A7 ?_
 intro W g
 subst f
 exact⟨D,g.pick [0,1,2]⟩
theorem hJ(Q b c Ag Ac Al n r a:Nat)(t:Fr.Bu)(w:World)(d:BE [BF Q b c,Bs b Ag t a,Bd Ag Ac Al n r a] w)(h:n≤1048576):Calls Tryz.prog 32 #[S Q] w fun e W=>e=.returned (E (n/256))∧Sat (A6 [BF Q b c,Bs b Ag t a,Bd Ag Ac Al n r a]) w [BF Q b c,Bs b Ag t a,Bd Ag Ac Al n r a] W:=by
 refine Cb d VL D 11 fun F f=>M ?_
 refine By D<|AG Ld 0 D<|AZ RI 0 0 D D D<|By D<|AG I1 0 D<|AZ QA 1 0 D D D<|U<|Cx SC D [2] (H1:=[Bd Ag Ac Al n r a]) (fun w d=>Yp Ag Ac Al n r a w d (by omega))<|A7 ?_
 intro W g
 subst f
 exact⟨D,g.pick [0,1,2]⟩
theorem Lw(Q a c Ag:Nat)(t:Fr.Bu)(b:Nat)(w:World)(d:BE [BF Q a c,Bs a Ag t b] w):Calls Tryz.prog 31 #[S Q] w fun e W=>e=.returned (Value.agg (flat [[E t.w],[E t.g],[E t.m],[E t.h],[E t.p]]))∧Sat (A6 [BF Q a c,Bs a Ag t b]) w [BF Q a c,Bs a Ag t b] W:=by
 refine Cb d K6 D 8 fun F f=>Je<|Jh<|U<|Bw [[E 0],[E 0],[E 0],[E 0],[E 0]] fun j=>M ?_
 refine By D<|AG Ld 0 D<|AZ RI 1 0 D D D<|U<|Cx XI D [2] (H1:=[Bs a Ag t b]) (fun w d=>aT a Ag t b w d)<|U<|Bk 0 0 5 D D D<|?_
 refine Jg<|Jf<|Jq<|Fq BM 0 D D fun W i=>?_
 subst f
 exact⟨D,i.pick [1,2]⟩
theorem RS(Q a b Ag:Nat)(t:Fr.Bu)(c:Nat)(w:World)(d:BE [BF Q a b,Bs a Ag t c] w)(hm:t.m≤1048576:=by omega):Calls Tryz.prog 121 #[S Q] w fun e W=>e=.returned (E t.m)∧Sat (A6 [BF Q a b,Bs a Ag t c]) w [BF Q a b,Bs a Ag t c] W:=by
 refine Cb d P1 D 12 fun F f=>M ?_
 refine G9<|AR (AA D)<|KK K6 D [0,1] (H1:=[BF Q a b,Bs a Ag t c]) (fun w d=>Lw Q a b Ag t c w d)<|AR (Io BM 2 D D D AF)<|AR (AA D)<|AR (Bp D)<|AR (AS Ld 3 D)<|AR (Bb XM 0 3 D D D)<|AR (R7 XM D)<|AR (Pc (q:=0) D D)<|AR (Ck D)<|Er<|A7 ?_
 intro W g
 subst f
 exact⟨D,g.pick [0,1]⟩
theorem XT{q:Option Addr}{n c:Nat}{l:List UInt8}{w:World}(V:View w (I q n c) n 1 (bv l))(hl:l.length=n)(f:n≤1048576):Calls Tryz.prog 160 #[I q n c] w fun e W=>∃b d,e=.returned (I b n d)∧W.ownsRow w.heap.size 5 1 (I b n d) n (bv l)∧Below w.heap.size w W:=by
 refine Cg w RT D 5<|M ?_
 refine U<|Dr 5 1 (bv [])<|DI A3 0 (bv l) D D D (Bx V) (Eo _) (EL hl) D fun g h=>A7 ?_
 exact fun W a=>⟨_,_,by rw[Nat.zero_add],by first|exact a.DQ 0|(have q:=a.DQ 0;rw[Nat.zero_add]at q;exact q),a.A0⟩
theorem Vw(a Ag Ac Al n r b Ax:Nat)(t:Fr.Bu)(w:World)(d:BE [Bs a Ag t b,Bd Ag Ac Al n r b] w)(FJ:Ax≤4096):Calls Tryz.prog 51 #[S a,E Ax] w fun e W=>∃Q c g,e=.returned (.tuple #[S Q,E 0])∧Sat (A6 [Bs a Ag t b,Bd Ag Ac Al n r b]) w [BF Q a c,Cj c g Ax (A2 c 2) (A2 c 2) 0 0 0,Ap Tryz.prog 3 Am Cw g 0 (fun _=>none),Bs a Ag t b,Bd Ag Ac Al n r b] W:=by
 refine Cb d Si D 29 fun F h=>M ?_
 refine Af (JZ (by kernel_rfl) D false D)<|M ?_
 refine U<|Cx P_ D [0,1] (H1:=[Bs a Ag t b,Bd Ag Ac Al n r b]) (fun w d=>SR a Ag Ac Al n r b t w d)<|M ?_
 refine Ci D D D<|M ?_
 refine ET (by omega) D D<|M ?_
 refine HF (by omega) D D<|M ?_
 refine U<|Cx WS D [0] (H1:=[Bs a Ag t b]) (fun w d=>a1 a Ag t b w d)<|M ?_
 refine U<|IK (e9 D)<|Jd D<|U<|?_
 refine Ba Yb D (fun w f=>hA Ax w (by omega)) fun _ e W f ⟨c,g,he,q⟩=>⟨_,_,he,f.Nk q,?_⟩
 refine Af (fun _ _ i f=>Cs i (BH:=[(0,(S a)),(1,(Value.func (.func 90) #[S a] #[])),(2,(S c))]) D (v:=Value.agg (flat [[S a],[Value.func (.func 90) #[S a] #[]],[S c],[I none 0 0]])) (run_build _ _ _ _ (by kernel_rfl)))<|U<|Cv D fun Q=>A7 ?_
 intro W f
 subst h
 exact⟨Q,c,g,D,f.pick [0,1,2,3,4]⟩
theorem bA(Q b Ag Ac Al a f n r d Ax h m:Nat)(Y:Ji n)(t:Fr.Bu)(p:Nat)(w:World)(j:BE [BF Q b a,Bs b Ag t d,Bd Ag Ac Al n r d,O Ac [bv Y.l] 111,BU Al,Cj a f Ax (A2 a 2) (A2 a 2) 0 h m,Ap Tryz.prog 3 Am Cw f 0 (fun _=>none)] w)(C:768≤n∧n≤1048576)(J:r≤1048000∧h≤1048000∧m≤1048000∧1≤Ax)(H:2≤p∧p<t.m∧t.m*256≤n)(K:Fr.CZ p (AI Y.l p)=true):Calls Tryz.prog 122 #[S Q,E p] w fun e W=>∃i s u,∃L:BX,L.n=(G.load (AI Y.l p)).length∧e=.returned (.tuple #[E ((AI Y.l p).getD 0 0).toNat,I s (G.load (AI Y.l p)).length u,E 0])∧Sat (A6 [BF Q b a,Bs b Ag t d,Bd Ag Ac Al n r d,O Ac [bv Y.l] 111,BU Al,Cj a f Ax (A2 a 2) (A2 a 2) 0 h m,Ap Tryz.prog 3 Am Cw f 0 (fun _=>none)]) w [BF Q b a,Bs b Ag t d,Bd Ag Ac Al n (r+1) d,O Ac [bv Y.l] 111,BU Al,Cj a f Ax (S i) (S i) 1 h (m+1),Ap Tryz.prog 3 Am Cw f 1 (CF (fun _=>none) p i),Dp i p (((AI Y.l p).getD 0 0).toNat) L (A2 a 2) (A2 a 2),Ae 5 1 (I L.p L.n L.c) L.n (bv (G.load (AI Y.l p))),Ae 5 1 (I s (G.load (AI Y.l p)).length u) (G.load (AI Y.l p)).length (bv (G.load (AI Y.l p)))] W:=by
 have N:(G.load (AI Y.l p)).length≤255:=by
  unfold G.load
  rw[List.length_take]
  have q:=((AI Y.l p).getD 1 0).toNat_lt
  omega
 refine Cb j Pk D 66 fun F y=>M ?_
 refine U<|Cx OQ D [0,1,2] (H1:=[BF Q b a,Bs b Ag t d,Bd Ag Ac Al n r d]) (fun w j=>Q1 Q b a Ag Ac Al n r d t w j)<|M ?_
 refine Ci D D D<|M ?_
 refine ET (by omega) D D<|M ?_
 refine U<|Cx P1 D [0,1] (H1:=[BF Q b a,Bs b Ag t d]) (fun w j=>RS Q b a Ag t d w j)<|Jj D D D<|NB (by omega) D D<|M ?_
 refine By D<|AG Ld 2 D<|AZ Sy 0 2 D D D<|Jd D<|U<|?_
 refine Ba Qf D (fun w g=>b5 a f Ax h m p w (g.Ad (H1:=[Cj a f Ax (A2 a 2) (A2 a 2) 0 h m,Ap Tryz.prog 3 Am Cw f 0 (fun _=>none)]) [5,6]) (by omega)) fun _ e W g ⟨he,q⟩=>⟨_,_,he,Sat.call (H1:=[Cj a f Ax (A2 a 2) (A2 a 2) 0 h m,Ap Tryz.prog 3 Am Cw f 0 (fun _=>none)]) (H2:=[BF Q b a,Bs b Ag t d,Bd Ag Ac Al n r d,O Ac [bv Y.l] 111,BU Al]) (g.pick [5,6,0,1,2,3,4]) q,?_⟩
 refine Jd D<|Bc D D<|Bc D D<|U<|Bw [[E 0],[I none 0 0]] fun x=>U<|Bk 0 0 2 D D D<|?_
 refine M ?_
 refine By D<|AG Ld 1 D<|AZ hb 3 1 D D D<|Jd D<|U<|?_
 refine WA Wi D D D (fun w g=>cM b Ag Ac Al n r d Y t p w (g.Ad (H1:=[Bs b Ag t d,Bd Ag Ac Al n r d,O Ac [bv Y.l] 111,BU Al]) [4,5,6,7]) (by omega) (by omega) (by omega) (by assumption)) (fun _ e W g ⟨z,c2,he,q⟩=>⟨_,_,he,Sat.call (H1:=[Bs b Ag t d,Bd Ag Ac Al n r d,O Ac [bv Y.l] 111,BU Al]) (H2:=[O x [[E 0],[I none 0 0]] 200,Cj a f Ax (A2 a 2) (A2 a 2) 0 h (m+1),Ap Tryz.prog 3 Am Cw f 0 (fun _=>none),BF Q b a]) (g.pick [4,5,6,7,0,1,2,3]) q,?_⟩) (by kernel_rfl) (by kernel_rfl)
 refine Jd D<|Bc D D<|Bc D D<|Bc D D<|M ?_
 refine Ci D D D<|M ?_
 refine CQ [0,1,2,3,4,5,8]<|Ab 0 D (AA D)<|Ab 1 D (Bp D)<|Ab 2 D (AS Ld 2 D)<|Ab 3 D (Bb Sy 6 2 D D D)<|Ab 4 D (AA D)<|Ab 5 D (AA D)<|Ab 6 D (AA D)<|Bh 7 D<|?_
 refine Ba RT D (fun w g=>XT (l:=(G.load (AI Y.l p))) ((BZ 4) w g) D (by omega)) fun _ e W g ⟨k,o,he,A,J⟩=>⟨_,_,he,g.own A J,?_⟩
 refine A8 [1,2,3,4,5,6,9]<|Ab 8 D (fun _ _ B g=>Cs B (BH:=[(0,(E (((AI Y.l p).getD 0 0).toNat))),(1,(I k ((G.load (AI Y.l p)).length) o))]) D (v:=Value.agg (flat [[E (((AI Y.l p).getD 0 0).toNat)],[I k ((G.load (AI Y.l p)).length) o]])) (run_build _ _ _ _ (by kernel_rfl)))<|Bh 9 D<|?_
 refine Ba WW D (fun w g=>gg a f Ax h (m+1) p (((AI Y.l p).getD 0 0).toNat) ⟨k,(G.load (AI Y.l p)).length,o⟩ w (g.Ad (H1:=[Cj a f Ax (A2 a 2) (A2 a 2) 0 h (m+1),Ap Tryz.prog 3 Am Cw f 0 (fun _=>none)]) [7,8]) (by omega) (by omega)) fun _ e W g ⟨i,he,q⟩=>⟨_,_,he,Sat.call (H1:=[Cj a f Ax (A2 a 2) (A2 a 2) 0 h (m+1),Ap Tryz.prog 3 Am Cw f 0 (fun _=>none)]) (H2:=[Ae 5 1 (I k ((G.load (AI Y.l p)).length) o) ((G.load (AI Y.l p)).length) (bv (G.load (AI Y.l p))),Bs b Ag t d,Bd Ag Ac Al n (r+1) d,O Ac [bv Y.l] 111,BU Al,Ae 5 1 (I z ((G.load (AI Y.l p)).length) c2) ((G.load (AI Y.l p)).length) (bv (G.load (AI Y.l p))),O x [[E 0],[I none 0 0]] 200,BF Q b a]) (g.pick [7,8,0,1,2,3,4,5,6,9]) q,?_⟩
 refine A8 [4,5,6,7,8,9,10]<|Cm<|M ?_
 refine Gz D D D fun W g=>?_
 subst y
 exact⟨i,_,_,⟨k,(G.load (AI Y.l p)).length,o⟩,D,D,g.pick [10,4,5,6,7,0,2,1,3,8]⟩
theorem ZJ(Q d Ag Ac Al a g b n r f Ax h m:Nat)(Y:Ji n)(t:Fr.Bu)(p kd:Nat)(L:BX)(B1:List UInt8)(w:World)(j:BE [BF Q d a,Bs d Ag t f,Bd Ag Ac Al n r f,O Ac [bv Y.l] 111,BU Al,Cj a g Ax (S b) (S b) 1 h m,Ap Tryz.prog 3 Am Cw g 1 (CF (fun _=>none) p b),Dp b p kd L (A2 a 2) (A2 a 2),Ae 5 1 (I L.p L.n L.c) L.n (bv B1)] w)(v:768≤n∧n≤1048576)(J:r≤1048000∧h≤1048000∧m≤1048000∧1≤Ax)(x:2≤p∧p<t.m∧t.m*256≤n)(y:L.n≤1048576):Calls Tryz.prog 122 #[S Q,E p] w fun e W=>∃k o,e=.returned (.tuple #[E kd,I k L.n o,E 0])∧Sat (A6 [BF Q d a,Bs d Ag t f,Bd Ag Ac Al n r f,O Ac [bv Y.l] 111,BU Al,Cj a g Ax (S b) (S b) 1 h m,Ap Tryz.prog 3 Am Cw g 1 (CF (fun _=>none) p b),Dp b p kd L (A2 a 2) (A2 a 2),Ae 5 1 (I L.p L.n L.c) L.n (bv B1)]) w [BF Q d a,Bs d Ag t f,Bd Ag Ac Al n r f,O Ac [bv Y.l] 111,BU Al,Cj a g Ax (S b) (S b) 1 (h+1) m,Ap Tryz.prog 3 Am Cw g 1 (CF (fun _=>none) p b),Dp b p kd L (A2 a 2) (A2 a 2),Ae 5 1 (I L.p L.n L.c) L.n (bv B1),Ae 5 1 (I k L.n o) L.n (bv B1)] W:=by
 have z:B1.length=L.n:=De (j.at_ 8 _ D)
 refine Cb j Pk D 66 fun F s=>M ?_
 refine U<|Cx OQ D [0,1,2] (H1:=[BF Q d a,Bs d Ag t f,Bd Ag Ac Al n r f]) (fun w j=>Q1 Q d a Ag Ac Al n r f t w j)<|M ?_
 refine Ci D D D<|M ?_
 refine ET (by omega) D D<|M ?_
 refine U<|Cx P1 D [0,1] (H1:=[BF Q d a,Bs d Ag t f]) (fun w j=>RS Q d a Ag t f w j)<|Jj D D D<|NB (by omega) D D<|M ?_
 refine By D<|AG Ld 2 D<|AZ Sy 0 2 D D D<|Jd D<|U<|?_
 refine Ba Qf D (fun w i=>ax a b g Ax h m p kd L w (i.Ad (H1:=[Cj a g Ax (S b) (S b) 1 h m,Dp b p kd L (A2 a 2) (A2 a 2),Ap Tryz.prog 3 Am Cw g 1 (CF (fun _=>none) p b)]) [5,7,6]) (by omega)) fun _ e W i ⟨he,q⟩=>⟨_,_,he,Sat.call (H1:=[Cj a g Ax (S b) (S b) 1 h m,Dp b p kd L (A2 a 2) (A2 a 2),Ap Tryz.prog 3 Am Cw g 1 (CF (fun _=>none) p b)]) (H2:=[BF Q d a,Bs d Ag t f,Bd Ag Ac Al n r f,O Ac [bv Y.l] 111,BU Al,Ae 5 1 (I L.p L.n L.c) L.n (bv B1)]) (i.pick [5,7,6,0,1,2,3,4,8]) q,?_⟩
 refine Jd D<|Bc D D<|Bc D D<|U<|Bw [[E 0],[I none 0 0]] fun A=>U<|Bk 0 0 2 D D D<|?_
 refine M ?_
 refine CQ [0,1,2,3,4,5,6,7,8,9]<|Ab 0 D (AS Mk 0 D)<|Ab 1 D (Bb AF 0 0 D D D)<|Ab 2 D (AS Mk 1 D)<|Ab 3 D (Bb Co 0 1 D D D)<|Bh 4 D<|?_
 refine Ba RT D (fun w i=>XT (l:=B1) ((BZ 9) w i) (De (i.rw 9)) (by omega)) fun _ e W i ⟨B,c2,he,u,J⟩=>⟨_,_,he,i.own u J,?_⟩
 refine A8 [1,2,3,4,5,6,7,8,9,10]<|Ab 5 D (Ck D)<|Ab 6 D (Ck D)<|Ab 7 D (Ck D)<|Cm<|Jf<|Jq<|JI<|Gz D D D fun W i=>?_
 subst s
 exact⟨_,_,D,i.pick [5,6,7,8,9,2,4,3,10,0]⟩
end Go.Proofs.YtaapafoibofbjaaGreatDoor
