/- Laws and walks on the road to SalvageClean (part M46). No conditions beyond each law's own. -/
import Derived.Test.YtaapafoibofbjaaGreatDoorM01
import Derived.Test.YtaapafoibofbjaaGreatDoorM45
import Derived.Test.YtaapafoibofbjaaGreatDoorM19
set_option linter.unusedVariables false
namespace Go.Proofs.YtaapafoibofbjaaGreatDoor
open Go.RowKit
set_option maxRecDepth 100000
set_option maxHeartbeats 1000000
theorem Yi{P:Program}{N:Nat}{f:BW}{d:Nat}{ty:TypeId}{pos:String}{An:Array Edge}{g:Option (Nat×Bool)}{F:Nat→Prop}{w0:World}{H:List Atom}{t k t2:TypeId}{x y z:Operand}{p q u:Int}(h:Aj f x=some (.int .i64 p))(i:Aj f y=some (.int .i64 q))(j:Aj f z=some (.int .i64 u))(r:Int)(hr:max p (max q u)=r:=by omega):BR P N f F w0 H ⟨some d,.call {callee:=.builtin .max,args:=#[x,y,z],argTypes:=#[t,k,t2]},ty,pos,An,g⟩ (.int .i64 r):=fun a w b l=>by
 show(execOp a.eval _).run P w=_
 have e:(if u>(if q>p then q else p)then u else(if q>p then q else p))=r:=by rw[←hr];split<;>split<;>omega
 by_cases c:q>p
 ·rw[if_pos c]at e
  simp[execOp,resolve,invoke,builtin,b.A_ h,b.A_ i,b.A_ j,Builtin.max_,Builtin.max2,c,e]
 ·rw[if_neg c]at e
  simp[execOp,resolve,invoke,builtin,b.A_ h,b.A_ i,b.A_ j,Builtin.max_,Builtin.max2,c,e]
theorem QB(Q b f Ag Ac Al n r c:Nat)(t:Fr.Bu)(p:Nat)(g:Option Addr)(h:Nat)(w:World)(j:BE [BF Q b f,Bs b Ag t c,Bd Ag Ac Al n r c,Ae 3 1 (I g 1 h) 1 (Aq Bm ([p]))] w)(G:t.m≤4096:=by omega)(H:p=0∨2≤p∧p<t.m:=by omega):Calls Tryz.prog 92 #[S Q,I g 1 h] w fun e W=>e=.returned (E 0)∧Sat (A6 [BF Q b f,Bs b Ag t c,Bd Ag Ac Al n r c,Ae 3 1 (I g 1 h) 1 (Aq Bm ([p]))]) w [BF Q b f,Bs b Ag t c,Bd Ag Ac Al n r c,Ae 3 1 (I g 1 h) 1 (Aq Bm ([p]))] W:=by
 refine Cb j O7 D 34 fun F s=>M ?_
 refine Af (JZ (by kernel_rfl) D false D)<|M ?_
 refine U<|Cx OQ D [0,1,2] (H1:=[BF Q b f,Bs b Ag t c,Bd Ag Ac Al n r c]) (fun w j=>Q1 Q b f Ag Ac Al n r c t w j)<|M ?_
 refine JU D D<|Jg<|Jf<|HI D (fun v=>?_) fun v=>?_
 ·
  refine A7 ?_
  intro W d
  subst s
  exact⟨D,d.pick [0,1,2,3]⟩
 refine M ?_
 refine Cr Gd D<|M ?_
 refine DL (fun x a W=>∃(k:Nat),x=1 - k+0∧AH 34 a (Jb (Jb (Jb (Jb Jk 0 (S Q)) 15 (I g 1 h)) 16 (E 1)) 17 (E k))∧Sat F w [BF Q b f,Bs b Ag t c,Bd Ag Ac Al n r c,Ae 3 1 (I g 1 h) 1 (Aq Bm ([p]))] W∧k≤1) (fun a W i d=>⟨0,D,AY i,d.pick [0,1,2,3],by omega⟩) ?_
 rintro _ a W ⟨k,rfl,i,d,J⟩;revert a W
 refine Je<|Jh<|Ej D D<|Jg<|Jf<|Je<|Cz D (fun y=>?_) fun y=>?_
 ·
  refine M ?_
  refine Vh Gj 3 k fun u l=>Af (Dj G0 k k (BZ 3) D D)<|Af (J1 AF Gj k l (BZ 3) D D)<|M ?_
  refine Li D D (fun z=>?_) fun z=>?_
  ·
   refine M ?_
   refine B6 (q:=1) D D<|M ?_
   exact fun a W i d=>⟨_,by omega,k+1,D,AY i,d.pick [0,1,2,3],by omega⟩
  refine M ?_
  refine GV D D (fun A=>?_) fun A=>?_
  ·
   refine A7 ?_
   intro W d
   exfalso
   have o:k=0:=by omega
   subst o
   have B:p=u:=by simpa using l
   omega
  refine M ?_
  refine U<|Cx P1 D [0,1] (H1:=[BF Q b f,Bs b Ag t c]) (fun w j=>RS Q b f Ag t c w j)<|Jj D D D<|Pm D D (fun C=>?_) fun C=>?_
  ·
   refine A7 ?_
   intro W d
   exfalso
   have o:k=0:=by omega
   subst o
   have B:p=u:=by simpa using l
   omega
  refine M ?_
  refine B6 (q:=1) D D<|M ?_
  exact fun a W i d=>⟨_,by omega,k+1,D,AY i,d.pick [0,1,2,3],by omega⟩
 refine A7 ?_
 intro W d
 subst s
 exact⟨D,d.pick [0,1,2,3]⟩
theorem gT(Q b Ag Ac Al a d n r g Ax h m:Nat)(Y:Ji n)(t:Fr.Bu)(p:Nat)(Ah:B9)(w:World)(u:BE [BF Q b a,Bs b Ag t g,Bd Ag Ac Al n r g,O Ac [bv Y.l] 111,BU Al,Cj a d Ax (A2 a 2) (A2 a 2) 0 h m,Ap Tryz.prog 3 Am Cw d 0 (fun _=>none)] w)(B:768≤n∧n≤1048576)(J:r≤1047000∧h≤1047000∧m≤1047000∧1≤Ax)(C:2≤p∧p<t.m∧t.m*256≤n)(x:Fr.CZ p (AI Y.l p)=true)(H:((AI Y.l p).getD 0 0).toNat=3)(hr:G.record (G.load (AI Y.l p))=some Ah)(hm:max Ah.ju (max Ah.jt Ah.r)<p):Calls Tryz.prog 93 #[S Q,E p] w fun e W=>∃(j:Nat) (L:BX),L.n=(G.load (AI Y.l p)).length∧e=.returned (.tuple #[Value.agg (flat [[E p],[E Ah.v],[E Ah.f],[E Ah.ju],[E Ah.jt],[E Ah.r],[E Ah.c],bv Ah.s.l]),E 0])∧Sat (A6 [BF Q b a,Bs b Ag t g,Bd Ag Ac Al n r g,O Ac [bv Y.l] 111,BU Al,Cj a d Ax (A2 a 2) (A2 a 2) 0 h m,Ap Tryz.prog 3 Am Cw d 0 (fun _=>none)]) w [BF Q b a,Bs b Ag t g,Bd Ag Ac Al n (r+1) g,O Ac [bv Y.l] 111,BU Al,Cj a d Ax (S j) (S j) 1 h (m+1),Ap Tryz.prog 3 Am Cw d 1 (CF (fun _=>none) p j),Dp j p (((AI Y.l p).getD 0 0).toNat) L (A2 a 2) (A2 a 2),Ae 5 1 (I L.p L.n L.c) L.n (bv (G.load (AI Y.l p)))] W:=by
 have K:(G.load (AI Y.l p)).length≤255:=by
  unfold G.load
  rw[List.length_take]
  have q:=((AI Y.l p).getD 1 0).toNat_lt
  omega
 refine Cb u PM D 46 fun F y=>Je<|Jh<|U<|Bw [[E 0],[E 0],[E 0],[E 0],[E 0],[E 0],[E 0],Ak 32] fun z=>M ?_
 refine U<|?_
 refine Ba Pk D (fun w i=>bA Q b Ag Ac Al a d n r g Ax h m Y t p w (i.Ad (H1:=[BF Q b a,Bs b Ag t g,Bd Ag Ac Al n r g,O Ac [bv Y.l] 111,BU Al,Cj a d Ax (A2 a 2) (A2 a 2) 0 h m,Ap Tryz.prog 3 Am Cw d 0 (fun _=>none)]) [1,2,3,4,5,6,7]) (by omega) (by omega) (by omega) x) fun _ e W i ⟨j,N,P,L,G4,he,q⟩=>⟨_,_,he,Sat.call (H1:=[BF Q b a,Bs b Ag t g,Bd Ag Ac Al n r g,O Ac [bv Y.l] 111,BU Al,Cj a d Ax (A2 a 2) (A2 a 2) 0 h m,Ap Tryz.prog 3 Am Cw d 0 (fun _=>none)]) (H2:=[O z [[E 0],[E 0],[E 0],[E 0],[E 0],[E 0],[E 0],Ak 32] 203]) (i.pick [1,2,3,4,5,6,7,0]) q,?_⟩
 refine Jd D<|Bc D D<|Bc D D<|Bc D D<|M ?_
 refine Ci D D D<|M ?_
 refine Ci (by omega) D D<|M ?_
 refine U<|BP KJ D (fun w i=>(MV (l:=(G.load (AI Y.l p))) ((BZ 9) w i) D).mono (fun e W q=>⟨q.1.trans (by rw[hr]),q.2⟩))<|Jd D<|Bc D D<|Bc D D<|U<|Bw [[E 0],[E 0],[E 0],[E 0],[E 0],[E 0],Ak 32] fun R=>U<|Bk 0 0 7 D D D<|?_
 refine M ?_
 refine Ci D D D<|M ?_
 refine AG Bv 2 D<|Jj D D D<|AZ AF 0 2 D D D<|Jj D D D<|AG Bv 3 D<|Jj D D D<|AZ AF 0 3 D D D<|Jj D D D<|AG Bv 4 D<|Jj D D D<|AZ AF 0 4 D D D<|Jj D D D<|Af (Yi D D D (((max Ah.ju (max Ah.jt Ah.r)):Nat):Int))<|M ?_
 refine NB (by omega) D D<|M ?_
 refine Af (BN Bv 0 D D)<|Af (fun _ _ A i=>E_ A (BH:=[(0,(E p)),(1,(Value.agg (flat [[E Ah.v],[E Ah.f],[E Ah.ju],[E Ah.jt],[E Ah.r],[E Ah.c],bv Ah.s.l])))]) D (r:=flat [[E p],[E Ah.v],[E Ah.f],[E Ah.ju],[E Ah.jt],[E Ah.r],[E Ah.c],bv Ah.s.l]) (E5 G1 (ss:=[[E 0],[E 0],[E 0],[E 0],[E 0],[E 0],[E 0],Ak 32]) (by kernel_rfl) (places:=[(0,1),(1,38)]) (by kernel_rfl) (B3 [] [[E 0]] [[E 0],[E 0],[E 0],[E 0],[E 0],[E 0],Ak 32] [[E p]] D Ja.nil (Ja.one Ja.nil) (Ja.one Ja.nil) D (B3 [[E p]] [[E 0],[E 0],[E 0],[E 0],[E 0],[E 0],Ak 32] [] [[E Ah.v],[E Ah.f],[E Ah.ju],[E Ah.jt],[E Ah.r],[E Ah.c],bv Ah.s.l] D (Ja.one Ja.nil) (Ja.one (Ja.one (Ja.one (Ja.one (Ja.one (Ja.one (Ja.row (Jl 32) Ja.nil))))))) (Ja.one (Ja.one (Ja.one (Ja.one (Ja.one (Ja.one (Ja.row Ah.s.row Ja.nil))))))) D D))))<|U<|Bk 11 0 8 D D D<|?_
 refine M ?_
 refine Gl G1 11 D D D fun W i=>?_
 subst y
 exact⟨j,L,G4,D,i.pick [1,2,3,4,5,6,7,8,9]⟩
theorem gj(Q d Ag Ac Al a g b n r i Ax h m:Nat)(Y:Ji n)(t:Fr.Bu)(p:Nat)(Ah:B9)(L:BX)(w:World)(u:BE [BF Q d a,Bs d Ag t i,Bd Ag Ac Al n r i,O Ac [bv Y.l] 111,BU Al,Cj a g Ax (S b) (S b) 1 h m,Ap Tryz.prog 3 Am Cw g 1 (CF (fun _=>none) p b),Dp b p (((AI Y.l p).getD 0 0).toNat) L (A2 a 2) (A2 a 2),Ae 5 1 (I L.p L.n L.c) L.n (bv (G.load (AI Y.l p)))] w)(A:768≤n∧n≤1048576)(J:r≤1047000∧h≤1047000∧m≤1047000∧1≤Ax)(B:2≤p∧p<t.m∧t.m*256≤n)(G4:L.n=(G.load (AI Y.l p)).length)(C:((AI Y.l p).getD 0 0).toNat=3)(hr:G.record (G.load (AI Y.l p))=some Ah)(hm:max Ah.ju (max Ah.jt Ah.r)<p):Calls Tryz.prog 93 #[S Q,E p] w fun e W=>e=.returned (.tuple #[Value.agg (flat [[E p],[E Ah.v],[E Ah.f],[E Ah.ju],[E Ah.jt],[E Ah.r],[E Ah.c],bv Ah.s.l]),E 0])∧Sat (A6 [BF Q d a,Bs d Ag t i,Bd Ag Ac Al n r i,O Ac [bv Y.l] 111,BU Al,Cj a g Ax (S b) (S b) 1 h m,Ap Tryz.prog 3 Am Cw g 1 (CF (fun _=>none) p b),Dp b p (((AI Y.l p).getD 0 0).toNat) L (A2 a 2) (A2 a 2),Ae 5 1 (I L.p L.n L.c) L.n (bv (G.load (AI Y.l p)))]) w [BF Q d a,Bs d Ag t i,Bd Ag Ac Al n r i,O Ac [bv Y.l] 111,BU Al,Cj a g Ax (S b) (S b) 1 (h+1) m,Ap Tryz.prog 3 Am Cw g 1 (CF (fun _=>none) p b),Dp b p (((AI Y.l p).getD 0 0).toNat) L (A2 a 2) (A2 a 2),Ae 5 1 (I L.p L.n L.c) L.n (bv (G.load (AI Y.l p)))] W:=by
 have H:(G.load (AI Y.l p)).length≤255:=by
  unfold G.load
  rw[List.length_take]
  have q:=((AI Y.l p).getD 1 0).toNat_lt
  omega
 refine Cb u PM D 46 fun F x=>Je<|Jh<|U<|Bw [[E 0],[E 0],[E 0],[E 0],[E 0],[E 0],[E 0],Ak 32] fun y=>M ?_
 refine U<|?_
 refine Ba Pk D (fun w j=>ZJ Q d Ag Ac Al a g b n r i Ax h m Y t p (((AI Y.l p).getD 0 0).toNat) L (G.load (AI Y.l p)) w (j.Ad (H1:=[BF Q d a,Bs d Ag t i,Bd Ag Ac Al n r i,O Ac [bv Y.l] 111,BU Al,Cj a g Ax (S b) (S b) 1 h m,Ap Tryz.prog 3 Am Cw g 1 (CF (fun _=>none) p b),Dp b p (((AI Y.l p).getD 0 0).toNat) L (A2 a 2) (A2 a 2),Ae 5 1 (I L.p L.n L.c) L.n (bv (G.load (AI Y.l p)))]) [1,2,3,4,5,6,7,8,9]) (by omega) (by omega) (by omega) (by omega)) fun _ e W j ⟨K,N,he,q⟩=>⟨_,_,he,Sat.call (H1:=[BF Q d a,Bs d Ag t i,Bd Ag Ac Al n r i,O Ac [bv Y.l] 111,BU Al,Cj a g Ax (S b) (S b) 1 h m,Ap Tryz.prog 3 Am Cw g 1 (CF (fun _=>none) p b),Dp b p (((AI Y.l p).getD 0 0).toNat) L (A2 a 2) (A2 a 2),Ae 5 1 (I L.p L.n L.c) L.n (bv (G.load (AI Y.l p)))]) (H2:=[O y [[E 0],[E 0],[E 0],[E 0],[E 0],[E 0],[E 0],Ak 32] 203]) (j.pick [1,2,3,4,5,6,7,8,9,0]) q,?_⟩
 refine Jd D<|Bc D D<|Bc D D<|Bc D D<|M ?_
 refine Ci D D D<|M ?_
 refine Ci (by omega) D D<|M ?_
 refine U<|BP KJ D (fun w j=>(MV (l:=(G.load (AI Y.l p))) ((BZ 9) w j) G4.symm).mono (fun e W q=>⟨q.1.trans (by rw[hr]),q.2⟩))<|Jd D<|Bc D D<|Bc D D<|U<|Bw [[E 0],[E 0],[E 0],[E 0],[E 0],[E 0],Ak 32] fun P=>U<|Bk 0 0 7 D D D<|?_
 refine M ?_
 refine Ci D D D<|M ?_
 refine AG Bv 2 D<|Jj D D D<|AZ AF 0 2 D D D<|Jj D D D<|AG Bv 3 D<|Jj D D D<|AZ AF 0 3 D D D<|Jj D D D<|AG Bv 4 D<|Jj D D D<|AZ AF 0 4 D D D<|Jj D D D<|Af (Yi D D D (((max Ah.ju (max Ah.jt Ah.r)):Nat):Int))<|M ?_
 refine NB (by omega) D D<|M ?_
 refine Af (BN Bv 0 D D)<|Af (fun _ _ z j=>E_ z (BH:=[(0,(E p)),(1,(Value.agg (flat [[E Ah.v],[E Ah.f],[E Ah.ju],[E Ah.jt],[E Ah.r],[E Ah.c],bv Ah.s.l])))]) D (r:=flat [[E p],[E Ah.v],[E Ah.f],[E Ah.ju],[E Ah.jt],[E Ah.r],[E Ah.c],bv Ah.s.l]) (E5 G1 (ss:=[[E 0],[E 0],[E 0],[E 0],[E 0],[E 0],[E 0],Ak 32]) (by kernel_rfl) (places:=[(0,1),(1,38)]) (by kernel_rfl) (B3 [] [[E 0]] [[E 0],[E 0],[E 0],[E 0],[E 0],[E 0],Ak 32] [[E p]] D Ja.nil (Ja.one Ja.nil) (Ja.one Ja.nil) D (B3 [[E p]] [[E 0],[E 0],[E 0],[E 0],[E 0],[E 0],Ak 32] [] [[E Ah.v],[E Ah.f],[E Ah.ju],[E Ah.jt],[E Ah.r],[E Ah.c],bv Ah.s.l] D (Ja.one Ja.nil) (Ja.one (Ja.one (Ja.one (Ja.one (Ja.one (Ja.one (Ja.row (Jl 32) Ja.nil))))))) (Ja.one (Ja.one (Ja.one (Ja.one (Ja.one (Ja.one (Ja.row Ah.s.row Ja.nil))))))) D D))))<|U<|Bk 11 0 8 D D D<|?_
 refine M ?_
 refine Gl G1 11 D D D fun W j=>?_
 subst x
 exact⟨D,j.pick [1,2,3,4,5,6,7,8,9]⟩
theorem ds(Q a b Ag:Nat)(t:Fr.Bu)(c:Nat)(w:World)(g:BE [BF Q a b,Bs a Ag t c] w)(A5:CG w)(h:∀k,CB k→¬A6 [BF Q a b,Bs a Ag t c] k)(hw:t.w≤32):Calls Tryz.prog 123 #[S Q] w fun e W=>e=.returned (Value.agg (flat [[E 0],[E 0],[E 0],[E 0],[E 0],[E 0],bv (AL.bare t.w 256).l]))∧Sat (A6 [BF Q a b,Bs a Ag t c]) w [BF Q a b,Bs a Ag t c] W:=by
 have i:∀F,A6 [BF Q a b,Bs a Ag t c]=F→∀k,CB k→¬F k:=fun F d k j q=>h k j (d▸q)
 refine Cb g Ze D 8 fun F d=>Je<|Jh<|U<|Bw [[E 0],[E 0],[E 0],[E 0],[E 0],[E 0],Ak 32] fun n=>M ?_
 refine U<|Cx K6 D [1,2] (H1:=[BF Q a b,Bs a Ag t c]) (fun w g=>Lw Q a b Ag t c w g)<|Af (Io BM 0 D D D AF)<|U<|BP RB D (fun w f=>VB t.w 256 w (A5.sat f (i F d)) (by omega) (by omega))<|Af (fun _ _ m f=>E_ m (BH:=[(6,(Value.agg (flat [bv (AL.bare t.w 256).l])))]) D (r:=flat [[E 0],[E 0],[E 0],[E 0],[E 0],[E 0],bv (AL.bare t.w 256).l]) (E5 Bv (ss:=[[E 0],[E 0],[E 0],[E 0],[E 0],[E 0],Ak 32]) (by kernel_rfl) (places:=[(0,1),(1,1),(2,1),(3,1),(4,1),(5,1),(6,32)]) (by kernel_rfl) (B3 [[E 0],[E 0],[E 0],[E 0],[E 0],[E 0]] [Ak 32] [] [bv (AL.bare t.w 256).l] D (Ja.one (Ja.one (Ja.one (Ja.one (Ja.one (Ja.one Ja.nil)))))) (Ja.row (Jl 32) Ja.nil) (Ja.row (AL.bare t.w 256).row Ja.nil) D D)))<|U<|Bk 0 0 7 D D D<|?_
 refine Jg<|Jf<|Jq<|Fq Bv 0 D D fun W f=>?_
 subst d
 exact⟨D,f.pick [1,2]⟩
theorem gd(Q a c Ag Ac Al n r b:Nat)(t:Fr.Bu)(w:World)(d:BE [BF Q a c,Bs a Ag t b,Bd Ag Ac Al n r b] w)(i:t.m≤4096):Calls Tryz.prog 52 #[S Q,E 0] w fun e W=>e=.returned (.tuple #[E 0,E 0,E 0])∧Sat (A6 [BF Q a c,Bs a Ag t b,Bd Ag Ac Al n r b]) w [BF Q a c,Bs a Ag t b,Bd Ag Ac Al n r b] W:=by
 refine Cb d Qd D 34 fun F g=>M ?_
 refine U<|Ey G0 (Aq Bm [0]) D D D fun f=>U<|Cx O7 D [1,2,3,0] (H1:=[BF Q a c,Bs a Ag t b,Bd Ag Ac Al n r b,Ae 3 1 (I f 1 1) 1 (Aq Bm ([0]))]) (fun w d=>QB Q a c Ag Ac Al n r b t 0 f 1 w d)<|M ?_
 refine Ci D D D<|M ?_
 refine EU D D D<|M ?_
 refine Gz D D D fun W h=>?_
 subst g
 exact⟨D,h.pick [1,2,3]⟩
theorem gM(Q b Ag Ac Al a g n r d Ax h m:Nat)(Y:Ji n)(t:Fr.Bu)(p:Nat)(Ah:B9)(w:World)(k:BE [BF Q b a,Bs b Ag t d,Bd Ag Ac Al n r d,O Ac [bv Y.l] 111,BU Al,Cj a g Ax (A2 a 2) (A2 a 2) 0 h m,Ap Tryz.prog 3 Am Cw g 0 (fun _=>none)] w)(y:768≤n∧n≤1048576)(J:r≤1047000∧h≤1047000∧m≤1047000∧1≤Ax)(z:2≤p∧p<t.m∧t.m*256≤n)(A:t.m≤4096)(s:Fr.CZ p (AI Y.l p)=true)(u:((AI Y.l p).getD 0 0).toNat=3)(hr:G.record (G.load (AI Y.l p))=some Ah)(hm:max Ah.ju (max Ah.jt Ah.r)<p):Calls Tryz.prog 52 #[S Q,E p] w fun e W=>∃(i:Nat) (L:BX),L.n=(G.load (AI Y.l p)).length∧e=.returned (.tuple #[E Ah.f,E Ah.v,E 0])∧Sat (A6 [BF Q b a,Bs b Ag t d,Bd Ag Ac Al n r d,O Ac [bv Y.l] 111,BU Al,Cj a g Ax (A2 a 2) (A2 a 2) 0 h m,Ap Tryz.prog 3 Am Cw g 0 (fun _=>none)]) w [BF Q b a,Bs b Ag t d,Bd Ag Ac Al n (r+1) d,O Ac [bv Y.l] 111,BU Al,Cj a g Ax (S i) (S i) 1 h (m+1),Ap Tryz.prog 3 Am Cw g 1 (CF (fun _=>none) p i),Dp i p (((AI Y.l p).getD 0 0).toNat) L (A2 a 2) (A2 a 2),Ae 5 1 (I L.p L.n L.c) L.n (bv (G.load (AI Y.l p)))] W:=by
 refine Cb k Qd D 34 fun F x=>M ?_
 refine U<|Ey G0 (Aq Bm [p]) D D D fun o=>U<|Cx O7 D [1,2,3,0] (H1:=[BF Q b a,Bs b Ag t d,Bd Ag Ac Al n r d,Ae 3 1 (I o 1 1) 1 (Aq Bm ([p]))]) (fun w k=>QB Q b a Ag Ac Al n r d t p o 1 w k)<|M ?_
 refine Ci D D D<|M ?_
 refine Gi (by omega) D D<|M ?_
 refine U<|?_
 refine Ba PM D (fun w j=>gT Q b Ag Ac Al a g n r d Ax h m Y t p Ah w (j.Ad (H1:=[BF Q b a,Bs b Ag t d,Bd Ag Ac Al n r d,O Ac [bv Y.l] 111,BU Al,Cj a g Ax (A2 a 2) (A2 a 2) 0 h m,Ap Tryz.prog 3 Am Cw g 0 (fun _=>none)]) [1,2,3,4,5,6,7]) (by omega) (by omega) (by omega) s u hr hm) fun _ e W j ⟨i,L,G4,he,q⟩=>⟨_,_,he,Sat.call (H1:=[BF Q b a,Bs b Ag t d,Bd Ag Ac Al n r d,O Ac [bv Y.l] 111,BU Al,Cj a g Ax (A2 a 2) (A2 a 2) 0 h m,Ap Tryz.prog 3 Am Cw g 0 (fun _=>none)]) (H2:=[Ae 3 1 (I o 1 1) 1 (Aq Bm ([p]))]) (j.pick [1,2,3,4,5,6,7,0]) q,?_⟩
 refine Jd D<|Bc D D<|Bc D D<|U<|Bw [[E 0],[E 0],[E 0],[E 0],[E 0],[E 0],[E 0],Ak 32] fun H=>U<|Bk 0 0 8 D D D<|?_
 refine M ?_
 refine Ci D D D<|M ?_
 refine GR<|zs (AS G1 1 D)<|zs (AS Bv 2 D)<|zs (Bb AF 0 2 D D D)<|zs (AS G1 1 D)<|zs (AS Bv 1 D)<|zs (Bb AF 0 1 D D D)<|zs (Ck D)<|zs (Ck D)<|zs (Ck D)<|CS<|Jf<|Jq<|Gz D D D fun W j=>?_
 subst x
 exact⟨i,L,G4,D,j.pick [1,2,3,4,5,6,7,8,9]⟩
end Go.Proofs.YtaapafoibofbjaaGreatDoor
