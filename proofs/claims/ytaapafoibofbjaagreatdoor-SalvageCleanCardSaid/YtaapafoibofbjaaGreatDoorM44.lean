/- Laws and walks on the road to SalvageClean (part M44). No conditions beyond each law's own. -/
import Derived.Test.YtaapafoibofbjaaGreatDoorM01
import Derived.Test.YtaapafoibofbjaaGreatDoorM43
import Derived.Test.YtaapafoibofbjaaGreatDoorM07
import Derived.Test.YtaapafoibofbjaaGreatDoorM12
import Derived.Test.YtaapafoibofbjaaGreatDoorM32
import Derived.Test.YtaapafoibofbjaaGreatDoorM33
set_option linter.unusedVariables false
namespace Go.Proofs.YtaapafoibofbjaaGreatDoor
open Go.RowKit
set_option maxRecDepth 100000
set_option maxHeartbeats 1000000
abbrev Bs(a Ag:Nat)(t:Fr.Bu)(b:Nat):Atom:=O a [[S Ag],[E t.w],[E t.g],[E t.m],[E t.h],[E t.p],[E t.m],[E b]] 162
theorem gZ(Ag Ac Al n r c:Nat)(Y:Ji n)(t:Fr.Bu)(w:World)(d:BE [Bd Ag Ac Al n r c,O Ac [bv Y.l] 111,BU Al] w)(hr:r≤1048500)(s:768≤n∧n≤1048576)(i:Fr.choose (AI Y.l 0) (AI Y.l 1)=.ok t):Calls Tryz.prog 87 #[S Ag] w fun e W=>e=.returned (.tuple #[Value.agg (flat [[E t.w],[E t.g],[E t.m],[E t.h],[E t.p]]),E 0])∧Sat (A6 [Bd Ag Ac Al n r c,O Ac [bv Y.l] 111,BU Al]) w [Bd Ag Ac Al n (r+2) c,O Ac [bv Y.l] 111,BU Al] W:=by
 refine Cb d VC D 34 fun F j=>Je<|Jh<|U<|Bw [[E 0],[E 0],[E 0],[E 0],[E 0]] fun f=>M ?_
 refine U<|Cx Pd D [1] (H1:=[Bd Ag Ac Al n r c]) (fun w d=>Q6 Ag Ac Al n r c w d)<|Af (fun _ _ k a=>CE k (b:=true) D)<|M ?_
 refine U<|?_
 refine Ba Ps D (fun w a=>SS Ag Ac Al n r c Y 0 w (a.Ad (H1:=[Bd Ag Ac Al n r c,O Ac [bv Y.l] 111,BU Al]) [1,2,3])) fun _ e W a ⟨o,c2,he,q⟩=>⟨_,_,he,Sat.call (H1:=[Bd Ag Ac Al n r c,O Ac [bv Y.l] 111,BU Al]) (H2:=[O f [[E 0],[E 0],[E 0],[E 0],[E 0]] 68]) (a.pick [1,2,3,0]) q,?_⟩
 refine Jd D<|Bc D D<|Bc D D<|M ?_
 refine Ci D D D<|M ?_
 refine U<|?_
 refine Ba Ps D (fun w a=>SS Ag Ac Al n (r+1) c Y 1 w (a.Ad (H1:=[Bd Ag Ac Al n (r+1) c,O Ac [bv Y.l] 111,BU Al]) [0,1,2])) fun _ e W a ⟨u,v,he,q⟩=>⟨_,_,he,Sat.call (H1:=[Bd Ag Ac Al n (r+1) c,O Ac [bv Y.l] 111,BU Al]) (H2:=[Ae 5 1 (I o 256 c2) 256 (bv (AI Y.l 0)),O f [[E 0],[E 0],[E 0],[E 0],[E 0]] 68]) (a.pick [0,1,2,3,4]) q,?_⟩
 refine Jd D<|Bc D D<|Bc D D<|M ?_
 refine Ci D D D<|M ?_
 refine U<|BP OJ D (fun w a=>(choose_spec _ _ _ _ (AI Y.l 0) (AI Y.l 1) w ((BZ 4) w a) (En (by rw[Y.h];omega)) ((BZ 3) w a) (En (by rw[Y.h];omega))).mono (fun e W q=>⟨q.1.trans (show _=Ending.returned (Value.tuple #[Value.agg (flat [[E t.w],[E t.g],[E t.m],[E t.h],[E t.p]]),E 0])from by rw[i];rfl),q.2⟩))<|Bc D D<|Bc D D<|U<|Bk 5 0 5 D D D<|?_
 refine M ?_
 refine Gl BM 5 D D D fun W a=>?_
 subst j
 exact⟨D,a.pick [0,1,2]⟩
theorem Wb(Ag Ac Al n r a:Nat)(Y:Ji n)(t:Fr.Bu)(w:World)(c:BE [Bd Ag Ac Al n r a,O Ac [bv Y.l] 111,BU Al] w)(hr:r≤1048500)(s:768≤n∧n≤1048576)(u:a≤1048500)(f:Fr.choose (AI Y.l 0) (AI Y.l 1)=.ok t)(v:n=256*t.p):Calls Tryz.prog 50 #[S Ag] w fun e W=>∃d,e=.returned (.tuple #[S d,E 0])∧Sat (A6 [Bd Ag Ac Al n r a,O Ac [bv Y.l] 111,BU Al]) w [Bs d Ag t (a+1),Bd Ag Ac Al n (r+2) (a+1),O Ac [bv Y.l] 111,BU Al] W:=by
 refine Cb c Ty D 29 fun F i=>M ?_
 refine Af (JZ (by kernel_rfl) D false D)<|M ?_
 refine U<|?_
 refine Ba VC D (fun w b=>gZ Ag Ac Al n r a Y t w (b.Ad (H1:=[Bd Ag Ac Al n r a,O Ac [bv Y.l] 111,BU Al]) [0,1,2]) (by omega) (by omega) f) fun _ e W b ⟨he,q⟩=>⟨_,_,he,Sat.call (H1:=[Bd Ag Ac Al n r a,O Ac [bv Y.l] 111,BU Al]) (H2:=[]) (b.pick [0,1,2]) q,?_⟩
 refine Jd D<|Bc D D<|Bc D D<|U<|Bw [[E 0],[E 0],[E 0],[E 0],[E 0]] fun j=>U<|Bk 0 0 5 D D D<|?_
 refine M ?_
 refine Ci D D D<|M ?_
 refine G9<|AR (AS BM 4 D)<|AR (Bb AF 0 4 D D D)<|AR (AA D)<|KK SC D [1] (H1:=[Bd Ag Ac Al n (r+2) a]) (fun w c=>Yp Ag Ac Al n (r+2) a w c (by omega))<|AR (GY (by omega) D D)<|Er<|M ?_
 refine CQ [0,2,3]<|Ab 0 D (AA D)<|Ab 1 D (BN BM 0 D D)<|Ab 2 D (AS BM 2 D)<|Ab 3 D (Bb AF 0 2 D D D)<|Ab 4 D (AA D)<|Bh 5 D<|?_
 refine Ba Up D (fun w b=>gR Ag Ac Al n (r+2) a w (b.Ad (H1:=[Bd Ag Ac Al n (r+2) a]) [1]) (by omega)) fun _ e W b ⟨he,q⟩=>⟨_,_,he,Sat.call (H1:=[Bd Ag Ac Al n (r+2) a]) (H2:=[O j [[E t.w],[E t.g],[E t.m],[E t.h],[E t.p]] 68,O Ac [bv Y.l] 111,BU Al]) (b.pick [1,0,2,3]) q,?_⟩
 refine A8 [1,2,3]<|Ab 6 D (fun _ _ k b=>E_ k (BH:=[(0,(S Ag)),(1,(Value.agg (flat [[E t.w],[E t.g],[E t.m],[E t.h],[E t.p]]))),(2,(E t.m)),(3,(E (a+1)))]) D (r:=flat [[S Ag],[E t.w],[E t.g],[E t.m],[E t.h],[E t.p],[E t.m],[E (a+1)]]) (E5 I1 (ss:=[[Value.pointer none],[E 0],[E 0],[E 0],[E 0],[E 0],[E 0],[E 0]]) (by kernel_rfl) (places:=[(0,1),(1,5),(6,1),(7,1)]) (by kernel_rfl) (B3 [] [[Value.pointer none]] [[E 0],[E 0],[E 0],[E 0],[E 0],[E 0],[E 0]] [[S Ag]] D Ja.nil (Ja.one Ja.nil) (Ja.one Ja.nil) D (B3 [[S Ag]] [[E 0],[E 0],[E 0],[E 0],[E 0]] [[E 0],[E 0]] [[E t.w],[E t.g],[E t.m],[E t.h],[E t.p]] D (Ja.one Ja.nil) (Ja.one (Ja.one (Ja.one (Ja.one (Ja.one Ja.nil))))) (Ja.one (Ja.one (Ja.one (Ja.one (Ja.one Ja.nil))))) D (B3 [[S Ag],[E t.w],[E t.g],[E t.m],[E t.h],[E t.p]] [[E 0]] [[E 0]] [[E t.m]] D (Ja.one (Ja.one (Ja.one (Ja.one (Ja.one (Ja.one Ja.nil)))))) (Ja.one Ja.nil) (Ja.one Ja.nil) D (B3 [[S Ag],[E t.w],[E t.g],[E t.m],[E t.h],[E t.p],[E t.m]] [[E 0]] [] [[E (a+1)]] D (Ja.one (Ja.one (Ja.one (Ja.one (Ja.one (Ja.one (Ja.one Ja.nil))))))) (Ja.one Ja.nil) (Ja.one Ja.nil) D D))))))<|Bh 7 D<|Cv D fun o=>A8 [2,3,4]<|Ab 8 D (Ck D)<|Ab 9 D (Ck D)<|Cm<|A7 ?_
 intro W b
 subst i
 exact⟨o,D,b.pick [0,1,3,4]⟩
theorem aT(a Ag:Nat)(t:Fr.Bu)(b:Nat)(w:World)(c:BE [Bs a Ag t b] w):Calls Tryz.prog 58 #[S a] w fun e W=>e=.returned (Value.agg (flat [[E t.w],[E t.g],[E t.m],[E t.h],[E t.p]]))∧Sat (A6 [Bs a Ag t b]) w [Bs a Ag t b] W:=by
 refine Cb c XI D 7 fun F d=>Je<|Jh<|U<|Bw [[E 0],[E 0],[E 0],[E 0],[E 0]] fun i=>M ?_
 refine By D<|AG I1 1 D<|Af (DH BM 1 1 5 [[E t.w],[E t.g],[E t.m],[E t.h],[E t.p]] D D)<|U<|Bk 0 0 5 D D D<|?_
 refine Jg<|Jf<|Jq<|Fq BM 0 D D fun W f=>?_
 subst d
 exact⟨D,f.pick [1]⟩
theorem a1(a Ag:Nat)(t:Fr.Bu)(b:Nat)(w:World)(c:BE [Bs a Ag t b] w):Calls Tryz.prog 89 #[S a] w fun e W=>e=.returned (.tuple #[])∧Sat (A6 [Bs a Ag t b]) w [Bs a Ag t b] W:=by
 refine Cb c WS D 10 fun F d=>M ?_
 refine By D<|AG I1 1 D<|AG BM 3 D<|AZ AF 0 3 D D D<|By D<|AG I1 6 D<|U<|Cq 0 6 D D D<|?_
 refine Jg<|Jt<|Ff fun W f=>?_
 subst d
 exact⟨D,f.pick [0]⟩
theorem SR(d Ag Ac Al n r a:Nat)(t:Fr.Bu)(w:World)(c:BE [Bs d Ag t a,Bd Ag Ac Al n r a] w):Calls Tryz.prog 57 #[S d] w fun e W=>e=.returned (E 0)∧Sat (A6 [Bs d Ag t a,Bd Ag Ac Al n r a]) w [Bs d Ag t a,Bd Ag Ac Al n r a] W:=by
 refine Cb c P_ D 21 fun F g=>M ?_
 refine G9<|AR (AA D)<|AR (Bp D)<|AR (AS I1 0 D)<|AR (Bb QA 0 0 D D D)<|KK XH D [1] (H1:=[Bd Ag Ac Al n r a]) (fun w c=>iV Ag Ac Al n r a w c)<|AR (AA D)<|AR (Bp D)<|AR (AS I1 7 D)<|AR (Bb AF 0 7 D D D)<|AR (GY D D D)<|AR (Ck D)<|Er<|M ?_
 refine By D<|AG I1 0 D<|AZ QA 0 0 D D D<|U<|Cx Pd D [1] (H1:=[Bd Ag Ac Al n r a]) (fun w c=>Q6 Ag Ac Al n r a w c)<|Af (fun _ _ h f=>CE h (b:=true) D)<|A7 ?_
 intro W f
 subst g
 exact⟨D,f.pick [0,1]⟩
theorem cM(c Ag Ac Al n r a:Nat)(Y:Ji n)(t:Fr.Bu)(p:Nat)(w:World)(d:BE [Bs c Ag t a,Bd Ag Ac Al n r a,O Ac [bv Y.l] 111,BU Al] w)(hr:r≤1048500)(o:768≤n∧n≤1048576)(s:2≤p∧p<t.m∧t.m*256≤n)(i:Fr.CZ p (AI Y.l p)=true):Calls Tryz.prog 90 #[S c,E p] w fun e W=>∃f g,e=.returned (.tuple #[E ((AI Y.l p).getD 0 0).toNat,I f (G.load (AI Y.l p)).length g,E 0])∧Sat (A6 [Bs c Ag t a,Bd Ag Ac Al n r a,O Ac [bv Y.l] 111,BU Al]) w [Bs c Ag t a,Bd Ag Ac Al n (r+1) a,O Ac [bv Y.l] 111,BU Al,Ae 5 1 (I f (G.load (AI Y.l p)).length g) (G.load (AI Y.l p)).length (bv (G.load (AI Y.l p)))] W:=by
 refine Cb d Wi D 50 fun F j=>M ?_
 refine U<|Cx P_ D [0,1] (H1:=[Bs c Ag t a,Bd Ag Ac Al n r a]) (fun w d=>SR c Ag Ac Al n r a t w d)<|M ?_
 refine Ci D D D<|M ?_
 refine ET (by omega) D D<|M ?_
 refine By D<|Jj D D D<|AG I1 6 D<|Jj D D D<|AZ AF 0 6 D D D<|Jj D D D<|NB (by omega) D D<|M ?_
 refine By D<|AG I1 0 D<|AZ QA 0 0 D D D<|Jd D<|U<|?_
 refine Ba Ps D (fun w b=>SS Ag Ac Al n r a Y p w (b.Ad (H1:=[Bd Ag Ac Al n r a,O Ac [bv Y.l] 111,BU Al]) [1,2,3])) fun _ e W b ⟨u,c2,he,q⟩=>⟨_,_,he,Sat.call (H1:=[Bd Ag Ac Al n r a,O Ac [bv Y.l] 111,BU Al]) (H2:=[Bs c Ag t a]) (b.pick [1,2,3,0]) q,?_⟩
 refine Jd D<|Bc D D<|Bc D D<|M ?_
 refine Ci D D D<|M ?_
 refine U<|?_
 refine Ba E4 D (fun w b=>Lp p _ _ (AI Y.l p) w ((BZ 3) w b) (En (by rw[Y.h];omega)) i) fun _ e W b ⟨v,x,he,k,J⟩=>⟨_,_,he,b.own k J,?_⟩
 refine Jd D<|Bc D D<|Bc D D<|Bc D D<|M ?_
 refine Ci D D D<|M ?_
 refine Gz D D D fun W b=>?_
 subst j
 exact⟨_,_,D,b.pick [5,1,2,3,0]⟩
abbrev Cj(a b Ax:Nat)(x y:Value)(z h m:Nat):Atom:=O a [[E Ax],[Value.map (some b)],[E 0],[E 0],[I none 0 0],[C' false],[x],[y],[E z],[E 0],[E 0],[I none 0 0],[C' false],[A2 a 9],[A2 a 9],[E 0],[E h],[E m],[E 0]] 251
abbrev Dp(a p kd:Nat)(l:BX)(x y:Value):Atom:=O a [[E p],[E kd],[I l.p l.n l.c],[C' false],[x],[y]] 247
abbrev Cw(b:Nat):Value:=S b
theorem Tl(w:World):(zeroValue 245).run Tryz.prog w=.ok (.pointer none) w:=by kernel_rfl
theorem fg(a b c Ax h m:Nat)(p kd:Nat)(l:BX)(w:World)(f:BE [Cj a c Ax (S b) (S b) 1 h m,Dp b p kd l (A2 a 2) (A2 a 2)] w):Calls Tryz.prog 184 #[A2 a 2,S b] w fun e W=>e=.returned (.tuple #[])∧Sat (A6 [Cj a c Ax (S b) (S b) 1 h m,Dp b p kd l (A2 a 2) (A2 a 2)]) w [Cj a c Ax (A2 a 2) (A2 a 2) 0 h m,Dp b p kd l (A2 a 2) (A2 a 2)] W:=by
 refine Cb f Ua D 31 fun F g=>Je<|DD 18<|zs (AA D)<|zs (Bp D)<|zs (AS F3 4 D)<|zs (Bb Mo 1 4 D D D)<|zs (AA D)<|zs (Bp D)<|zs (AS F3 5 D)<|zs (Bb Mo 1 5 D D D)<|zs (AA D)<|zs (Bp D)<|zs (AS F3 5 D)<|zs (Bb Mo 1 5 D D D)<|zs (AA D)<|zs (Bp D)<|zs (AS F3 4 D)<|zs (Bb Mo 1 4 D D D)<|zs (Bp D)<|zs (AS F3 7 D)<|CS<|U<|Cq 0 7 D D D<|?_
 refine By D<|AG F3 6 D<|U<|Cq 0 6 D D D<|?_
 refine M ?_
 refine By D<|AG G6 8 D<|AZ AF 0 8 D D D<|Af (fun _ _ i d=>Km i (p:=1) (q:=1) (r:=0) D D)<|By D<|AG G6 8 D<|U<|Cq 0 8 D D D<|?_
 refine Jg<|Jt<|Ff fun W d=>?_
 subst g
 exact⟨D,d.pick [0,1]⟩
theorem W1(a b c Ax h m:Nat)(p kd:Nat)(l:BX)(v1 v2:Value)(w:World)(f:BE [Cj a c Ax (A2 a 2) (A2 a 2) 0 h m,Dp b p kd l v1 v2] w):Calls Tryz.prog 185 #[A2 a 2,S b] w fun e W=>e=.returned (.tuple #[])∧Sat (A6 [Cj a c Ax (A2 a 2) (A2 a 2) 0 h m,Dp b p kd l v1 v2]) w [Cj a c Ax (S b) (S b) 1 h m,Dp b p kd l (A2 a 2) (A2 a 2)] W:=by
 refine Cb f RP D 39 fun F g=>Je<|?_
 refine CQ [0]<|Ab 0 D (AA D)<|Ab 1 D (AA D)<|Ab 2 D (AA D)<|Ab 3 D (Bp D)<|Ab 4 D (AS G6 2 D)<|Ab 5 D (AS F3 6 D)<|Ab 6 D (Bb Mo 0 6 D D D)<|Ab 7 D (AA D)<|Ab 8 D (Bp D)<|Ab 9 D (AS G6 2 D)<|Ab 10 D (Bp D)<|Ab 11 D (AS F3 4 D)<|Bh 12 D<|Cq 1 4 D D D<|?_
 refine A8 [0]<|Ab 13 D (Bp D)<|Ab 14 D (AS F3 5 D)<|Bh 15 D<|Cq 1 5 D D D<|?_
 refine A8 [0]<|Cm<|Jf<|Je<|?_
 refine CQ [1]<|Ab 0 D (AA D)<|Ab 1 D (Bp D)<|Ab 2 D (AS F3 4 D)<|Ab 3 D (Bb Mo 0 4 D D D)<|Ab 4 D (AA D)<|Ab 5 D (Bp D)<|Ab 6 D (AS F3 5 D)<|Ab 7 D (Bb Mo 0 5 D D D)<|Ab 8 D (AA D)<|Ab 9 D (AA D)<|Ab 10 D (Bp D)<|Ab 11 D (AS F3 7 D)<|Bh 12 D<|Cq 0 7 D D D<|?_
 refine A8 [1]<|Ab 13 D (Bp D)<|Ab 14 D (AS F3 6 D)<|Bh 15 D<|Cq 0 6 D D D<|?_
 refine A8 [1]<|Cm<|M ?_
 refine By D<|AG G6 8 D<|AZ AF 0 8 D D D<|Af (fun _ _ i d=>Hb i (p:=0) (q:=1) (r:=1) D D D)<|By D<|AG G6 8 D<|U<|Cq 0 8 D D D<|?_
 refine Jg<|Jt<|Ff fun W d=>?_
 subst g
 exact⟨D,d.pick [0,1]⟩
theorem cN(c b d Ax h m:Nat)(w:World)(i:BE [Cj c d Ax (S b) (S b) 1 h m] w)(FJ:1≤Ax):Calls Tryz.prog 186 #[S c] w fun e W=>e=.returned (.tuple #[])∧Sat (A6 [Cj c d Ax (S b) (S b) 1 h m]) w [Cj c d Ax (S b) (S b) 1 h m] W:=by
 refine Cb i V5 D 39 fun F j=>JD<|DL (fun k a W=>k=0+0∧AH 39 a (Jb Jk 0 (S c))∧Sat F w [Cj c d Ax (S b) (S b) 1 h m] W) (fun a W g f=>⟨D,AY g,f.pick [0]⟩) ?_
 rintro _ a W ⟨rfl,g,f⟩;revert a W
 refine Je<|Je<|GR<|zs (AA D)<|zs (Bp D)<|zs (AS He 2 D)<|zs (AS G6 8 D)<|zs (Bb AF 0 8 D D D)<|zs (AA D)<|zs (Bp D)<|zs (AS He 0 D)<|zs (Bb AF 0 0 D D D)<|zs (LG (by omega) D D)<|CS<|M ?_
 refine Jt<|Ff fun W f=>?_
 subst j
 exact⟨D,f.pick [0]⟩
theorem hy(a b Ax:Nat)(w:World)(c:BE [O a [[E Ax],[Value.map (some b)],[E 0],[E 0],[I none 0 0],[C' false],[Value.pointer none],[Value.pointer none],[E 0],[E 0],[E 0],[I none 0 0],[C' false],[Value.pointer none],[Value.pointer none],[E 0],[E 0],[E 0],[E 0]] 251] w):Calls Tryz.prog 120 #[A2 a 2] w fun e W=>e=.returned (.tuple #[])∧Sat (A6 [O a [[E Ax],[Value.map (some b)],[E 0],[E 0],[I none 0 0],[C' false],[Value.pointer none],[Value.pointer none],[E 0],[E 0],[E 0],[I none 0 0],[C' false],[Value.pointer none],[Value.pointer none],[E 0],[E 0],[E 0],[E 0]] 251]) w [O a [[E Ax],[Value.map (some b)],[E 0],[E 0],[I none 0 0],[C' false],[A2 a 2],[A2 a 2],[E 0],[E 0],[E 0],[I none 0 0],[C' false],[Value.pointer none],[Value.pointer none],[E 0],[E 0],[E 0],[E 0]] 251] W:=by
 refine Cb c PL D 16 fun F d=>?_
 refine CQ []<|Ab 0 D (AA D)<|Ab 1 D (AA D)<|Ab 2 D (AA D)<|Ab 3 D (Bp D)<|Ab 4 D (AS G6 2 D)<|Ab 5 D (AA D)<|Ab 6 D (Bp D)<|Ab 7 D (AS G6 2 D)<|Ab 8 D (Bp D)<|Ab 9 D (AS G6 2 D)<|Ab 10 D (AS F3 7 D)<|Bh 11 D<|Cq 0 7 D D D<|?_
 refine A8 []<|Ab 12 D (Bp D)<|Ab 13 D (AS G6 2 D)<|Ab 14 D (AS F3 6 D)<|Bh 15 D<|Cq 0 6 D D D<|?_
 refine A8 []<|Cm<|Jt<|Ff fun W f=>?_
 subst d
 exact⟨D,f.pick [0]⟩
theorem dW(a b Ax:Nat)(w:World)(c:BE [O a [[E Ax],[Value.map (some b)],[E 0],[E 0],[I none 0 0],[C' false],[A2 a 2],[A2 a 2],[E 0],[E 0],[E 0],[I none 0 0],[C' false],[Value.pointer none],[Value.pointer none],[E 0],[E 0],[E 0],[E 0]] 251] w):Calls Tryz.prog 120 #[A2 a 9] w fun e W=>e=.returned (.tuple #[])∧Sat (A6 [O a [[E Ax],[Value.map (some b)],[E 0],[E 0],[I none 0 0],[C' false],[A2 a 2],[A2 a 2],[E 0],[E 0],[E 0],[I none 0 0],[C' false],[Value.pointer none],[Value.pointer none],[E 0],[E 0],[E 0],[E 0]] 251]) w [Cj a b Ax (A2 a 2) (A2 a 2) 0 0 0] W:=by
 refine Cb c PL D 16 fun F d=>?_
 refine CQ []<|Ab 0 D (AA D)<|Ab 1 D (AA D)<|Ab 2 D (AA D)<|Ab 3 D (Bp D)<|Ab 4 D (AS G6 9 D)<|Ab 5 D (AA D)<|Ab 6 D (Bp D)<|Ab 7 D (AS G6 9 D)<|Ab 8 D (Bp D)<|Ab 9 D (AS G6 9 D)<|Ab 10 D (AS F3 14 D)<|Bh 11 D<|Cq 0 14 D D D<|?_
 refine A8 []<|Ab 12 D (Bp D)<|Ab 13 D (AS G6 9 D)<|Ab 14 D (AS F3 13 D)<|Bh 15 D<|Cq 0 13 D D D<|?_
 refine A8 []<|Cm<|Jt<|Ff fun W f=>?_
 subst d
 exact⟨D,f.pick [0]⟩
theorem hA(Ax:Nat)(w:World)(FJ:Ax≤4096):Calls Tryz.prog 91 #[E Ax] w fun e W=>∃a b,e=.returned (S a)∧Sat C1 w [Cj a b Ax (A2 a 2) (A2 a 2) 0 0 0,Ap Tryz.prog 3 Am Cw b 0 (fun _=>none)] W:=by
 refine Cg w Yb D 19<|M ?_
 refine Af (Mn D D ((Ax:Nat):Int))<|Af (TP D D ((Ax:Nat):Int))<|U<|K5 3 Am Cw fun b=>Af (fun _ _ d c=>Cs d (BH:=[(0,(E Ax)),(1,(Value.map (some b)))]) D (v:=Value.agg (flat [[E Ax],[Value.map (some b)],[E 0],[E 0],[I none 0 0],[C' false],[Value.pointer none],[Value.pointer none],[E 0],[E 0],[E 0],[I none 0 0],[C' false],[Value.pointer none],[Value.pointer none],[E 0],[E 0],[E 0],[E 0]])) (run_build _ _ _ _ (by kernel_rfl)))<|U<|Cv D fun a=>M ?_
 refine By D<|AG He 2 D<|U<|?_
 refine Ba PL D (fun w c=>hy a b Ax w (c.Ad (H1:=[O a [[E Ax],[Value.map (some b)],[E 0],[E 0],[I none 0 0],[C' false],[Value.pointer none],[Value.pointer none],[E 0],[E 0],[E 0],[I none 0 0],[C' false],[Value.pointer none],[Value.pointer none],[E 0],[E 0],[E 0],[E 0]] 251]) [0])) fun _ e W c ⟨he,q⟩=>⟨_,_,he,Sat.call (H1:=[O a [[E Ax],[Value.map (some b)],[E 0],[E 0],[I none 0 0],[C' false],[Value.pointer none],[Value.pointer none],[E 0],[E 0],[E 0],[I none 0 0],[C' false],[Value.pointer none],[Value.pointer none],[E 0],[E 0],[E 0],[E 0]] 251]) (H2:=[Ap Tryz.prog 3 Am Cw b 0 (fun _=>none)]) (c.pick [0,1]) q,?_⟩
 refine M ?_
 refine By D<|AG He 9 D<|U<|?_
 refine Ba PL D (fun w c=>dW a b Ax w (c.Ad (H1:=[O a [[E Ax],[Value.map (some b)],[E 0],[E 0],[I none 0 0],[C' false],[A2 a 2],[A2 a 2],[E 0],[E 0],[E 0],[I none 0 0],[C' false],[Value.pointer none],[Value.pointer none],[E 0],[E 0],[E 0],[E 0]] 251]) [0])) fun _ e W c ⟨he,q⟩=>⟨_,_,he,Sat.call (H1:=[O a [[E Ax],[Value.map (some b)],[E 0],[E 0],[I none 0 0],[C' false],[A2 a 2],[A2 a 2],[E 0],[E 0],[E 0],[I none 0 0],[C' false],[Value.pointer none],[Value.pointer none],[E 0],[E 0],[E 0],[E 0]] 251]) (H2:=[Ap Tryz.prog 3 Am Cw b 0 (fun _=>none)]) (c.pick [0,1]) q,?_⟩
 refine A7 ?_
 exact fun W c=>⟨a,b,D,c.pick [0,1]⟩
theorem b5(b c Ax h m p:Nat)(w:World)(f:BE [Cj b c Ax (A2 b 2) (A2 b 2) 0 h m,Ap Tryz.prog 3 Am Cw c 0 (fun _=>none)] w)(J:m≤1048576∧p≤4096):Calls Tryz.prog 159 #[S b,E p] w fun e W=>e=.returned (.tuple #[.agg (flat [[E 0],[I none 0 0]]),.bool false])∧Sat (A6 [Cj b c Ax (A2 b 2) (A2 b 2) 0 h m,Ap Tryz.prog 3 Am Cw c 0 (fun _=>none)]) w [Cj b c Ax (A2 b 2) (A2 b 2) 0 h (m+1),Ap Tryz.prog 3 Am Cw c 0 (fun _=>none)] W:=by
 refine Cb f Qf D 50 fun F g=>Je<|Jh<|U<|Bw [[E 0],[I none 0 0]] fun i=>M ?_
 refine By D<|AG He 1 D<|AZ Lr 1 1 D D D<|Jd D<|Af (GN Lr (fun w d=>d.mp 2) Fg Fe (a:=p) (Fb (by omega)) D D Tl (by rfl))<|M ?_
 refine Af (JZ (by kernel_rfl) D true D)<|M ?_
 refine By D<|AG He 17 D<|AZ AF 1 17 D D D<|B6 (q:=1) D D<|By D<|AG He 17 D<|U<|Cq 1 17 D D D<|?_
 refine M ?_
 refine U<|Bw [[E 0],[I none 0 0]] fun j=>M ?_
 refine Af (BN Mk 0 D D)<|U<|Bk 1 0 2 D D D<|?_
 refine M ?_
 refine Gl Mk 1 D D D fun W d=>?_
 subst g
 exact⟨D,d.pick [2,3]⟩
theorem ax(d f g Ax h m p kd:Nat)(l:BX)(w:World)(k:BE [Cj d g Ax (S f) (S f) 1 h m,Dp f p kd l (A2 d 2) (A2 d 2),Ap Tryz.prog 3 Am Cw g 1 (CF (fun _=>none) p f)] w)(J:h≤1048576∧p≤4096):Calls Tryz.prog 159 #[S d,E p] w fun e W=>e=.returned (.tuple #[.agg (flat [[E kd],[I l.p l.n l.c]]),.bool true])∧Sat (A6 [Cj d g Ax (S f) (S f) 1 h m,Dp f p kd l (A2 d 2) (A2 d 2),Ap Tryz.prog 3 Am Cw g 1 (CF (fun _=>none) p f)]) w [Cj d g Ax (S f) (S f) 1 (h+1) m,Dp f p kd l (A2 d 2) (A2 d 2),Ap Tryz.prog 3 Am Cw g 1 (CF (fun _=>none) p f)] W:=by
 refine Cb k Qf D 50 fun F o=>Je<|Jh<|U<|Bw [[E 0],[I none 0 0]] fun j=>M ?_
 refine By D<|AG He 1 D<|AZ Lr 1 1 D D D<|Jd D<|Af (GN Lr (fun w i=>i.mp 3) Fg Fe (a:=p) (Fb (by omega)) D D Tl (by unfold CF;rw[if_pos D]))<|M ?_
 refine Af (JZ (by kernel_rfl) D false D)<|M ?_
 refine By D<|AG He 16 D<|AZ AF 1 16 D D D<|B6 (q:=1) D D<|By D<|AG He 16 D<|U<|Cq 1 16 D D D<|?_
 refine M ?_
 refine By D<|AG F3 3 D<|AZ PW 2 3 D D D<|Af (fun _ _ r i=>CE r (b:=false) D)<|M ?_
 refine By D<|AG He 2 D<|Jd D<|U<|?_
 refine Ba Ua D (fun w i=>fg d f g Ax (h+1) m p kd l w (i.Ad (H1:=[Cj d g Ax (S f) (S f) 1 (h+1) m,Dp f p kd l (A2 d 2) (A2 d 2)]) [1,2])) fun _ e W i ⟨he,q⟩=>⟨_,_,he,Sat.call (H1:=[Cj d g Ax (S f) (S f) 1 (h+1) m,Dp f p kd l (A2 d 2) (A2 d 2)]) (H2:=[O j [[E 0],[I none 0 0]] 200,Ap Tryz.prog 3 Am Cw g 1 (CF (fun _=>none) p f)]) (i.pick [1,2,0,3]) q,?_⟩
 refine M ?_
 refine By D<|AG He 2 D<|Jd D<|U<|?_
 refine Ba RP D (fun w i=>W1 d f g Ax (h+1) m p kd l (A2 d 2) (A2 d 2) w (i.Ad (H1:=[Cj d g Ax (A2 d 2) (A2 d 2) 0 (h+1) m,Dp f p kd l (A2 d 2) (A2 d 2)]) [0,1])) fun _ e W i ⟨he,q⟩=>⟨_,_,he,Sat.call (H1:=[Cj d g Ax (A2 d 2) (A2 d 2) 0 (h+1) m,Dp f p kd l (A2 d 2) (A2 d 2)]) (H2:=[O j [[E 0],[I none 0 0]] 200,Ap Tryz.prog 3 Am Cw g 1 (CF (fun _=>none) p f)]) (i.pick [0,1,2,3]) q,?_⟩
 refine M ?_
 refine By D<|AG F3 1 D<|Af (DH Mk 1 1 2 [[E kd],[I l.p l.n l.c]] D D)<|U<|Bk 2 0 2 D D D<|?_
 refine M ?_
 refine Gl Mk 2 D D D fun W i=>?_
 subst o
 exact⟨D,i.pick [0,1,3]⟩
theorem gg(b f Ax h m p kd:Nat)(l:BX)(w:World)(i:BE [Cj b f Ax (A2 b 2) (A2 b 2) 0 h m,Ap Tryz.prog 3 Am Cw f 0 (fun _=>none)] w)(FJ:1≤Ax)(J:p≤4096):Calls Tryz.prog 161 #[S b,E p,Value.agg (flat [[E kd],[I l.p l.n l.c]])] w fun e W=>∃d,e=.returned (.tuple #[])∧Sat (A6 [Cj b f Ax (A2 b 2) (A2 b 2) 0 h m,Ap Tryz.prog 3 Am Cw f 0 (fun _=>none)]) w [Cj b f Ax (S d) (S d) 1 h m,Dp d p kd l (A2 b 2) (A2 b 2),Ap Tryz.prog 3 Am Cw f 1 (CF (fun _=>none) p d)] W:=by
 refine Cb i WW D 52 fun F j=>Je<|Jh<|U<|Cv D fun k=>M ?_
 refine By D<|AG He 1 D<|AZ Lr 1 1 D D D<|Jd D<|Af (GN Lr (fun w g=>g.mp 2) Fg Fe (a:=p) (Fb (by omega)) D D Tl (by rfl))<|M ?_
 refine Af (JZ (by kernel_rfl) D true D)<|M ?_
 refine Af (fun _ _ o g=>Cs o (BH:=[(0,(E p))]) D (v:=Value.agg (flat [[E p],[E 0],[I none 0 0],[C' false],[Value.pointer none],[Value.pointer none]])) (run_build _ _ _ _ (by kernel_rfl)))<|U<|Cv D fun d=>M ?_
 refine By D<|AG He 1 D<|AZ Lr 2 1 D D D<|Jd D<|Jd D<|U<|KS 3 Lr D Fg Fe (a:=p) (Fb (by omega)) (u:=d) D D D<|M ?_
 refine By D<|AG He 2 D<|Jd D<|U<|?_
 refine Ba RP D (fun w g=>W1 b d f Ax h m p 0 AE (Value.pointer none) (Value.pointer none) w (g.Ad (H1:=[Cj b f Ax (A2 b 2) (A2 b 2) 0 h m,O d [[E p],[E 0],[I none 0 0],[C' false],[Value.pointer none],[Value.pointer none]] 247]) [2,0])) fun _ e W g ⟨he,q⟩=>⟨_,_,he,Sat.call (H1:=[Cj b f Ax (A2 b 2) (A2 b 2) 0 h m,O d [[E p],[E 0],[I none 0 0],[C' false],[Value.pointer none],[Value.pointer none]] 247]) (H2:=[O k [[E kd],[I l.p l.n l.c]] 200,Ap Tryz.prog 3 Am Cw f 1 (CF (fun _=>none) p d)]) (g.pick [2,0,1,3]) q,?_⟩
 refine M ?_
 refine Af (BN Mk 2 D D)<|By D<|AG F3 1 D<|U<|Bk 1 1 2 D D D<|?_
 refine M ?_
 refine U<|Cx V5 D [0] (H1:=[Cj b f Ax (S d) (S d) 1 h m]) (fun w i=>cN b d f Ax h m w i (by omega))<|Jg<|Jt<|Ff fun W g=>?_
 subst j
 exact⟨d,D,g.pick [0,1,3]⟩
end Go.Proofs.YtaapafoibofbjaaGreatDoor
