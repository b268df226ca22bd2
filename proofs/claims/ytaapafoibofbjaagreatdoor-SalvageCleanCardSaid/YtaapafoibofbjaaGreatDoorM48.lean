/- Laws and walks on the road to SalvageClean (part M48). No conditions beyond each law's own. -/
import Derived.Shelf.Abstract
import Derived.Test.YtaapafoibofbjaaGreatDoorM01
import Derived.Test.YtaapafoibofbjaaGreatDoorM47
import Derived.Test.YtaapafoibofbjaaGreatDoorM07
import Derived.Test.YtaapafoibofbjaaGreatDoorM12
import Derived.Test.YtaapafoibofbjaaGreatDoorM32
import Derived.Test.YtaapafoibofbjaaGreatDoorM33
set_option linter.unusedVariables false
namespace Go.Proofs.YtaapafoibofbjaaGreatDoor
open Go.RowKit
set_option maxRecDepth 100000
set_option maxHeartbeats 4000000
theorem e1{P:Program}{Aa:Exit→Act→World→Prop}{C:Code}{CX:List Deferred}{N:Nat}{f:BW}{F:Nat→Prop}{w0:World}{H:List Atom}(h:AT N f F w0 H (fun a w=>C.wp P Aa (Act.Dm a CX) w)){a:Act}{w:World}(b:AH N a f)(c:Sat F w0 H w):C.wp P Aa (Act.Dm a CX) w:=h a w b c
theorem UQ(Q g Ag Ac Al b k d n r i Ax h m:Nat)(Y:Ji n)(t:Fr.Bu)(p:Nat)(Ah:B9)(L:BX)(want:Nat)(w:World)(B:BE [BF Q g b,Bs g Ag t i,Bd Ag Ac Al n r i,O Ac [bv Y.l] 111,BU Al,Cj b k Ax (S d) (S d) 1 h m,Ap Tryz.prog 3 Am Cw k 1 (CF (fun _=>none) p d),Dp d p (((AI Y.l p).getD 0 0).toNat) L (A2 b 2) (A2 b 2),Ae 5 1 (I L.p L.n L.c) L.n (bv (G.load (AI Y.l p)))] w)(ag:768≤n∧n≤1048576)(J:r≤1047000∧h≤1047000∧m≤1047000∧1≤Ax)(ah:2≤p∧p<t.m∧t.m*256≤n)(G4:L.n=(G.load (AI Y.l p)).length)(ad:((AI Y.l p).getD 0 0).toNat=3)(hr:G.record (G.load (AI Y.l p))=some Ah)(hm:max Ah.ju (max Ah.jt Ah.r)<p)(ai:t.m≤4096)(aj:1≤Ah.v∧Ah.f≤Ah.v∧Ah.v≤1073741824)(hw:(if Ah.f=0 then Ah.v else Ah.v - Ah.f+1)=want):Calls Tryz.prog 94 #[S Q,E p,E Ah.v] w fun e W=>e=.returned (.tuple #[Value.agg (flat [[E Ah.v],[E Ah.f],[E Ah.ju],[E Ah.jt],[E Ah.r],[E Ah.c],bv Ah.s.l]),E 1,E 0])∧Sat (A6 [BF Q g b,Bs g Ag t i,Bd Ag Ac Al n r i,O Ac [bv Y.l] 111,BU Al,Cj b k Ax (S d) (S d) 1 h m,Ap Tryz.prog 3 Am Cw k 1 (CF (fun _=>none) p d),Dp d p (((AI Y.l p).getD 0 0).toNat) L (A2 b 2) (A2 b 2),Ae 5 1 (I L.p L.n L.c) L.n (bv (G.load (AI Y.l p)))]) w [BF Q g b,Bs g Ag t i,Bd Ag Ac Al n r i,O Ac [bv Y.l] 111,BU Al,Cj b k Ax (S d) (S d) 1 (h+1) m,Ap Tryz.prog 3 Am Cw k 1 (CF (fun _=>none) p d),Dp d p (((AI Y.l p).getD 0 0).toNat) L (A2 b 2) (A2 b 2),Ae 5 1 (I L.p L.n L.c) L.n (bv (G.load (AI Y.l p)))] W:=by
 have ak:(G.load (AI Y.l p)).length≤255:=by
  unfold G.load
  rw[List.length_take]
  have q:=((AI Y.l p).getD 1 0).toNat_lt
  omega
 refine hB B Nt D 85 fun F K=>Je<|Jh<|U<|Bw [[E 0],[E 0],[E 0],[E 0],[E 0],[E 0],Ak 32] fun N=>U<|NI (E 0) [[E 0]] D fun P=>U<|NI (E 0) [[E 0]] D fun R=>M ?_
 refine U<|Ey G0 (Aq Bm [p]) D D D fun C=>U<|Cx O7 D [4,5,6,0] (H1:=[BF Q g b,Bs g Ag t i,Bd Ag Ac Al n r i,Ae 3 1 (I C 1 1) 1 (Aq Bm ([p]))]) (fun w B=>QB Q g b Ag Ac Al n r i t p C 1 w B)<|M ?_
 refine Ci D D D<|M ?_
 refine ET (by omega) D D<|M ?_
 refine Gi (by omega) D D<|M ?_
 refine U<|?_
 refine Ba PM D (fun w j=>gj Q g Ag Ac Al b k d n r i Ax h m Y t p Ah L w (j.Ad (H1:=[BF Q g b,Bs g Ag t i,Bd Ag Ac Al n r i,O Ac [bv Y.l] 111,BU Al,Cj b k Ax (S d) (S d) 1 h m,Ap Tryz.prog 3 Am Cw k 1 (CF (fun _=>none) p d),Dp d p (((AI Y.l p).getD 0 0).toNat) L (A2 b 2) (A2 b 2),Ae 5 1 (I L.p L.n L.c) L.n (bv (G.load (AI Y.l p)))]) [4,5,6,7,8,9,10,11,12]) (by omega) (by omega) (by omega) G4 ad hr hm) fun _ e W j ⟨he,q⟩=>⟨_,_,he,Sat.call (H1:=[BF Q g b,Bs g Ag t i,Bd Ag Ac Al n r i,O Ac [bv Y.l] 111,BU Al,Cj b k Ax (S d) (S d) 1 h m,Ap Tryz.prog 3 Am Cw k 1 (CF (fun _=>none) p d),Dp d p (((AI Y.l p).getD 0 0).toNat) L (A2 b 2) (A2 b 2),Ae 5 1 (I L.p L.n L.c) L.n (bv (G.load (AI Y.l p)))]) (H2:=[Ae 3 1 (I C 1 1) 1 (Aq Bm ([p])),O R [[E 0]] 26,O P [[E 0]] 3,O N [[E 0],[E 0],[E 0],[E 0],[E 0],[E 0],Ak 32] 101]) (j.pick [4,5,6,7,8,9,10,11,12,0,1,2,3]) q,?_⟩
 refine Jd D<|Bc D D<|Bc D D<|U<|Bw [[E 0],[E 0],[E 0],[E 0],[E 0],[E 0],[E 0],Ak 32] fun aa=>U<|Bk 0 0 8 D D D<|?_
 refine M ?_
 refine Ci D D D<|M ?_
 refine AG G1 1 D<|AG Bv 1 D<|AZ AF 0 1 D D D<|HF (by omega) D D<|M ?_
 refine AG G1 1 D<|AG Bv 2 D<|AZ AF 0 2 D D D<|ET (by omega) D D<|M ?_
 refine Gi (by omega) D D<|M ?_
 refine U<|NI (E 0) [[E 0]] D fun y=>U<|Cq 0 0 D D D<|?_
 refine M ?_
 refine U<|Bw [[E 0],[E 0],[E 0],[E 0],[E 0],[E 0],Ak 32] fun z=>M ?_
 refine CQ [0,1,2,3,4,5,6,7,8,9,10,11,12,13,14,15]<|Ab 0 D (AA D)<|Ab 1 D (BN G1 2 D D)<|Ab 2 D (AA D)<|Ab 3 D (AS G1 1 D)<|Ab 4 D (AS Bv 2 D)<|Ab 5 D (Bb AF 2 2 D D D)<|Ab 6 D (fun _ _ A j=>Cs A (BH:=[(0,(E Ah.v)),(1,(E Ah.f))]) D (v:=Value.agg (flat [[E Ah.v],[E Ah.f],[E 0],[E 0],[E 0],[E 0],Ak 32])) (run_build _ _ _ _ (by kernel_rfl)))<|Bh 7 D<|BP Lh D (fun w j=>LJ Ah.v Ah.f 0 0 0 0 CU w (by omega) (by omega) hw)<|A8 [0,1,2,3,4,5,6,7,8,9,10,11,12,13,14,15]<|Bh 8 D<|?_
 refine Ba Xy D (fun w j=>bD Q p want Ah w) fun _ e W j ⟨T,X,Z,he,q⟩=>⟨_,_,he,j.Nk q,?_⟩
 refine A8 [3,4,5,6,7,8,9,10,11,12,13,14,15,16,17,18]<|Cm<|Jf<|JD<|?_
 refine fB D (Go.Proofs.enters_of Wc (by kernel_rfl) D) fun l Au fn a A rec ae w j=>?_
 refine CallsIn.mono (Zs l T X Z p want Ah (DT l (.loop rec)) (O y [[E 0]] 3) (O z [[E 0],[E 0],[E 0],[E 0],[E 0],[E 0],Ak 32] 101) (DT l (.loop rec)) (O y [[E 1]] 3) (O z [[E Ah.v],[E Ah.f],[E Ah.ju],[E Ah.jt],[E Ah.r],[E Ah.c],bv Ah.s.l] 101) (n:=8) (m:=7) D w (j.Ad [2,3,0,6,5]) ?_ (by omega) (by omega) hw) fun e W ⟨V,q⟩=>⟨V,_,(Sat.call (H1:=[O X [[E p],[E Ah.v],[E Ah.f],[E Ah.ju],[E Ah.jt],[E Ah.r],[E Ah.c],bv Ah.s.l] 203,O Z [[E want]] 3,DT l (.loop rec),O y [[E 0]] 3,O z [[E 0],[E 0],[E 0],[E 0],[E 0],[E 0],Ak 32] 101]) (H2:=[DT Au (.deferred (some [])),O T [[S Q]] 115,O aa [[E p],[E Ah.v],[E Ah.f],[E Ah.ju],[E Ah.jt],[E Ah.r],[E Ah.c],bv Ah.s.l] 203,BF Q g b,Bs g Ag t i,Bd Ag Ac Al n r i,O Ac [bv Y.l] 111,BU Al,Cj b k Ax (S d) (S d) 1 (h+1) m,Ap Tryz.prog 3 Am Cw k 1 (CF (fun _=>none) p d),Dp d p (((AI Y.l p).getD 0 0).toNat) L (A2 b 2) (A2 b 2),Ae 5 1 (I L.p L.n L.c) L.n (bv (G.load (AI Y.l p))),Ae 3 1 (I C 1 1) 1 (Aq Bm ([p])),O R [[E 0]] 26,O P [[E 0]] 3,O N [[E 0],[E 0],[E 0],[E 0],[E 0],[E 0],Ak 32] 101]) (j.pick [2,3,0,6,5,1,4,7,8,9,10,11,12,13,14,15,16,17,18,19,20]) q).pick [2,5,3,4,0,1,6,7,8,9,10,11,12,13,14,15,16,17,18,19,20] (H':=DT l (.loop rec)::DT Au (.deferred (some []))::[O y [[E 1]] 3,O z [[E Ah.v],[E Ah.f],[E Ah.ju],[E Ah.jt],[E Ah.r],[E Ah.c],bv Ah.s.l] 101,O X [[E p],[E Ah.v],[E Ah.f],[E Ah.ju],[E Ah.jt],[E Ah.r],[E Ah.c],bv Ah.s.l] 203,O Z [[E want]] 3,O T [[S Q]] 115,O aa [[E p],[E Ah.v],[E Ah.f],[E Ah.ju],[E Ah.jt],[E Ah.r],[E Ah.c],bv Ah.s.l] 203,BF Q g b,Bs g Ag t i,Bd Ag Ac Al n r i,O Ac [bv Y.l] 111,BU Al,Cj b k Ax (S d) (S d) 1 (h+1) m,Ap Tryz.prog 3 Am Cw k 1 (CF (fun _=>none) p d),Dp d p (((AI Y.l p).getD 0 0).toNat) L (A2 b 2) (A2 b 2),Ae 5 1 (I L.p L.n L.c) L.n (bv (G.load (AI Y.l p))),Ae 3 1 (I C 1 1) 1 (Aq Bm ([p])),O R [[E 0]] 26,O P [[E 0]] 3,O N [[E 0],[E 0],[E 0],[E 0],[E 0],[E 0],Ak 32] 101]),?_⟩
 ·intro W B
  refine bg (t:=73) (u:=74) (H:=[O y [[E 0]] 3,O z [[E 0],[E 0],[E 0],[E 0],[E 0],[E 0],Ak 32] 101]) A ae B fun F K=>?_
  refine Mq<|Nu (Ol l)<|U<|Bw [[E 0],[E 0],[E 0],[E 0],[E 0],[E 0],[E 0],Ak 32] fun ab=>U<|Bk 0 0 8 D D D<|?_
  refine Jg<|Jf<|Nu (Ol l)<|Js D<|Jg<|dQ [1,0,2,3] (H':=[O ab [[E p],[E Ah.v],[E Ah.f],[E Ah.ju],[E Ah.jt],[E Ah.r],[E Ah.c],bv Ah.s.l] 203,O y [[E 0]] 3,O z [[E 0],[E 0],[E 0],[E 0],[E 0],[E 0],Ak 32] 101]) ?_
  refine W5<|Mq<|Mq<|Nu (Ol l)<|Jd D<|Ci D D D<|Jg<|Jf<|Oz D<|g9<|Jf<|Mq<|Nu (Ol l)<|AZ AF 2 0 D D D<|Af (fun _ _ A j=>Hb A (p:=0) (q:=1) (r:=1) D D D)<|U<|Cq 2 0 D D D<|?_
  refine Jg<|Jf<|Nu (Ol l)<|AG G1 1 D<|Af (DH Bv 1 1 7 [[E Ah.v],[E Ah.f],[E Ah.ju],[E Ah.jt],[E Ah.r],[E Ah.c],bv Ah.s.l] D D)<|U<|Bk 3 0 7 D D D<|?_
  refine Jg<|JA<|jc [0,1,2,3] (H':=[O ab [[E p],[E Ah.v],[E Ah.f],[E Ah.ju],[E Ah.jt],[E Ah.r],[E Ah.c],bv Ah.s.l] 203,O y [[E 1]] 3,O z [[E Ah.v],[E Ah.f],[E Ah.ju],[E Ah.jt],[E Ah.r],[E Ah.c],bv Ah.s.l] 101]) fun al j=>⟨D,(by subst K;exact j.pick [0,2,3])⟩
 ·intro B8 af
  refine wp_seq (e1 ?_ A af)
  refine cS [0,1,2,3,4,5,6,7,8,9,10,11,12,13,14,15,16]<|Ab 0 D (BN Bv 2 D D)<|Ab 1 D (Bb AF 1 0 D D D)<|Bh 2 D<|Bk 19 0 7 D D D<|?_
  refine A8 [0,1,2,3,4,5,6,7,8,9,10,11,12,13,14,15,16]<|Bh 3 D<|Cq 18 0 D D D<|?_
  refine A8 [0,1,2,3,4,5,6,7,8,9,10,11,12,13,14,15,16]<|Bh 4 D<|Cq 17 0 D D D<|?_
  refine A8 [0,1,2,3,4,5,6,7,8,9,10,11,12,13,14,15,16]<|Cm<|?_
  refine cA Bv AF WX 19 18 17 D D D D D D fun w j=>?_
  subst K
  exact⟨D,j.pick [7,8,9,10,11,12,13,14,15]⟩
end Go.Proofs.YtaapafoibofbjaaGreatDoor
namespace Go.Proofs.YtaapafoibofbjaaGreatDoor
open Go.RowKit
set_option maxRecDepth 100000
set_option maxHeartbeats 1000000
theorem a7{P:Program}{N:Nat}{f:BW}{F:Nat→Prop}{w0:World}{H:List Atom}{fn:Func}{T:Ending→World→Prop}{t u x:Nat}{o r s:TypeId}{c e l:Nat}{ss:List (List Value)}{v2 v:Value}{tb B C:TypeId}{d1 d2 d3:TypeDesc}(E:P.underlying o=some d1)(G:P.underlying r=some d2)(I:P.underlying s=some d3)(i j k:Nat)
 (J:H[i]? =some (O c ss tb))(hj:H[j]? =some (O e [[v2]] B))(K:H[k]? =some (O l [[v]] C))
 (V:f t=some (.pointer (some ⟨c,0,none⟩)))(p:f u=some (.pointer (some ⟨e,0,none⟩)))(q:f x=some (.pointer (some ⟨l,0,none⟩)))(h:∀w,Sat F w0 H w→T (.returned (.tuple #[.agg (flat ss),v2,v])) w)
 {m:Nat}(s1:ss.flatten.length=m:=by exact Jp)(L:(P.info? o).map (·.size)=some m:=by kernel_rfl)(hr:fn.results=#[.cell t o,.cell u r,.cell x s]:=by exact rfl)(h1:d1.isRow=true:=by exact rfl)(M:d2.isRow=false:=by exact rfl)(Q:d3.isRow=false:=by exact rfl):AT N f F w0 H (bodyPost P fn T .ret):=fun a w b n=>by
 have R:a.eval (.tmp t)=.pointer (some ⟨c,0,none⟩):=b.A_ (x:=.tmp t) V
 have S:a.eval (.tmp u)=.pointer (some ⟨e,0,none⟩):=b.A_ (x:=.tmp u) p
 have U:a.eval (.tmp x)=.pointer (some ⟨l,0,none⟩):=b.A_ (x:=.tmp x) q
 have W:=Md (d:=some 0) (ty:=0) (pos:= "") (An:=#[]) (g:=none) (BN (x:=.tmp t) E i J V s1 L h1 a _ b n) R
 have X:=Md (d:=some 0) (ty:=0) (pos:= "") (An:=#[]) (g:=none) (Bb (x:=.tmp u) G j 0 hj D p D D D M a _ b n) S
 have Y:=Md (d:=some 0) (ty:=0) (pos:= "") (An:=#[]) (g:=none) (Bb (x:=.tmp x) I k 0 K D q D D D Q a _ b n) U
 refine⟨b.d,_,?_,h _ n⟩
 have y:a.tmps.getD t undef=.pointer (some ⟨c,0,none⟩):=b.h t _ V
 have z:a.tmps.getD u undef=.pointer (some ⟨e,0,none⟩):=b.h u _ p
 have A:a.tmps.getD x undef=.pointer (some ⟨l,0,none⟩):=b.h x _ q
 rw[Array.getD_eq_getD_getElem?]at y z A
 simp[results,hr,y,z,A,asAddr,W,X,Y,Sem.run_bind,Result.andThen]
theorem U8(w:World):Calls Tryz.prog 53 #[E 0] w fun e W=>e=.returned (E 0)∧Below w.heap.size w W:=by
 refine Cg w R3 D 10<|M ?_
 refine EU D D D<|A7 ?_
 exact fun W a=>⟨D,a.A0⟩
theorem Wl(Q a c Ag Ac Al n r b:Nat)(t:Fr.Bu)(w:World)(g:BE [BF Q a c,Bs a Ag t b,Bd Ag Ac Al n r b] w)(A5:CG w)(j:∀k,CB k→¬A6 [BF Q a c,Bs a Ag t b,Bd Ag Ac Al n r b] k)(v:t.w≤32)(x:t.m≤4096):Calls Tryz.prog 94 #[S Q,E 0,E 0] w fun e W=>e=.returned (.tuple #[Value.agg (flat [[E 0],[E 0],[E 0],[E 0],[E 0],[E 0],bv (AL.bare t.w 256).l]),E 0,E 0])∧Sat (A6 [BF Q a c,Bs a Ag t b,Bd Ag Ac Al n r b]) w [BF Q a c,Bs a Ag t b,Bd Ag Ac Al n r b] W:=by
 have i:∀F,A6 [BF Q a c,Bs a Ag t b,Bd Ag Ac Al n r b]=F→∀k,CB k→¬F k:=fun F f k o q=>j k o (f▸q)
 refine Cb g Nt D 85 fun F f=>Je<|Jh<|U<|Bw [[E 0],[E 0],[E 0],[E 0],[E 0],[E 0],Ak 32] fun p=>U<|NI (E 0) [[E 0]] D fun s=>U<|NI (E 0) [[E 0]] D fun u=>M ?_
 refine U<|Ey G0 (Aq Bm [0]) D D D fun h=>U<|Cx O7 D [4,5,6,0] (H1:=[BF Q a c,Bs a Ag t b,Bd Ag Ac Al n r b,Ae 3 1 (I h 1 1) 1 (Aq Bm ([0]))]) (fun w g=>QB Q a c Ag Ac Al n r b t 0 h 1 w g)<|M ?_
 refine Ci D D D<|M ?_
 refine ET (by omega) D D<|M ?_
 refine EU D D D<|M ?_
 refine HF (by omega) D D<|M ?_
 refine U<|?_
 refine Ba Ze D (fun w d=>ds Q a c Ag t b w (d.Ad (H1:=[BF Q a c,Bs a Ag t b]) [4,5]) (A5.sat d (i F f)) (d.Eb A5 (i F f) [4,5]) (by omega)) fun _ e W d ⟨he,q⟩=>⟨_,_,he,Sat.call (H1:=[BF Q a c,Bs a Ag t b]) (H2:=[Ae 3 1 (I h 1 1) 1 (Aq Bm ([0])),O u [[E 0]] 26,O s [[E 0]] 3,O p [[E 0],[E 0],[E 0],[E 0],[E 0],[E 0],Ak 32] 101,Bd Ag Ac Al n r b]) (d.pick [4,5,0,1,2,3,6]) q,?_⟩
 refine U<|Bk 5 0 7 D D D<|?_
 refine U<|Cq 4 0 D D D<|?_
 refine U<|Cq 3 0 D D D<|?_
 refine M ?_
 refine a7 Bv AF WX 5 4 3 D D D D D D fun W d=>?_
 subst f
 exact⟨D,d.pick [0,1,6]⟩
theorem gh(g Q b f Ag Ac Al n r c:Nat)(t:Fr.Bu)(w:World)(s:BE [O g [[Be .i32 0],[Be .u32 0],[S Q],[E t.w],[E 0],[E 0],[E 0],[E 0],[E 0],[E 0],[E 0],Ak 32,[E 0]] 117,BF Q b f,Bs b Ag t c,Bd Ag Ac Al n r c] w)(A5:CG w)(u:∀k,CB k→¬A6 [O g [[Be .i32 0],[Be .u32 0],[S Q],[E t.w],[E 0],[E 0],[E 0],[E 0],[E 0],[E 0],[E 0],Ak 32,[E 0]] 117,BF Q b f,Bs b Ag t c,Bd Ag Ac Al n r c] k)(x:t.w≤32)(y:t.m≤4096):Calls Tryz.prog 54 #[S g,E 0] w fun e W=>e=.returned (.tuple #[Value.agg (flat [[E 0],[E 0],[E 0],[E 0],[E 0],[E 0],bv (AL.bare t.w 256).l]),E 0])∧Sat (A6 [O g [[Be .i32 0],[Be .u32 0],[S Q],[E t.w],[E 0],[E 0],[E 0],[E 0],[E 0],[E 0],[E 0],Ak 32,[E 0]] 117,BF Q b f,Bs b Ag t c,Bd Ag Ac Al n r c]) w [O g [[Be .i32 0],[Be .u32 0],[S Q],[E t.w],[E 0],[E 0],[E 0],[E 0],[E 0],[E 0],[E 0],Ak 32,[E 0]] 117,BF Q b f,Bs b Ag t c,Bd Ag Ac Al n r c] W:=by
 have j:∀F,A6 [O g [[Be .i32 0],[Be .u32 0],[S Q],[E t.w],[E 0],[E 0],[E 0],[E 0],[E 0],[E 0],[E 0],Ak 32,[E 0]] 117,BF Q b f,Bs b Ag t c,Bd Ag Ac Al n r c]=F→∀k,CB k→¬F k:=fun F i k v q=>u k v (i▸q)
 refine Cb s PF D 26 fun F i=>Je<|Jh<|U<|Bw [[E 0],[E 0],[E 0],[E 0],[E 0],[E 0],Ak 32] fun o=>M ?_
 refine Hj (fun a W=>∃h,AH 26 a (Jb (Jb (Jb (Jb Jk 4 (S o)) 5 (E 0)) 6 (S h)) 8 (E 0))∧Sat F w [O h [[E 0],[E 0],[E 0],[E 0],[E 0],[E 0],bv (AL.bare t.w 256).l] 101,BF Q b f,Bs b Ag t c,Bd Ag Ac Al n r c,O o [[E 0],[E 0],[E 0],[E 0],[E 0],[E 0],Ak 32] 101,O g [[Be .i32 0],[Be .u32 0],[S Q],[E t.w],[E 0],[E 0],[E 0],[E 0],[E 0],[E 0],[E 0],Ak 32,[E 0]] 117] W) ?_ ?_
 ·
  refine CQ [0,1,2,3]<|Ab 0 D (AA D)<|Ab 1 D (Bp D)<|Ab 2 D (AS F5 2 D)<|Ab 3 D (Bb Om 1 2 D D D)<|Ab 4 D (AA D)<|Ab 5 D (Bp D)<|Ab 6 D (AS F5 43 D)<|Ab 7 D (Bb AF 1 12 D D D)<|Ab 8 D (AA D)<|Gy 9 14 D D ?_ ?_
  ·
   refine Ba Nt D (fun w d=>Wl Q b f Ag Ac Al n r c t w (d.Ad (H1:=[BF Q b f,Bs b Ag t c,Bd Ag Ac Al n r c]) [2,3,4]) (A5.sat d (j F i)) (d.Eb A5 (j F i) [2,3,4]) (by omega) (by omega)) fun _ e W d ⟨he,q⟩=>⟨_,_,he,Sat.call (H1:=[BF Q b f,Bs b Ag t c,Bd Ag Ac Al n r c]) (H2:=[O o [[E 0],[E 0],[E 0],[E 0],[E 0],[E 0],Ak 32] 101,O g [[Be .i32 0],[Be .u32 0],[S Q],[E t.w],[E 0],[E 0],[E 0],[E 0],[E 0],[E 0],[E 0],Ak 32,[E 0]] 117]) (d.pick [2,3,4,0,1]) q,?_⟩
   refine A8 [3,4,0,1]<|Ab 10 D (AA D)<|Ab 11 D (El D D)<|Ab 12 D (El D D)<|Ab 13 D (El D D)<|Bh 14 D<|Bw [[E 0],[E 0],[E 0],[E 0],[E 0],[E 0],Ak 32] fun h=>A8 [4,5,1,2]<|Bh 15 D<|Bk 0 0 7 D D D<|?_
   refine A8 [4,5,1,2]<|Ab 16 D (Ck D)<|Ab 17 D (Ck D)<|Cm<|?_
   exact fun a W p d=>⟨h,AY p,d.pick [0,1,2,3,4,5]⟩
  refine Bw [[E 0],[E 0],[E 0],[E 0],[E 0],[E 0],Ak 32] fun h=>A8 [1,2,3,4]<|Bh 9 D<|?_
  refine Ba Nt D (fun w d=>Wl Q b f Ag Ac Al n r c t w (d.Ad (H1:=[BF Q b f,Bs b Ag t c,Bd Ag Ac Al n r c]) [3,4,5]) (A5.sat d (j F i)) (d.Eb A5 (j F i) [3,4,5]) (by omega) (by omega)) fun _ e W d ⟨he,q⟩=>⟨_,_,he,Sat.call (H1:=[BF Q b f,Bs b Ag t c,Bd Ag Ac Al n r c]) (H2:=[O h [[E 0],[E 0],[E 0],[E 0],[E 0],[E 0],Ak 32] 101,O o [[E 0],[E 0],[E 0],[E 0],[E 0],[E 0],Ak 32] 101,O g [[Be .i32 0],[Be .u32 0],[S Q],[E t.w],[E 0],[E 0],[E 0],[E 0],[E 0],[E 0],[E 0],Ak 32,[E 0]] 117]) (d.pick [3,4,5,0,1,2]) q,?_⟩
  refine A8 [4,5,0,1]<|Ab 10 D (AA D)<|Ab 11 D (El D D)<|Ab 12 D (El D D)<|Ab 13 D (El D D)<|Bh 15 D<|Bk 3 0 7 D D D<|?_
  refine A8 [4,5,0,1]<|Ab 16 D (Ck D)<|Ab 17 D (Ck D)<|Cm<|?_
  exact fun a W p d=>⟨h,AY p,d.pick [3,0,1,2,4,5]⟩
 rintro a W ⟨h,p,d⟩;revert a W
 refine Jf<|Je<|?_
 refine CQ [0,1,2,3,5]<|Ab 0 D (BN Bv 0 D D)<|Ab 1 D (AA D)<|Bh 2 D<|BP R3 D (fun w d=>U8 w)<|A8 [0,1,2,3,5]<|Bh 3 D<|Bk 4 0 7 D D D<|?_
 refine A8 [0,1,2,3,5]<|Ab 4 D (Ck D)<|Cm<|Jf<|Jq<|Gl Bv 4 D D D fun W d=>?_
 subst i
 exact⟨D,d.pick [5,1,2,3]⟩
theorem iO(u want:Nat)(Q g Ag Ac Al b i d n r j Ax h m:Nat)(Y:Ji n)(t:Fr.Bu)(p:Nat)(Ah:B9)(L:BX)(w:World)(H:BE [O u [[Be .i32 0],[Be .u32 0],[S Q],[E t.w],[E Ah.f],[E 0],[E 0],[E 0],[E 0],[E 0],[E 0],Ak 32,[E p]] 117,BF Q g b,Bs g Ag t j,Bd Ag Ac Al n r j,O Ac [bv Y.l] 111,BU Al,Cj b i Ax (S d) (S d) 1 h m,Ap Tryz.prog 3 Am Cw i 1 (CF (fun _=>none) p d),Dp d p (((AI Y.l p).getD 0 0).toNat) L (A2 b 2) (A2 b 2),Ae 5 1 (I L.p L.n L.c) L.n (bv (G.load (AI Y.l p)))] w)(N:768≤n∧n≤1048576)(J:r≤1047000∧h≤1047000∧m≤1047000∧1≤Ax)(P:2≤p∧p<t.m∧t.m*256≤n)(R:t.m≤4096)(G4:L.n=(G.load (AI Y.l p)).length)(z:((AI Y.l p).getD 0 0).toNat=3)(hr:G.record (G.load (AI Y.l p))=some Ah)(hm:max Ah.ju (max Ah.jt Ah.r)<p)(C:1≤Ah.v∧Ah.f≤Ah.v∧Ah.v≤1073741824)(hw:(if Ah.f=0 then Ah.v else Ah.v - Ah.f+1)=want):Calls Tryz.prog 54 #[S u,E Ah.v] w fun e W=>e=.returned (.tuple #[Value.agg (flat [[E Ah.v],[E Ah.f],[E Ah.ju],[E Ah.jt],[E Ah.r],[E Ah.c],bv Ah.s.l]),E 0])∧Sat (A6 [O u [[Be .i32 0],[Be .u32 0],[S Q],[E t.w],[E Ah.f],[E 0],[E 0],[E 0],[E 0],[E 0],[E 0],Ak 32,[E p]] 117,BF Q g b,Bs g Ag t j,Bd Ag Ac Al n r j,O Ac [bv Y.l] 111,BU Al,Cj b i Ax (S d) (S d) 1 h m,Ap Tryz.prog 3 Am Cw i 1 (CF (fun _=>none) p d),Dp d p (((AI Y.l p).getD 0 0).toNat) L (A2 b 2) (A2 b 2),Ae 5 1 (I L.p L.n L.c) L.n (bv (G.load (AI Y.l p)))]) w [O u [[Be .i32 0],[Be .u32 0],[S Q],[E t.w],[E Ah.f],[E 0],[E 0],[E 0],[E 0],[E 0],[E 0],Ak 32,[E p]] 117,BF Q g b,Bs g Ag t j,Bd Ag Ac Al n r j,O Ac [bv Y.l] 111,BU Al,Cj b i Ax (S d) (S d) 1 (h+1) m,Ap Tryz.prog 3 Am Cw i 1 (CF (fun _=>none) p d),Dp d p (((AI Y.l p).getD 0 0).toNat) L (A2 b 2) (A2 b 2),Ae 5 1 (I L.p L.n L.c) L.n (bv (G.load (AI Y.l p)))] W:=by
 have T:(G.load (AI Y.l p)).length≤255:=by
  unfold G.load
  rw[List.length_take]
  have q:=((AI Y.l p).getD 1 0).toNat_lt
  omega
 refine Cb H PF D 26 fun F K=>Je<|Jh<|U<|Bw [[E 0],[E 0],[E 0],[E 0],[E 0],[E 0],Ak 32] fun x=>M ?_
 refine Hj (fun a W=>∃o,AH 26 a (Jb (Jb (Jb (Jb Jk 4 (S x)) 5 (E 0)) 6 (S o)) 8 (E 0))∧Sat F w [O o [[E Ah.v],[E Ah.f],[E Ah.ju],[E Ah.jt],[E Ah.r],[E Ah.c],bv Ah.s.l] 101,BF Q g b,Bs g Ag t j,Bd Ag Ac Al n r j,O Ac [bv Y.l] 111,BU Al,Cj b i Ax (S d) (S d) 1 (h+1) m,Ap Tryz.prog 3 Am Cw i 1 (CF (fun _=>none) p d),Dp d p (((AI Y.l p).getD 0 0).toNat) L (A2 b 2) (A2 b 2),Ae 5 1 (I L.p L.n L.c) L.n (bv (G.load (AI Y.l p))),O x [[E 0],[E 0],[E 0],[E 0],[E 0],[E 0],Ak 32] 101,O u [[Be .i32 0],[Be .u32 0],[S Q],[E t.w],[E Ah.f],[E 0],[E 0],[E 0],[E 0],[E 0],[E 0],Ak 32,[E p]] 117] W) ?_ ?_
 ·
  refine CQ [0,1,2,3,5,6,10]<|Ab 0 D (AA D)<|Ab 1 D (Bp D)<|Ab 2 D (AS F5 2 D)<|Ab 3 D (Bb Om 1 2 D D D)<|Ab 4 D (AA D)<|Ab 5 D (Bp D)<|Ab 6 D (AS F5 43 D)<|Ab 7 D (Bb AF 1 12 D D D)<|Ab 8 D (AA D)<|Gy 9 14 D D ?_ ?_
  ·
   refine Ba Nt D (fun w k=>UQ Q g Ag Ac Al b i d n r j Ax h m Y t p Ah L want w (k.Ad (H1:=[BF Q g b,Bs g Ag t j,Bd Ag Ac Al n r j,O Ac [bv Y.l] 111,BU Al,Cj b i Ax (S d) (S d) 1 h m,Ap Tryz.prog 3 Am Cw i 1 (CF (fun _=>none) p d),Dp d p (((AI Y.l p).getD 0 0).toNat) L (A2 b 2) (A2 b 2),Ae 5 1 (I L.p L.n L.c) L.n (bv (G.load (AI Y.l p)))]) [2,3,4,5,6,7,8,9,10]) (by omega) (by omega) (by omega) G4 z hr hm (by omega) C hw) fun _ e W k ⟨he,q⟩=>⟨_,_,he,Sat.call (H1:=[BF Q g b,Bs g Ag t j,Bd Ag Ac Al n r j,O Ac [bv Y.l] 111,BU Al,Cj b i Ax (S d) (S d) 1 h m,Ap Tryz.prog 3 Am Cw i 1 (CF (fun _=>none) p d),Dp d p (((AI Y.l p).getD 0 0).toNat) L (A2 b 2) (A2 b 2),Ae 5 1 (I L.p L.n L.c) L.n (bv (G.load (AI Y.l p)))]) (H2:=[O x [[E 0],[E 0],[E 0],[E 0],[E 0],[E 0],Ak 32] 101,O u [[Be .i32 0],[Be .u32 0],[S Q],[E t.w],[E Ah.f],[E 0],[E 0],[E 0],[E 0],[E 0],[E 0],Ak 32,[E p]] 117]) (k.pick [2,3,4,5,6,7,8,9,10,0,1]) q,?_⟩
   refine A8 [9,10,0,1,3,4,8]<|Ab 10 D (AA D)<|Ab 11 D (El D D)<|Ab 12 D (El D D)<|Ab 13 D (El D D)<|Bh 14 D<|Bw [[E 0],[E 0],[E 0],[E 0],[E 0],[E 0],Ak 32] fun o=>A8 [10,11,1,2,4,5,9]<|Bh 15 D<|Bk 0 0 7 D D D<|?_
   refine A8 [10,11,1,2,4,5,9]<|Ab 16 D (Ck D)<|Ab 17 D (Ck D)<|Cm<|?_
   exact fun a W y k=>⟨o,AY y,k.pick [0,1,2,3,4,5,6,7,8,9,10,11]⟩
  refine Bw [[E 0],[E 0],[E 0],[E 0],[E 0],[E 0],Ak 32] fun o=>A8 [1,2,3,4,6,7,11]<|Bh 9 D<|?_
  refine Ba Nt D (fun w k=>UQ Q g Ag Ac Al b i d n r j Ax h m Y t p Ah L want w (k.Ad (H1:=[BF Q g b,Bs g Ag t j,Bd Ag Ac Al n r j,O Ac [bv Y.l] 111,BU Al,Cj b i Ax (S d) (S d) 1 h m,Ap Tryz.prog 3 Am Cw i 1 (CF (fun _=>none) p d),Dp d p (((AI Y.l p).getD 0 0).toNat) L (A2 b 2) (A2 b 2),Ae 5 1 (I L.p L.n L.c) L.n (bv (G.load (AI Y.l p)))]) [3,4,5,6,7,8,9,10,11]) (by omega) (by omega) (by omega) G4 z hr hm (by omega) C hw) fun _ e W k ⟨he,q⟩=>⟨_,_,he,Sat.call (H1:=[BF Q g b,Bs g Ag t j,Bd Ag Ac Al n r j,O Ac [bv Y.l] 111,BU Al,Cj b i Ax (S d) (S d) 1 h m,Ap Tryz.prog 3 Am Cw i 1 (CF (fun _=>none) p d),Dp d p (((AI Y.l p).getD 0 0).toNat) L (A2 b 2) (A2 b 2),Ae 5 1 (I L.p L.n L.c) L.n (bv (G.load (AI Y.l p)))]) (H2:=[O o [[E 0],[E 0],[E 0],[E 0],[E 0],[E 0],Ak 32] 101,O x [[E 0],[E 0],[E 0],[E 0],[E 0],[E 0],Ak 32] 101,O u [[Be .i32 0],[Be .u32 0],[S Q],[E t.w],[E Ah.f],[E 0],[E 0],[E 0],[E 0],[E 0],[E 0],Ak 32,[E p]] 117]) (k.pick [3,4,5,6,7,8,9,10,11,0,1,2]) q,?_⟩
  refine A8 [10,11,0,1,3,4,8]<|Ab 10 D (AA D)<|Ab 11 D (El D D)<|Ab 12 D (El D D)<|Ab 13 D (El D D)<|Bh 15 D<|Bk 9 0 7 D D D<|?_
  refine A8 [10,11,0,1,3,4,8]<|Ab 16 D (Ck D)<|Ab 17 D (Ck D)<|Cm<|?_
  exact fun a W y k=>⟨o,AY y,k.pick [9,0,1,2,3,4,5,6,7,8,10,11]⟩
 rintro a W ⟨o,y,k⟩;revert a W
 refine Jf<|Je<|?_
 refine CQ [0,1,2,3,4,5,6,7,8,9,11]<|Ab 0 D (BN Bv 0 D D)<|Ab 1 D (AA D)<|Bh 2 D<|BP R3 D (fun w k=>U8 w)<|A8 [0,1,2,3,4,5,6,7,8,9,11]<|Bh 3 D<|Bk 10 0 7 D D D<|?_
 refine A8 [0,1,2,3,4,5,6,7,8,9,11]<|Ab 4 D (Ck D)<|Cm<|Jf<|Jq<|Gl Bv 10 D D D fun W k=>?_
 subst K
 exact⟨D,k.pick [11,1,2,3,4,5,6,7,8,9]⟩
end Go.Proofs.YtaapafoibofbjaaGreatDoor
