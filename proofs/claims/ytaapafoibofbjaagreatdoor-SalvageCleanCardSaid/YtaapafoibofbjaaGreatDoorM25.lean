/- Laws and walks on the road to SalvageClean (part M25). No conditions beyond each law's own. -/
import Derived.Test.YtaapafoibofbjaaGreatDoorM01
import Derived.Test.YtaapafoibofbjaaGreatDoorM24
set_option linter.unusedVariables false
namespace Go.Proofs.YtaapafoibofbjaaGreatDoor
open Go.RowKit
set_option maxRecDepth 100000
set_option maxHeartbeats 1000000
theorem Rh{N:Nat}{f:BW}{F:Nat→Prop}{w0:World}{H:List Atom}{K:Act→World→Prop}(k:TypeId){Bo:Type}(Ca:Bo→Value)(h:AT N f F w0 (AQ k Ca (.map none) (fun _=>none)::H) K):AT N f F w0 H K:=fun a w b c=>h a w b (c.new (Cn _ _) (.inl ⟨D,fun _=>rfl⟩) (fun k e=>by cases e))
theorem Sat.QM{F:Nat→Prop}{w0 w:World}{H:List Atom}{k b n:Nat}{Bo:Type}{Ca:Bo→Value}{Z:Bo→Option Nat}(h:Sat F w0 H w)(i:Nat)(a:H[i]? =some (Ap Tryz.prog k Ca Am b n Z)):Sat F w0 (H.set i (AQ k Ca (.map (some b)) Z)) w:=h.set i a (C7.refl _ _) (.inr ⟨b,n,D,h.mp i a⟩) (fun j e=>.inl (by cases e;rfl))
theorem Lx{As:List Nat}(h:∀q∈As,q≤4096)(i:Nat):G.at_ As i≤4096:=by
 unfold G.at_
 split
 ·rename_i b
  rw[List.getD_eq_getElem?_getD]
  cases a:As[i - 1]? with
  |none=>exact Nat.zero_le _
  |some q=>exact h q (List.mem_of_getElem? a)
 ·exact Nat.zero_le _
def Hq(W:Nat)(Z:Nat→Option Bf)(As:List Nat)(o:G.Shape)(i:Nat)(x:B9):Option G.B4:=if x.r=0 then(if x.s=AL.bare W 256 then some ⟨max 1 (G.at_ As (i - 1))+1,[],[]⟩else none)else G.through (B0 W Z o.1 o.2 (max 1 (G.at_ As (i - 1))+1)) 4097 x.r (G.at_ As i) x.c x.s ⟨0,CU⟩ ⟨max 1 (G.at_ As (i - 1))+1,[],[]⟩
theorem GC{W:Nat}{Z:Nat→Option Bf}{Ax:Nat→Option B9}{As:List Nat}{o:G.Shape}{i:Nat}{x a:B9}(b:Ax (G.at_ As i)=some x)(c:Ax (G.at_ As 1)=some a):G.version W (fun p=>(Z p).map Bf.AW) (fun p=>(Ax p).getD G.DX) As o i=if x.f=a.f∧x.v=(if 0<a.f then a.f+i - 1 else i)∧x.ju=G.at_ As (i - 1)∧x.jt=G.at_ As (i&&&(i - 1))then(Hq W Z As o i x).bind (fun s=>if s.A4=G.at_ As i then some (s.rows,s.jo)else none)else none:=by
 unfold G.version Hq
 simp only[b,c,Option.getD_some]
 rfl
attribute [local irreducible] G.through AL.bare
theorem aj(Q:Nat)(z:Dl)(C d B:BX)(Av Bt:Nat)(Z:Nat→Option Bf)(Ax:Nat→Option B9)(As y:List Nat)(i:Nat)(x aa:B9)(w:World)(L:BE [Ay Q z C d AE B,A1 z.w B,AN z.AU Av Z,Ap Tryz.prog 3 Am BT z.jk Bt Ax,Ae 3 1 (I C.p C.n C.c) C.n (Aq Bm As),Ae 230 1 (I d.p d.n d.c) d.n (Aq CC y)] w)(A5:CG w)(aO:∀k,CB k→¬A6 [Ay Q z C d AE B,A1 z.w B,AN z.AU Av Z,Ap Tryz.prog 3 Am BT z.jk Bt Ax,Ae 3 1 (I C.p C.n C.c) C.n (Aq Bm As),Ae 230 1 (I d.p d.n d.c) d.n (Aq CC y)] k)(hw:z.w≤32)(CM:∀p x,Z p=some x→Ge x∧2≤p∧p≤4096)(Y:Ax (G.at_ As i)=some x)(T:Ax (G.at_ As 1)=some aa)(bg:C.n≤4096)(au:∀q∈As,q≤4096)(bh:i=1)(V:d.n+1=i)(bj:i≤4096)(bk:x.v≤1099511627776)(bl:aa.f≤1099511627776)(bm:x.r≤4096)(bn:x.c≤4096):Calls Tryz.prog 85 #[S Q,E i] w fun e W=>(∀o',G.version z.w (fun p=>(Z p).map Bf.AW) (fun p=>(Ax p).getD G.DX) As ([],[]) i=some o'→∃al af ay az aA,e=.returned (.bool true)∧af.n=d.n+1∧Sat (A6 [Ay Q z C d AE B,A1 z.w B,AN z.AU Av Z,Ap Tryz.prog 3 Am BT z.jk Bt Ax,Ae 3 1 (I C.p C.n C.c) C.n (Aq Bm As),Ae 230 1 (I d.p d.n d.c) d.n (Aq CC y)]) w [Ay Q z C af AE al,A1 z.w al,AN z.AU Av Z,Ap Tryz.prog 3 Am BT z.jk Bt Ax,Ae 3 1 (I C.p C.n C.c) C.n (Aq Bm As),Ae 230 1 (I af.p af.n af.c) af.n (Aq CC (y++[ay])),O ay [[az],[aA]] 234,AQ 242 AM az (G.get o'.1),AQ 57 AP aA (G.get o'.2)] W)∧(G.version z.w (fun p=>(Z p).map Bf.AW) (fun p=>(Ax p).getD G.DX) As ([],[]) i=none→∃ad aP al,e=.returned (.bool false)∧1≤ad.n∧ad.n≤1048576∧Sat (A6 [Ay Q z C d AE B,A1 z.w B,AN z.AU Av Z,Ap Tryz.prog 3 Am BT z.jk Bt Ax,Ae 3 1 (I C.p C.n C.c) C.n (Aq Bm As),Ae 230 1 (I d.p d.n d.c) d.n (Aq CC y)]) w [Ay Q z C d ad al,A1 z.w al,AN z.AU Av Z,Ap Tryz.prog 3 Am BT z.jk Bt Ax,Ae 3 1 (I C.p C.n C.c) C.n (Aq Bm As),Ae 195 2 (I ad.p ad.n ad.c) ad.n (Aq BQ aP)] W):=by
 have ag:∀F,A6 [Ay Q z C d AE B,A1 z.w B,AN z.AU Av Z,Ap Tryz.prog 3 Am BT z.jk Bt Ax,Ae 3 1 (I C.p C.n C.c) C.n (Aq Bm As),Ae 230 1 (I d.p d.n d.c) d.n (Aq CC y)]=F→∀k,CB k→¬F k:=fun F H k aQ q=>aO k aQ (H▸q)
 have bo:=Lx au (i - 1)
 have bp:=Lx au i
 have bq:=Lx au 1
 have hOr:∀q p,G.get ([]:List (G.Ae×Nat)) q=some p→∃c,EX Z (257 - q.b) p q.b c:=fun q p h=>by cases h
 have aB:∀k p,G.get ([]:List (Jc×Nat)) k=some p→∃x,Z p=some x:=fun k p h=>by cases h
 refine Cb L P7 D 150 fun F H=>M ?_
 refine U<|Cx J2 D [0,4] (H1:=[Ay Q z C d AE B,Ae 3 1 (I C.p C.n C.c) C.n (Aq Bm As)]) (fun w L=>HX Q z C d AE B i As w L)<|M ?_
 refine Hj (fun a W=>∃(A:Nat),AH 150 a (Jb (Jb (Jb (Jb (Jb (Jb Jk 0 (S Q)) 1 (E i)) 4 (C' false)) 5 (E (G.at_ As i))) 6 (S A)) 7 (E aa.f))∧Sat F w [O A [[E x.v],[E x.f],[E x.ju],[E x.jt],[E x.r],[E x.c],bv x.s.l] 101,Ay Q z C d AE B,A1 z.w B,AN z.AU Av Z,Ap Tryz.prog 3 Am BT z.jk Bt Ax,Ae 3 1 (I C.p C.n C.c) C.n (Aq Bm As),Ae 230 1 (I d.p d.n d.c) d.n (Aq CC y)] W) ?_ ?_
 ·
  refine CQ [0,1,2,3,4,5]<|Ab 0 D (AA D)<|Ab 1 D (Bp D)<|Ab 2 D (AS Tryz.underlying97 7 D)<|Ab 3 D (Bb Tryz.underlying93 0 7 D D D)<|Ab 4 D (AA D)<|Ab 5 D (GN Tryz.underlying93 (fun w g=>g.mp 3) Fg Fe (a:=(G.at_ As i)) (Fb (by omega)) D D KQ (by rw[Y]))<|Ab 6 D (AA D)<|Ab 7 D (Bp D)<|Ab 8 D (AS Tryz.underlying97 7 D)<|Ab 9 D (Bb Tryz.underlying93 0 7 D D D)<|Ab 10 D (AA D)<|Gy 11 14 D D ?_ ?_
  ·
   refine Cx Tryz.func86 D [0,4] (H1:=[Ay Q z C d AE B,Ae 3 1 (I C.p C.n C.c) C.n (Aq Bm As)]) (fun w L=>HX Q z C d AE B 1 As w L)<|A8 [0,1,2,3,4,5]<|Ab 12 D (GN Tryz.underlying93 (fun w g=>g.mp 3) Fg Fe (a:=(G.at_ As 1)) (Fb (by omega)) D D KQ (by rw[T]))<|Ab 13 D (Io Tryz.underlying101 1 D D D Tryz.underlying3)<|Bh 14 D<|Bw [[E 0],[E 0],[E 0],[E 0],[E 0],[E 0],Ak 32] fun A=>A8 [1,2,3,4,5,6]<|Bh 15 D<|Bk 0 0 7 D D D<|?_
   refine A8 [1,2,3,4,5,6]<|Ab 16 D (Ck D)<|Cm<|?_
   exact fun a W o g=>⟨A,AY o,g.pick [0,1,2,3,4,5,6]⟩
  refine Bw [[E 0],[E 0],[E 0],[E 0],[E 0],[E 0],Ak 32] fun A=>A8 [1,2,3,4,5,6]<|Bh 11 D<|Cx Tryz.func86 D [1,5] (H1:=[Ay Q z C d AE B,Ae 3 1 (I C.p C.n C.c) C.n (Aq Bm As)]) (fun w L=>HX Q z C d AE B 1 As w L)<|A8 [1,2,3,4,5,6]<|Ab 12 D (GN Tryz.underlying93 (fun w g=>g.mp 3) Fg Fe (a:=(G.at_ As 1)) (Fb (by omega)) D D KQ (by rw[T]))<|Ab 13 D (Io Tryz.underlying101 1 D D D Tryz.underlying3)<|Bh 15 D<|Bk 0 0 7 D D D<|?_
  refine A8 [1,2,3,4,5,6]<|Ab 16 D (Ck D)<|Cm<|?_
  exact fun a W o g=>⟨A,AY o,g.pick [0,1,2,3,4,5,6]⟩
 rintro a W ⟨A,o,g⟩;revert a W
 refine Jf<|Je<|Jh<|Jd D<|Js D<|Jg<|Jf<|Gq (fun a W=>∃(an:Nat),AH 150 a (Jb (Jb (Jb (Jb (Jb (Jb (Jb Jk 0 (S Q)) 1 (E i)) 4 (C' false)) 5 (E (G.at_ As i))) 6 (S A)) 7 (E aa.f)) 8 (E an))∧Sat F w [O A [[E x.v],[E x.f],[E x.ju],[E x.jt],[E x.r],[E x.c],bv x.s.l] 101,Ay Q z C d AE B,A1 z.w B,AN z.AU Av Z,Ap Tryz.prog 3 Am BT z.jk Bt Ax,Ae 3 1 (I C.p C.n C.c) C.n (Aq Bm As),Ae 230 1 (I d.p d.n d.c) d.n (Aq CC y)] W∧(an=if 0<aa.f then aa.f+i - 1 else i)) ?_ ?_
 ·
  refine M ?_
  refine Mp D D<|Jg<|Jf<|Cz D (fun aR=>?_) fun aR=>?_
  ·
   refine M ?_
   refine B6 D D<|Es (q:=1) D D<|M ?_
   exact fun a W o g=>⟨(aa.f+i) - 1,AY o,g.pick [0,1,2,3,4,5,6],by first|rw[if_pos (by omega)]|rw[if_neg (by omega)]⟩
  refine Jy<|Jf<|?_
  exact fun a W o g=>⟨i,AY o,g.pick [0,1,2,3,4,5,6],by first|rw[if_pos (by omega)]|rw[if_neg (by omega)]⟩
 rintro a W ⟨an,o,g,ab⟩;revert a W
 refine Je<|Je<|G9<|AR (AS Bv 1 D)<|AR (Bb AF 0 1 D D D)<|AR (AA D)<|?_
 by_cases aC:((x.f:Nat):Int)=((aa.f:Nat):Int)
 ·
  refine AR (GY aC D D)<|AR (AA D)<|B2 D D D<|AR (AS Bv 0 D)<|B2 D D D<|AR (Bb AF 0 0 D D D)<|B2 D D D<|AR (AA D)<|B2 D D D<|?_
  by_cases aD:((x.v:Nat):Int)=((an:Nat):Int)
  ·
   refine AR (GY aD D D)<|AR (EK D D)<|AR (AA D)<|B2 D D D<|AR (AS Bv 2 D)<|B2 D D D<|AR (Bb AF 0 2 D D D)<|B2 D D D<|AR (AA D)<|B2 D D D<|AR (AA D)<|B2 D D D<|AR (HS (q:=1) D D)<|B2 D D D<|KK J2 D [1,5] (H1:=[Ay Q z C d AE B,Ae 3 1 (I C.p C.n C.c) C.n (Aq Bm As)]) (fun w L=>HX Q z C d AE B (i - 1) As w L)<|B2 D D D<|?_
   by_cases aE:((x.ju:Nat):Int)=((G.at_ As (i - 1):Nat):Int)
   ·
    refine AR (GY aE D D)<|AR (EK D D)<|AR (AA D)<|B2 D D D<|AR (AS Bv 3 D)<|B2 D D D<|AR (Bb AF 0 3 D D D)<|B2 D D D<|AR (AA D)<|B2 D D D<|AR (AA D)<|B2 D D D<|AR (AA D)<|B2 D D D<|AR (HS (q:=1) D D)<|B2 D D D<|AR (Na D D (i&&&(i - 1)) D)<|B2 D D D<|KK J2 D [1,5] (H1:=[Ay Q z C d AE B,Ae 3 1 (I C.p C.n C.c) C.n (Aq Bm As)]) (fun w L=>HX Q z C d AE B (i&&&(i - 1)) As w L)<|B2 D D D<|?_
    by_cases aF:((x.jt:Nat):Int)=((G.at_ As (i&&&(i - 1)):Nat):Int)
    ·
     refine AR (GY aF D D)<|AR (EK D D)<|Er<|M ?_
     refine Af (fun _ _ o g=>Cs o (BH:=[]) D (v:=Value.agg (flat [[Value.map none],[Value.map none]])) (run_build _ _ _ _ (by kernel_rfl)))<|U<|Cv D fun AB=>U<|K5 242 AM Am fun j=>U<|K5 57 AP Am fun u=>Af (fun _ _ o g=>Cs o (BH:=[(0,(Value.map (some j))),(1,(Value.map (some u)))]) D (v:=Value.agg (flat [[Value.map (some j)],[Value.map (some u)]])) (run_build _ _ _ _ (by kernel_rfl)))<|U<|Cv D fun t=>Jd D<|Jd D<|Es (q:=1) D D<|U<|Cx J2 D [5,9] (H1:=[Ay Q z C d AE B,Ae 3 1 (I C.p C.n C.c) C.n (Aq Bm As)]) (fun w L=>HX Q z C d AE B (i - 1) As w L)<|Af (Mn D D (((max 1 (G.at_ As (i - 1))):Nat):Int))<|B6 (q:=1) D D<|Af (fun _ _ o g=>Cs o (BH:=[(0,(S Q)),(1,(S AB)),(2,(S t)),(3,(E ((max 1 (G.at_ As (i - 1)))+1)))]) D (v:=Value.agg (flat [[S Q],[S AB],[S t],[E ((max 1 (G.at_ As (i - 1)))+1)],[E 0]])) (run_build _ _ _ _ (by kernel_rfl)))<|U<|Cv D fun Ac=>M ?_
     refine HF (by omega) D D<|M ?_
     refine By D<|AG C9 3 D<|AZ AF 0 3 D D D<|By D<|AG C9 4 D<|U<|Cq 0 4 D D D<|?_
     refine Jg<|?_
     refine Rh 57 AP<|Rh 242 AM<|I_ 1 (AQ 57 AP (Value.map none) (G.get [])) D D<|I_ 0 (AQ 242 AM (Value.map none) (G.get [])) D D<|I_ 5 (Ap Tryz.prog 242 AM Am j 0 (G.get (⟨max 1 (G.at_ As (i - 1))+1,[],[]⟩:G.B4).rows)) D D<|I_ 4 (Ap Tryz.prog 57 AP Am u 0 (G.get (⟨max 1 (G.at_ As (i - 1))+1,[],[]⟩:G.B4).jo)) D D<|Jf<|Gq (fun a W=>∃(K:G.B4) (ao:Nat) (aq:Nat) (R:BX),AH 150 a (Jb (Jb (Jb (Jb Jk 0 (S Q)) 5 (E (G.at_ As i))) 6 (S A)) 9 (S Ac))∧Sat F w [AQ 242 AM (Value.map none) (G.get []),AQ 57 AP (Value.map none) (G.get []),O Ac [[S Q],[S AB],[S t],[E ((max 1 (G.at_ As (i - 1)))+1)],[E K.A4]] 236,O t [[Value.map (some j)],[Value.map (some u)]] 234,Ap Tryz.prog 57 AP Am u aq (G.get K.jo),Ap Tryz.prog 242 AM Am j ao (G.get K.rows),O AB [[Value.map none],[Value.map none]] 234,O A [[E x.v],[E x.f],[E x.ju],[E x.jt],[E x.r],[E x.c],bv x.s.l] 101,Ay Q z C d AE R,A1 z.w R,AN z.AU Av Z,Ap Tryz.prog 3 Am BT z.jk Bt Ax,Ae 3 1 (I C.p C.n C.c) C.n (Aq Bm As),Ae 230 1 (I d.p d.n d.c) d.n (Aq CC y)] W∧Hq z.w Z As ([],[]) i x=some K) ?_ ?_
     ·
      refine Je<|Jh<|AG Bv 4 D<|AZ AF 7 4 D D D<|E2 D D<|Jg<|Jf<|Cz D (fun aS=>?_) fun aS=>?_
      ·
       refine Je<|?_
       refine CQ [0,1,2,3,4,5,6,7,10,11,12,13]<|Ab 0 D (AS Bv 6 D)<|Ab 1 D (DH B5 7 6 1 [bv x.s.l] D D)<|Ab 2 D (AA D)<|Bh 3 D<|?_
       refine Ba Mw D (fun w g=>N4 Q z C d AE B 256 w (g.Ad (H1:=[Ay Q z C d AE B,A1 z.w B]) [8,9]) (A5.sat g (ag F H)) (g.Eb A5 (ag F H) [8,9])) fun _ e W g ⟨he,ah,q⟩=>⟨_,_,he,Sat.call (H1:=[Ay Q z C d AE B,A1 z.w B]) (H2:=[AQ 242 AM (Value.map none) (G.get []),AQ 57 AP (Value.map none) (G.get []),O Ac [[S Q],[S AB],[S t],[E ((max 1 (G.at_ As (i - 1)))+1)],[E ((max 1 (G.at_ As (i - 1)))+1)]] 236,O t [[Value.map (some j)],[Value.map (some u)]] 234,Ap Tryz.prog 57 AP Am u 0 (G.get (⟨max 1 (G.at_ As (i - 1))+1,[],[]⟩:G.B4).jo),Ap Tryz.prog 242 AM Am j 0 (G.get (⟨max 1 (G.at_ As (i - 1))+1,[],[]⟩:G.B4).rows),O AB [[Value.map none],[Value.map none]] 234,O A [[E x.v],[E x.f],[E x.ju],[E x.jt],[E x.r],[E x.c],bv x.s.l] 101,AN z.AU Av Z,Ap Tryz.prog 3 Am BT z.jk Bt Ax,Ae 3 1 (I C.p C.n C.c) C.n (Aq Bm As),Ae 230 1 (I d.p d.n d.c) d.n (Aq CC y)]) (g.pick [8,9,0,1,2,3,4,5,6,7,10,11,12,13]) q,?_⟩
       refine A8 [2,3,4,5,6,7,8,9,10,11,12,13]<|?_
       refine Ab 4 D (fun _ _ o g=>Qj o x.s.h (AL.bare z.w 256).h D D _ D)<|Cm<|Jf<|HI D (fun aT=>?_) fun aT=>?_
       ·
        refine M ?_
        refine U<|?_
        refine Dr 195 2 (Aq BQ [])<|?_
        refine Ba EV D (fun w g=>EZ Q z C d AE ah (G.at_ As i) 171 ([]) w (g.Ad (H1:=[Ay Q z C d AE ah,Ae 195 2 (I none 0 0) 0 (Aq BQ ([]))]) [1,0])) fun _ e W g ⟨aG,aU,he,aV,q⟩=>⟨_,_,he,Sat.call (H1:=[Ay Q z C d AE ah,Ae 195 2 (I none 0 0) 0 (Aq BQ ([]))]) (H2:=[A1 z.w ah,AQ 242 AM (Value.map none) (G.get []),AQ 57 AP (Value.map none) (G.get []),O Ac [[S Q],[S AB],[S t],[E ((max 1 (G.at_ As (i - 1)))+1)],[E ((max 1 (G.at_ As (i - 1)))+1)]] 236,O t [[Value.map (some j)],[Value.map (some u)]] 234,Ap Tryz.prog 57 AP Am u 0 (G.get (⟨max 1 (G.at_ As (i - 1))+1,[],[]⟩:G.B4).jo),Ap Tryz.prog 242 AM Am j 0 (G.get (⟨max 1 (G.at_ As (i - 1))+1,[],[]⟩:G.B4).rows),O AB [[Value.map none],[Value.map none]] 234,O A [[E x.v],[E x.f],[E x.ju],[E x.jt],[E x.r],[E x.c],bv x.s.l] 101,AN z.AU Av Z,Ap Tryz.prog 3 Am BT z.jk Bt Ax,Ae 3 1 (I C.p C.n C.c) C.n (Aq Bm As),Ae 230 1 (I d.p d.n d.c) d.n (Aq CC y)]) (g.pick [1,0,2,3,4,5,6,7,8,9,10,11,12,13,14]) q,?_⟩
        have br:aG.n=1:=aV
        refine A7 ?_
        intro W g
        subst H
        have J:G.version z.w (fun p=>(Z p).map Bf.AW) (fun p=>(Ax p).getD G.DX) As ([],[]) i=none:=by
         rw[GC Y T];rw[if_pos ⟨by omega,by rw[←ab];omega,by omega,by omega⟩];unfold Hq;rw[if_pos (by omega),if_neg (fun aW=>by have:=congrArg Jc.l aW;contradiction)];rfl
        refine⟨fun o' ho=>(by rw[J]at ho;cases ho),fun _=>?_⟩
        exact⟨aG,aU,ah,D,by omega,by omega,g.pick [0,2,11,12,13,1]⟩
       refine Jy<|Jf<|?_
       exact fun a W o g=>⟨(⟨max 1 (G.at_ As (i - 1))+1,[],[]⟩:G.B4),0,0,ah,AY o,g.pick [2,3,4,5,6,7,8,9,0,1,10,11,12,13],(by unfold Hq;rw[if_pos (by omega),if_pos (by apply Jc.ext;first|assumption|(apply Classical.byContradiction;assumption))])⟩
      refine Je<|?_
      cases ar:G.through (B0 z.w Z [] [] (max 1 (G.at_ As (i - 1))+1)) 4097 x.r (G.at_ As i) x.c x.s ⟨0,CU⟩ (⟨max 1 (G.at_ As (i - 1))+1,[],[]⟩:G.B4)with
      |none=>
       refine Jh<|Jd D<|AG Bv 4 D<|AZ AF 7 4 D D D<|Jd D<|AG Bv 5 D<|AZ AF 7 5 D D D<|AG Bv 6 D<|Af (DH B5 7 6 1 [bv x.s.l] D D)<|Af (fun _ _ o g=>E_ o (BH:=[(0,(E x.r)),(1,(E (G.at_ As i))),(2,(E x.c)),(3,(Value.agg (flat [bv x.s.l])))]) D (r:=flat [[E x.r],[E (G.at_ As i)],[E x.c],bv x.s.l]) (E5 DS (ss:=[[E 0],[E 0],[E 0],Ak 32]) (by kernel_rfl) (places:=[(0,1),(1,1),(2,1),(3,32)]) (by kernel_rfl) (B3 [] [[E 0]] [[E 0],[E 0],Ak 32] [[E x.r]] D Ja.nil (Ja.one Ja.nil) (Ja.one Ja.nil) D (B3 [[E x.r]] [[E 0]] [[E 0],Ak 32] [[E (G.at_ As i)]] D (Ja.one Ja.nil) (Ja.one Ja.nil) (Ja.one Ja.nil) D (B3 [[E x.r],[E (G.at_ As i)]] [[E 0]] [Ak 32] [[E x.c]] D (Ja.one (Ja.one Ja.nil)) (Ja.one Ja.nil) (Ja.one Ja.nil) D (B3 [[E x.r],[E (G.at_ As i)],[E x.c]] [Ak 32] [] [bv x.s.l] D (Ja.one (Ja.one (Ja.one Ja.nil))) (Ja.row (Jl 32) Ja.nil) (Ja.row x.s.row Ja.nil) D D))))))<|Af (fun _ _ o g=>Cs o (BH:=[]) D (v:=Value.agg (flat [[E 0],Ak 32])) (run_build _ _ _ _ (by kernel_rfl)))<|U<|?_
       refine Ba IC D (fun w g=>(Qg Q Ac AB t j u (.map none) (.map none) z C d Av Z [] [] (max 1 (G.at_ As (i - 1))+1) hw CM hOr aB 4097 B x.r (G.at_ As i) x.c 0 0 257 x.s ⟨0,CU⟩ (⟨max 1 (G.at_ As (i - 1))+1,[],[]⟩:G.B4) w (g.Ad (H1:=[Ay Q z C d AE B,A1 z.w B,AN z.AU Av Z,O Ac [[S Q],[S AB],[S t],[E ((max 1 (G.at_ As (i - 1)))+1)],[E ((max 1 (G.at_ As (i - 1)))+1)]] 236,O AB [[Value.map none],[Value.map none]] 234,AQ 242 AM (Value.map none) (G.get []),AQ 57 AP (Value.map none) (G.get []),O t [[Value.map (some j)],[Value.map (some u)]] 234,Ap Tryz.prog 242 AM Am j 0 (G.get (⟨max 1 (G.at_ As (i - 1))+1,[],[]⟩:G.B4).rows),Ap Tryz.prog 57 AP Am u 0 (G.get (⟨max 1 (G.at_ As (i - 1))+1,[],[]⟩:G.B4).jo)]) [8,9,10,2,6,0,1,3,5,4]) (A5.sat g (ag F H)) (g.Eb A5 (ag F H) [8,9,10,2,6,0,1,3,5,4]) (by omega) D (by omega) (by omega) (by omega) (by omega) (by omega) (by show(max 1 (G.at_ As (i - 1))+1)≤2097152;omega)).mono fun e W q=>q.2 ar) fun _ e W g ⟨aX,aY,aZ,he,bs,bt,q⟩=>⟨_,_,he,Sat.call (H1:=[Ay Q z C d AE B,A1 z.w B,AN z.AU Av Z,O Ac [[S Q],[S AB],[S t],[E ((max 1 (G.at_ As (i - 1)))+1)],[E ((max 1 (G.at_ As (i - 1)))+1)]] 236,O AB [[Value.map none],[Value.map none]] 234,AQ 242 AM (Value.map none) (G.get []),AQ 57 AP (Value.map none) (G.get []),O t [[Value.map (some j)],[Value.map (some u)]] 234,Ap Tryz.prog 242 AM Am j 0 (G.get (⟨max 1 (G.at_ As (i - 1))+1,[],[]⟩:G.B4).rows),Ap Tryz.prog 57 AP Am u 0 (G.get (⟨max 1 (G.at_ As (i - 1))+1,[],[]⟩:G.B4).jo)]) (H2:=[O A [[E x.v],[E x.f],[E x.ju],[E x.jt],[E x.r],[E x.c],bv x.s.l] 101,Ap Tryz.prog 3 Am BT z.jk Bt Ax,Ae 3 1 (I C.p C.n C.c) C.n (Aq Bm As),Ae 230 1 (I d.p d.n d.c) d.n (Aq CC y)]) (g.pick [8,9,10,2,6,0,1,3,5,4,7,11,12,13]) q,?_⟩
       refine Af (fun _ _ o g=>CE o (b:=false) D)<|A7 ?_
       intro W g
       subst H
       have J:G.version z.w (fun p=>(Z p).map Bf.AW) (fun p=>(Ax p).getD G.DX) As ([],[]) i=none:=by
        rw[GC Y T];rw[if_pos ⟨by omega,by rw[←ab];omega,by omega,by omega⟩];unfold Hq;rw[if_neg (by omega)];first|(rw[show G.through _ _ _ _ _ _ _ _=none from ar];rfl)|rfl
       refine⟨fun o' ho=>(by rw[J]at ho;cases ho),fun _=>?_⟩
       exact⟨aX,aY,aZ,D,by omega,by omega,g.pick [0,1,2,5,6,3]⟩
      |some a0=>
       refine Jh<|Jd D<|AG Bv 4 D<|AZ AF 7 4 D D D<|Jd D<|AG Bv 5 D<|AZ AF 7 5 D D D<|AG Bv 6 D<|Af (DH B5 7 6 1 [bv x.s.l] D D)<|Af (fun _ _ o g=>E_ o (BH:=[(0,(E x.r)),(1,(E (G.at_ As i))),(2,(E x.c)),(3,(Value.agg (flat [bv x.s.l])))]) D (r:=flat [[E x.r],[E (G.at_ As i)],[E x.c],bv x.s.l]) (E5 DS (ss:=[[E 0],[E 0],[E 0],Ak 32]) (by kernel_rfl) (places:=[(0,1),(1,1),(2,1),(3,32)]) (by kernel_rfl) (B3 [] [[E 0]] [[E 0],[E 0],Ak 32] [[E x.r]] D Ja.nil (Ja.one Ja.nil) (Ja.one Ja.nil) D (B3 [[E x.r]] [[E 0]] [[E 0],Ak 32] [[E (G.at_ As i)]] D (Ja.one Ja.nil) (Ja.one Ja.nil) (Ja.one Ja.nil) D (B3 [[E x.r],[E (G.at_ As i)]] [[E 0]] [Ak 32] [[E x.c]] D (Ja.one (Ja.one Ja.nil)) (Ja.one Ja.nil) (Ja.one Ja.nil) D (B3 [[E x.r],[E (G.at_ As i)],[E x.c]] [Ak 32] [] [bv x.s.l] D (Ja.one (Ja.one (Ja.one Ja.nil))) (Ja.row (Jl 32) Ja.nil) (Ja.row x.s.row Ja.nil) D D))))))<|Af (fun _ _ o g=>Cs o (BH:=[]) D (v:=Value.agg (flat [[E 0],Ak 32])) (run_build _ _ _ _ (by kernel_rfl)))<|U<|?_
       refine Ba IC D (fun w g=>(Qg Q Ac AB t j u (.map none) (.map none) z C d Av Z [] [] (max 1 (G.at_ As (i - 1))+1) hw CM hOr aB 4097 B x.r (G.at_ As i) x.c 0 0 257 x.s ⟨0,CU⟩ (⟨max 1 (G.at_ As (i - 1))+1,[],[]⟩:G.B4) w (g.Ad (H1:=[Ay Q z C d AE B,A1 z.w B,AN z.AU Av Z,O Ac [[S Q],[S AB],[S t],[E ((max 1 (G.at_ As (i - 1)))+1)],[E ((max 1 (G.at_ As (i - 1)))+1)]] 236,O AB [[Value.map none],[Value.map none]] 234,AQ 242 AM (Value.map none) (G.get []),AQ 57 AP (Value.map none) (G.get []),O t [[Value.map (some j)],[Value.map (some u)]] 234,Ap Tryz.prog 242 AM Am j 0 (G.get (⟨max 1 (G.at_ As (i - 1))+1,[],[]⟩:G.B4).rows),Ap Tryz.prog 57 AP Am u 0 (G.get (⟨max 1 (G.at_ As (i - 1))+1,[],[]⟩:G.B4).jo)]) [8,9,10,2,6,0,1,3,5,4]) (A5.sat g (ag F H)) (g.Eb A5 (ag F H) [8,9,10,2,6,0,1,3,5,4]) (by omega) D (by omega) (by omega) (by omega) (by omega) (by omega) (by show(max 1 (G.at_ As (i - 1))+1)≤2097152;omega)).mono fun e W q=>q.1 _ ar) fun _ e W g ⟨a1,a2,a3,he,bu,bw,bx,q⟩=>⟨_,_,he,Sat.call (H1:=[Ay Q z C d AE B,A1 z.w B,AN z.AU Av Z,O Ac [[S Q],[S AB],[S t],[E ((max 1 (G.at_ As (i - 1)))+1)],[E ((max 1 (G.at_ As (i - 1)))+1)]] 236,O AB [[Value.map none],[Value.map none]] 234,AQ 242 AM (Value.map none) (G.get []),AQ 57 AP (Value.map none) (G.get []),O t [[Value.map (some j)],[Value.map (some u)]] 234,Ap Tryz.prog 242 AM Am j 0 (G.get (⟨max 1 (G.at_ As (i - 1))+1,[],[]⟩:G.B4).rows),Ap Tryz.prog 57 AP Am u 0 (G.get (⟨max 1 (G.at_ As (i - 1))+1,[],[]⟩:G.B4).jo)]) (H2:=[O A [[E x.v],[E x.f],[E x.ju],[E x.jt],[E x.r],[E x.c],bv x.s.l] 101,Ap Tryz.prog 3 Am BT z.jk Bt Ax,Ae 3 1 (I C.p C.n C.c) C.n (Aq Bm As),Ae 230 1 (I d.p d.n d.c) d.n (Aq CC y)]) (g.pick [8,9,10,2,6,0,1,3,5,4,7,11,12,13]) q,?_⟩
       refine Af (fun _ _ o g=>CE o (b:=true) D)<|M ?_
       exact fun a W o g=>⟨a0,a2,a3,a1,AY o,g.pick [5,6,3,7,9,8,4,10,0,1,2,11,12,13],(by unfold Hq;rw[if_neg (by omega)];first|exact ar|rfl)⟩
     rintro a W ⟨K,ao,aq,R,o,g,aH⟩;revert a W
     refine M ?_
     refine By D<|AG C9 4 D<|AZ AF 2 4 D D D<|Jd D<|JU D D<|Jg<|Jf<|HI D (fun a4=>?_) fun a4=>?_
     ·
      refine M ?_
      refine By D<|AG C9 4 D<|AZ AF 2 4 D D D<|U<|?_
      refine Dr 195 2 (Aq BQ [])<|?_
      refine Ba EV D (fun w g=>EZ Q z C d AE R K.A4 172 ([]) w (g.Ad (H1:=[Ay Q z C d AE R,Ae 195 2 (I none 0 0) 0 (Aq BQ ([]))]) [9,0])) fun _ e W g ⟨aI,a5,he,a6,q⟩=>⟨_,_,he,Sat.call (H1:=[Ay Q z C d AE R,Ae 195 2 (I none 0 0) 0 (Aq BQ ([]))]) (H2:=[AQ 242 AM (Value.map none) (G.get []),AQ 57 AP (Value.map none) (G.get []),O Ac [[S Q],[S AB],[S t],[E ((max 1 (G.at_ As (i - 1)))+1)],[E K.A4]] 236,O t [[Value.map (some j)],[Value.map (some u)]] 234,Ap Tryz.prog 57 AP Am u aq (G.get K.jo),Ap Tryz.prog 242 AM Am j ao (G.get K.rows),O AB [[Value.map none],[Value.map none]] 234,O A [[E x.v],[E x.f],[E x.ju],[E x.jt],[E x.r],[E x.c],bv x.s.l] 101,A1 z.w R,AN z.AU Av Z,Ap Tryz.prog 3 Am BT z.jk Bt Ax,Ae 3 1 (I C.p C.n C.c) C.n (Aq Bm As),Ae 230 1 (I d.p d.n d.c) d.n (Aq CC y)]) (g.pick [9,0,1,2,3,4,5,6,7,8,10,11,12,13,14]) q,?_⟩
      have bz:aI.n=1:=a6
      refine A7 ?_
      intro W g
      subst H
      have J:G.version z.w (fun p=>(Z p).map Bf.AW) (fun p=>(Ax p).getD G.DX) As ([],[]) i=none:=by
       rw[GC Y T];rw[if_pos ⟨by omega,by rw[←ab];omega,by omega,by omega⟩,aH];simp only[Option.bind_some];exact if_neg (by omega)
      refine⟨fun o' ho=>(by rw[J]at ho;cases ho),fun _=>?_⟩
      exact⟨aI,a5,R,D,by omega,by omega,g.pick [0,10,11,12,13,1]⟩
     refine Jy<|Jf<|Je<|?_
     refine Hj (fun a W=>∃(ai:Option Addr) (ak:Nat),AH 150 a Jk∧Sat F w [AQ 242 AM (Value.map none) (G.get []),AQ 57 AP (Value.map none) (G.get []),O Ac [[S Q],[S AB],[S t],[E ((max 1 (G.at_ As (i - 1)))+1)],[E K.A4]] 236,O t [[Value.map (some j)],[Value.map (some u)]] 234,Ap Tryz.prog 57 AP Am u aq (G.get K.jo),Ap Tryz.prog 242 AM Am j ao (G.get K.rows),O AB [[Value.map none],[Value.map none]] 234,O A [[E x.v],[E x.f],[E x.ju],[E x.jt],[E x.r],[E x.c],bv x.s.l] 101,Ay Q z C ⟨ai,d.n+1,ak⟩ AE R,A1 z.w R,AN z.AU Av Z,Ap Tryz.prog 3 Am BT z.jk Bt Ax,Ae 3 1 (I C.p C.n C.c) C.n (Aq Bm As),Ae 230 1 (I ai (d.n+1) ak) (d.n+1) (Aq CC (y++([t])))] W) ?_ ?_
     ·
      refine CQ [0,1,2,3,4,5,6,7,9,10,11]<|Ab 0 D (AA D)<|Ab 1 D (AA D)<|Ab 2 D (Bp D)<|Ab 3 D (AS C2 9 D)<|Ab 5 D (AA D)<|Ab 6 D (Bp D)<|Ab 7 D (AS C9 2 D)<|Ab 8 D (Bb Ha 2 2 D D D)<|Gy 4 9 D D ?_ ?_
      ·
       refine IK (Bb M' 8 9 D D D)<|A8 [0,1,2,3,4,5,6,7,9,10,11]<|Bh 9 D<|Ey J8 (Aq CC [t]) D D D fun bA=>A8 [1,2,3,4,5,6,7,8,10,11,12]<|Bh 10 D<|DI (m:=1) J8 14 (Aq CC (y++([t]))) D D D (BZ 0) (HJ Px _) (H0 O1 D) D fun ai ak=>A8 [1,2,3,4,5,6,7,8,10,11,12]<|Ab 11 D (Bp D)<|Ab 12 D (AS C2 9 D)<|Bh 13 D<|Cq 9 9 D D D<|?_
       refine A8 [1,2,3,4,5,6,7,8,10,11,12]<|Cm<|?_
       exact fun a W o g=>⟨ai,ak,AY o,g.pick [1,2,3,4,5,6,7,8,9,10,11,12,13,14]⟩
      refine Ey J8 (Aq CC [t]) D D D fun bB=>A8 [1,2,3,4,5,6,7,8,10,11,12]<|Bh 4 D<|IK (Bb M' 9 9 D D D)<|A8 [1,2,3,4,5,6,7,8,10,11,12]<|Bh 10 D<|DI (m:=1) J8 14 (Aq CC (y++([t]))) D D D (BZ 0) (HJ Px _) (H0 O1 D) D fun a7 a8=>A8 [1,2,3,4,5,6,7,8,10,11,12]<|Ab 11 D (Bp D)<|Ab 12 D (AS C2 9 D)<|Bh 13 D<|Cq 9 9 D D D<|?_
      refine A8 [1,2,3,4,5,6,7,8,10,11,12]<|Cm<|?_
      exact fun a W o g=>⟨a7,a8,AY o,g.pick [1,2,3,4,5,6,7,8,9,10,11,12,13,14]⟩
     rintro a W ⟨ai,ak,o,g⟩;revert a W
     refine A7 ?_
     intro W g
     subst H
     have J:G.version z.w (fun p=>(Z p).map Bf.AW) (fun p=>(Ax p).getD G.DX) As ([],[]) i=some (K.rows,K.jo):=by rw[GC Y T,if_pos ⟨by omega,by rw[←ab];omega,by omega,by omega⟩,aH];simp only[Option.bind_some];exact if_pos (by omega)
     refine⟨fun o' ho=>?_,fun aJ=>by rw[J]at aJ;cases aJ⟩
     rw[J]at ho
     cases ho
     refine⟨R,⟨ai,d.n+1,ak⟩,t,.map (some j),.map (some u),D,D,?_⟩
     exact((g.QM 5 D).QM 4 D).pick [8,9,10,11,12,13,3,5,4]
    refine AR (Hp aF D D)<|AR (EK D D)<|Er<|M ?_
    refine U<|?_
    refine Dr 195 2 (Aq BQ [])<|?_
    refine Ba EV D (fun w g=>EZ Q z C d AE B (G.at_ As i) 173 ([]) w (g.Ad (H1:=[Ay Q z C d AE B,Ae 195 2 (I none 0 0) 0 (Aq BQ ([]))]) [2,0])) fun _ e W g ⟨aK,a9,he,a_,q⟩=>⟨_,_,he,Sat.call (H1:=[Ay Q z C d AE B,Ae 195 2 (I none 0 0) 0 (Aq BQ ([]))]) (H2:=[O A [[E x.v],[E x.f],[E x.ju],[E x.jt],[E x.r],[E x.c],bv x.s.l] 101,A1 z.w B,AN z.AU Av Z,Ap Tryz.prog 3 Am BT z.jk Bt Ax,Ae 3 1 (I C.p C.n C.c) C.n (Aq Bm As),Ae 230 1 (I d.p d.n d.c) d.n (Aq CC y)]) (g.pick [2,0,1,3,4,5,6,7]) q,?_⟩
    have bC:aK.n=1:=a_
    refine A7 ?_
    intro W g
    subst H
    have J:G.version z.w (fun p=>(Z p).map Bf.AW) (fun p=>(Ax p).getD G.DX) As ([],[]) i=none:=by
     rw[GC Y T];exact if_neg (by rintro⟨av,ae,aw,ax⟩;rw[←ab]at ae;omega)
    refine⟨fun o' ho=>(by rw[J]at ho;cases ho),fun _=>?_⟩
    exact⟨aK,a9,B,D,by omega,by omega,g.pick [0,3,4,5,6,1]⟩
   refine AR (Hp aE D D)<|AR (EK D D)<|AR (AA D)<|Bq D D D D<|Bq D D D D<|Bq D D D D<|Bq D D D D<|Bq D D D D<|Bq D D D D<|Bq D D D D<|Bq D D D D<|Bq D D D D<|AR (D' D D)<|Er<|M ?_
   refine U<|?_
   refine Dr 195 2 (Aq BQ [])<|?_
   refine Ba EV D (fun w g=>EZ Q z C d AE B (G.at_ As i) 173 ([]) w (g.Ad (H1:=[Ay Q z C d AE B,Ae 195 2 (I none 0 0) 0 (Aq BQ ([]))]) [2,0])) fun _ e W g ⟨aL,a',he,ba,q⟩=>⟨_,_,he,Sat.call (H1:=[Ay Q z C d AE B,Ae 195 2 (I none 0 0) 0 (Aq BQ ([]))]) (H2:=[O A [[E x.v],[E x.f],[E x.ju],[E x.jt],[E x.r],[E x.c],bv x.s.l] 101,A1 z.w B,AN z.AU Av Z,Ap Tryz.prog 3 Am BT z.jk Bt Ax,Ae 3 1 (I C.p C.n C.c) C.n (Aq Bm As),Ae 230 1 (I d.p d.n d.c) d.n (Aq CC y)]) (g.pick [2,0,1,3,4,5,6,7]) q,?_⟩
   have bD:aL.n=1:=ba
   refine A7 ?_
   intro W g
   subst H
   have J:G.version z.w (fun p=>(Z p).map Bf.AW) (fun p=>(Ax p).getD G.DX) As ([],[]) i=none:=by
    rw[GC Y T];exact if_neg (by rintro⟨av,ae,aw,ax⟩;rw[←ab]at ae;omega)
   refine⟨fun o' ho=>(by rw[J]at ho;cases ho),fun _=>?_⟩
   exact⟨aL,a',B,D,by omega,by omega,g.pick [0,3,4,5,6,1]⟩
  refine AR (Hp aD D D)<|AR (EK D D)<|AR (AA D)<|Bq D D D D<|Bq D D D D<|Bq D D D D<|Bq D D D D<|Bq D D D D<|Bq D D D D<|Bq D D D D<|AR (D' D D)<|AR (AA D)<|Bq D D D D<|Bq D D D D<|Bq D D D D<|Bq D D D D<|Bq D D D D<|Bq D D D D<|Bq D D D D<|Bq D D D D<|Bq D D D D<|AR (D' D D)<|Er<|M ?_
  refine U<|?_
  refine Dr 195 2 (Aq BQ [])<|?_
  refine Ba EV D (fun w g=>EZ Q z C d AE B (G.at_ As i) 173 ([]) w (g.Ad (H1:=[Ay Q z C d AE B,Ae 195 2 (I none 0 0) 0 (Aq BQ ([]))]) [2,0])) fun _ e W g ⟨aM,bb,he,bc,q⟩=>⟨_,_,he,Sat.call (H1:=[Ay Q z C d AE B,Ae 195 2 (I none 0 0) 0 (Aq BQ ([]))]) (H2:=[O A [[E x.v],[E x.f],[E x.ju],[E x.jt],[E x.r],[E x.c],bv x.s.l] 101,A1 z.w B,AN z.AU Av Z,Ap Tryz.prog 3 Am BT z.jk Bt Ax,Ae 3 1 (I C.p C.n C.c) C.n (Aq Bm As),Ae 230 1 (I d.p d.n d.c) d.n (Aq CC y)]) (g.pick [2,0,1,3,4,5,6,7]) q,?_⟩
  have bE:aM.n=1:=bc
  refine A7 ?_
  intro W g
  subst H
  have J:G.version z.w (fun p=>(Z p).map Bf.AW) (fun p=>(Ax p).getD G.DX) As ([],[]) i=none:=by
   rw[GC Y T];exact if_neg (by rintro⟨av,ae,aw,ax⟩;rw[←ab]at ae;omega)
  refine⟨fun o' ho=>(by rw[J]at ho;cases ho),fun _=>?_⟩
  exact⟨aM,bb,B,D,by omega,by omega,g.pick [0,3,4,5,6,1]⟩
 refine AR (Hp aC D D)<|AR (AA D)<|Bq D D D D<|Bq D D D D<|Bq D D D D<|Bq D D D D<|AR (D' D D)<|AR (AA D)<|Bq D D D D<|Bq D D D D<|Bq D D D D<|Bq D D D D<|Bq D D D D<|Bq D D D D<|Bq D D D D<|AR (D' D D)<|AR (AA D)<|Bq D D D D<|Bq D D D D<|Bq D D D D<|Bq D D D D<|Bq D D D D<|Bq D D D D<|Bq D D D D<|Bq D D D D<|Bq D D D D<|AR (D' D D)<|Er<|M ?_
 refine U<|?_
 refine Dr 195 2 (Aq BQ [])<|?_
 refine Ba EV D (fun w g=>EZ Q z C d AE B (G.at_ As i) 173 ([]) w (g.Ad (H1:=[Ay Q z C d AE B,Ae 195 2 (I none 0 0) 0 (Aq BQ ([]))]) [2,0])) fun _ e W g ⟨aN,bd,he,bf,q⟩=>⟨_,_,he,Sat.call (H1:=[Ay Q z C d AE B,Ae 195 2 (I none 0 0) 0 (Aq BQ ([]))]) (H2:=[O A [[E x.v],[E x.f],[E x.ju],[E x.jt],[E x.r],[E x.c],bv x.s.l] 101,A1 z.w B,AN z.AU Av Z,Ap Tryz.prog 3 Am BT z.jk Bt Ax,Ae 3 1 (I C.p C.n C.c) C.n (Aq Bm As),Ae 230 1 (I d.p d.n d.c) d.n (Aq CC y)]) (g.pick [2,0,1,3,4,5,6,7]) q,?_⟩
 have bF:aN.n=1:=bf
 refine A7 ?_
 intro W g
 subst H
 have J:G.version z.w (fun p=>(Z p).map Bf.AW) (fun p=>(Ax p).getD G.DX) As ([],[]) i=none:=by
  rw[GC Y T];exact if_neg (by rintro⟨av,ae,aw,ax⟩;rw[←ab]at ae;omega)
 refine⟨fun o' ho=>(by rw[J]at ho;cases ho),fun _=>?_⟩
 exact⟨aN,bd,B,D,by omega,by omega,g.pick [0,3,4,5,6,1]⟩
end Go.Proofs.YtaapafoibofbjaaGreatDoor
