/- Laws and walks on the road to SalvagePlays (part M19). No conditions beyond each law's own. -/
import Derived.Test.YtjdboncaegphmaaGreatDoorM18
set_option linter.unusedVariables false
namespace Go.Proofs.YtjdboncaegphmaaGreatDoor
open Go.RowKit
set_option maxRecDepth 100000
set_option maxHeartbeats 2000000
theorem Og{l:rG}{i:Nat}(h:i+32≤l.length:=by omega):((Ji.zero 32).lay 0 ((l.drop i).take 32)).l=(G.DF l i).l:=(AL.UA (by rw[J3];omega) (Br _)).symm
theorem Wt(q:Option Addr)(m c:Nat)(l:rG)(w:World)(a:View w (.slice q m c) m 1 (bv l))(hl:l.length=m)(hm:32≤m):Calls lp 253 #[E 1,I q m c] w (sM w (Value.iface 341 (rS [bv (G.DF l 0).l,[I (sp q 32 c 1) (m - 32) (c - 32)]]))):=by
 refine Cg w jt D 60<|K ?_;refine EU D D D<|K ?_;refine Cr B7 D<|Jj D D D<|TK JY D D<|K ?_;refine Af (Fi A3 32 m (Bx a) D (.some D) .none)<|Af (S8 [Ak 32,[I (sp q 32 c 1) (m - 32) (c - 32)]])<|U<|Bw [Ak 32,[I none 0 0]] fun d=>U<|Bk 0 0 2 D D D<|?_;refine Jg<|FO 0 [bv (Ji.zero 32).l,[I (sp q 32 c 1) (m - 32) (c - 32)]] D D<|Jf<|Je<|Jh<|AG Qm 0 D<|Af (Fp CI 0 32 rfl .none .none 0)<|Jd D<|U<|HC 0 0 0 32 (Bx a) B7 D D D D D (by have:(l).length=m:=hl;rw[FX];omega)<|K ?_;refine Af (BN Qm 0 D D)<|Af (Qx D)<|A7 ?_;exact fun W b=>⟨by rw[←Og (l:=l) (i:=0)];rfl,b.A0⟩
theorem W0(q:Option Addr)(c:Nat)(l:rG)(w:World)(d:View w (.slice q 80 c) 80 1 (bv l))(hl:l.length=80):Calls lp 253 #[E 2,I q 80 c] w (sM w (Value.iface 346 (rS [[E (G.BD l 0)],[E (G.BD l 8)],bv (G.DF l 16).l,[E (G.BD l 4)],[E (G.BD l 12)],bv (G.DF l 48).l]))):=by
 refine Cg w jt D 60<|K ?_;refine Gi JZ D D<|K ?_;refine EU D D D<|K ?_;refine Cr B7 D<|Jj D D D<|EU D D D<|K ?_;refine Hj (fun a W=>∃e,AH 60 a (Jb (Jb (Jb Jk 1 (I q 80 c)) 4 Value.nilIface) 6 (S e))∧Sat C1 w [O e (bT l) 346] W) ?_ ?_
 ·
  refine CQ []<|Ab 0 D (AA D)<|Ab 2 D (AA D)<|Ab 3 D (Fi A3 8 80 (Bx d) D (.some D) .none)<|Ab 6 D (AA D)<|Ab 7 D (Fi A3 4 80 (Bx d) D (.some D) .none)<|Ab 9 D (AA D)<|Ab 10 D (Fi A3 12 80 (Bx d) D (.some D) .none)<|Gy 1 14 D D ?_ ?_
  ·
   refine BP nk D (fun w b=>Hs _ _ _ l w ((Bx d) w b) hl)<|A8 []<|Gy 4 14 D D ?_ ?_
   ·
    refine BP nk D (fun w b=>Hs _ _ _ (l.drop 8) w ((Db 8 80 (Bx d) (DV (by rw[J3];have:(l).length=80:=hl;omega))) w b) (by have:(l).length=80:=hl;simp only[J3];omega))<|A8 []<|Ab 5 D (S8 [[E (Fr.le (l.take 4))],[E (Fr.le ((l.drop 8).take 4))],Ak 32])<|Gy 8 14 D D ?_ ?_
    ·
     refine BP nk D (fun w b=>Hs _ _ _ (l.drop 4) w ((Db 4 80 (Bx d) (DV (by rw[J3];have:(l).length=80:=hl;omega))) w b) (by have:(l).length=80:=hl;simp only[J3];omega))<|A8 []<|Gy 11 14 D D ?_ ?_
     ·
      refine BP Tryz.func255 D (fun w b=>Hs _ _ _ (l.drop 12) w ((Db 12 80 (Bx d) (DV (by rw[J3];have:(l).length=80:=hl;omega))) w b) (by have:(l).length=80:=hl;simp only[J3];omega))<|A8 []<|Ab 12 D (S8 [[E (Fr.le ((l.drop 4).take 4))],[E (Fr.le ((l.drop 12).take 4))],Ak 32])<|Ab 13 D (ar Tryz.underlying346 [(0,34),(34,34)] bG (bT l))<|Bh 14 D<|Bw bG fun e=>A8 []<|Bh 15 D<|Bk 0 0 6 D D D<|?_;refine A8 []<|Cm<|?_;exact fun a W f b=>⟨e,AY f,b.pick [0]⟩
     refine Bw bG fun e=>A8 []<|Bh 11 D<|BP Tryz.func255 D (fun w b=>Hs _ _ _ (l.drop 12) w ((Db 12 80 (Bx d) (DV (by rw[J3];have:(l).length=80:=hl;omega))) w b) (by have:(l).length=80:=hl;simp only[J3];omega))<|A8 []<|Ab 12 D (S8 [[E (Fr.le ((l.drop 4).take 4))],[E (Fr.le ((l.drop 12).take 4))],Ak 32])<|Ab 13 D (ar Tryz.underlying346 [(0,34),(34,34)] bG (bT l))<|Bh 15 D<|Bk 0 0 6 D D D<|?_;refine A8 []<|Cm<|?_;exact fun a W f b=>⟨e,AY f,b.pick [0]⟩
    refine Bw bG fun e=>A8 []<|Bh 8 D<|BP Tryz.func255 D (fun w b=>Hs _ _ _ (l.drop 4) w ((Db 4 80 (Bx d) (DV (by rw[J3];have:(l).length=80:=hl;omega))) w b) (by have:(l).length=80:=hl;simp only[J3];omega))<|A8 []<|Bh 11 D<|BP Tryz.func255 D (fun w b=>Hs _ _ _ (l.drop 12) w ((Db 12 80 (Bx d) (DV (by rw[J3];have:(l).length=80:=hl;omega))) w b) (by have:(l).length=80:=hl;simp only[J3];omega))<|A8 []<|Ab 12 D (S8 [[E (Fr.le ((l.drop 4).take 4))],[E (Fr.le ((l.drop 12).take 4))],Ak 32])<|Ab 13 D (ar Tryz.underlying346 [(0,34),(34,34)] bG (bT l))<|Bh 15 D<|Bk 0 0 6 D D D<|?_;refine A8 []<|Cm<|?_;exact fun a W f b=>⟨e,AY f,b.pick [0]⟩
   refine Bw bG fun e=>A8 []<|Bh 4 D<|BP Tryz.func255 D (fun w b=>Hs _ _ _ (l.drop 8) w ((Db 8 80 (Bx d) (DV (by rw[J3];have:(l).length=80:=hl;omega))) w b) (by have:(l).length=80:=hl;simp only[J3];omega))<|A8 []<|Ab 5 D (S8 [[E (Fr.le (l.take 4))],[E (Fr.le ((l.drop 8).take 4))],Ak 32])<|Bh 8 D<|BP Tryz.func255 D (fun w b=>Hs _ _ _ (l.drop 4) w ((Db 4 80 (Bx d) (DV (by rw[J3];have:(l).length=80:=hl;omega))) w b) (by have:(l).length=80:=hl;simp only[J3];omega))<|A8 []<|Bh 11 D<|BP Tryz.func255 D (fun w b=>Hs _ _ _ (l.drop 12) w ((Db 12 80 (Bx d) (DV (by rw[J3];have:(l).length=80:=hl;omega))) w b) (by have:(l).length=80:=hl;simp only[J3];omega))<|A8 []<|Ab 12 D (S8 [[E (Fr.le ((l.drop 4).take 4))],[E (Fr.le ((l.drop 12).take 4))],Ak 32])<|Ab 13 D (ar Tryz.underlying346 [(0,34),(34,34)] bG (bT l))<|Bh 15 D<|Bk 0 0 6 D D D<|?_;refine A8 []<|Cm<|?_;exact fun a W f b=>⟨e,AY f,b.pick [0]⟩
  refine Bw bG fun e=>A8 []<|Bh 1 D<|BP Tryz.func255 D (fun w b=>Hs _ _ _ l w ((Bx d) w b) hl)<|A8 []<|Bh 4 D<|BP Tryz.func255 D (fun w b=>Hs _ _ _ (l.drop 8) w ((Db 8 80 (Bx d) (DV (by rw[J3];have:(l).length=80:=hl;omega))) w b) (by have:(l).length=80:=hl;simp only[J3];omega))<|A8 []<|Ab 5 D (S8 [[E (Fr.le (l.take 4))],[E (Fr.le ((l.drop 8).take 4))],Ak 32])<|Bh 8 D<|BP Tryz.func255 D (fun w b=>Hs _ _ _ (l.drop 4) w ((Db 4 80 (Bx d) (DV (by rw[J3];have:(l).length=80:=hl;omega))) w b) (by have:(l).length=80:=hl;simp only[J3];omega))<|A8 []<|Bh 11 D<|BP Tryz.func255 D (fun w b=>Hs _ _ _ (l.drop 12) w ((Db 12 80 (Bx d) (DV (by rw[J3];have:(l).length=80:=hl;omega))) w b) (by have:(l).length=80:=hl;simp only[J3];omega))<|A8 []<|Ab 12 D (S8 [[E (Fr.le ((l.drop 4).take 4))],[E (Fr.le ((l.drop 12).take 4))],Ak 32])<|Ab 13 D (ar Tryz.underlying346 [(0,34),(34,34)] bG (bT l))<|Bh 15 D<|Bk 0 0 6 D D D<|?_;refine A8 []<|Cm<|?_;exact fun a W f b=>⟨e,AY f,b.pick [0]⟩
 rintro a W ⟨e,f,b⟩;revert a W;refine FO 0 [[E (Fr.le (l.take 4))],[E (Fr.le ((l.drop 8).take 4))],bv (Ji.zero 32).l,[E (Fr.le ((l.drop 4).take 4))],[E (Fr.le ((l.drop 12).take 4))],bv (Ji.zero 32).l] D D<|Jf<|Je<|DD 5<|zs (AS Tryz.underlying346 0 D)<|zs (AS Tryz.underlying344 2 D)<|zs (Fp Tryz.underlying136 0 32 rfl .none .none 2)<|zs (AA D)<|zs (Fi A3 16 80 (Bx d) D (.some D) .none)<|CS<|U<|HC 0 2 0 32 (Db 16 80 (Bx d) (DV (by rw[J3];have:(l).length=80:=hl;omega))) Tryz.underlying29 D D D D D (by have:(l.drop 16).length=64:=(by have:(l).length=80:=hl;simp only[J3];omega);rw[FX];omega)<|Jg<|Jf<|Je<|DD 5<|zs (AS Tryz.underlying346 34 D)<|zs (AS Tryz.underlying344 36 D)<|zs (Fp Tryz.underlying136 0 32 rfl .none .none 36)<|zs (AA D)<|zs (Fi A3 48 80 (Bx d) D (.some D) .none)<|CS<|U<|HC 0 5 0 32 (Db 48 80 (Bx d) (DV (by rw[J3];have:(l).length=80:=hl;omega))) Tryz.underlying29 D D D D D (by have:(l.drop 48).length=32:=(by have:(l).length=80:=hl;simp only[J3];omega);rw[FX];omega)<|K ?_;refine Af (BN h' 0 D D)<|Af (Qx D)<|A7 ?_;exact fun W b=>⟨by rw[←Og (l:=l) (i:=16),←Og (l:=l) (i:=48)];rfl,b.A0⟩
theorem aa(Bd:Nat)(q:Option Addr)(m c:Nat)(l:rG)(w:World)(i:View w (.slice q m c) m 1 (bv l))(hl:l.length=m)(h1:¬(Bd=1∧32≤m))(j:¬(Bd=2∧m=80)):Calls lp 253 #[E Bd,I q m c] w (sM w .nilIface):=by
 refine Cg w jt D 60<|K ?_;refine Gx D D (fun b=>?_) fun b=>?_
 ·
  refine K ?_;refine Cr B7 D<|Jj D D D<|Pm D D (fun d=>?_) fun d=>?_
  ·
   exfalso;omega
  refine K ?_;refine Gx D D (fun e=>?_) fun e=>?_
  ·
   refine K ?_;refine Cr B7 D<|Jj D D D<|Gx D D (fun f=>?_) fun f=>?_
   ·
    exfalso;omega
   refine A7 ?_;exact fun W a=>⟨D,a.A0⟩
  refine A7 ?_;exact fun W a=>⟨D,a.A0⟩
 refine K ?_;refine Gx D D (fun g=>?_) fun g=>?_
 ·
  refine K ?_;refine Cr B7 D<|Jj D D D<|Gx D D (fun h=>?_) fun h=>?_
  ·
   exfalso;omega
  refine A7 ?_;exact fun W a=>⟨D,a.A0⟩
 refine A7 ?_;exact fun W a=>⟨D,a.A0⟩
theorem hS(k:Jc)(q:Option Addr)(m c:Nat)(l:rG)(w:World)(f:View w (.slice q m c) m 1 (bv l))(hl:l.length=m)(hm:m≤4096):Calls lp 254 #[Value.iface 341 (rS [bv k.l,[I q m c]])] w fun e W=>∃a b,e=.returned (rS [[E 1],[E 0],[E 0],[E 0],[E 0],bv CU.l,bv CU.l,bv k.l,[I a (0+m) b]])∧W.ownsRow w.heap.size 5 1 (.slice a (0+m) b) (0+m) (bv l)∧Below w.heap.size w W:=by
 refine Cg w nj D 38<|Je<|Jh<|U<|Bw VF fun i=>K ?_;refine Af (Vd Qm D)<|Bc D D<|Bc D D<|K ?_;refine U<|Bw [Ak 32,[I none 0 0]] fun j=>U<|Bk 0 0 2 D D D<|?_;refine Jg<|Jf<|Je<|CQ [0]<|Ab 0 D (AS Qm 0 D)<|Ab 1 D (DH CI 0 0 1 [bv k.l] D D)<|Ab 2 D (AS Qm 32 D)<|Ab 3 D (Bb B7 0 1 D D D)<|Bh 4 D<|Dr 5 1 (bv [])<|DI A3 0 (bv l) D D D (Bx f) (Eo _) (EL hl) D fun g h=>A8 [1]<|Ab 5 D (ar Bv [(0,1),(1,1),(2,1),(3,1),(4,1),(5,32),(37,32),(69,32),(101,1)] VF [[E 1],[E 0],[E 0],[E 0],[E 0],Ak 32,Ak 32,bv k.l,[I g (0+m) h]])<|Bh 6 D<|Bk 2 0 9 D D D<|?_;refine A8 [1]<|Cm<|K ?_;refine Fq Bv 2 D D fun W d=>?_;exact⟨_,_,D,d.DQ 0,d.A0⟩
theorem dm(l r lc rc:Nat)(ls rs:Jc)(w:World):Calls lp 254 #[Value.iface 346 (rS [[E l],[E lc],bv ls.l,[E r],[E rc],bv rs.l])] w (sM w (rS [[E 2],[E l],[E r],[E lc],[E rc],bv ls.l,bv rs.l,bv CU.l,[I none 0 0]])):=by
 refine Cg w nj D 38<|Je<|Jh<|U<|Bw VF fun f=>K ?_;refine Af (bc Qm D (z:=(rS [Ak 32,[I none 0 0]])) (fun _=>AB))<|Bc D D<|Bc D D<|K ?_;refine Af (Vd h' D)<|Bc D D<|Bc D D<|K ?_;refine U<|Bw bG fun g=>U<|Bk 0 0 6 D D D<|?_;refine Jg<|Jf<|Je<|Hj (fun a W=>∃b c,AH 38 a (Jb (Jb (Jb Jk 2 (S f)) 5 (S b)) 6 (S c))∧Sat C1 w [O c [[E r],[E rc],bv rs.l] 344,O b [[E l],[E lc],bv ls.l] 344,O f VF 138] W) ?_ ?_
 ·
  refine CQ [0]<|Ab 0 D (AS h' 0 D)<|Ab 1 D (DH U8 0 0 3 [[E l],[E lc],bv ls.l] D D)<|Ab 2 D (AS h' 34 D)<|Ab 3 D (DH U8 0 3 3 [[E r],[E rc],bv rs.l] D D)<|Gy 4 5 D D ?_ ?_
  ·
   refine Bw [[E 0],[E 0],Ak 32] fun b=>A8 [1]<|Bh 5 D<|Bw [[E 0],[E 0],Ak 32] fun c=>A8 [2]<|Bh 6 D<|Bk 1 0 3 D D D<|?_;refine A8 [2]<|Bh 7 D<|Bk 0 0 3 D D D<|?_;refine A8 [2]<|Cm<|?_;exact fun a W e d=>⟨b,c,AY e,d.pick [0,1,3]⟩
  refine Bw [[E 0],[E 0],Ak 32] fun c=>A8 [1]<|Bh 4 D<|Bw [[E 0],[E 0],Ak 32] fun b=>A8 [2]<|Bh 6 D<|Bk 0 0 3 D D D<|?_;refine A8 [2]<|Bh 7 D<|Bk 1 0 3 D D D<|?_;refine A8 [2]<|Cm<|?_;exact fun a W e d=>⟨b,c,AY e,d.pick [1,0,3]⟩
 rintro a W ⟨b,c,e,d⟩;revert a W;refine Jf<|Je<|Jh<|AG U8 0 D<|AZ AF 1 0 D D D<|AG U8 0 D<|AZ AF 0 0 D D D<|AG U8 1 D<|AZ AF 1 1 D D D<|AG U8 1 D<|AZ AF 0 1 D D D<|AG U8 2 D<|Af (DH Nl 1 2 1 [bv ls.l] D D)<|AG U8 2 D<|Af (DH Nl 0 2 1 [bv rs.l] D D)<|Af (ar Bv [(0,1),(1,1),(2,1),(3,1),(4,1),(5,32),(37,32),(69,32),(101,1)] VF [[E 2],[E l],[E r],[E lc],[E rc],bv ls.l,bv rs.l,Ak 32,[I none 0 0]])<|U<|Bk 2 0 9 D D D<|?_;refine K ?_;refine Fq Bv 2 D D fun W d=>?_;exact⟨D,d.A0⟩
abbrev U'(x:Bf):List (List Value):=[[E x.Bd],[E x.l],[E x.r],[E x.lc],[E x.rc],bv x.ls.l,bv x.rs.l,bv x.k.l,[I x.s.p x.s.v.length x.s.c]]
abbrev N3:List (List Value):=[[E 0],[E 0],[E 0],[E 0],[E 0],Ak 32,Ak 32,Ak 32,[I none 0 0]]
theorem ZV(q:Option Addr)(m c:Nat)(l:rG)(w:World)(d:View w (.slice q m c) m 1 (bv l))(hl:l.length=m)(h1:32≤m)(i:m≤160):Calls lp 252 #[E 1,I q m c] w fun e W=>∃f g,e=.returned (.tuple #[rS [[E 1],[E 0],[E 0],[E 0],[E 0],bv CU.l,bv CU.l,bv (G.DF l 0).l,[I f (0+(m - 32)) g]],E 0])∧W.ownsRow w.heap.size 5 1 (.slice f (0+(m - 32)) g) (0+(m - 32)) (bv (l.drop 32))∧Below w.heap.size w W:=by
 refine Cg w jR D 20<|Je<|Jh<|U<|Bw VF fun j=>K ?_;refine U<|BP jt D (fun w a=>Wt _ _ _ l w ((Bx d) w a) hl JY)<|K ?_;refine Af (Rf AB D)<|K ?_;refine U<|KZ ZF (fun _=>AB) D D (fun w a=>Y0 (G.DF l 0) (sp q 32 c 1) (m - 32) (c - 32) w) fun _ e W a ⟨he,J⟩=>⟨_,_,he,a.below J,?_⟩
 rcases Ln (decide (((m - 32:Nat):Int)≤((128:Nat):Int)))with b|b
 ·
  refine CR 14 D (congrArg Value.bool b)<|Jj D D D<|Af (Te D)<|K ?_;refine U<|Ba nj D (fun w a=>hS (G.DF l 0) _ _ _ (l.drop 32) w ((Db 32 m (Bx d) (DV (by rw[J3];omega))) w a) (by rw[J3];omega) JY) fun _ e W a ⟨k,n,he,h,J⟩=>⟨_,_,he,a.own h J,?_⟩
  refine U<|Bk 1 0 9 D D D<|?_;refine K ?_;refine Gl Bv 1 D D D fun W a=>?_;exact⟨_,_,D,a.DQ 0,a.A0⟩
 refine CR 14 D (congrArg Value.bool b)<|?_;exfalso;have:=of_decide_eq_false b;omega
theorem fu(q:Option Addr)(m c:Nat)(l:rG)(w:World)(d:View w (.slice q m c) m 1 (bv l))(hl:l.length=m)(h1:32≤m)(f:160<m):Calls lp 252 #[E 1,I q m c] w (sM w (.tuple #[rS N3,E 90])):=by
 refine Cg w jR D 20<|Je<|Jh<|U<|Bw VF fun g=>K ?_;refine U<|BP jt D (fun w a=>Wt _ _ _ l w ((Bx d) w a) hl JY)<|K ?_;refine Af (Rf AB D)<|K ?_;refine U<|KZ ZF (fun _=>AB) D D (fun w a=>Y0 (G.DF l 0) (sp q 32 c 1) (m - 32) (c - 32) w) fun _ e W a ⟨he,J⟩=>⟨_,_,he,a.below J,?_⟩
 rcases Ln (decide (((m - 32:Nat):Int)≤((128:Nat):Int)))with b|b
 ·
  refine CR 14 D (congrArg Value.bool b)<|?_;exfalso;have:=of_decide_eq_true b;omega
 refine CR 14 D (congrArg Value.bool b)<|Jj D D D<|Af (Te D)<|K ?_;refine Af (S8 VF)<|U<|Bk 0 0 9 D D D<|?_;refine K ?_;refine Gl Bv 0 D D D fun W a=>?_;exact⟨D,a.A0⟩
theorem eX(q:Option Addr)(c:Nat)(l:rG)(w:World)(d:View w (.slice q 80 c) 80 1 (bv l))(hl:l.length=80)(f:G.branch (G.BD l 0) (G.BD l 4) (G.BD l 8) (G.BD l 12) (G.DF l 16) (G.DF l 48)=true):Calls lp 252 #[E 2,I q 80 c] w (sM w (.tuple #[rS [[E 2],[E (G.BD l 0)],[E (G.BD l 4)],[E (G.BD l 8)],[E (G.BD l 12)],bv (G.DF l 16).l,bv (G.DF l 48).l,bv CU.l,[I none 0 0]],E 0])):=by
 have g:=KU l 0;have h:=KU l 4;have i:=KU l 8;have j:=KU l 12;refine Cg w jR D 20<|Je<|Jh<|U<|Bw VF fun k=>K ?_;refine U<|BP jt D (fun w a=>W0 _ _ l w ((Bx d) w a) hl)<|K ?_;refine Af (Rf AB D)<|K ?_;refine U<|KZ uk (fun _=>AB) D D (fun w a=>U1 (G.BD l 0) (G.BD l 4) (G.BD l 8) (G.BD l 12) (G.DF l 16) (G.DF l 48) w JY JY JY JY) fun _ e W a ⟨he,J⟩=>⟨_,_,he,a.below J,?_⟩
 rcases Ln (G.branch (G.BD l 0) (G.BD l 4) (G.BD l 8) (G.BD l 12) (G.DF l 16) (G.DF l 48))with b|b
 ·
  refine CR 14 D (congrArg Value.bool b)<|Jj D D D<|Af (Te D)<|K ?_;refine U<|Ba nj D (fun w a=>dm (G.BD l 0) (G.BD l 4) (G.BD l 8) (G.BD l 12) (G.DF l 16) (G.DF l 48) w) fun _ e W a ⟨he,J⟩=>⟨_,_,he,a.below J,?_⟩
  refine U<|Bk 0 0 9 D D D<|?_;refine K ?_;refine Gl Bv 0 D D D fun W a=>?_;exact⟨D,a.A0⟩
 refine CR 14 D (congrArg Value.bool b)<|?_;rw[f]at b;cases b
theorem c7(q:Option Addr)(c:Nat)(l:rG)(w:World)(d:View w (.slice q 80 c) 80 1 (bv l))(hl:l.length=80)(f:G.branch (G.BD l 0) (G.BD l 4) (G.BD l 8) (G.BD l 12) (G.DF l 16) (G.DF l 48)=false):Calls lp 252 #[E 2,I q 80 c] w (sM w (.tuple #[rS N3,E 90])):=by
 have g:=KU l 0;have h:=KU l 4;have i:=KU l 8;have j:=KU l 12;refine Cg w jR D 20<|Je<|Jh<|U<|Bw VF fun k=>K ?_;refine U<|BP jt D (fun w a=>W0 _ _ l w ((Bx d) w a) hl)<|K ?_;refine Af (Rf AB D)<|K ?_;refine U<|KZ uk (fun _=>AB) D D (fun w a=>U1 (G.BD l 0) (G.BD l 4) (G.BD l 8) (G.BD l 12) (G.DF l 16) (G.DF l 48) w JY JY JY JY) fun _ e W a ⟨he,J⟩=>⟨_,_,he,a.below J,?_⟩
 rcases Ln (G.branch (G.BD l 0) (G.BD l 4) (G.BD l 8) (G.BD l 12) (G.DF l 16) (G.DF l 48))with b|b
 ·
  refine CR 14 D (congrArg Value.bool b)<|?_;rw[f]at b;cases b
 refine CR 14 D (congrArg Value.bool b)<|Jj D D D<|Af (Te D)<|K ?_;refine Af (S8 VF)<|U<|Bk 0 0 9 D D D<|?_;refine K ?_;refine Gl Bv 0 D D D fun W a=>?_;exact⟨D,a.A0⟩
theorem fl(Bd:Nat)(q:Option Addr)(m c:Nat)(l:rG)(w:World)(b:View w (.slice q m c) m 1 (bv l))(hl:l.length=m)(h1:¬(Bd=1∧32≤m))(d:¬(Bd=2∧m=80)):Calls lp 252 #[E Bd,I q m c] w (sM w (.tuple #[rS N3,E 90])):=by
 refine Cg w jR D 20<|Je<|Jh<|U<|Bw VF fun e=>K ?_;refine U<|BP jt D (fun w a=>aa Bd _ _ _ l w ((Bx b) w a) hl h1 d)<|K ?_;refine Af (WG AB D)<|K ?_;refine Af (S8 VF)<|U<|Bk 0 0 9 D D D<|?_;refine K ?_;refine Gl Bv 0 D D D fun W a=>?_;exact⟨D,a.A0⟩
theorem dT{Bd:Nat}{q:Option Addr}{m c:Nat}{l:rG}{w:World}(d:View w (.slice q m c) m 1 (bv l))(hl:l.length=m){n:G.Dh}(h:G.node Bd l=some n):
 Calls lp 252 #[E Bd,I q m c] w fun e W=>∃x:Bf,x.AW=n∧e=.returned (.tuple #[rS (U' x),E 0])∧W.ownsRow w.heap.size 5 1 (.slice x.s.p x.s.v.length x.s.c) x.s.v.length (bv x.s.v)∧Below w.heap.size w W:=by
 unfold G.node at h;split at h
 ·rename_i a;obtain⟨rfl,h1⟩:=a;split at h
  ·rename_i b;cases h;rw[J3]at b;refine(ZV q m c l w d hl JY JY).mono ?_;rintro e W ⟨p,k,rfl,ho,J⟩;have f:0+(m - 32)=(l.drop 32).length:=by rw[J3];omega
   rw[f]at ho;exact⟨⟨1,0,0,0,0,CU,CU,G.DF l 0,⟨p,l.drop 32,k⟩⟩,D,by rw[f],ho,J⟩
  ·cases h
 ·split at h
  ·rename_i a;obtain⟨rfl,h1⟩:=a;split at h
   ·rename_i b;cases h;have hm:m=80:=JY;subst hm;refine(eX q c l w d hl b).mono ?_;rintro e W ⟨rfl,J⟩;exact⟨⟨2,G.BD l 0,G.BD l 4,G.BD l 8,G.BD l 12,G.DF l 16,G.DF l 48,CU,⟨none,[],0⟩⟩,D,D,World.ownsRow_nil _ _ _ _,J⟩
   ·cases h
  ·cases h
theorem ef{Bd:Nat}{q:Option Addr}{m c:Nat}{l:rG}{w:World}(a:View w (.slice q m c) m 1 (bv l))(hl:l.length=m)(h:G.node Bd l=none):
 Calls lp 252 #[E Bd,I q m c] w (sM w (.tuple #[rS N3,E 90])):=by
 unfold G.node at h;split at h
 ·rename_i b;obtain⟨rfl,h1⟩:=b;split at h
  ·cases h
  ·rename_i d;rw[J3]at d;exact fu q m c l w a hl JY JY
 ·rename_i b;split at h
  ·rename_i e;obtain⟨rfl,h1⟩:=e;split at h
   ·cases h
   ·rename_i d;have hm:m=80:=JY;subst hm;exact c7 q c l w a hl (gC.2 d)
  ·rename_i e;exact fl Bd q m c l w a hl (by rw[←hl];exact b) (by rw[←hl];exact e)
