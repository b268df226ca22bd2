/- Laws and walks on the road to SalvageClean (part M18). No conditions beyond each law's own. -/
import Derived.Test.YtaapafoibofbjaaGreatDoorM01
import Derived.Test.YtaapafoibofbjaaGreatDoorM17
import Derived.Test.YtaapafoibofbjaaGreatDoorM07
import Derived.Test.YtaapafoibofbjaaGreatDoorM12
set_option linter.unusedVariables false
namespace Go.Proofs.YtaapafoibofbjaaGreatDoor
open Go.RowKit
set_option maxRecDepth 100000
set_option maxHeartbeats 1000000
theorem Og{l:List UInt8}{i:Nat}(h:i+32≤l.length:=by omega):((Ji.zero 32).lay 0 ((l.drop i).take 32)).l=(G.DF l i).l:=(AL.UA (by rw[List.length_drop];omega) (Br _)).symm
theorem Wt(q:Option Addr)(m c:Nat)(l:List UInt8)(w:World)(V:View w (.slice q m c) m 1 (bv l))(hl:l.length=m)(hm:32≤m):Calls Tryz.prog 237 #[E 1,I q m c] w fun e W=>e=.returned (Value.iface 356 (Value.agg (flat [bv (G.DF l 0).l,[I (sp q 32 c 1) (m - 32) (c - 32)]])))∧Below w.heap.size w W:=by
 refine Cg w K7 D 60<|M ?_
 refine EU D D D<|M ?_
 refine Cr Co D<|Jj D D D<|TK (by omega) D D<|M ?_
 refine Af (Fi A3 32 m (Bx V) D (.some D) .none)<|Af (fun _ _ b a=>Cs b (BH:=[(1,(I (sp q 32 c 1) (m - 32) (c - 32)))]) D (v:=Value.agg (flat [Ak 32,[I (sp q 32 c 1) (m - 32) (c - 32)]])) (run_build _ _ _ _ (by kernel_rfl)))<|U<|Bw [Ak 32,[I none 0 0]] fun d=>U<|Bk 0 0 2 D D D<|?_
 refine Jg<|FO 0 [bv (Ji.zero 32).l,[I (sp q 32 c 1) (m - 32) (c - 32)]] D D<|Jf<|Je<|Jh<|AG Mi 0 D<|Af (Fp Em 0 32 rfl .none .none 0)<|Jd D<|U<|HC 0 0 0 32 (Bx V) Co D D D D D (by have:(l).length=m:=hl;rw[List.length_take];omega)<|M ?_
 refine Af (BN Mi 0 D D)<|Af (Qx D)<|A7 ?_
 exact fun W a=>⟨by rw[←Og (l:=l) (i:=0)];rfl,a.A0⟩
theorem W0(q:Option Addr)(c:Nat)(l:List UInt8)(w:World)(V:View w (.slice q 80 c) 80 1 (bv l))(hl:l.length=80):Calls Tryz.prog 237 #[E 2,I q 80 c] w fun e W=>e=.returned (Value.iface 361 (Value.agg (flat [[E (G.BD l 0)],[E (G.BD l 8)],bv (G.DF l 16).l,[E (G.BD l 4)],[E (G.BD l 12)],bv (G.DF l 48).l])))∧Below w.heap.size w W:=by
 refine Cg w K7 D 60<|M ?_
 refine Gi (by decide) D D<|M ?_
 refine EU D D D<|M ?_
 refine Cr Co D<|Jj D D D<|EU D D D<|M ?_
 refine Hj (fun a W=>∃f,AH 60 a (Jb (Jb (Jb Jk 1 (I q 80 c)) 4 Value.nilIface) 6 (S f))∧Sat C1 w [O f [[E (Fr.le (l.take 4))],[E (Fr.le ((l.drop 8).take 4))],Ak 32,[E (Fr.le ((l.drop 4).take 4))],[E (Fr.le ((l.drop 12).take 4))],Ak 32] 361] W) ?_ ?_
 ·
  refine CQ []<|Ab 0 D (AA D)<|Ab 2 D (AA D)<|Ab 3 D (Fi A3 8 80 (Bx V) D (.some D) .none)<|Ab 6 D (AA D)<|Ab 7 D (Fi A3 4 80 (Bx V) D (.some D) .none)<|Ab 9 D (AA D)<|Ab 10 D (Fi A3 12 80 (Bx V) D (.some D) .none)<|Gy 1 14 D D ?_ ?_
  ·
   refine BP Pr D (fun w b=>Hs _ _ _ l w ((Bx V) w b) hl)<|A8 []<|Gy 4 14 D D ?_ ?_
   ·
    refine BP Pr D (fun w b=>Hs _ _ _ (l.drop 8) w ((Db 8 80 (Bx V) (List.take_of_length_le (by rw[List.length_drop];have:(l).length=80:=hl;omega))) w b) (by have:(l).length=80:=hl;simp only[List.length_drop];omega))<|A8 []<|Ab 5 D (fun _ _ d b=>Cs d (BH:=[(0,(E (Fr.le (l.take 4)))),(1,(E (Fr.le ((l.drop 8).take 4))))]) D (v:=Value.agg (flat [[E (Fr.le (l.take 4))],[E (Fr.le ((l.drop 8).take 4))],Ak 32])) (run_build _ _ _ _ (by kernel_rfl)))<|Gy 8 14 D D ?_ ?_
    ·
     refine BP Pr D (fun w b=>Hs _ _ _ (l.drop 4) w ((Db 4 80 (Bx V) (List.take_of_length_le (by rw[List.length_drop];have:(l).length=80:=hl;omega))) w b) (by have:(l).length=80:=hl;simp only[List.length_drop];omega))<|A8 []<|Gy 11 14 D D ?_ ?_
     ·
      refine BP Tryz.func239 D (fun w b=>Hs _ _ _ (l.drop 12) w ((Db 12 80 (Bx V) (List.take_of_length_le (by rw[List.length_drop];have:(l).length=80:=hl;omega))) w b) (by have:(l).length=80:=hl;simp only[List.length_drop];omega))<|A8 []<|Ab 12 D (fun _ _ d b=>Cs d (BH:=[(0,(E (Fr.le ((l.drop 4).take 4)))),(1,(E (Fr.le ((l.drop 12).take 4))))]) D (v:=Value.agg (flat [[E (Fr.le ((l.drop 4).take 4))],[E (Fr.le ((l.drop 12).take 4))],Ak 32])) (run_build _ _ _ _ (by kernel_rfl)))<|Ab 13 D (fun _ _ d b=>E_ d (BH:=[(0,(Value.agg (flat [[E (Fr.le (l.take 4))],[E (Fr.le ((l.drop 8).take 4))],Ak 32]))),(1,(Value.agg (flat [[E (Fr.le ((l.drop 4).take 4))],[E (Fr.le ((l.drop 12).take 4))],Ak 32])))]) D (r:=flat [[E (Fr.le (l.take 4))],[E (Fr.le ((l.drop 8).take 4))],Ak 32,[E (Fr.le ((l.drop 4).take 4))],[E (Fr.le ((l.drop 12).take 4))],Ak 32]) (E5 Tryz.underlying361 (ss:=[[E 0],[E 0],Ak 32,[E 0],[E 0],Ak 32]) (by kernel_rfl) (places:=[(0,34),(34,34)]) (by kernel_rfl) (B3 [] [[E 0],[E 0],Ak 32] [[E 0],[E 0],Ak 32] [[E (Fr.le (l.take 4))],[E (Fr.le ((l.drop 8).take 4))],Ak 32] D Ja.nil (Ja.one (Ja.one (Ja.row (Jl 32) Ja.nil))) (Ja.one (Ja.one (Ja.row (Jl 32) Ja.nil))) D (B3 [[E (Fr.le (l.take 4))],[E (Fr.le ((l.drop 8).take 4))],Ak 32] [[E 0],[E 0],Ak 32] [] [[E (Fr.le ((l.drop 4).take 4))],[E (Fr.le ((l.drop 12).take 4))],Ak 32] D (Ja.one (Ja.one (Ja.row (Jl 32) Ja.nil))) (Ja.one (Ja.one (Ja.row (Jl 32) Ja.nil))) (Ja.one (Ja.one (Ja.row (Jl 32) Ja.nil))) D D))))<|Bh 14 D<|Bw [[E 0],[E 0],Ak 32,[E 0],[E 0],Ak 32] fun f=>A8 []<|Bh 15 D<|Bk 0 0 6 D D D<|?_
      refine A8 []<|Cm<|?_
      exact fun a W d b=>⟨f,AY d,b.pick [0]⟩
     refine Bw [[E 0],[E 0],Ak 32,[E 0],[E 0],Ak 32] fun f=>A8 []<|Bh 11 D<|BP Tryz.func239 D (fun w b=>Hs _ _ _ (l.drop 12) w ((Db 12 80 (Bx V) (List.take_of_length_le (by rw[List.length_drop];have:(l).length=80:=hl;omega))) w b) (by have:(l).length=80:=hl;simp only[List.length_drop];omega))<|A8 []<|Ab 12 D (fun _ _ d b=>Cs d (BH:=[(0,(E (Fr.le ((l.drop 4).take 4)))),(1,(E (Fr.le ((l.drop 12).take 4))))]) D (v:=Value.agg (flat [[E (Fr.le ((l.drop 4).take 4))],[E (Fr.le ((l.drop 12).take 4))],Ak 32])) (run_build _ _ _ _ (by kernel_rfl)))<|Ab 13 D (fun _ _ d b=>E_ d (BH:=[(0,(Value.agg (flat [[E (Fr.le (l.take 4))],[E (Fr.le ((l.drop 8).take 4))],Ak 32]))),(1,(Value.agg (flat [[E (Fr.le ((l.drop 4).take 4))],[E (Fr.le ((l.drop 12).take 4))],Ak 32])))]) D (r:=flat [[E (Fr.le (l.take 4))],[E (Fr.le ((l.drop 8).take 4))],Ak 32,[E (Fr.le ((l.drop 4).take 4))],[E (Fr.le ((l.drop 12).take 4))],Ak 32]) (E5 Tryz.underlying361 (ss:=[[E 0],[E 0],Ak 32,[E 0],[E 0],Ak 32]) (by kernel_rfl) (places:=[(0,34),(34,34)]) (by kernel_rfl) (B3 [] [[E 0],[E 0],Ak 32] [[E 0],[E 0],Ak 32] [[E (Fr.le (l.take 4))],[E (Fr.le ((l.drop 8).take 4))],Ak 32] D Ja.nil (Ja.one (Ja.one (Ja.row (Jl 32) Ja.nil))) (Ja.one (Ja.one (Ja.row (Jl 32) Ja.nil))) D (B3 [[E (Fr.le (l.take 4))],[E (Fr.le ((l.drop 8).take 4))],Ak 32] [[E 0],[E 0],Ak 32] [] [[E (Fr.le ((l.drop 4).take 4))],[E (Fr.le ((l.drop 12).take 4))],Ak 32] D (Ja.one (Ja.one (Ja.row (Jl 32) Ja.nil))) (Ja.one (Ja.one (Ja.row (Jl 32) Ja.nil))) (Ja.one (Ja.one (Ja.row (Jl 32) Ja.nil))) D D))))<|Bh 15 D<|Bk 0 0 6 D D D<|?_
     refine A8 []<|Cm<|?_
     exact fun a W d b=>⟨f,AY d,b.pick [0]⟩
    refine Bw [[E 0],[E 0],Ak 32,[E 0],[E 0],Ak 32] fun f=>A8 []<|Bh 8 D<|BP Tryz.func239 D (fun w b=>Hs _ _ _ (l.drop 4) w ((Db 4 80 (Bx V) (List.take_of_length_le (by rw[List.length_drop];have:(l).length=80:=hl;omega))) w b) (by have:(l).length=80:=hl;simp only[List.length_drop];omega))<|A8 []<|Bh 11 D<|BP Tryz.func239 D (fun w b=>Hs _ _ _ (l.drop 12) w ((Db 12 80 (Bx V) (List.take_of_length_le (by rw[List.length_drop];have:(l).length=80:=hl;omega))) w b) (by have:(l).length=80:=hl;simp only[List.length_drop];omega))<|A8 []<|Ab 12 D (fun _ _ d b=>Cs d (BH:=[(0,(E (Fr.le ((l.drop 4).take 4)))),(1,(E (Fr.le ((l.drop 12).take 4))))]) D (v:=Value.agg (flat [[E (Fr.le ((l.drop 4).take 4))],[E (Fr.le ((l.drop 12).take 4))],Ak 32])) (run_build _ _ _ _ (by kernel_rfl)))<|Ab 13 D (fun _ _ d b=>E_ d (BH:=[(0,(Value.agg (flat [[E (Fr.le (l.take 4))],[E (Fr.le ((l.drop 8).take 4))],Ak 32]))),(1,(Value.agg (flat [[E (Fr.le ((l.drop 4).take 4))],[E (Fr.le ((l.drop 12).take 4))],Ak 32])))]) D (r:=flat [[E (Fr.le (l.take 4))],[E (Fr.le ((l.drop 8).take 4))],Ak 32,[E (Fr.le ((l.drop 4).take 4))],[E (Fr.le ((l.drop 12).take 4))],Ak 32]) (E5 Tryz.underlying361 (ss:=[[E 0],[E 0],Ak 32,[E 0],[E 0],Ak 32]) (by kernel_rfl) (places:=[(0,34),(34,34)]) (by kernel_rfl) (B3 [] [[E 0],[E 0],Ak 32] [[E 0],[E 0],Ak 32] [[E (Fr.le (l.take 4))],[E (Fr.le ((l.drop 8).take 4))],Ak 32] D Ja.nil (Ja.one (Ja.one (Ja.row (Jl 32) Ja.nil))) (Ja.one (Ja.one (Ja.row (Jl 32) Ja.nil))) D (B3 [[E (Fr.le (l.take 4))],[E (Fr.le ((l.drop 8).take 4))],Ak 32] [[E 0],[E 0],Ak 32] [] [[E (Fr.le ((l.drop 4).take 4))],[E (Fr.le ((l.drop 12).take 4))],Ak 32] D (Ja.one (Ja.one (Ja.row (Jl 32) Ja.nil))) (Ja.one (Ja.one (Ja.row (Jl 32) Ja.nil))) (Ja.one (Ja.one (Ja.row (Jl 32) Ja.nil))) D D))))<|Bh 15 D<|Bk 0 0 6 D D D<|?_
    refine A8 []<|Cm<|?_
    exact fun a W d b=>⟨f,AY d,b.pick [0]⟩
   refine Bw [[E 0],[E 0],Ak 32,[E 0],[E 0],Ak 32] fun f=>A8 []<|Bh 4 D<|BP Tryz.func239 D (fun w b=>Hs _ _ _ (l.drop 8) w ((Db 8 80 (Bx V) (List.take_of_length_le (by rw[List.length_drop];have:(l).length=80:=hl;omega))) w b) (by have:(l).length=80:=hl;simp only[List.length_drop];omega))<|A8 []<|Ab 5 D (fun _ _ d b=>Cs d (BH:=[(0,(E (Fr.le (l.take 4)))),(1,(E (Fr.le ((l.drop 8).take 4))))]) D (v:=Value.agg (flat [[E (Fr.le (l.take 4))],[E (Fr.le ((l.drop 8).take 4))],Ak 32])) (run_build _ _ _ _ (by kernel_rfl)))<|Bh 8 D<|BP Tryz.func239 D (fun w b=>Hs _ _ _ (l.drop 4) w ((Db 4 80 (Bx V) (List.take_of_length_le (by rw[List.length_drop];have:(l).length=80:=hl;omega))) w b) (by have:(l).length=80:=hl;simp only[List.length_drop];omega))<|A8 []<|Bh 11 D<|BP Tryz.func239 D (fun w b=>Hs _ _ _ (l.drop 12) w ((Db 12 80 (Bx V) (List.take_of_length_le (by rw[List.length_drop];have:(l).length=80:=hl;omega))) w b) (by have:(l).length=80:=hl;simp only[List.length_drop];omega))<|A8 []<|Ab 12 D (fun _ _ d b=>Cs d (BH:=[(0,(E (Fr.le ((l.drop 4).take 4)))),(1,(E (Fr.le ((l.drop 12).take 4))))]) D (v:=Value.agg (flat [[E (Fr.le ((l.drop 4).take 4))],[E (Fr.le ((l.drop 12).take 4))],Ak 32])) (run_build _ _ _ _ (by kernel_rfl)))<|Ab 13 D (fun _ _ d b=>E_ d (BH:=[(0,(Value.agg (flat [[E (Fr.le (l.take 4))],[E (Fr.le ((l.drop 8).take 4))],Ak 32]))),(1,(Value.agg (flat [[E (Fr.le ((l.drop 4).take 4))],[E (Fr.le ((l.drop 12).take 4))],Ak 32])))]) D (r:=flat [[E (Fr.le (l.take 4))],[E (Fr.le ((l.drop 8).take 4))],Ak 32,[E (Fr.le ((l.drop 4).take 4))],[E (Fr.le ((l.drop 12).take 4))],Ak 32]) (E5 Tryz.underlying361 (ss:=[[E 0],[E 0],Ak 32,[E 0],[E 0],Ak 32]) (by kernel_rfl) (places:=[(0,34),(34,34)]) (by kernel_rfl) (B3 [] [[E 0],[E 0],Ak 32] [[E 0],[E 0],Ak 32] [[E (Fr.le (l.take 4))],[E (Fr.le ((l.drop 8).take 4))],Ak 32] D Ja.nil (Ja.one (Ja.one (Ja.row (Jl 32) Ja.nil))) (Ja.one (Ja.one (Ja.row (Jl 32) Ja.nil))) D (B3 [[E (Fr.le (l.take 4))],[E (Fr.le ((l.drop 8).take 4))],Ak 32] [[E 0],[E 0],Ak 32] [] [[E (Fr.le ((l.drop 4).take 4))],[E (Fr.le ((l.drop 12).take 4))],Ak 32] D (Ja.one (Ja.one (Ja.row (Jl 32) Ja.nil))) (Ja.one (Ja.one (Ja.row (Jl 32) Ja.nil))) (Ja.one (Ja.one (Ja.row (Jl 32) Ja.nil))) D D))))<|Bh 15 D<|Bk 0 0 6 D D D<|?_
   refine A8 []<|Cm<|?_
   exact fun a W d b=>⟨f,AY d,b.pick [0]⟩
  refine Bw [[E 0],[E 0],Ak 32,[E 0],[E 0],Ak 32] fun f=>A8 []<|Bh 1 D<|BP Tryz.func239 D (fun w b=>Hs _ _ _ l w ((Bx V) w b) hl)<|A8 []<|Bh 4 D<|BP Tryz.func239 D (fun w b=>Hs _ _ _ (l.drop 8) w ((Db 8 80 (Bx V) (List.take_of_length_le (by rw[List.length_drop];have:(l).length=80:=hl;omega))) w b) (by have:(l).length=80:=hl;simp only[List.length_drop];omega))<|A8 []<|Ab 5 D (fun _ _ d b=>Cs d (BH:=[(0,(E (Fr.le (l.take 4)))),(1,(E (Fr.le ((l.drop 8).take 4))))]) D (v:=Value.agg (flat [[E (Fr.le (l.take 4))],[E (Fr.le ((l.drop 8).take 4))],Ak 32])) (run_build _ _ _ _ (by kernel_rfl)))<|Bh 8 D<|BP Tryz.func239 D (fun w b=>Hs _ _ _ (l.drop 4) w ((Db 4 80 (Bx V) (List.take_of_length_le (by rw[List.length_drop];have:(l).length=80:=hl;omega))) w b) (by have:(l).length=80:=hl;simp only[List.length_drop];omega))<|A8 []<|Bh 11 D<|BP Tryz.func239 D (fun w b=>Hs _ _ _ (l.drop 12) w ((Db 12 80 (Bx V) (List.take_of_length_le (by rw[List.length_drop];have:(l).length=80:=hl;omega))) w b) (by have:(l).length=80:=hl;simp only[List.length_drop];omega))<|A8 []<|Ab 12 D (fun _ _ d b=>Cs d (BH:=[(0,(E (Fr.le ((l.drop 4).take 4)))),(1,(E (Fr.le ((l.drop 12).take 4))))]) D (v:=Value.agg (flat [[E (Fr.le ((l.drop 4).take 4))],[E (Fr.le ((l.drop 12).take 4))],Ak 32])) (run_build _ _ _ _ (by kernel_rfl)))<|Ab 13 D (fun _ _ d b=>E_ d (BH:=[(0,(Value.agg (flat [[E (Fr.le (l.take 4))],[E (Fr.le ((l.drop 8).take 4))],Ak 32]))),(1,(Value.agg (flat [[E (Fr.le ((l.drop 4).take 4))],[E (Fr.le ((l.drop 12).take 4))],Ak 32])))]) D (r:=flat [[E (Fr.le (l.take 4))],[E (Fr.le ((l.drop 8).take 4))],Ak 32,[E (Fr.le ((l.drop 4).take 4))],[E (Fr.le ((l.drop 12).take 4))],Ak 32]) (E5 Tryz.underlying361 (ss:=[[E 0],[E 0],Ak 32,[E 0],[E 0],Ak 32]) (by kernel_rfl) (places:=[(0,34),(34,34)]) (by kernel_rfl) (B3 [] [[E 0],[E 0],Ak 32] [[E 0],[E 0],Ak 32] [[E (Fr.le (l.take 4))],[E (Fr.le ((l.drop 8).take 4))],Ak 32] D Ja.nil (Ja.one (Ja.one (Ja.row (Jl 32) Ja.nil))) (Ja.one (Ja.one (Ja.row (Jl 32) Ja.nil))) D (B3 [[E (Fr.le (l.take 4))],[E (Fr.le ((l.drop 8).take 4))],Ak 32] [[E 0],[E 0],Ak 32] [] [[E (Fr.le ((l.drop 4).take 4))],[E (Fr.le ((l.drop 12).take 4))],Ak 32] D (Ja.one (Ja.one (Ja.row (Jl 32) Ja.nil))) (Ja.one (Ja.one (Ja.row (Jl 32) Ja.nil))) (Ja.one (Ja.one (Ja.row (Jl 32) Ja.nil))) D D))))<|Bh 15 D<|Bk 0 0 6 D D D<|?_
  refine A8 []<|Cm<|?_
  exact fun a W d b=>⟨f,AY d,b.pick [0]⟩
 rintro a W ⟨f,d,b⟩;revert a W
 refine FO 0 [[E (Fr.le (l.take 4))],[E (Fr.le ((l.drop 8).take 4))],bv (Ji.zero 32).l,[E (Fr.le ((l.drop 4).take 4))],[E (Fr.le ((l.drop 12).take 4))],bv (Ji.zero 32).l] D D<|Jf<|Je<|DD 5<|zs (AS Tryz.underlying361 0 D)<|zs (AS Tryz.underlying359 2 D)<|zs (Fp Tryz.underlying51 0 32 rfl .none .none 2)<|zs (AA D)<|zs (Fi A3 16 80 (Bx V) D (.some D) .none)<|CS<|U<|HC 0 2 0 32 (Db 16 80 (Bx V) (List.take_of_length_le (by rw[List.length_drop];have:(l).length=80:=hl;omega))) Tryz.underlying22 D D D D D (by have:(l.drop 16).length=64:=(by have:(l).length=80:=hl;simp only[List.length_drop];omega);rw[List.length_take];omega)<|Jg<|Jf<|Je<|DD 5<|zs (AS Tryz.underlying361 34 D)<|zs (AS Tryz.underlying359 36 D)<|zs (Fp Tryz.underlying51 0 32 rfl .none .none 36)<|zs (AA D)<|zs (Fi A3 48 80 (Bx V) D (.some D) .none)<|CS<|U<|HC 0 5 0 32 (Db 48 80 (Bx V) (List.take_of_length_le (by rw[List.length_drop];have:(l).length=80:=hl;omega))) Tryz.underlying22 D D D D D (by have:(l.drop 48).length=32:=(by have:(l).length=80:=hl;simp only[List.length_drop];omega);rw[List.length_take];omega)<|M ?_
 refine Af (BN J3 0 D D)<|Af (Qx D)<|A7 ?_
 exact fun W b=>⟨by rw[←Og (l:=l) (i:=16),←Og (l:=l) (i:=48)];rfl,b.A0⟩
theorem aa(kd:Nat)(q:Option Addr)(m c:Nat)(l:List UInt8)(w:World)(V:View w (.slice q m c) m 1 (bv l))(hl:l.length=m)(h1:¬(kd=1∧32≤m))(j:¬(kd=2∧m=80)):Calls Tryz.prog 237 #[E kd,I q m c] w fun e W=>e=.returned .nilIface∧Below w.heap.size w W:=by
 refine Cg w K7 D 60<|M ?_
 refine Gx D D (fun b=>?_) fun b=>?_
 ·
  refine M ?_
  refine Cr Co D<|Jj D D D<|Pm D D (fun d=>?_) fun d=>?_
  ·
   exfalso;omega
  refine M ?_
  refine Gx D D (fun f=>?_) fun f=>?_
  ·
   refine M ?_
   refine Cr Co D<|Jj D D D<|Gx D D (fun g=>?_) fun g=>?_
   ·
    exfalso;omega
   refine A7 ?_
   exact fun W a=>⟨D,a.A0⟩
  refine A7 ?_
  exact fun W a=>⟨D,a.A0⟩
 refine M ?_
 refine Gx D D (fun h=>?_) fun h=>?_
 ·
  refine M ?_
  refine Cr Co D<|Jj D D D<|Gx D D (fun i=>?_) fun i=>?_
  ·
   exfalso;omega
  refine A7 ?_
  exact fun W a=>⟨D,a.A0⟩
 refine A7 ?_
 exact fun W a=>⟨D,a.A0⟩
theorem hS(k:Jc)(q:Option Addr)(m c:Nat)(l:List UInt8)(w:World)(V:View w (.slice q m c) m 1 (bv l))(hl:l.length=m)(hm:m≤4096):Calls Tryz.prog 238 #[Value.iface 356 (Value.agg (flat [bv k.l,[I q m c]]))] w fun e W=>∃f g,e=.returned (Value.agg (flat [[E 1],[E 0],[E 0],[E 0],[E 0],bv CU.l,bv CU.l,bv k.l,[I f (0+m) g]]))∧W.ownsRow w.heap.size 5 1 (.slice f (0+m) g) (0+m) (bv l)∧Below w.heap.size w W:=by
 refine Cg w QX D 38<|Je<|Jh<|U<|Bw [[E 0],[E 0],[E 0],[E 0],[E 0],Ak 32,Ak 32,Ak 32,[I none 0 0]] fun i=>M ?_
 refine Af (Vd Mi D)<|Bc D D<|Bc D D<|M ?_
 refine U<|Bw [Ak 32,[I none 0 0]] fun j=>U<|Bk 0 0 2 D D D<|?_
 refine Jg<|Jf<|Je<|?_
 refine CQ [0]<|Ab 0 D (AS Mi 0 D)<|Ab 1 D (DH Em 0 0 1 [bv k.l] D D)<|Ab 2 D (AS Mi 32 D)<|Ab 3 D (Bb Co 0 1 D D D)<|Bh 4 D<|Dr 5 1 (bv [])<|DI A3 0 (bv l) D D D (Bx V) (Eo _) (EL hl) D fun a b=>A8 [1]<|Ab 5 D (fun _ _ h d=>E_ h (BH:=[(0,(E 1)),(7,(Value.agg (flat [bv k.l]))),(8,(I a (0+m) b))]) D (r:=flat [[E 1],[E 0],[E 0],[E 0],[E 0],Ak 32,Ak 32,bv k.l,[I a (0+m) b]]) (E5 B7 (ss:=[[E 0],[E 0],[E 0],[E 0],[E 0],Ak 32,Ak 32,Ak 32,[I none 0 0]]) (by kernel_rfl) (places:=[(0,1),(1,1),(2,1),(3,1),(4,1),(5,32),(37,32),(69,32),(101,1)]) (by kernel_rfl) (B3 [] [[E 0]] [[E 0],[E 0],[E 0],[E 0],Ak 32,Ak 32,Ak 32,[I none 0 0]] [[E 1]] D Ja.nil (Ja.one Ja.nil) (Ja.one Ja.nil) D (B3 [[E 1],[E 0],[E 0],[E 0],[E 0],Ak 32,Ak 32] [Ak 32] [[I none 0 0]] [bv k.l] D (Ja.one (Ja.one (Ja.one (Ja.one (Ja.one (Ja.row (Jl 32) (Ja.row (Jl 32) Ja.nil))))))) (Ja.row (Jl 32) Ja.nil) (Ja.row k.row Ja.nil) D (B3 [[E 1],[E 0],[E 0],[E 0],[E 0],Ak 32,Ak 32,bv k.l] [[I none 0 0]] [] [[I a (0+m) b]] D (Ja.one (Ja.one (Ja.one (Ja.one (Ja.one (Ja.row (Jl 32) (Ja.row (Jl 32) (Ja.row k.row Ja.nil)))))))) (Ja.one Ja.nil) (Ja.one Ja.nil) D D)))))<|Bh 6 D<|Bk 2 0 9 D D D<|?_
 refine A8 [1]<|Cm<|M ?_
 refine Fq B7 2 D D fun W d=>?_
 exact⟨_,_,D,d.DQ 0,d.A0⟩
theorem dm(l r lc rc:Nat)(ls rs:Jc)(w:World):Calls Tryz.prog 238 #[Value.iface 361 (Value.agg (flat [[E l],[E lc],bv ls.l,[E r],[E rc],bv rs.l]))] w fun e W=>e=.returned (Value.agg (flat [[E 2],[E l],[E r],[E lc],[E rc],bv ls.l,bv rs.l,bv CU.l,[I none 0 0]]))∧Below w.heap.size w W:=by
 refine Cg w QX D 38<|Je<|Jh<|U<|Bw [[E 0],[E 0],[E 0],[E 0],[E 0],Ak 32,Ak 32,Ak 32,[I none 0 0]] fun g=>M ?_
 refine Af (bc Mi D (z:=(Value.agg (flat [Ak 32,[I none 0 0]]))) (fun _=>by kernel_rfl))<|Bc D D<|Bc D D<|M ?_
 refine Af (Vd J3 D)<|Bc D D<|Bc D D<|M ?_
 refine U<|Bw [[E 0],[E 0],Ak 32,[E 0],[E 0],Ak 32] fun h=>U<|Bk 0 0 6 D D D<|?_
 refine Jg<|Jf<|Je<|?_
 refine Hj (fun a W=>∃b c,AH 38 a (Jb (Jb (Jb Jk 2 (S g)) 5 (S b)) 6 (S c))∧Sat C1 w [O c [[E r],[E rc],bv rs.l] 359,O b [[E l],[E lc],bv ls.l] 359,O g [[E 0],[E 0],[E 0],[E 0],[E 0],Ak 32,Ak 32,Ak 32,[I none 0 0]] 99] W) ?_ ?_
 ·
  refine CQ [0]<|Ab 0 D (AS J3 0 D)<|Ab 1 D (DH FX 0 0 3 [[E l],[E lc],bv ls.l] D D)<|Ab 2 D (AS J3 34 D)<|Ab 3 D (DH FX 0 3 3 [[E r],[E rc],bv rs.l] D D)<|Gy 4 5 D D ?_ ?_
  ·
   refine Bw [[E 0],[E 0],Ak 32] fun b=>A8 [1]<|Bh 5 D<|Bw [[E 0],[E 0],Ak 32] fun c=>A8 [2]<|Bh 6 D<|Bk 1 0 3 D D D<|?_
   refine A8 [2]<|Bh 7 D<|Bk 0 0 3 D D D<|?_
   refine A8 [2]<|Cm<|?_
   exact fun a W f d=>⟨b,c,AY f,d.pick [0,1,3]⟩
  refine Bw [[E 0],[E 0],Ak 32] fun c=>A8 [1]<|Bh 4 D<|Bw [[E 0],[E 0],Ak 32] fun b=>A8 [2]<|Bh 6 D<|Bk 0 0 3 D D D<|?_
  refine A8 [2]<|Bh 7 D<|Bk 1 0 3 D D D<|?_
  refine A8 [2]<|Cm<|?_
  exact fun a W f d=>⟨b,c,AY f,d.pick [1,0,3]⟩
 rintro a W ⟨b,c,f,d⟩;revert a W
 refine Jf<|Je<|Jh<|AG FX 0 D<|AZ AF 1 0 D D D<|AG FX 0 D<|AZ AF 0 0 D D D<|AG FX 1 D<|AZ AF 1 1 D D D<|AG FX 1 D<|AZ AF 0 1 D D D<|AG FX 2 D<|Af (DH B5 1 2 1 [bv ls.l] D D)<|AG FX 2 D<|Af (DH B5 0 2 1 [bv rs.l] D D)<|Af (fun _ _ f d=>E_ f (BH:=[(0,(E 2)),(1,(E l)),(2,(E r)),(3,(E lc)),(4,(E rc)),(5,(Value.agg (flat [bv ls.l]))),(6,(Value.agg (flat [bv rs.l])))]) D (r:=flat [[E 2],[E l],[E r],[E lc],[E rc],bv ls.l,bv rs.l,Ak 32,[I none 0 0]]) (E5 B7 (ss:=[[E 0],[E 0],[E 0],[E 0],[E 0],Ak 32,Ak 32,Ak 32,[I none 0 0]]) (by kernel_rfl) (places:=[(0,1),(1,1),(2,1),(3,1),(4,1),(5,32),(37,32),(69,32),(101,1)]) (by kernel_rfl) (B3 [] [[E 0]] [[E 0],[E 0],[E 0],[E 0],Ak 32,Ak 32,Ak 32,[I none 0 0]] [[E 2]] D Ja.nil (Ja.one Ja.nil) (Ja.one Ja.nil) D (B3 [[E 2]] [[E 0]] [[E 0],[E 0],[E 0],Ak 32,Ak 32,Ak 32,[I none 0 0]] [[E l]] D (Ja.one Ja.nil) (Ja.one Ja.nil) (Ja.one Ja.nil) D (B3 [[E 2],[E l]] [[E 0]] [[E 0],[E 0],Ak 32,Ak 32,Ak 32,[I none 0 0]] [[E r]] D (Ja.one (Ja.one Ja.nil)) (Ja.one Ja.nil) (Ja.one Ja.nil) D (B3 [[E 2],[E l],[E r]] [[E 0]] [[E 0],Ak 32,Ak 32,Ak 32,[I none 0 0]] [[E lc]] D (Ja.one (Ja.one (Ja.one Ja.nil))) (Ja.one Ja.nil) (Ja.one Ja.nil) D (B3 [[E 2],[E l],[E r],[E lc]] [[E 0]] [Ak 32,Ak 32,Ak 32,[I none 0 0]] [[E rc]] D (Ja.one (Ja.one (Ja.one (Ja.one Ja.nil)))) (Ja.one Ja.nil) (Ja.one Ja.nil) D (B3 [[E 2],[E l],[E r],[E lc],[E rc]] [Ak 32] [Ak 32,Ak 32,[I none 0 0]] [bv ls.l] D (Ja.one (Ja.one (Ja.one (Ja.one (Ja.one Ja.nil))))) (Ja.row (Jl 32) Ja.nil) (Ja.row ls.row Ja.nil) D (B3 [[E 2],[E l],[E r],[E lc],[E rc],bv ls.l] [Ak 32] [Ak 32,[I none 0 0]] [bv rs.l] D (Ja.one (Ja.one (Ja.one (Ja.one (Ja.one (Ja.row ls.row Ja.nil)))))) (Ja.row (Jl 32) Ja.nil) (Ja.row rs.row Ja.nil) D D)))))))))<|U<|Bk 2 0 9 D D D<|?_
 refine M ?_
 refine Fq B7 2 D D fun W d=>?_
 exact⟨D,d.A0⟩
abbrev U'(x:Bf):List (List Value):=[[E x.kd],[E x.l],[E x.r],[E x.lc],[E x.rc],bv x.ls.l,bv x.rs.l,bv x.k.l,[I x.s.p x.s.v.length x.s.c]]
abbrev N3:List (List Value):=[[E 0],[E 0],[E 0],[E 0],[E 0],Ak 32,Ak 32,Ak 32,[I none 0 0]]
theorem ZV(q:Option Addr)(m c:Nat)(l:List UInt8)(w:World)(V:View w (.slice q m c) m 1 (bv l))(hl:l.length=m)(h1:32≤m)(j:m≤160):Calls Tryz.prog 236 #[E 1,I q m c] w fun e W=>∃f g,e=.returned (.tuple #[Value.agg (flat [[E 1],[E 0],[E 0],[E 0],[E 0],bv CU.l,bv CU.l,bv (G.DF l 0).l,[I f (0+(m - 32)) g]]),E 0])∧W.ownsRow w.heap.size 5 1 (.slice f (0+(m - 32)) g) (0+(m - 32)) (bv (l.drop 32))∧Below w.heap.size w W:=by
 refine Cg w Ma D 20<|Je<|Jh<|U<|Bw [[E 0],[E 0],[E 0],[E 0],[E 0],Ak 32,Ak 32,Ak 32,[I none 0 0]] fun k=>M ?_
 refine U<|BP K7 D (fun w a=>Wt _ _ _ l w ((Bx V) w a) hl (by omega))<|M ?_
 refine Af (Rf (by kernel_rfl) D)<|M ?_
 refine U<|?_
 refine KZ Tc (fun _=>by kernel_rfl) D D (fun w a=>Y0 (G.DF l 0) (sp q 32 c 1) (m - 32) (c - 32) w) fun _ e W a ⟨he,J⟩=>⟨_,_,he,a.below J,?_⟩
 rcases Bool.eq_false_or_eq_true (decide (((m - 32:Nat):Int)≤((128:Nat):Int)))with d|d
 ·
  refine CR 14 D (congrArg Value.bool d)<|Jj D D D<|Af (fun _ _ h a=>CE h (b:=true) D)<|M ?_
  refine U<|?_
  refine Ba QX D (fun w a=>hS (G.DF l 0) _ _ _ (l.drop 32) w ((Db 32 m (Bx V) (List.take_of_length_le (by rw[List.length_drop];omega))) w a) (by rw[List.length_drop];omega) (by omega)) fun _ e W a ⟨n,o,he,i,J⟩=>⟨_,_,he,a.own i J,?_⟩
  refine U<|Bk 1 0 9 D D D<|?_
  refine M ?_
  refine Gl B7 1 D D D fun W a=>?_
  exact⟨_,_,D,a.DQ 0,a.A0⟩
 refine CR 14 D (congrArg Value.bool d)<|?_
 exfalso;have:=of_decide_eq_false d;omega
theorem fu(q:Option Addr)(m c:Nat)(l:List UInt8)(w:World)(V:View w (.slice q m c) m 1 (bv l))(hl:l.length=m)(h1:32≤m)(g:160<m):Calls Tryz.prog 236 #[E 1,I q m c] w fun e W=>e=.returned (.tuple #[Value.agg (flat N3),E 90])∧Below w.heap.size w W:=by
 refine Cg w Ma D 20<|Je<|Jh<|U<|Bw [[E 0],[E 0],[E 0],[E 0],[E 0],Ak 32,Ak 32,Ak 32,[I none 0 0]] fun h=>M ?_
 refine U<|BP K7 D (fun w a=>Wt _ _ _ l w ((Bx V) w a) hl (by omega))<|M ?_
 refine Af (Rf (by kernel_rfl) D)<|M ?_
 refine U<|?_
 refine KZ Tc (fun _=>by kernel_rfl) D D (fun w a=>Y0 (G.DF l 0) (sp q 32 c 1) (m - 32) (c - 32) w) fun _ e W a ⟨he,J⟩=>⟨_,_,he,a.below J,?_⟩
 rcases Bool.eq_false_or_eq_true (decide (((m - 32:Nat):Int)≤((128:Nat):Int)))with d|d
 ·
  refine CR 14 D (congrArg Value.bool d)<|?_
  exfalso;have:=of_decide_eq_true d;omega
 refine CR 14 D (congrArg Value.bool d)<|Jj D D D<|Af (fun _ _ f a=>CE f (b:=false) D)<|M ?_
 refine Af (fun _ _ f a=>Cs f (BH:=[]) D (v:=Value.agg (flat [[E 0],[E 0],[E 0],[E 0],[E 0],Ak 32,Ak 32,Ak 32,[I none 0 0]])) (run_build _ _ _ _ (by kernel_rfl)))<|U<|Bk 0 0 9 D D D<|?_
 refine M ?_
 refine Gl B7 0 D D D fun W a=>?_
 exact⟨D,a.A0⟩
theorem eX(q:Option Addr)(c:Nat)(l:List UInt8)(w:World)(V:View w (.slice q 80 c) 80 1 (bv l))(hl:l.length=80)(f:G.branch (G.BD l 0) (G.BD l 4) (G.BD l 8) (G.BD l 12) (G.DF l 16) (G.DF l 48)=true):Calls Tryz.prog 236 #[E 2,I q 80 c] w fun e W=>e=.returned (.tuple #[Value.agg (flat [[E 2],[E (G.BD l 0)],[E (G.BD l 4)],[E (G.BD l 8)],[E (G.BD l 12)],bv (G.DF l 16).l,bv (G.DF l 48).l,bv CU.l,[I none 0 0]]),E 0])∧Below w.heap.size w W:=by
 have h:=KU l 0
 have i:=KU l 4
 have j:=KU l 8
 have k:=KU l 12
 refine Cg w Ma D 20<|Je<|Jh<|U<|Bw [[E 0],[E 0],[E 0],[E 0],[E 0],Ak 32,Ak 32,Ak 32,[I none 0 0]] fun m=>M ?_
 refine U<|BP K7 D (fun w a=>W0 _ _ l w ((Bx V) w a) hl)<|M ?_
 refine Af (Rf (by kernel_rfl) D)<|M ?_
 refine U<|?_
 refine KZ Tq (fun _=>by kernel_rfl) D D (fun w a=>U1 (G.BD l 0) (G.BD l 4) (G.BD l 8) (G.BD l 12) (G.DF l 16) (G.DF l 48) w (by omega) (by omega) (by omega) (by omega)) fun _ e W a ⟨he,J⟩=>⟨_,_,he,a.below J,?_⟩
 rcases Bool.eq_false_or_eq_true (G.branch (G.BD l 0) (G.BD l 4) (G.BD l 8) (G.BD l 12) (G.DF l 16) (G.DF l 48))with d|d
 ·
  refine CR 14 D (congrArg Value.bool d)<|Jj D D D<|Af (fun _ _ g a=>CE g (b:=true) D)<|M ?_
  refine U<|?_
  refine Ba QX D (fun w a=>dm (G.BD l 0) (G.BD l 4) (G.BD l 8) (G.BD l 12) (G.DF l 16) (G.DF l 48) w) fun _ e W a ⟨he,J⟩=>⟨_,_,he,a.below J,?_⟩
  refine U<|Bk 0 0 9 D D D<|?_
  refine M ?_
  refine Gl B7 0 D D D fun W a=>?_
  exact⟨D,a.A0⟩
 refine CR 14 D (congrArg Value.bool d)<|?_
 rw[f]at d;cases d
theorem c7(q:Option Addr)(c:Nat)(l:List UInt8)(w:World)(V:View w (.slice q 80 c) 80 1 (bv l))(hl:l.length=80)(g:G.branch (G.BD l 0) (G.BD l 4) (G.BD l 8) (G.BD l 12) (G.DF l 16) (G.DF l 48)=false):Calls Tryz.prog 236 #[E 2,I q 80 c] w fun e W=>e=.returned (.tuple #[Value.agg (flat N3),E 90])∧Below w.heap.size w W:=by
 have h:=KU l 0
 have i:=KU l 4
 have j:=KU l 8
 have k:=KU l 12
 refine Cg w Ma D 20<|Je<|Jh<|U<|Bw [[E 0],[E 0],[E 0],[E 0],[E 0],Ak 32,Ak 32,Ak 32,[I none 0 0]] fun m=>M ?_
 refine U<|BP K7 D (fun w a=>W0 _ _ l w ((Bx V) w a) hl)<|M ?_
 refine Af (Rf (by kernel_rfl) D)<|M ?_
 refine U<|?_
 refine KZ Tq (fun _=>by kernel_rfl) D D (fun w a=>U1 (G.BD l 0) (G.BD l 4) (G.BD l 8) (G.BD l 12) (G.DF l 16) (G.DF l 48) w (by omega) (by omega) (by omega) (by omega)) fun _ e W a ⟨he,J⟩=>⟨_,_,he,a.below J,?_⟩
 rcases Bool.eq_false_or_eq_true (G.branch (G.BD l 0) (G.BD l 4) (G.BD l 8) (G.BD l 12) (G.DF l 16) (G.DF l 48))with d|d
 ·
  refine CR 14 D (congrArg Value.bool d)<|?_
  rw[g]at d;cases d
 refine CR 14 D (congrArg Value.bool d)<|Jj D D D<|Af (fun _ _ f a=>CE f (b:=false) D)<|M ?_
 refine Af (fun _ _ f a=>Cs f (BH:=[]) D (v:=Value.agg (flat [[E 0],[E 0],[E 0],[E 0],[E 0],Ak 32,Ak 32,Ak 32,[I none 0 0]])) (run_build _ _ _ _ (by kernel_rfl)))<|U<|Bk 0 0 9 D D D<|?_
 refine M ?_
 refine Gl B7 0 D D D fun W a=>?_
 exact⟨D,a.A0⟩
theorem fl(kd:Nat)(q:Option Addr)(m c:Nat)(l:List UInt8)(w:World)(V:View w (.slice q m c) m 1 (bv l))(hl:l.length=m)(h1:¬(kd=1∧32≤m))(b:¬(kd=2∧m=80)):Calls Tryz.prog 236 #[E kd,I q m c] w fun e W=>e=.returned (.tuple #[Value.agg (flat N3),E 90])∧Below w.heap.size w W:=by
 refine Cg w Ma D 20<|Je<|Jh<|U<|Bw [[E 0],[E 0],[E 0],[E 0],[E 0],Ak 32,Ak 32,Ak 32,[I none 0 0]] fun f=>M ?_
 refine U<|BP K7 D (fun w a=>aa kd _ _ _ l w ((Bx V) w a) hl h1 b)<|M ?_
 refine Af (WG (by kernel_rfl) D)<|M ?_
 refine Af (fun _ _ d a=>Cs d (BH:=[]) D (v:=Value.agg (flat [[E 0],[E 0],[E 0],[E 0],[E 0],Ak 32,Ak 32,Ak 32,[I none 0 0]])) (run_build _ _ _ _ (by kernel_rfl)))<|U<|Bk 0 0 9 D D D<|?_
 refine M ?_
 refine Gl B7 0 D D D fun W a=>?_
 exact⟨D,a.A0⟩
theorem dT{kd:Nat}{q:Option Addr}{m c:Nat}{l:List UInt8}{w:World}(V:View w (.slice q m c) m 1 (bv l))(hl:l.length=m){n:G.Dh}(h:G.node kd l=some n):
 Calls Tryz.prog 236 #[E kd,I q m c] w fun e W=>∃x:Bf,x.AW=n∧e=.returned (.tuple #[.agg (flat (U' x)),E 0])∧W.ownsRow w.heap.size 5 1 (.slice x.s.p x.s.v.length x.s.c) x.s.v.length (bv x.s.v)∧Below w.heap.size w W:=by
 unfold G.node at h
 split at h
 ·rename_i a
  obtain⟨rfl,h1⟩:=a
  split at h
  ·rename_i b
   cases h
   rw[List.length_drop]at b
   refine(ZV q m c l w V hl (by omega) (by omega)).mono ?_
   rintro e W ⟨p,k,rfl,ho,J⟩
   have d:0+(m - 32)=(l.drop 32).length:=by rw[List.length_drop];omega
   rw[d]at ho
   exact⟨⟨1,0,0,0,0,CU,CU,G.DF l 0,⟨p,l.drop 32,k⟩⟩,D,by rw[d],ho,J⟩
  ·cases h
 ·split at h
  ·rename_i a
   obtain⟨rfl,h1⟩:=a
   split at h
   ·rename_i b
    cases h
    have hm:m=80:=by omega
    subst hm
    refine(eX q c l w V hl b).mono ?_
    rintro e W ⟨rfl,J⟩
    exact⟨⟨2,G.BD l 0,G.BD l 4,G.BD l 8,G.BD l 12,G.DF l 16,G.DF l 48,CU,⟨none,[],0⟩⟩,D,D,World.ownsRow_nil _ _ _ _,J⟩
   ·cases h
  ·cases h
theorem ef{kd:Nat}{q:Option Addr}{m c:Nat}{l:List UInt8}{w:World}(V:View w (.slice q m c) m 1 (bv l))(hl:l.length=m)(h:G.node kd l=none):
 Calls Tryz.prog 236 #[E kd,I q m c] w fun e W=>e=.returned (.tuple #[.agg (flat N3),E 90])∧Below w.heap.size w W:=by
 unfold G.node at h
 split at h
 ·rename_i a
  obtain⟨rfl,h1⟩:=a
  split at h
  ·cases h
  ·rename_i b
   rw[List.length_drop]at b
   exact fu q m c l w V hl (by omega) (by omega)
 ·rename_i a
  split at h
  ·rename_i d
   obtain⟨rfl,h1⟩:=d
   split at h
   ·cases h
   ·rename_i b
    have hm:m=80:=by omega
    subst hm
    exact c7 q c l w V hl (Bool.eq_false_iff.2 b)
  ·rename_i d
   exact fl kd q m c l w V hl (by rw[←hl];exact a) (by rw[←hl];exact d)
end Go.Proofs.YtaapafoibofbjaaGreatDoor
