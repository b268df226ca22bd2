/- Laws and walks on the road to SalvageClean (part M51). No conditions beyond each law's own. -/
import Derived.Test.YtaapafoibofbjaaGreatDoorM01
import Derived.Test.YtaapafoibofbjaaGreatDoorM50
import Derived.Test.YtaapafoibofbjaaGreatDoorM32
import Derived.Test.YtaapafoibofbjaaGreatDoorM29
import Derived.Test.YtaapafoibofbjaaGreatDoorM07
import Derived.Test.YtaapafoibofbjaaGreatDoorM12
import Derived.Test.YtaapafoibofbjaaGreatDoorM33
set_option linter.unusedVariables false
namespace Go.Proofs.YtaapafoibofbjaaGreatDoor
open Go.RowKit
set_option maxRecDepth 100000
set_option maxHeartbeats 1000000
variable {w:World} {n c:Nat}
theorem bb(x:B9):∀u∈Mv x,u.oneCell'=true:=OR (.one D (.one D (.one D (.one D (.one D (.one D (.row x.s.row .nil)))))))
theorem bC(q:Option Addr)(c:Nat)(w:World)(d:DA w):Calls Tryz.prog 33 #[E 3,E 0,I q 0 c] w fun e W=>e=.returned (.tuple #[I none 0 0,E 2])∧Below w.heap.size w W:=by
 refine Cg w P6 D 109<|M ?_
 refine U<|?_
 refine Ba TN D (fun w a=>XF ((3:Nat):Int) w (d.below a.A0 (Br _))) fun _ e W a ⟨Du,ce,f,he,b,J⟩=>⟨_,_,he,a.own b J,?_⟩
 have h:f.length=257:=I3 Hh (by decide) b
 refine M ?_
 refine Af (fun _ _ g a=>Cs g (BH:=[]) D (v:=Value.agg (flat [[E 0],[I none 0 0],[I none 0 0]])) (run_build _ _ _ _ (by kernel_rfl)))<|U<|Bw [[E 0],[I none 0 0],[I none 0 0]] fun i=>U<|Bk 0 0 3 D D D<|?_
 refine M ?_
 refine R0<|Pb<|M ?_
 refine Cr LC D<|ET (by omega) D D<|A7 ?_
 exact fun W a=>⟨D,a.A0⟩
theorem cd{g:Option Addr}{n:Nat}{m:Hd}{x:Eh}(u:DA w)(B:View w (I g 1 n) 1 1 (Aq Q4 [m]))(H:View w (I m.p m.L.length m.c) m.L.length 33 (Aq J4 [x]))(K:[x].length=m.L.length)(N:m.L.length=1)(C:View w (I x.s.p x.s.v.length x.s.c) x.s.v.length 1 (bv x.s.v))(F:x.s.v.length≤128):Calls Tryz.prog 33 #[E 3,E 0,I g 1 n] w fun e W=>∃p k L,e=.returned (.tuple #[I p 512 k,E 4])∧W.ownsRow w.heap.size 5 1 (I p 512 k) 512 (bv L)∧Lo L 4∧Below w.heap.size w W:=by
 have aw:[x][0]? =some x:=D
 have hm:[m][0]? =some m:=D
 refine Cg w P6 D 109<|M ?_
 refine U<|?_
 refine Ba TN D (fun w b=>XF ((3:Nat):Int) w (u.below b.A0 (Br _))) fun _ e W b ⟨Du,ce,R,he,Z,J⟩=>⟨_,_,he,b.own Z J,?_⟩
 have P:R.length=257:=I3 Hh (by decide) Z
 refine M ?_
 refine Af (fun _ _ d b=>Cs d (BH:=[]) D (v:=Value.agg (flat [[E 0],[I none 0 0],[I none 0 0]])) (run_build _ _ _ _ (by kernel_rfl)))<|U<|Bw [[E 0],[I none 0 0],[I none 0 0]] fun G=>U<|Bk 0 0 3 D D D<|?_
 refine M ?_
 refine R0<|Pb<|M ?_
 refine Cr LC D<|IS (by omega) D D<|M ?_
 refine Hj (fun a W=>∃i j f c2 o,AH 109 a (Jb (Jb (Jb (Jb (Jb (Jb (Jb (Jb (Jb (Jb (Jb (Jb (Jb (Jb (Jb (Jb (Jb (Jb (Jb (Jb (Jb (Jb (Jb (Jb (Jb (Jb (Jb (Jb (Jb (Jb Jk 0 (E 3)) 1 (E 0)) 2 (I g 1 n)) 6 (I none 0 0)) 7 (E 0)) 8 (I Du 257 ce)) 9 (I none 0 0)) 10 (I none 0 0)) 11 (I none 0 0)) 12 (S G)) 13 (E 2)) 14 (E 0)) 22 (E 0)) 23 (I g 1 n)) 24 (E 1)) 25 (C' true)) 29 (E 3)) 30 (I Du 257 ce)) 31 (Value.agg (flat [[E 0],[I none 0 0],[I none 0 0]]))) 32 (E 2)) 33 (I g 1 n)) 34 (E 0)) 35 (Hn g 0)) 36 (I m.p m.L.length m.c)) 37 (Value.tuple #[Value.agg (flat [[E 2],[I m.p m.L.length m.c],[I i 1 j]]),I f 1 c2])) 28 (Value.tuple #[Value.agg (flat [[E 2],[I m.p m.L.length m.c],[I i 1 j]]),I f 1 c2])) 38 (Value.agg (flat [[E 2],[I m.p m.L.length m.c],[I i 1 j]]))) 39 (I f 1 c2)) 15 (S o)) 16 (I f 1 c2))∧Sat C1 w [O o [[E 2],[I m.p m.L.length m.c],[I i 1 j]] 167,Ae 99 102 (I f 1 c2) 1 (Aq GI ([⟨1,0,0,0,0,CU,CU,x.k,x.s⟩])),O G [[E 0],[I none 0 0],[I none 0 0]] 167,Ae 51 32 (I Du 257 ce) 257 (Aq EJ R)] W) ?_ ?_
 ·
  refine CQ [0,1]<|Ab 0 D (AA D)<|Ab 1 D (AA D)<|Ab 2 D (BN LS 0 D D)<|Ab 3 D (AA D)<|Ab 4 D (AA D)<|Ab 5 D (AA D)<|Ab 6 D (Dj OK 0 0 (Bx B) D D)<|Ab 7 D (J1 HE R9 0 hm (Bx B) D D)<|Gy 8 12 D D ?_ ?_
  ·
   refine Ba Tu D (fun w b=>U7 (u.below b.A0 (Br _)) ((BZ 1) w b) P (H.below b.A0) K N (C.below b.A0) F) fun _ e W b ⟨i,j,f,c2,he,T,J⟩=>⟨_,_,he,b.own T J,?_⟩
   refine A8 [1,2]<|Ab 9 D (AA D)<|Ab 10 D (El D D)<|Ab 11 D (El D D)<|Bh 12 D<|Bw [[E 0],[I none 0 0],[I none 0 0]] fun o=>A8 [2,3]<|Bh 13 D<|Bk 0 0 3 D D D<|?_
   refine A8 [2,3]<|Ab 14 D (Ck D)<|Cm<|?_
   exact fun a W d b=>⟨i,j,f,c2,o,AY d,b.pick [0,1,2,3]⟩
  refine Bw [[E 0],[I none 0 0],[I none 0 0]] fun o=>A8 [1,2]<|Bh 8 D<|?_
  refine Ba Tu D (fun w b=>U7 (u.below b.A0 (Br _)) ((BZ 2) w b) P (H.below b.A0) K N (C.below b.A0) F) fun _ e W b ⟨ak,al,an,ao,he,T,J⟩=>⟨_,_,he,b.own T J,?_⟩
  refine A8 [2,3]<|Ab 9 D (AA D)<|Ab 10 D (El D D)<|Ab 11 D (El D D)<|Bh 13 D<|Bk 1 0 3 D D D<|?_
  refine A8 [2,3]<|Ab 14 D (Ck D)<|Cm<|?_
  exact fun a W d b=>⟨ak,al,an,ao,o,AY d,b.pick [1,0,2,3]⟩
 rintro a W ⟨i,j,f,c2,o,d,b⟩;revert a W
 generalize z:(⟨1,0,0,0,0,CU,CU,x.k,x.s⟩:Bf)=nd
 have aa:[nd][0]? =some nd:=D
 have ax:nd.kd=1:=by rw[←z]
 refine M ?_
 refine R0<|Pb<|M ?_
 refine Cr L7 D<|IS (by omega) D D<|M ?_
 refine CQ [0,1,2]<|Ab 0 D (AA D)<|Ab 1 D (AA D)<|Ab 2 D (AA D)<|Ab 3 D (Dj MF 0 0 (BZ 1) D D)<|Ab 4 D (Nd B7 0 D)<|Ab 5 D (Q8 AF QR 0 0 aa (BZ 1) D D D)<|Ab 6 D (AA D)<|Ab 7 D (AA D)<|Ab 8 D (fun _ _ d b=>Hb d (p:=2) (q:=0) (r:=2) D D D)<|Ab 9 D (AA D)<|Ab 10 D (AA D)<|Ab 11 D (Dj MF 0 0 (BZ 1) D D)<|Ab 12 D (LH B7 QR 0 0 9 [[E nd.kd],[E nd.l],[E nd.r],[E nd.lc],[E nd.rc],bv nd.ls.l,bv nd.rs.l,bv nd.k.l,[I nd.s.p nd.s.v.length nd.s.c]] aa (BZ 1) D D)<|Bh 13 D<|?_
 refine Ba Ut D (fun w b=>ec nd w (by subst z;exact C.below b.A0) (by subst z;exact F) (by subst z;exact Nat.zero_le _) (by subst z;exact Nat.zero_le _) (by subst z;exact Nat.zero_le _) (by subst z;exact Nat.zero_le _)) fun _ e W b ⟨ab,ad,Q,t,he,ay,ae,J⟩=>⟨_,_,he,b.own ae J,?_⟩
 have aq:t.length=Q:=De ae
 refine A8 [1,2,3]<|Bh 14 D<|?_
 refine Ba Rr D (fun w b=>T6 nd.kd 2 _ _ _ _ w (u.below b.A0 (Br _)) (by omega) (by omega) ((BZ 0) w b) aq) fun _ e W b ⟨af,ag,he,ah,J⟩=>⟨_,_,he,b.own ah J,?_⟩
 refine A8 [2,3,4]<|Bh 15 D<|Dr 5 1 (bv [])<|DI A3 0 (bv (Ref.Gc nd.kd 2 t)) D D D (BZ 1) (Eo _) (EL (l':=(Ref.Gc nd.kd 2 t)) (De ah)) D fun V X=>A8 [3,4,5]<|Ab 16 D (Ck D)<|Cm<|M ?_
 refine Af (fun _ _ d b=>Hb d (p:=0) (q:=1) (r:=1) D D D)<|M ?_
 refine Pb<|M ?_
 refine Cr L7 D<|ET (by omega) D D<|M ?_
 refine Af (BN LS 3 D D)<|U<|Bk 5 0 3 D D D<|?_
 refine M ?_
 refine Cr L7 D<|Af (fun _ _ d b=>Hb d (p:=2) (q:=1) (r:=3) D D D)<|M ?_
 refine Hj (fun a W=>∃d15:Jc,∃A,AH 109 a (Jb (Jb (Jb (Jb (Jb (Jb (Jb (Jb (Jb (Jb (Jb (Jb (Jb (Jb (Jb (Jb (Jb (Jb (Jb (Jb (Jb (Jb (Jb (Jb (Jb (Jb (Jb (Jb (Jb (Jb (Jb (Jb (Jb (Jb (Jb (Jb (Jb (Jb (Jb (Jb (Jb (Jb (Jb (Jb (Jb (Jb (Jb (Jb (Jb (Jb (Jb (Jb (Jb (Jb (Jb (Jb (Jb (Jb (Jb (Jb (Jb (Jb (Jb (Jb (Jb (Jb (Jb (Jb (Jb (Jb (Jb (Jb (Jb (Jb (Jb (Jb Jk 0 (E 3)) 1 (E 0)) 2 (I g 1 n)) 6 (I none 0 0)) 7 (E 0)) 8 (I Du 257 ce)) 9 (I V 256 X)) 10 (I none 0 0)) 11 (I none 0 0)) 12 (S G)) 13 (E 3)) 14 (E 0)) 22 (E 0)) 23 (I g 1 n)) 24 (E 1)) 25 (C' true)) 29 (E 3)) 30 (I Du 257 ce)) 31 (Value.agg (flat [[E 0],[I none 0 0],[I none 0 0]]))) 32 (E 2)) 33 (I g 1 n)) 34 (E 0)) 35 (Hn g 0)) 36 (I m.p m.L.length m.c)) 37 (Value.tuple #[Value.agg (flat [[E 2],[I m.p m.L.length m.c],[I i 1 j]]),I f 1 c2])) 28 (Value.tuple #[Value.agg (flat [[E 2],[I m.p m.L.length m.c],[I i 1 j]]),I f 1 c2])) 38 (Value.agg (flat [[E 2],[I m.p m.L.length m.c],[I i 1 j]]))) 39 (I f 1 c2)) 15 (S o)) 16 (I f 1 c2)) 17 (E 1)) 40 (E 1)) 41 (I f 1 c2)) 42 (E 1)) 43 (C' false)) 46 (I none 0 0)) 47 (I f 1 c2)) 48 (E 0)) 49 (Hn f 0)) 50 (Hn f 0)) 51 (E nd.kd)) 52 (E 2)) 53 (E 0)) 54 (E 2)) 55 (I f 1 c2)) 56 (E 0)) 57 (Hn f 0)) 58 (Value.agg (flat [[E nd.kd],[E nd.l],[E nd.r],[E nd.lc],[E nd.rc],bv nd.ls.l,bv nd.rs.l,bv nd.k.l,[I nd.s.p nd.s.v.length nd.s.c]]))) 59 (I ab Q ad)) 60 (I af 256 ag)) 61 (I V 256 X)) 44 (E 0)) 45 (E 1)) 62 (Value.agg (flat [[E 2],[I m.p m.L.length m.c],[I i 1 j]]))) 63 (E 2)) 64 (I f 1 c2)) 65 (E 1)) 66 (E 3)) 67 (E 0)) 68 (E 0)) 69 (S G)) 70 (E 2)) 71 (I g 1 n)) 72 (E 0)) 73 (Hn g 0)) 74 (I m.p m.L.length m.c)) 75 (E m.L.length)) 76 (E 3)) 77 (I Du 257 ce)) 78 (I g 1 n)) 79 (E 0)) 80 (Hn g 0)) 81 (I m.p m.L.length m.c)) 82 (Value.agg (flat [bv d15.l]))) 83 (Value.agg (flat [[E 0],[E 0],[E 0],[E 0],[E 2],[E m.L.length],bv d15.l]))) 18 (S A))∧Sat C1 w [O A [[E 0],[E 0],[E 0],[E 0],[E 2],[E m.L.length],bv d15.l] 101,Ae 5 1 (I V 256 X) 256 (bv (Ref.Gc nd.kd 2 t)),Ae 5 1 (I af 256 ag) 256 (bv (Ref.Gc nd.kd 2 t)),Ae 5 1 (I ab Q ad) Q (bv t),O o [[E 2],[I m.p m.L.length m.c],[I i 1 j]] 167,Ae 99 102 (I f 1 c2) 1 (Aq GI ([nd])),O G [[E 2],[I m.p m.L.length m.c],[I i 1 j]] 167,Ae 51 32 (I Du 257 ce) 257 (Aq EJ R)] W) ?_ ?_
 ·
  refine CQ [0,1,2,3,4,5,6]<|Ab 0 D (AA D)<|Ab 1 D (AA D)<|Ab 2 D (AS LS 0 D)<|Ab 3 D (Bb AF 5 0 D D D)<|Ab 4 D (AA D)<|Ab 5 D (AA D)<|Ab 6 D (Dj OK 0 0 (Bx B) D D)<|Ab 7 D (J1 HE R9 0 hm (Bx B) D D)<|Ab 8 D (R7 HE D)<|Ab 9 D (AA D)<|Ab 10 D (AA D)<|Ab 11 D (AA D)<|Ab 12 D (AA D)<|Ab 13 D (Dj OK 0 0 (Bx B) D D)<|Ab 14 D (J1 HE R9 0 hm (Bx B) D D)<|Gy 15 17 D D ?_ ?_
  ·
   refine Ba Sn D (fun w b=>YS ((3:Nat):Int) (u.below b.A0 (Br _)) ((BZ 6) w b) P (H.below b.A0) K N (C.below b.A0) F) fun _ e W b ⟨d15,he,J⟩=>⟨_,_,he,b.below J,?_⟩
   refine A8 [0,1,2,3,4,5,6]<|Ab 16 D (fun _ _ d b=>E_ d (BH:=[(0,(E 0)),(1,(E 0)),(4,(E 2)),(5,(E m.L.length)),(6,(Value.agg (flat [bv d15.l])))]) D (r:=flat [[E 0],[E 0],[E 0],[E 0],[E 2],[E m.L.length],bv d15.l]) (E5 Bv (ss:=[[E 0],[E 0],[E 0],[E 0],[E 0],[E 0],Ak 32]) (by kernel_rfl) (places:=[(0,1),(1,1),(2,1),(3,1),(4,1),(5,1),(6,32)]) (by kernel_rfl) (B3 [] [[E 0]] [[E 0],[E 0],[E 0],[E 0],[E 0],Ak 32] [[E 0]] D Ja.nil (Ja.one Ja.nil) (Ja.one Ja.nil) D (B3 [[E 0]] [[E 0]] [[E 0],[E 0],[E 0],[E 0],Ak 32] [[E 0]] D (Ja.one Ja.nil) (Ja.one Ja.nil) (Ja.one Ja.nil) D (B3 [[E 0],[E 0],[E 0],[E 0]] [[E 0]] [[E 0],Ak 32] [[E 2]] D (Ja.one (Ja.one (Ja.one (Ja.one Ja.nil)))) (Ja.one Ja.nil) (Ja.one Ja.nil) D (B3 [[E 0],[E 0],[E 0],[E 0],[E 2]] [[E 0]] [Ak 32] [[E m.L.length]] D (Ja.one (Ja.one (Ja.one (Ja.one (Ja.one Ja.nil))))) (Ja.one Ja.nil) (Ja.one Ja.nil) D (B3 [[E 0],[E 0],[E 0],[E 0],[E 2],[E m.L.length]] [Ak 32] [] [bv d15.l] D (Ja.one (Ja.one (Ja.one (Ja.one (Ja.one (Ja.one Ja.nil)))))) (Ja.row (Jl 32) Ja.nil) (Ja.row d15.row Ja.nil) D D)))))))<|Bh 17 D<|Bw [[E 0],[E 0],[E 0],[E 0],[E 0],[E 0],Ak 32] fun A=>A8 [1,2,3,4,5,6,7]<|Bh 18 D<|Bk 0 0 7 D D D<|?_
   refine A8 [1,2,3,4,5,6,7]<|Cm<|?_
   exact fun a W d b=>⟨d15,A,AY d,b.pick [0,1,2,3,4,5,6,7]⟩
  refine Bw [[E 0],[E 0],[E 0],[E 0],[E 0],[E 0],Ak 32] fun A=>A8 [1,2,3,4,5,6,7]<|Bh 15 D<|?_
  refine Ba Sn D (fun w b=>YS ((3:Nat):Int) (u.below b.A0 (Br _)) ((BZ 7) w b) P (H.below b.A0) K N (C.below b.A0) F) fun _ e W b ⟨d16,he,J⟩=>⟨_,_,he,b.below J,?_⟩
  refine A8 [1,2,3,4,5,6,7]<|Ab 16 D (fun _ _ d b=>E_ d (BH:=[(0,(E 0)),(1,(E 0)),(4,(E 2)),(5,(E m.L.length)),(6,(Value.agg (flat [bv d16.l])))]) D (r:=flat [[E 0],[E 0],[E 0],[E 0],[E 2],[E m.L.length],bv d16.l]) (E5 Bv (ss:=[[E 0],[E 0],[E 0],[E 0],[E 0],[E 0],Ak 32]) (by kernel_rfl) (places:=[(0,1),(1,1),(2,1),(3,1),(4,1),(5,1),(6,32)]) (by kernel_rfl) (B3 [] [[E 0]] [[E 0],[E 0],[E 0],[E 0],[E 0],Ak 32] [[E 0]] D Ja.nil (Ja.one Ja.nil) (Ja.one Ja.nil) D (B3 [[E 0]] [[E 0]] [[E 0],[E 0],[E 0],[E 0],Ak 32] [[E 0]] D (Ja.one Ja.nil) (Ja.one Ja.nil) (Ja.one Ja.nil) D (B3 [[E 0],[E 0],[E 0],[E 0]] [[E 0]] [[E 0],Ak 32] [[E 2]] D (Ja.one (Ja.one (Ja.one (Ja.one Ja.nil)))) (Ja.one Ja.nil) (Ja.one Ja.nil) D (B3 [[E 0],[E 0],[E 0],[E 0],[E 2]] [[E 0]] [Ak 32] [[E m.L.length]] D (Ja.one (Ja.one (Ja.one (Ja.one (Ja.one Ja.nil))))) (Ja.one Ja.nil) (Ja.one Ja.nil) D (B3 [[E 0],[E 0],[E 0],[E 0],[E 2],[E m.L.length]] [Ak 32] [] [bv d16.l] D (Ja.one (Ja.one (Ja.one (Ja.one (Ja.one (Ja.one Ja.nil)))))) (Ja.row (Jl 32) Ja.nil) (Ja.row d16.row Ja.nil) D D)))))))<|Bh 18 D<|Bk 0 0 7 D D D<|?_
  refine A8 [1,2,3,4,5,6,7]<|Cm<|?_
  exact fun a W d b=>⟨d16,A,AY d,b.pick [0,1,2,3,4,5,6,7]⟩
 rintro a W ⟨d15,A,d,b⟩;revert a W
 refine M ?_
 refine EU D D D<|M ?_
 refine AG Bv 0 D<|U<|Cq 0 0 D D D<|?_
 refine M ?_
 refine Af (BN Bv 0 D D)<|U<|?_
 refine Ba VN D (fun w b=>fh none 0 0 [] none 0 [] (⟨1,0,0,0,2,m.L.length,d15⟩:B9) 2 0 w (by omega) (by omega) (by omega) (View.nil _ _) D (View.nil _ _) D (fun y h=>(by cases h)) (fun y h=>(by cases h)) (by dsimp only;omega)) fun _ e W b ⟨y,he,az,aA,aB,aC,ar,au,J⟩=>⟨_,_,he,b.below J,?_⟩
 try dsimp only at ar au
 refine U<|Bk 0 0 7 D D D<|?_
 refine M ?_
 refine Af (BN Bv 0 D D)<|U<|?_
 refine Ba Wq D (fun w b=>er y w (by refine⟨?_,?_,?_,?_,?_,?_⟩<;>first|omega|(dsimp only;omega))) fun _ e W b ⟨aD,aE,Y,he,ai,J⟩=>⟨_,_,he,b.own ai J,?_⟩
 have av:Y.length=56:=De ai
 refine U<|?_
 refine Ba Rr D (fun w b=>T6 3 3 _ _ _ _ w (u.below b.A0 (Br _)) (by omega) (by omega) ((BZ 0) w b) av) fun _ e W b ⟨aF,aG,he,aj,J⟩=>⟨_,_,he,b.own aj J,?_⟩
 refine U<|DI A3 3 (bv ((Ref.Gc nd.kd 2 t)++(Ref.Gc 3 3 Y))) D D D (BZ 0) (Eo _) (EL (l':=(Ref.Gc 3 3 Y)) (De aj)) D fun aH aI=>M ?_
 refine Af (BN Bv 2 D D)<|U<|Ey TT (Aq Mv [y]) D (NW D) Od fun aJ=>U<|Dr 101 38 (Aq Mv [])<|DI (m:=1) TT 0 (Aq Mv ([y])) D D D (BZ 1) (HJ bb _) (H0 Wh D) D fun aK aL=>M ?_
 refine U<|Ey G0 (Aq Bm [3]) D D D fun aM=>U<|Dr 3 1 (Aq Bm [])<|DI (m:=1) G0 0 (Aq Bm ([3])) D D D (BZ 1) (HJ TR _) (H0 Gj D) D fun aN aO=>M ?_
 refine Af (fun _ _ d b=>Hb d (p:=3) (q:=1) (r:=4) D D D)<|M ?_
 refine Af (fun _ _ d b=>Hb d (p:=0) (q:=1) (r:=1) D D D)<|M ?_
 refine Pb<|M ?_
 refine Cr LC D<|ET (by omega) D D<|A7 ?_
 intro W b
 refine⟨_,_,_,D,b.DQ 7,?_,b.A0⟩
 exact(Lo.nil.snoc (kd:=nd.kd) (l:=t) (by omega) (by omega) (by omega) (by omega)).snoc (by omega) (by omega) (by omega) (by omega)
theorem fQ{n:Option Addr}{h:Nat}{m:Hd}{x:Eh}(i:DA w)(B:View w (I n 1 h) 1 1 (Aq Q4 [m]))(C:View w (I m.p m.L.length m.c) m.L.length 33 (Aq J4 [x]))(F:[x].length=m.L.length)(G:m.L.length=1)(H:View w (I x.s.p x.s.v.length x.s.c) x.s.v.length 1 (bv x.s.v))(K:x.s.v.length≤128):Calls Tryz.prog 15 #[E 3,E 0,I n 1 h,E 5] w fun e W=>∃p k L,e=.returned (I p 1280 k)∧W.ownsRow w.heap.size 5 1 (I p 1280 k) 1280 (bv L)∧PZ L 1280 4∧Below w.heap.size w W:=by
 refine Cg w Xg D 100<|M ?_
 refine U<|?_
 refine Ba P6 D (fun w b=>cd (i.below b.A0 (Br _)) (B.below b.A0) (C.below b.A0) F G (H.below b.A0) K) fun _ e W b ⟨R,S,f,he,u,N,J⟩=>⟨_,_,he,b.own u J,?_⟩
 refine Jd D<|Bc D D<|Bc D D<|M ?_
 refine HF (by omega) D D<|M ?_
 refine ET (by omega) D D<|M ?_
 refine HF (by omega) D D<|M ?_
 refine Cr LC D<|QD (by omega) D D<|M ?_
 refine Cr LC D<|Af (fun _ _ d b=>Km d (p:=1) (q:=1) (r:=0) D D)<|Af (PI OK 0 0 rfl .none (.some D))<|U<|?_
 refine Ba P6 D (fun w b=>bC (sp n 0 h 1) h w (i.below b.A0 (Br _))) fun _ e W b ⟨he,J⟩=>⟨_,_,he,b.below J,?_⟩
 refine Jd D<|Bc D D<|Bc D D<|M ?_
 refine Cr LC D<|Af (fun _ _ d b=>Hb d (p:=1) (q:=1) (r:=2) D D D)<|M ?_
 refine Af (fun _ _ d b=>Cs d (BH:=[(0,(E 3)),(1,(E 2)),(2,(E 4)),(4,(E 5))]) D (v:=Value.agg (flat [[E 3],[E 2],[E 4],[E 0],[E 5]])) (run_build _ _ _ _ (by kernel_rfl)))<|U<|Bw [[E 0],[E 0],[E 0],[E 0],[E 0]] fun T=>U<|Bk 0 0 5 D D D<|?_
 refine M ?_
 refine Af (fun _ _ d b=>Km d (p:=2) (q:=1) (r:=1) D D)<|Jd D<|Jd D<|Af (fun _ _ d b=>Cs d (BH:=[(0,(E 3)),(1,(E 1)),(2,(E 2)),(4,(E 5))]) D (v:=Value.agg (flat [[E 3],[E 1],[E 2],[E 0],[E 5]])) (run_build _ _ _ _ (by kernel_rfl)))<|U<|Bw [[E 0],[E 0],[E 0],[E 0],[E 0]] fun V=>U<|Bk 0 0 5 D D D<|?_
 refine M ?_
 refine QD (by omega) D D<|M ?_
 refine Af (fun _ _ d b=>Km d (p:=4) (q:=1) (r:=3) D D)<|AG BM 3 D<|U<|Cq 1 3 D D D<|?_
 refine M ?_
 refine HF (by omega) D D<|M ?_
 refine Af (BN BM 1 D D)<|U<|?_
 refine Ba TU D (fun w b=>Ww ⟨3,2,4,3,5⟩ w (i.below b.A0 (Br _)) (by dsimp only;omega) (by dsimp only;omega) (by dsimp only;omega) (by dsimp only;omega)) fun _ e W b ⟨X,c2,he,y,J⟩=>⟨_,_,he,b.own y J,?_⟩
 refine M ?_
 refine Af (BN BM 1 D D)<|U<|?_
 refine Ba TU D (fun w b=>Ww ⟨3,1,2,0,5⟩ w (i.below b.A0 (Br _)) (by dsimp only;omega) (by dsimp only;omega) (by dsimp only;omega) (by dsimp only;omega)) fun _ e W b ⟨Y,Z,he,z,J⟩=>⟨_,_,he,b.own z J,?_⟩
 refine M ?_
 refine Af (fun _ _ d b=>PA d (p:=2) (q:=2) (r:=0) D D D (by omega))<|Gi (by omega) D D<|M ?_
 refine U<|Dr 5 1 (bv [])<|DI A3 0 (bv (Ref.EC ⟨3,2,4,3,5⟩)) D D D (BZ 2) (Eo _) (EL (l':=(Ref.EC ⟨3,2,4,3,5⟩)) (De y)) D fun aa ab=>M ?_
 refine U<|DI A3 0 (bv ((Ref.EC ⟨3,2,4,3,5⟩)++(Ref.EC ⟨3,1,2,0,5⟩))) D D D (BZ 1) (Eo _) (EL (l':=(Ref.EC ⟨3,1,2,0,5⟩)) (De z)) D fun ad ae=>M ?_
 refine U<|DI A3 0 (bv ((Ref.EC ⟨3,2,4,3,5⟩)++(Ref.EC ⟨3,1,2,0,5⟩)++f)) D D D (BZ 5) (Eo _) (EL (l':=f) (De u)) D fun af ag=>M ?_
 refine Tf 0 (bv ((Ref.EC ⟨3,2,4,3,5⟩)++(Ref.EC ⟨3,1,2,0,5⟩)++f)) (bv (Ref.EC ⟨3,2,4,3,5⟩++Ref.EC ⟨3,1,2,0,5⟩++f)) (by simp)<|DL (fun O a W=>∃j o t l,O=1280 - (1024+j)∧AH 100 a (Jb (Jb (Jb Jk 3 (E 5)) 8 (I none 0 0)) 17 (I o (1024+j) t))∧Sat C1 w [Ae 5 1 (I o (1024+j) t) (1024+j) (bv l)] W∧1024+j≤1280∧l=Ref.EC ⟨3,2,4,3,5⟩++Ref.EC ⟨3,1,2,0,5⟩++f++List.replicate j 0) (fun a W d b=>⟨0,_,_,_,D,AY d,b.pick [0],by omega,by simp⟩) ?_
 rintro _ a W ⟨j,o,t,l,rfl,d,b,hj,A⟩;revert a W
 refine M ?_
 refine Cr Co D<|Jd D<|Af (fun _ _ d b=>Sx d (p:=256) (q:=5) (r:=1280) D D D (by omega))<|Ej D D<|Jg<|Jf<|Cz D (fun P=>?_) fun P=>?_
 ·
  refine M ?_
  refine U<|Ey A3 (bv [0]) D D D fun ah=>U<|DI (m:=1) A3 1 (bv (l++([0]))) D D D (BZ 0) (Eo _) (EL (l':=[0]) D) D fun ai aj=>M ?_
  exact fun a W d b=>⟨_,by omega,j+1,_,_,_,D,AY d,b.pick [1],by omega,by rw[A,List.append_assoc,←List.replicate_succ']⟩
 refine A7 ?_
 intro W b
 obtain rfl:j=256:=by omega
 refine⟨_,_,_,D,b.DQ 0,?_,b.A0⟩
 have Q:=iU (wd:=3) (g:=2) (mark:=4) (Kh:=2) (Ar:=5) (by decide) (by decide) (by decide) (by decide) N
 rw[A]
 simpa[LN,JX]using Q
theorem ZO(w:World)(d:DA w):Calls Tryz.prog 5 #[] w fun e W=>∃p k L,e=.returned (I p 1280 k)∧W.ownsRow w.heap.size 5 1 (I p 1280 k) 1280 (bv L)∧PZ L 1280 4∧Below w.heap.size w W:=by
 refine Cg w U0 D 6<|M ?_
 refine U<|Ey A3 (bv [7]) D D D fun b=>Af (fun _ _ f a=>Cs f (BH:=[(1,(I b 1 1))]) D (v:=Value.agg (flat [Ak 32,[I b 1 1]])) (run_build _ _ _ _ (by kernel_rfl)))<|U<|Ey MQ (Aq J4 [(⟨CU,⟨b,[7],1⟩⟩:Eh)]) D (by rfl) (by rfl) fun c=>U<|Ey OK (Aq Q4 [(⟨c,[(⟨CU,⟨b,[7],1⟩⟩:Eh)],1⟩:Hd)]) D D D fun i=>U<|?_
 refine Ba Xg D (fun w a=>fQ (m:=(⟨c,[(⟨CU,⟨b,[7],1⟩⟩:Eh)],1⟩:Hd)) (x:=(⟨CU,⟨b,[7],1⟩⟩:Eh)) (d.below a.A0 (Br _)) ((BZ 0) w a) ((BZ 1) w a) D D ((BZ 2) w a) (show(1:Nat)≤128 by decide)) fun _ e W a ⟨j,l,n,he,g,h,J⟩=>⟨_,_,he,a.own g J,?_⟩
 refine A7 ?_
 exact fun W a=>⟨_,_,_,D,a.DQ 0,h,a.A0⟩
theorem Nz{D1:Option Addr}{l:List UInt8}(V:View w (I D1 n c) n 1 (bv l))(hl:l.length=n)(f:n≤140737488351232:=by omega):Calls Tryz.prog 7 #[I D1 n c] w fun e W=>∃b d,e=.returned (I b n d)∧W.ownsRow w.heap.size 5 1 (I b n d) n (bv l)∧Below w.heap.size w W:=by
 refine Cg w L9 D 5<|M ?_
 refine U<|Dr 5 1 (bv [])<|DI A3 0 (bv l) D D D (Bx V) (Eo _) (EL hl) D fun g h=>A7 ?_
 exact fun W a=>⟨_,_,by rw[Nat.zero_add],by first|exact a.DQ 0|(have q:=a.DQ 0;rw[Nat.zero_add]at q;exact q),a.A0⟩
theorem run_neq_nil_nil(w:World)(T:TypeId)(A5:Tryz.prog.underlying T=some (.interface (Tryz.prog.methodsAt T))):(binOp .neq T .nilIface .nilIface).run Tryz.prog w=.ok (.bool false) w:=by
 have:=run_eql_nil_nil (P:=Tryz.prog) w T A5
 simp only[binOp,Sem.run_bind]at this⊢
 generalize Sem.run Tryz.prog (Op.equal T .nilIface .nilIface) w=r at this⊢
 cases r with
 |ok b w'=>
  simp only[Result.andThen,Sem.run_pure,Result.ok.injEq,Value.bool.injEq]at this⊢
  obtain⟨rfl,rfl⟩:=this
  exact⟨D,D⟩
 |halt x w'=>cases this
theorem gC{N:Nat}{f:BW}{d:Nat}{ty:TypeId}{pos:String}{An:Array Edge}{g:Option (Nat×Bool)}{F:Nat→Prop}{w0:World}{H:List Atom}{T u:TypeId}(A5:Tryz.prog.underlying T=some (.interface (Tryz.prog.methodsAt T))){x:Operand}(b:Aj f x=some .nilIface):BR Tryz.prog N f F w0 H ⟨some d,.binOp .neq T x (.const .nilIface) u,ty,pos,An,g⟩ (.bool false):=fun a w c e=>ED c (q:=.nilIface) b D (by simp[eqGuard]) (run_neq_nil_nil w T A5)
theorem iB{q:Option Addr}(f:n≤140737488351232)(b:¬(n % 256=0∧3≤n/256∧n/256≤4096)):Calls Tryz.prog 6 #[I q n c] w fun e W=>∃k:Nat,e=.returned (.tuple #[I none 0 0,E 0,E k])∧k≠0∧Below w.heap.size w W:=by
 refine Cg w Qi D 53<|M ?_
 refine U<|?_
 refine Ba Mj D (fun w a=>dc q n c w (by omega) b) fun _ e W a ⟨k,he,d,J⟩=>⟨_,_,he,a.below J,?_⟩
 refine Jd D<|Bc D D<|Bc D D<|M ?_
 refine Ix (by omega) D D<|M ?_
 refine Gz D D D fun W a=>?_
 exact⟨k,D,d,a.A0⟩
def fC(l:List UInt8)(n:Nat)(d:Option Addr)(a b c Ca:Nat)(X:List UInt8):Prop:=(Ca≠0∧d=none∧a=0∧b=0∧X=[]∧c=0∧∀e,¬Gp l n e)∨(Ca=0∧n=a∧n=b∧∃x s i,D5 n s x i∧X=Cl n s x i∧c=FD (Cl n s x i) (BJ s x i).m (BJ s x i).h)
theorem bS{q:Option Addr}{l:List UInt8}(V:View w (I q n c) n 1 (bv l))(hl:l.length=n)(m:n≤140737488351232)(A5:CG w):Calls Tryz.prog 6 #[I q n c] w fun e W=>∃b a d g Ca X,X.length=a∧fC l n b a d g Ca X∧e=.returned (.tuple #[I b a d,E g,E Ca])∧W.ownsRow w.heap.size 5 1 (I b a d) a (bv X)∧Below w.heap.size w W:=by
 by_cases CM:n % 256=0∧3≤n/256∧n/256≤4096
 ·refine(Wd V hl (by omega) A5).mono ?_
  rintro e W ⟨h|h,J⟩
  ·obtain⟨k,f,o,he⟩:=h
   exact⟨none,0,0,0,k,[],D,.inl ⟨f,D,D,D,D,D,o⟩,he,World.ownsRow_nil _ _ _ _,J⟩
  ·obtain⟨x,s,i,AB,hw,_,he,ho⟩:=h
   exact⟨_,n,n,_,0,_,GA,.inr ⟨D,D,D,x,s,i,hw,D,D⟩,he,ho,J⟩
 ·refine(iB m CM).mono ?_
  rintro e W ⟨k,he,f,J⟩
  exact⟨none,0,0,0,k,[],D,.inl ⟨f,D,D,D,D,D,fun r j=>CM (by have:=j.p;have V:=NT j.ch;simp only[Fr.DE,Bool.and_eq_true,Bool.or_eq_true,decide_eq_true_eq]at V;omega)⟩,he,World.ownsRow_nil _ _ _ _,J⟩
theorem aH{i:Nat}{s:Fr.Bu}{x:List UInt8}(hw:D5 n s x i)(Ag Ac Al:Nat)(Y:Ji n)(t:Y.l=Cl n s x i)(w:World)(u:BE [Bd Ag Ac Al n 0 0,O Ac [bv Y.l] 111,BU Al] w)(A5:CG w)(C:∀k,CB k→¬A6 [Bd Ag Ac Al n 0 0,O Ac [bv Y.l] 111,BU Al] k):Calls Tryz.prog 13 #[S Ag,E 3] w fun e W=>∃a Q b d g y,∃Ah:B9,∃Ad,y=(G3 (Cl n s x i) (BJ s x i).m (BJ s x i).h)∧Ah.v=(FD (Cl n s x i) (BJ s x i).m (BJ s x i).h)∧e=.returned (.tuple #[S a,.nilIface])∧Sat (A6 [Bd Ag Ac Al n 0 0,O Ac [bv Y.l] 111,BU Al]) w [O a [[Be .i32 0],[Be .u32 0],[S Q],[E ((BJ s x i).w)],[E y],[E Ah.v],[E Ah.f],[E Ah.ju],[E Ah.jt],[E Ah.r],[E Ah.c],bv Ah.s.l,[E Ad]] 117,BF Q b d,Bs b Ag (BJ s x i) (0+1),Bd Ag Ac Al n g (0+1)] W:=by
 have j:=hw.L'.ch
 have K:=hw.Av
 have hm:=hw.Tm
 have z:=hw.pp
 rcases hw.Ce with⟨h1,F,o,p⟩|⟨h1,F,r,A,B,hr,G,J,o,p⟩
 ·rw[←t]at j
  refine(eW Ag Ac Al n 0 0 Y (BJ s x i) 3 w u (by omega) (by omega) (by omega) j z (by omega) (by omega) h1 A5 C hw.Da).mono ?_
  rintro e W ⟨a,Q,b,d,g,he,q⟩
  exact⟨a,Q,b,d,g,0,⟨0,0,0,0,0,0,AL.bare (BJ s x i).w 256⟩,0,o.symm,p.symm,he,q⟩
 ·rw[o,p]
  rw[←t]at j A B hr
  refine(b9 Ag Ac Al n 0 0 Y (BJ s x i) 3 (BJ s x i).h (if r.f=0 then r.v else r.v - r.f+1) r w u (by omega) (by omega) (by omega) j z (by omega) (by omega) D (by omega) A B hr G J D).mono ?_
  rintro e W ⟨a,Q,b,d,g,he,q⟩
  exact⟨a,Q,b,d,g,r.f,r,(BJ s x i).h,D,D,he,q⟩
theorem Xs{q:Option Addr}{l:List UInt8}(V:View w (I q n c) n 1 (bv l))(hl:l.length=n)(ae:n≤140737488351232)(A5:CG w)(own:Bool)(af:own=true→∃ag,Gp l n ag):Calls Tryz.prog 4 #[I q n c,C' own] w fun e W=>e=.returned (.bool true)∧Below w.heap.size w W:=by
 refine Cg w Se D 185<|M ?_
 refine U<|?_
 refine Ba L9 D (fun w a=>Nz (l:=l) ((Bx V) w a) hl) fun _ e W a ⟨o,c2,he,ah,J⟩=>⟨_,_,he,a.own ah J,?_⟩
 refine U<|?_
 refine Ba Qi D (fun w a=>bS ((BZ 0) w a) hl ae (A5.sat a FU)) fun _ e W a ⟨t,aA,aB,aC,Ca,X,aD,Df,he,ai,J⟩=>⟨_,_,he,a.own ai J,?_⟩
 refine Jd D<|Bc D D<|Bc D D<|Bc D D<|M ?_
 refine JU D D<|Jg<|Jf<|HI D (fun aj=>?_) fun aj=>?_
 ·
  obtain⟨-,rfl,rfl,rfl,rfl,rfl,ak⟩:=Df.resolve_right (fun h=>absurd h.1 (by omega))
  obtain rfl:own=false:=by
   cases own with
   |false=>rfl
   |true=>exact absurd (af D).choose_spec (ak _)
  refine M ?_
  refine Af (fun _ _ d a=>CE d (b:=false) D)<|M ?_
  refine Cr Co D<|Jj D D D<|EU D D D<|M ?_
  refine EU D D D<|A7 ?_
  exact fun W a=>⟨D,a.A0⟩
 obtain⟨rfl,rfl,rfl,x,s,i,hw,rfl,rfl⟩:=Df.resolve_left (fun h=>absurd h.1 (by omega))
 have aE:=hw.Av
 have aF:=hw.pp
 refine M ?_
 refine U<|?_
 refine Ba L9 D (fun w a=>Nz (l:=(Cl n s x i)) ((BZ 0) w a) GA) fun _ e W a ⟨j,k,he,al,J⟩=>⟨_,_,he,a.own al J,?_⟩
 refine U<|?_
 refine Ba PQ D (fun w a=>eg hw (a.Ad (H1:=[Ae 5 1 (I j n k) n (bv (Cl n s x i))]) [0]) (A5.sat a FU) (a.Eb A5 FU [0])) fun _ e W a ⟨Au,B,ER,C,aG,he,q⟩=>⟨_,_,he,Sat.call (H1:=[Ae 5 1 (I j n k) n (bv (Cl n s x i))]) (H2:=[Ae 5 1 (I t n n) n (bv (Cl n s x i)),Ae 5 1 (I o n c2) n (bv l)]) (a.pick [0,1,2]) q,?_⟩
 refine Jd D<|Bc D D<|Bc D D<|U<|Bw [[E 0],[E 0],[E 0],[E 0],[E 0],[E 0],[E 0],[E 0],[E 0],[I none 0 0]] fun F=>U<|Bk 0 0 10 D D D<|?_
 refine M ?_
 refine Ci D D D<|M ?_
 refine AG E9 9 D<|Jj D D D<|AZ KD 0 9 D D D<|Jj D D D<|Cr KD D<|Jj D D D<|Ci (by omega) D D<|M ?_
 refine AG E9 5 D<|Jj D D D<|AZ AF 0 5 D D D<|M ?_
 refine Ci D D D<|M ?_
 refine AG E9 1 D<|Jj D D D<|AZ AF 0 1 D D D<|Jj D D D<|Af (E3 (q:=256) D D)<|M ?_
 refine Cr Co D<|Jj D D D<|Ci (by omega) D D<|M ?_
 refine U<|?_
 refine Ba L9 D (fun w a=>Nz (l:=(Cl n s x i)) ((BZ 2) w a) GA) fun _ e W a ⟨G,H,he,an,J⟩=>⟨_,_,he,a.own an J,?_⟩
 refine U<|?_
 refine Ba YO D (fun w a=>ck hw ((BZ 0) w a) (A5.sat a FU)) fun _ e W a ⟨he,J⟩=>⟨_,_,he,a.below J,?_⟩
 refine Jd D<|Bc D D<|Bc D D<|Bc D D<|M ?_
 refine Ci D D D<|M ?_
 refine AG E9 4 D<|Jj D D D<|AZ AF 1 4 D D D<|Jj D D D<|Ci D D D<|M ?_
 refine Ci D D D<|M ?_
 refine U<|?_
 refine Ba L9 D (fun w a=>Nz (l:=(Cl n s x i)) ((BZ 3) w a) GA) fun _ e W a ⟨K,L,he,ao,J⟩=>⟨_,_,he,a.own ao J,?_⟩
 refine U<|?_
 refine Ba Qi D (fun w a=>iu hw ((BZ 0) w a) (A5.sat a FU)) fun _ e W a ⟨N,he,aq,J⟩=>⟨_,_,he,a.own aq J,?_⟩
 refine Jd D<|Bc D D<|Bc D D<|Bc D D<|M ?_
 refine Ci D D D<|M ?_
 refine Ci D D D<|M ?_
 refine Af (fun _ _ d a=>Lk d A3 BV Ho D ((BZ 0) _ a) GA)<|M ?_
 refine Af (fun _ _ d a=>Lk d A3 BV Ho D ((BZ 5) _ a) GA)<|Jj D D D<|Af (fun _ _ d a=>SW d D D false)<|M ?_
 refine U<|?_
 refine Ba L9 D (fun w a=>Nz (l:=(Cl n s x i)) ((BZ 5) w a) GA) fun _ e W a ⟨P,R,he,ar,J⟩=>⟨_,_,he,a.own ar J,?_⟩
 refine U<|?_
 refine Ba Vx D (fun w a=>ff hw ((BZ 0) w a) (A5.sat a FU)) fun _ e W a ⟨T,he,au,J⟩=>⟨_,_,he,a.own au J,?_⟩
 refine Jd D<|Bc D D<|Bc D D<|M ?_
 refine Ci D D D<|M ?_
 refine Af (fun _ _ d a=>Lk d A3 BV Ho D ((BZ 0) _ a) GA)<|M ?_
 refine Af (fun _ _ d a=>Lk d A3 BV Ho D ((BZ 7) _ a) GA)<|Jj D D D<|Af (fun _ _ d a=>SW d D D false)<|M ?_
 refine U<|?_
 refine Ba L9 D (fun w a=>Nz (l:=(Cl n s x i)) ((BZ 7) w a) GA) fun _ e W a ⟨Z,aa,he,av,J⟩=>⟨_,_,he,a.own av J,?_⟩
 refine U<|?_
 refine Ba X0 D (fun w a=>g4 hw ((BZ 0) w a) (A5.sat a FU)) fun _ e W a ⟨ab,ad,he,aw,J⟩=>⟨_,_,he,a.own aw J,?_⟩
 refine Jd D<|Bc D D<|Bc D D<|Bc D D<|M ?_
 refine Ci D D D<|M ?_
 refine Af (fun _ _ d a=>Lk d A3 BV Ho D ((BZ 0) _ a) GA)<|M ?_
 refine Af (fun _ _ d a=>Lk d A3 BV Ho D ((BZ 9) _ a) GA)<|Jj D D D<|Af (fun _ _ d a=>SW d D D false)<|M ?_
 refine Cr Gd D<|Jj D D D<|Ci D D D<|M ?_
 refine U<|?_
 refine Ba UJ D (fun w a=>bH (l:=(Cl n s x i)) ((BZ 9) w a) GA (by omega)) fun _ e W a ⟨Ag,Ac,Al,Y,ax,he,q⟩=>⟨_,_,he,a.Nk q,?_⟩
 refine Jd D<|Bc D D<|Bc D D<|M ?_
 refine Ci D D D<|M ?_
 refine Af (JZ (by kernel_rfl) D false D)<|M ?_
 refine U<|?_
 refine Ba S9 D (fun w a=>aH hw Ag Ac Al Y ax w (a.Ad (H1:=[Bd Ag Ac Al n 0 0,O Ac [bv Y.l] 111,BU Al]) [0,1,2]) (A5.sat a FU) (a.Eb A5 FU [0,1,2])) fun _ e W a ⟨u,Q,g,y,z,A,Ah,Ad,aI,aJ,he,q⟩=>⟨_,_,he,Sat.call (H1:=[Bd Ag Ac Al n 0 0,O Ac [bv Y.l] 111,BU Al]) (H2:=[Ae 5 1 (I (some ⟨ab,0,none⟩) n ad) n (bv (Cl n s x i)),Ae 5 1 (I Z n aa) n (bv (Cl n s x i)),Ae 5 1 (I (some ⟨T,0,none⟩) n n) n (bv (Cl n s x i)),Ae 5 1 (I P n R) n (bv (Cl n s x i)),Ae 5 1 (I (some ⟨N,0,none⟩) n n) n (bv (Cl n s x i)),Ae 5 1 (I K n L) n (bv (Cl n s x i)),Ae 5 1 (I G n H) n (bv (Cl n s x i)),O F [[E ((BJ s x i).w)],[E ((BJ s x i).p)],[E ((BJ s x i).m)],[E ((BJ s x i).h)],[E (G3 (Cl n s x i) (BJ s x i).m (BJ s x i).h)],[E (FD (Cl n s x i) (BJ s x i).m (BJ s x i).h)],[E B],[E ER],[E C],[I Au.p Au.n Au.c]] 32,Ae 5 1 (I j n k) n (bv (Cl n s x i)),Ae 5 1 (I t n n) n (bv (Cl n s x i)),Ae 5 1 (I o n c2) n (bv l)]) (a.pick [0,1,2,3,4,5,6,7,8,9,10,11,12,13]) q,?_⟩
 refine Jd D<|Bc D D<|Bc D D<|M ?_
 refine Af (gC (by kernel_rfl) D)<|M ?_
 refine Af (JZ (by kernel_rfl) D false D)<|M ?_
 refine U<|?_
 refine Ba Xv D (fun w a=>gH u Q g y Ag Ac Al n z (0+1) A Ad (BJ s x i) Ah w (a.Ad (H1:=[O u [[Be .i32 0],[Be .u32 0],[S Q],[E ((BJ s x i).w)],[E A],[E Ah.v],[E Ah.f],[E Ah.ju],[E Ah.jt],[E Ah.r],[E Ah.c],bv Ah.s.l,[E Ad]] 117,BF Q g y,Bs g Ag (BJ s x i) (0+1),Bd Ag Ac Al n z (0+1)]) [0,1,2,3]) (by omega)) fun _ e W a ⟨he,q⟩=>⟨_,_,he,Sat.call (H1:=[O u [[Be .i32 0],[Be .u32 0],[S Q],[E ((BJ s x i).w)],[E A],[E Ah.v],[E Ah.f],[E Ah.ju],[E Ah.jt],[E Ah.r],[E Ah.c],bv Ah.s.l,[E Ad]] 117,BF Q g y,Bs g Ag (BJ s x i) (0+1),Bd Ag Ac Al n z (0+1)]) (H2:=[Ae 5 1 (I (some ⟨ab,0,none⟩) n ad) n (bv (Cl n s x i)),Ae 5 1 (I Z n aa) n (bv (Cl n s x i)),Ae 5 1 (I (some ⟨T,0,none⟩) n n) n (bv (Cl n s x i)),Ae 5 1 (I P n R) n (bv (Cl n s x i)),Ae 5 1 (I (some ⟨N,0,none⟩) n n) n (bv (Cl n s x i)),Ae 5 1 (I K n L) n (bv (Cl n s x i)),Ae 5 1 (I G n H) n (bv (Cl n s x i)),O F [[E ((BJ s x i).w)],[E ((BJ s x i).p)],[E ((BJ s x i).m)],[E ((BJ s x i).h)],[E (G3 (Cl n s x i) (BJ s x i).m (BJ s x i).h)],[E (FD (Cl n s x i) (BJ s x i).m (BJ s x i).h)],[E B],[E ER],[E C],[I Au.p Au.n Au.c]] 32,Ae 5 1 (I j n k) n (bv (Cl n s x i)),Ae 5 1 (I t n n) n (bv (Cl n s x i)),Ae 5 1 (I o n c2) n (bv l)]) (a.pick [0,1,2,3,4,5,6,7,8,9,10,11,12,13,14]) q,?_⟩
 refine Jd D<|Bc D D<|Bc D D<|U<|Bw [[E 0],[E 0],[E 0],[E 0],[E 0],[E 0],Ak 32] fun aK=>U<|Bk 0 0 7 D D D<|?_
 refine M ?_
 refine Af (WG (by kernel_rfl) D)<|M ?_
 refine AG I9 2 D<|Jj D D D<|AZ AF 0 2 D D D<|M ?_
 refine EU (by omega) D D<|M ?_
 refine AG I9 1 D<|Jj D D D<|AZ AF 0 1 D D D<|Jj D D D<|AG E9 4 D<|Jj D D D<|AZ AF 12 4 D D D<|Jj D D D<|EU (by omega) D D<|A7 ?_
 exact fun W a=>⟨D,a.A0⟩
end Go.Proofs.YtaapafoibofbjaaGreatDoor
