/- Laws and walks on the road to SalvageClean (part M22). No conditions beyond each law's own. -/
import Derived.Test.YtaapafoibofbjaaGreatDoorM01
import Derived.Test.YtaapafoibofbjaaGreatDoorM21
import Derived.Test.YtaapafoibofbjaaGreatDoorM07
import Derived.Test.YtaapafoibofbjaaGreatDoorM12
set_option linter.unusedVariables false
namespace Go.Proofs.YtaapafoibofbjaaGreatDoor
open Go.RowKit
set_option maxRecDepth 100000
set_option maxHeartbeats 1000000
variable {Ar:Nat}
theorem bF{w:Nat}{k d:Jc}{h:Nat}(a:Ea k.l (255 - h)=0):AL.Gr w k d (h+1)=AL.ER w (AL.Gr w k d h) (AL.bare w h):=by rw[AL.Gr,if_pos a]
theorem iN{w:Nat}{k d:Jc}{h:Nat}(a:¬Ea k.l (255 - h)=0):AL.Gr w k d (h+1)=AL.ER w (AL.bare w h) (AL.Gr w k d h):=by rw[AL.Gr,if_neg a]
theorem K4{A B:Atom}{k:Nat}:A6 [A,B] k↔A.jM k∨B.jM k:=by
 constructor
 ·rintro⟨i,X,h,a⟩
  match i,h with
  |0,h=>cases h;exact .inl a
  |1,h=>cases h;exact .inr a
  |i+2,h=>simp at h
 ·rintro(h|h)
  ·exact⟨0,A,D,h⟩
  ·exact⟨1,B,D,h⟩
theorem gi{A:Atom}{k:Nat}:A6 [A] k↔A.jM k:=⟨NA,fun h=>⟨0,A,D,h⟩⟩
theorem N4(Q:Nat)(z:Dl)(C a Au B:BX)(c:Nat)(w:World)(f:BE [Ay Q z C a Au B,A1 z.w B] w)(A5:CG w)(i:∀k,CB k→¬A6 [Ay Q z C a Au B,A1 z.w B] k)(hw:z.w≤32:=by omega)(j:c≤256:=by omega):
 Calls Tryz.prog 117 #[S Q,E c] w fun e W=>e=.returned (.agg (flat [bv (AL.bare z.w c).l]))∧∃m,Sat (A6 [Ay Q z C a Au B,A1 z.w B]) w [Ay Q z C a Au m,A1 z.w m] W:=by
 rcases f.at_ 1 _ rfl with h|⟨b,h,J⟩
 ·subst h
  have h1:BE [Ay Q z C a Au AE] w:=((Sat.begin f).pick [0]).hold
  have sub:∀k,A6 [Ay Q z C a Au AE] k→A6 [Ay Q z C a Au AE,A1 z.w AE] k:=fun k q=>K4.2 (.inl (gi.1 q))
  refine(hc Q z C a Au c w h1 A5 (fun k g q=>i k g (sub k q)) hw j).mono ?_
  rintro e W ⟨rfl,AK,q⟩
  refine⟨D,⟨some ⟨AK,0,none⟩,257,257⟩,?_⟩
  have d:=q.mono sub
  exact d.set 1 D (C7.refl _ _) (A':=A1 z.w ⟨some ⟨AK,0,none⟩,257,257⟩) (.inr ⟨AK,D,d.Dq 1⟩) (fun k e=>by cases e;exact .inl D)
 ·subst h
  have s1:=(Sat.begin f).set 1 D (C7.refl _ _) (A':=O b [Aq EJ (FP z.w 257)] 51) J (fun k e=>.inl (by cases e;rfl))
  have h1:=s1.hold
  have sub:∀k,A6 [Ay Q z C a Au ⟨some ⟨b,0,none⟩,257,257⟩,O b [Aq EJ (FP z.w 257)] 51] k→A6 [Ay Q z C a Au ⟨some ⟨b,0,none⟩,257,257⟩,A1 z.w ⟨some ⟨b,0,none⟩,257,257⟩] k:=fun k q=>K4.2 ((K4.1 q).imp id (fun e=>by cases e;rfl))
  refine(dB Q b z C a Au c w h1 A5 (fun k g q=>i k g (sub k q)) hw j).mono ?_
  rintro e W ⟨rfl,q⟩
  refine⟨D,⟨some ⟨b,0,none⟩,257,257⟩,?_⟩
  have d:=q.mono sub
  exact d.set 1 D (C7.refl _ _) (A':=A1 z.w ⟨some ⟨b,0,none⟩,257,257⟩) (.inr ⟨b,D,d.Dq 1⟩) (fun k e=>by cases e;exact .inl D)
theorem br(Q:Nat)(z:Dl)(C d Au B:BX)(g Av:Nat)(Z:Nat→Option Bf)(x:Bf)(w:World)(y:BE [Ay Q z C d Au B,A1 z.w B,AN z.AU Av Z] w)(A:Z Ar=some x)(A5:CG w)(G:∀k,CB k→¬A6 [Ay Q z C d Au B,A1 z.w B,AN z.AU Av Z] k)(hw:z.w≤32)(N:g≤256)(V:x.s.v.length≤4096):Calls Tryz.prog 183 #[S Q,Value.agg (flat [[E x.kd],[E x.l],[E x.r],[E x.lc],[E x.rc],bv x.ls.l,bv x.rs.l,bv x.k.l,[I x.s.p x.s.v.length x.s.c]]),E g] w fun e W=>e=.returned (.agg (flat [bv (AL.Gr z.w x.k (AL.leaf z.w x.k x.s.v) g).l]))∧∃u,Sat (A6 [Ay Q z C d Au B,A1 z.w B,AN z.AU Av Z]) w [Ay Q z C d Au u,A1 z.w u,AN z.AU Av Z] W:=by
 have m:∀F,A6 [Ay Q z C d Au B,A1 z.w B,AN z.AU Av Z]=F→∀k,CB k→¬F k:=fun F f k H q=>G k H (f▸q)
 refine Cb y W2 D 45 fun F f=>Je<|Jh<|U<|Cv D fun n=>U<|Bw [Ak 32] fun o=>M ?_
 refine By D<|AG C2 1 D<|AG BM 1 D<|AZ AF 2 1 D D D<|M ?_
 refine AG B7 69 D<|Af (DH Em 1 7 1 [bv x.k.l] D D)<|AG B7 101 D<|AZ Co 1 8 D D D<|U<|BP Xi D (fun w b=>hn z.w x.k _ _ _ x.s.v w (A5.sat b (m F f)) ((OC 4 A) w b) D (by omega) (by omega))<|U<|Bw [Ak 32] fun t=>U<|Bk 0 0 1 D D D<|?_
 refine M ?_
 refine FO 0 [bv (AL.Gr z.w x.k (AL.leaf z.w x.k x.s.v) 0).l] D D<|DL (fun J a W=>∃(i:Nat) (Di:BX),J=g - i∧AH 45 a (Jb (Jb (Jb (Jb (Jb (Jb (Jb Jk 0 (S Q)) 4 (S n)) 6 (S o)) 7 (E z.w)) 8 (S t)) 22 (E g)) 23 (E i))∧Sat F w [O t [bv (AL.Gr z.w x.k (AL.leaf z.w x.k x.s.v) i).l] 51,O o [Ak 32] 51,O n [[E x.kd],[E x.l],[E x.r],[E x.lc],[E x.rc],bv x.ls.l,bv x.rs.l,bv x.k.l,[I x.s.p x.s.v.length x.s.c]] 99,Ay Q z C d Au Di,A1 z.w Di,AN z.AU Av Z] W∧i≤g) (fun a W j b=>⟨0,B,D,AY j,b.pick [0,1,2,3,4,5],by omega⟩) ?_
 rintro _ a W ⟨i,Di,rfl,j,b,P⟩;revert a W
 refine Je<|Jh<|Ej D D<|Jg<|Jf<|Je<|Cz D (fun K=>?_) fun K=>?_
 ·
  refine M ?_
  refine U<|?_
  refine Ba Mw D (fun w b=>N4 Q z C d Au Di i w (b.Ad (H1:=[Ay Q z C d Au Di,A1 z.w Di]) [3,4]) (A5.sat b (m F f)) (b.Eb A5 (m F f) [3,4])) fun _ e W b ⟨he,K9,q⟩=>⟨_,_,he,Sat.call (H1:=[Ay Q z C d Au Di,A1 z.w Di]) (H2:=[O t [bv (AL.Gr z.w x.k (AL.leaf z.w x.k x.s.v) i).l] 51,O o [Ak 32] 51,O n [[E x.kd],[E x.l],[E x.r],[E x.lc],[E x.rc],bv x.ls.l,bv x.rs.l,bv x.k.l,[I x.s.p x.s.v.length x.s.c]] 99,AN z.AU Av Z]) (b.pick [3,4,0,1,2,5]) q,?_⟩
  refine U<|Bw [Ak 32] fun R=>U<|Bk 0 0 1 D D D<|?_
  refine M ?_
  refine AG B7 69 D<|Af (DH Em 5 7 1 [bv x.k.l] D D)<|Jd D<|Es (p:=255) D D<|U<|BP U2 D (fun w b=>eY x.k (255 - i) w (by omega))<|E2 D D<|Jg<|Jf<|Cz D (fun L=>?_) fun L=>?_
  ·
   refine Jh<|Jd D<|Af (BN B5 3 D D)<|Af (BN B5 0 D D)<|U<|BP O_ D (fun w b=>Oh z.w (AL.Gr z.w x.k (AL.leaf z.w x.k x.s.v) i) (AL.bare z.w i) w (A5.sat b (m F f)))<|U<|Bk 3 0 1 D D D<|?_
   refine Jg<|?_
   refine FO 3 [bv (AL.Gr z.w x.k (AL.leaf z.w x.k x.s.v) (i+1)).l] D (by rw[bF (k:=x.k) (h:=i) (by omega)];rfl)<|JA<|Jf<|Jh<|B6 (q:=1) D D<|M ?_
   exact fun a W j b=>⟨_,by omega,i+1,K9,D,AY j,b.pick [3,4,5,1,2,6],by omega⟩
  refine Jh<|Jd D<|Af (BN B5 0 D D)<|Af (BN B5 3 D D)<|U<|BP O_ D (fun w b=>Oh z.w (AL.bare z.w i) (AL.Gr z.w x.k (AL.leaf z.w x.k x.s.v) i) w (A5.sat b (m F f)))<|U<|Bk 3 0 1 D D D<|?_
  refine Jg<|?_
  refine FO 3 [bv (AL.Gr z.w x.k (AL.leaf z.w x.k x.s.v) (i+1)).l] D (by rw[iN (k:=x.k) (h:=i) (by omega)];rfl)<|JA<|Jf<|Jh<|B6 (q:=1) D D<|M ?_
  exact fun a W j b=>⟨_,by omega,i+1,K9,D,AY j,b.pick [3,4,5,1,2,6],by omega⟩
 obtain rfl:i=g:=by omega
 refine M ?_
 refine Af (BN B5 0 D D)<|U<|Bk 1 0 1 D D D<|?_
 refine Jg<|Jf<|Jq<|Fq B5 1 D D fun W b=>?_
 subst f
 exact⟨D,Di,b.pick [3,4,5]⟩
theorem hN(Q:Nat)(z:Dl)(C a Au B:BX)(d Av:Nat)(Z:Nat→Option Bf)(x:Bf)(w:World)(j:BE [Ay Q z C a Au B,A1 z.w B,AN z.AU Av Z] w)(m:Z Ar=some x)(A5:CG w)(n:∀k,CB k→¬A6 [Ay Q z C a Au B,A1 z.w B,AN z.AU Av Z] k)(hw:z.w≤32)(u:d≤256)(V:x.s.v.length≤4096)(g:x.kd=1):Calls Tryz.prog 157 #[S Q,Value.agg (flat [[E x.kd],[E x.l],[E x.r],[E x.lc],[E x.rc],bv x.ls.l,bv x.rs.l,bv x.k.l,[I x.s.p x.s.v.length x.s.c]]),E d] w fun e W=>e=.returned (.agg (flat [bv (G.Hw z.w x.AW d).l]))∧∃h,Sat (A6 [Ay Q z C a Au B,A1 z.w B,AN z.AU Av Z]) w [Ay Q z C a Au h,A1 z.w h,AN z.AU Av Z] W:=by
 have i:∀F,A6 [Ay Q z C a Au B,A1 z.w B,AN z.AU Av Z]=F→∀k,CB k→¬F k:=fun F f k g q=>n k g (f▸q)
 refine Cb j Qw D 42 fun F f=>Je<|Jh<|U<|Cv D fun o=>U<|Bw [Ak 32] fun t=>M ?_
 refine AG B7 0 D<|AZ AF 1 0 D D D<|EU (by omega) D D<|M ?_
 refine Af (BN B7 1 D D)<|Jd D<|U<|?_
 refine Ba W2 D (fun w b=>br Q z C a Au B d Av Z x w (b.Ad (H1:=[Ay Q z C a Au B,A1 z.w B,AN z.AU Av Z]) [2,3,4]) m (A5.sat b (i F f)) (b.Eb A5 (i F f) [2,3,4]) (by omega) (by omega) (by omega)) fun _ e W b ⟨he,Di,q⟩=>⟨_,_,he,Sat.call (H1:=[Ay Q z C a Au B,A1 z.w B,AN z.AU Av Z]) (H2:=[O t [Ak 32] 51,O o [[E x.kd],[E x.l],[E x.r],[E x.lc],[E x.rc],bv x.ls.l,bv x.rs.l,bv x.k.l,[I x.s.p x.s.v.length x.s.c]] 99]) (b.pick [2,3,4,0,1]) q,?_⟩
 refine U<|Bk 3 0 1 D D D<|?_
 refine M ?_
 refine Fq B5 3 D D fun W b=>?_
 subst f
 exact⟨by show Ending.returned (Value.agg (flat [bv (AL.Gr z.w x.k (AL.leaf z.w x.k x.s.v) d).l]))=_;unfold G.Hw;rw[if_pos (show x.AW.kd=1 from g)];rfl,_,b.pick [0,1,2]⟩
theorem de(Q:Nat)(z:Dl)(C d Au B:BX)(g Av:Nat)(Z:Nat→Option Bf)(x:Bf)(w:World)(J:BE [Ay Q z C d Au B,A1 z.w B,AN z.AU Av Z] w)(V:Z Ar=some x)(A5:CG w)(K:∀k,CB k→¬A6 [Ay Q z C d Au B,A1 z.w B,AN z.AU Av Z] k)(hw:z.w≤32)(X:g≤256)(h1:1≤g)(y:¬x.kd=1):Calls Tryz.prog 157 #[S Q,Value.agg (flat [[E x.kd],[E x.l],[E x.r],[E x.lc],[E x.rc],bv x.ls.l,bv x.rs.l,bv x.k.l,[I x.s.p x.s.v.length x.s.c]]),E g] w fun e W=>e=.returned (.agg (flat [bv (G.Hw z.w x.AW g).l]))∧∃H,Sat (A6 [Ay Q z C d Au B,A1 z.w B,AN z.AU Av Z]) w [Ay Q z C d Au H,A1 z.w H,AN z.AU Av Z] W:=by
 have t:∀F,A6 [Ay Q z C d Au B,A1 z.w B,AN z.AU Av Z]=F→∀k,CB k→¬F k:=fun F m k y q=>K k y (m▸q)
 refine Cb J Qw D 42 fun F m=>Je<|Jh<|U<|Cv D fun n=>U<|Bw [Ak 32] fun o=>M ?_
 refine AG B7 0 D<|AZ AF 1 0 D D D<|Gi (by omega) D D<|M ?_
 refine Hj (fun a W=>∃(h:Nat) (i:Nat),AH 42 a (Jb (Jb (Jb (Jb (Jb (Jb Jk 0 (S Q)) 2 (E g)) 4 (S n)) 6 (S o)) 7 (S h)) 8 (S i))∧Sat F w [O i [bv x.rs.l] 51,O h [bv x.ls.l] 51,O o [Ak 32] 51,O n [[E x.kd],[E x.l],[E x.r],[E x.lc],[E x.rc],bv x.ls.l,bv x.rs.l,bv x.k.l,[I x.s.p x.s.v.length x.s.c]] 99,Ay Q z C d Au B,A1 z.w B,AN z.AU Av Z] W) ?_ ?_
 ·
  refine CQ [0,1,2,3,4]<|Ab 0 D (AS B7 5 D)<|Ab 1 D (DH B5 1 5 1 [bv x.ls.l] D D)<|Ab 2 D (AS B7 37 D)<|Ab 3 D (DH B5 1 6 1 [bv x.rs.l] D D)<|Gy 4 5 D D ?_ ?_
  ·
   refine Bw [Ak 32] fun h=>A8 [1,2,3,4,5]<|Bh 5 D<|Bw [Ak 32] fun i=>A8 [2,3,4,5,6]<|Bh 6 D<|Bk 1 0 1 D D D<|?_
   refine A8 [2,3,4,5,6]<|Bh 7 D<|Bk 0 0 1 D D D<|?_
   refine A8 [2,3,4,5,6]<|Cm<|?_
   exact fun a W f b=>⟨h,i,AY f,b.pick [0,1,2,3,4,5,6]⟩
  refine Bw [Ak 32] fun i=>A8 [1,2,3,4,5]<|Bh 4 D<|Bw [Ak 32] fun h=>A8 [2,3,4,5,6]<|Bh 6 D<|Bk 0 0 1 D D D<|?_
  refine A8 [2,3,4,5,6]<|Bh 7 D<|Bk 1 0 1 D D D<|?_
  refine A8 [2,3,4,5,6]<|Cm<|?_
  exact fun a W f b=>⟨h,i,AY f,b.pick [1,0,2,3,4,5,6]⟩
 rintro a W ⟨h,i,f,b⟩;revert a W
 refine Jf<|Gq (fun a W=>∃(dl:Jc) (j:BX),AH 42 a (Jb (Jb (Jb (Jb (Jb (Jb Jk 0 (S Q)) 2 (E g)) 4 (S n)) 6 (S o)) 7 (S h)) 8 (S i))∧Sat F w [O i [bv x.rs.l] 51,O h [bv dl.l] 51,O o [Ak 32] 51,O n [[E x.kd],[E x.l],[E x.r],[E x.lc],[E x.rc],bv x.ls.l,bv x.rs.l,bv x.k.l,[I x.s.p x.s.v.length x.s.c]] 99,Ay Q z C d Au j,A1 z.w j,AN z.AU Av Z] W∧(dl=if x.l=0 then AL.bare z.w (g - 1)else x.ls)) ?_ ?_
 ·
  refine Je<|Jh<|AG B7 1 D<|AZ AF 3 1 D D D<|E2 D D<|Jg<|Jf<|Cz D (fun L=>?_) fun L=>?_
  ·
   refine M ?_
   refine Es (q:=1) D D<|U<|?_
   refine Ba Mw D (fun w b=>N4 Q z C d Au B (g - 1) w (b.Ad (H1:=[Ay Q z C d Au B,A1 z.w B]) [4,5]) (A5.sat b (t F m)) (b.Eb A5 (t F m) [4,5])) fun _ e W b ⟨he,K9,q⟩=>⟨_,_,he,Sat.call (H1:=[Ay Q z C d Au B,A1 z.w B]) (H2:=[O i [bv x.rs.l] 51,O h [bv x.ls.l] 51,O o [Ak 32] 51,O n [[E x.kd],[E x.l],[E x.r],[E x.lc],[E x.rc],bv x.ls.l,bv x.rs.l,bv x.k.l,[I x.s.p x.s.v.length x.s.c]] 99,AN z.AU Av Z]) (b.pick [4,5,0,1,2,3,6]) q,?_⟩
   refine U<|Bk 3 0 1 D D D<|?_
   refine Jg<|Jf<|?_
   exact fun a W f b=>⟨AL.bare z.w (g - 1),K9,AY f,b.pick [2,3,4,5,0,1,6],by first|rw[if_pos (by omega)]|rw[if_neg (by omega)]⟩
  refine Jy<|Jf<|?_
  exact fun a W f b=>⟨x.ls,B,AY f,b.pick [0,1,2,3,4,5,6],by first|rw[if_pos (by omega)]|rw[if_neg (by omega)]⟩
 rintro a W ⟨dl,j,f,b,N⟩;revert a W
 refine Gq (fun a W=>∃(u:Jc) (A:BX),AH 42 a (Jb (Jb (Jb (Jb (Jb (Jb Jk 0 (S Q)) 2 (E g)) 4 (S n)) 6 (S o)) 7 (S h)) 8 (S i))∧Sat F w [O i [bv u.l] 51,O h [bv dl.l] 51,O o [Ak 32] 51,O n [[E x.kd],[E x.l],[E x.r],[E x.lc],[E x.rc],bv x.ls.l,bv x.rs.l,bv x.k.l,[I x.s.p x.s.v.length x.s.c]] 99,Ay Q z C d Au A,A1 z.w A,AN z.AU Av Z] W∧(u=if x.r=0 then AL.bare z.w (g - 1)else x.rs)) ?_ ?_
 ·
  refine Je<|Jh<|AG B7 2 D<|AZ AF 3 2 D D D<|E2 D D<|Jg<|Jf<|Cz D (fun P=>?_) fun P=>?_
  ·
   refine M ?_
   refine Es (q:=1) D D<|U<|?_
   refine Ba Mw D (fun w b=>N4 Q z C d Au j (g - 1) w (b.Ad (H1:=[Ay Q z C d Au j,A1 z.w j]) [4,5]) (A5.sat b (t F m)) (b.Eb A5 (t F m) [4,5])) fun _ e W b ⟨he,R,q⟩=>⟨_,_,he,Sat.call (H1:=[Ay Q z C d Au j,A1 z.w j]) (H2:=[O i [bv x.rs.l] 51,O h [bv dl.l] 51,O o [Ak 32] 51,O n [[E x.kd],[E x.l],[E x.r],[E x.lc],[E x.rc],bv x.ls.l,bv x.rs.l,bv x.k.l,[I x.s.p x.s.v.length x.s.c]] 99,AN z.AU Av Z]) (b.pick [4,5,0,1,2,3,6]) q,?_⟩
   refine U<|Bk 2 0 1 D D D<|?_
   refine Jg<|Jf<|?_
   exact fun a W f b=>⟨AL.bare z.w (g - 1),R,AY f,b.pick [2,3,4,5,0,1,6],by first|rw[if_pos (by omega)]|rw[if_neg (by omega)]⟩
  refine Jy<|Jf<|?_
  exact fun a W f b=>⟨x.rs,j,AY f,b.pick [0,1,2,3,4,5,6],by first|rw[if_pos (by omega)]|rw[if_neg (by omega)]⟩
 rintro a W ⟨u,A,f,b,T⟩;revert a W
 refine Je<|DD 7<|zs (AA D)<|zs (Bp D)<|zs (AS C2 1 D)<|zs (AS BM 1 D)<|zs (Bb AF 4 1 D D D)<|zs (BN B5 1 D D)<|zs (BN B5 0 D D)<|CS<|U<|BP O_ D (fun w b=>Oh z.w dl u w (A5.sat b (t F m)))<|U<|Bk 2 0 1 D D D<|?_
 refine Jg<|Jf<|Jq<|Fq B5 2 D D fun W b=>?_
 subst m
 exact⟨by unfold G.Hw;rw[if_neg (show¬x.AW.kd=1 from y)];rw[N,T];rfl,_,b.pick [4,5,6]⟩
theorem U6(Q:Nat)(z:Dl)(C a Au B:BX)(b Av:Nat)(Z:Nat→Option Bf)(x:Bf)(w:World)(d:BE [Ay Q z C a Au B,A1 z.w B,AN z.AU Av Z] w)(f:Z Ar=some x)(A5:CG w)(g:∀k,CB k→¬A6 [Ay Q z C a Au B,A1 z.w B,AN z.AU Av Z] k)(hw:z.w≤32)(i:b≤256)(V:x.s.v.length≤4096)(m:x.kd=1∨1≤b):Calls Tryz.prog 157 #[S Q,Value.agg (flat [[E x.kd],[E x.l],[E x.r],[E x.lc],[E x.rc],bv x.ls.l,bv x.rs.l,bv x.k.l,[I x.s.p x.s.v.length x.s.c]]),E b] w fun e W=>e=.returned (.agg (flat [bv (G.Hw z.w x.AW b).l]))∧∃j,Sat (A6 [Ay Q z C a Au B,A1 z.w B,AN z.AU Av Z]) w [Ay Q z C a Au j,A1 z.w j,AN z.AU Av Z] W:=by
 by_cases h:x.kd=1
 ·exact hN Q z C a Au B b Av Z x w d f A5 g hw i V h
 ·exact de Q z C a Au B b Av Z x w d f A5 g hw i (by omega) h
theorem ep{P:Program}{a:Act}{w:World}{N:Nat}{f:BW}{dst:Option Tmp}{ty:TypeId}{pos:String}{An:Array Edge}{g:Option (Nat×Bool)}(b:AH N a f){t u:TypeId}{x y:Operand}{k':IntKind}{p n:Nat}(c:Aj f x=some (.int .u8 p))(d:Aj f y=some (.int k' n))(e:n≤8):CD P a w ⟨dst,.binOp .shl t x y u,ty,pos,An,g⟩ (.int .u8 (((UInt8.ofNat (p*2^n)).toNat:Nat):Int)) w:=Kc b c d e (H5 _)
theorem cL{x n:Nat}(a:x≤1):UInt8.ofNat ((UInt8.ofNat x).toNat*2^n)=UInt8.ofNat (x*2^n):=by
 match x,a with
 |0,_=>rfl
 |1,_=>rfl
def B0(W:Nat)(Z:Nat→Option Bf)(AJ:List (G.Ae×Nat))(AO:List (Jc×Nat))(fr:Nat):G.Env:=⟨W,fun p=>(Z p).map Bf.AW,AJ,AO,fr⟩
theorem Qc{W:Nat}{Z:Nat→Option Bf}{AJ:List (G.Ae×Nat)}{AO:List (Jc×Nat)}{fr Bg c:Nat}{r:G.Ae}(a:Z Ar=none):G.E7 (B0 W Z AJ AO fr) Ar Bg c r=false:=by
 unfold G.E7 B0
 simp only[a,Option.map_none]
theorem Ic{W:Nat}{Z:Nat→Option Bf}{AJ:List (G.Ae×Nat)}{AO:List (Jc×Nat)}{fr Bg c:Nat}{r:G.Ae}{x:Bf}(a:Z Ar=some x):G.E7 (B0 W Z AJ AO fr) Ar Bg c r=decide (Ar<Bg∧(x.kd=1∧c=1∧r.b≤AL.J5 x.k.l r.k.l∨¬x.kd=1∧c=x.lc+x.rc∧r.b<256)):=by
 unfold G.E7 B0
 simp only[a,Option.map_some,show x.AW.kd=x.kd from D,show x.AW.k=x.k from D,show x.AW.lc=x.lc from D,show x.AW.rc=x.rc from D]
 by_cases h:x.kd=1<;>simp[h]
theorem M4(r:G.Ae)(x:Nat)(w:World)(J:r.b<256:=by omega)(c:x≤1:=by omega):Calls Tryz.prog 181 #[Value.agg (flat [[E r.b],bv r.k.l]),E x] w fun e W=>e=.returned (.agg (flat [[E (G.under r x).b],bv (G.under r x).k.l]))∧Below w.heap.size w W:=by
 refine Cg w MA D 26<|Je<|Jh<|U<|Cv D fun h=>U<|Bw [[E 0],Ak 32] fun i=>Jg<|Jf<|Je<|DD 16<|zs (AS DY 0 D)<|zs (Bb AF 1 0 D D D)<|zs (Iy (q:=8) D D)<|zs (AS DY 1 D)<|zs (D9 Em 1 (r.b/8) (1+r.b/8) D D)<|zs (K3 BV 1 1 (r.b/8) D D D)<|zs (AA D)<|zs (Iv AF BV D)<|zs (AS DY 0 D)<|zs (Bb AF 1 0 D D D)<|zs (GG (q:=8) D D)<|zs (HS (p:=7) D D)<|zs (fun _ _ d a=>ep d D D (by omega))<|zs (ah D D)<|zs (AS DY 1 D)<|zs (D9 Em 1 (r.b/8) (1+r.b/8) D D)<|CS<|U<|eQ 1 1 (r.b/8) ((r.k.l.getD (r.b/8) 0)|||(UInt8.ofNat ((UInt8.ofNat x).toNat*2^(7 - r.b % 8)))) D D D fun f g=>M ?_
 refine AG DY 0 D<|AZ AF 1 0 D D D<|B6 (q:=1) D D<|AG DY 0 D<|U<|Cq 1 0 D D D<|?_
 refine M ?_
 refine Af (BN DY 1 D D)<|U<|Bk 0 0 2 D D D<|?_
 refine Jg<|Jf<|Jq<|Fq DY 0 D D fun W a=>?_
 exact⟨by rw[show f=(G.under r x).k from Jc.ext (by rw[g];unfold G.under;rw[cL c])];rfl,a.A0⟩
theorem gp(Q Ac AB f:Nat)(z:Dl)(C g Au B:BX)(Av:Nat)(Z:Nat→Option Bf)(AJ:List (G.Ae×Nat))(AO:List (Jc×Nat))(fr A4 Ar Bg c:Nat)(i:Jc)(r:G.Ae)(w:World)(j:BE [Ay Q z C g Au B,AN z.AU Av Z,O Ac [[S Q],[S AB],[S f],[E fr],[E A4]] 236] w)(o:Ar≤1048576)(h:Z Ar=none):Calls Tryz.prog 154 #[S Ac,Value.agg (flat [[E Ar],[E Bg],[E c],bv i.l]),Value.agg (flat [[E r.b],bv r.k.l])] w fun e W=>e=.returned (.bool (G.E7 (B0 z.w Z AJ AO fr) Ar Bg c r))∧Sat (A6 [Ay Q z C g Au B,AN z.AU Av Z,O Ac [[S Q],[S AB],[S f],[E fr],[E A4]] 236]) w [Ay Q z C g Au B,AN z.AU Av Z,O Ac [[S Q],[S AB],[S f],[E fr],[E A4]] 236] W:=by
 refine Cb j Pa D 60 fun F m=>Je<|Jh<|U<|Cv D fun p=>U<|Cv D fun q=>M ?_
 refine CQ [0,1,2,3,4]<|Ab 0 D (AA D)<|Ab 1 D (Bp D)<|Ab 2 D (AS C9 0 D)<|Ab 3 D (Bb Gb 4 0 D D D)<|Ab 4 D (Bp D)<|Ab 5 D (AS C2 6 D)<|Ab 6 D (Bb FN 2 6 D D D)<|Ab 7 D (AS DS 0 D)<|Ab 8 D (Bb AF 1 0 D D D)<|Ab 9 D (NM FN (fun w d=>d.KP 3) Fg Fe (a:=Ar) (Fb (by omega)) D D J_ (by rw[h]))<|Ab 10 D (AA D)<|Ab 11 D (El D D)<|Ab 12 D (El D D)<|Bh 13 D<|Bw [[E 0],[E 0],[E 0],[E 0],[E 0],Ak 32,Ak 32,Ak 32,[I none 0 0]] fun s=>A8 [1,2,3,4,5]<|Bh 14 D<|Bk 0 0 9 D D D<|?_
 refine A8 [1,2,3,4,5]<|Ab 15 D (Ck D)<|Cm<|M ?_
 refine Af (fun _ _ n d=>CE n (b:=false) D)<|A7 ?_
 intro W d
 subst m
 exact⟨CT (Qc h).symm,d.pick [3,4,5]⟩
theorem gP(Q Ac AB h:Nat)(z:Dl)(C i Au B:BX)(Av:Nat)(Z:Nat→Option Bf)(AJ:List (G.Ae×Nat))(AO:List (Jc×Nat))(fr A4 Ar Bg c:Nat)(n:Jc)(r:G.Ae)(x:Bf)(w:World)(o:BE [Ay Q z C i Au B,AN z.AU Av Z,O Ac [[S Q],[S AB],[S h],[E fr],[E A4]] 236] w)(v:Ar≤1048576)(f:Z Ar=some x)(y:x.lc≤4294967296)(A:x.rc≤4294967296):Calls Tryz.prog 154 #[S Ac,Value.agg (flat [[E Ar],[E Bg],[E c],bv n.l]),Value.agg (flat [[E r.b],bv r.k.l])] w fun e W=>e=.returned (.bool (G.E7 (B0 z.w Z AJ AO fr) Ar Bg c r))∧Sat (A6 [Ay Q z C i Au B,AN z.AU Av Z,O Ac [[S Q],[S AB],[S h],[E fr],[E A4]] 236]) w [Ay Q z C i Au B,AN z.AU Av Z,O Ac [[S Q],[S AB],[S h],[E fr],[E A4]] 236] W:=by
 refine Cb o Pa D 60 fun F g=>Je<|Jh<|U<|Cv D fun H=>U<|Cv D fun J=>M ?_
 refine CQ [0,1,2,3,4]<|Ab 0 D (AA D)<|Ab 1 D (Bp D)<|Ab 2 D (AS C9 0 D)<|Ab 3 D (Bb Gb 4 0 D D D)<|Ab 4 D (Bp D)<|Ab 5 D (AS C2 6 D)<|Ab 6 D (Bb FN 2 6 D D D)<|Ab 7 D (AS DS 0 D)<|Ab 8 D (Bb AF 1 0 D D D)<|Ab 9 D (NM FN (fun w d=>d.KP 3) Fg Fe (a:=Ar) (Fb (by omega)) D D J_ (by rw[f]))<|Ab 10 D (AA D)<|Ab 11 D (El D D)<|Ab 12 D (El D D)<|Bh 13 D<|Bw [[E 0],[E 0],[E 0],[E 0],[E 0],Ak 32,Ak 32,Ak 32,[I none 0 0]] fun K=>A8 [1,2,3,4,5]<|Bh 14 D<|Bk 0 0 9 D D D<|?_
 refine A8 [1,2,3,4,5]<|Ab 15 D (Ck D)<|Cm<|M ?_
 refine Af (fun _ _ p d=>CE p (b:=true) D)<|M ?_
 refine AG DS 0 D<|Jj D D D<|AZ AF 2 0 D D D<|Jj D D D<|AG DS 1 D<|Jj D D D<|AZ AF 2 1 D D D<|Jj D D D<|Pm D D (fun q=>?_) fun q=>?_
 ·
  refine A7 ?_
  intro W d
  subst g
  exact⟨CT (by rw[Ic f];exact(decide_eq_false (by omega)).symm),d.pick [3,4,5]⟩
 refine M ?_
 refine AG B7 0 D<|AZ AF 0 0 D D D<|E2 D D<|Jg<|Jf<|Cz D (fun s=>?_) fun s=>?_
 ·
  refine Je<|G9<|AR (AS DS 2 D)<|AR (Bb AF 2 2 D D D)<|?_
  by_cases j:((c:Nat):Int)=((1:Nat):Int)
  ·
   refine AR (OY j D D)<|AR (AA D)<|B2 D D D<|AR (AS B7 69 D)<|B2 D D D<|AR (DH Em 0 7 1 [bv x.k.l] D D)<|B2 D D D<|AR (AS DY 1 D)<|B2 D D D<|AR (DH Em 1 1 1 [bv r.k.l] D D)<|B2 D D D<|MB Vl D (fun w d=>cT x.k r.k w)<|B2 D D D<|AR (AS DY 0 D)<|B2 D D D<|AR (Bb AF 1 0 D D D)<|B2 D D D<|?_
   by_cases m:((r.b:Nat):Int)≤((AL.J5 x.k.l r.k.l:Nat):Int)
   ·
    refine AR (Xo m D D)<|AR (D' D D)<|AR (Ck D)<|Er<|A7 ?_
    intro W d
    subst g
    exact⟨CT (by rw[Ic f];exact(decide_eq_true (by omega)).symm),d.pick [3,4,5]⟩
   refine AR (Wp m D D)<|AR (D' D D)<|AR (Ck D)<|Er<|A7 ?_
   intro W d
   subst g
   exact⟨CT (by rw[Ic f];exact(decide_eq_false (by omega)).symm),d.pick [3,4,5]⟩
  refine AR (M6 j D D)<|AR (AA D)<|Bq D D D D<|Bq D D D D<|Bq D D D D<|Bq D D D D<|Bq D D D D<|Bq D D D D<|Bq D D D D<|Bq D D D D<|AR (EK D D)<|AR (Ck D)<|Er<|A7 ?_
  intro W d
  subst g
  exact⟨CT (by rw[Ic f];exact(decide_eq_false (by omega)).symm),d.pick [3,4,5]⟩
 refine M ?_
 refine AG DS 2 D<|AZ AF 2 2 D D D<|AG B7 3 D<|AZ AF 0 3 D D D<|AG B7 4 D<|AZ AF 0 4 D D D<|B6 D D<|Gx D D (fun t=>?_) fun t=>?_
 ·
  refine M ?_
  refine AG DY 0 D<|Jj D D D<|AZ AF 1 0 D D D<|Jj D D D<|GV D D (fun u=>?_) fun u=>?_
  ·
   refine A7 ?_
   intro W d
   subst g
   exact⟨CT (by rw[Ic f];exact(decide_eq_true (by omega)).symm),d.pick [3,4,5]⟩
  refine A7 ?_
  intro W d
  subst g
  exact⟨CT (by rw[Ic f];exact(decide_eq_false (by omega)).symm),d.pick [3,4,5]⟩
 refine A7 ?_
 intro W d
 subst g
 exact⟨CT (by rw[Ic f];exact(decide_eq_false (by omega)).symm),d.pick [3,4,5]⟩
theorem I_{N:Nat}{f:BW}{F:Nat→Prop}{w0:World}{H:List Atom}{K:Act→World→Prop}(i:Nat){A:Atom}(A':Atom)(a:H[i]? =some A)(e:A=A')(h:AT N f F w0 (H.set i A') K):AT N f F w0 H K:=by
 subst e
 have:H.set i A=H:=by
  obtain⟨l,q⟩:=List.getElem?_eq_some_iff.1 a
  rw[←q,List.set_getElem_self]
 rw[this]at h
 exact h
theorem MT{Bo:Type}[DecidableEq Bo](m:List (Bo×Nat))(a:Bo)(x:Nat):CF (G.get m) a x=G.get (G.put m a x):=by
 funext b
 rw[G.OZ]
 unfold CF
 by_cases h:b=a
 ·rw[if_pos h,if_pos h.symm]
 ·rw[if_neg h,if_neg (fun q=>h q.symm)]
def EX(Z:Nat→Option Bf):Nat→Nat→Nat→Nat→Prop
 |0,_,_,_=>False
 |f+1,p,b,c=>∃x,Z p=some x∧1≤c∧p≤1048576∧(x.kd=1∧c=1∨¬x.kd=1∧b<256∧c=x.lc+x.rc∧(¬x.l=0→EX Z f x.l (b+1) x.lc)∧(¬x.r=0→EX Z f x.r (b+1) x.rc))
theorem XD{nd:Nat→Option G.Dh}{f p:Nat}{r:G.Ae}{s:G.B4}{n:G.Dh}(h:nd p=some n)(a:n.kd=1):G.Bn nd (f+1) p r s=G.note s r p n:=by
 rw[G.Bn]
 simp only[h,Option.getD_some,if_pos a]
theorem SP{nd:Nat→Option G.Dh}{f p:Nat}{r:G.Ae}{s:G.B4}{n:G.Dh}(h:nd p=some n)(a:¬n.kd=1):G.Bn nd (f+1) p r s=if n.r=0 then(if n.l=0 then G.note s r p n else G.Bn nd f n.l (G.under r 0) (G.note s r p n))else G.Bn nd f n.r (G.under r 1) (if n.l=0 then G.note s r p n else G.Bn nd f n.l (G.under r 0) (G.note s r p n)):=by
 rw[G.Bn]
 simp only[h,Option.getD_some,if_neg a]
theorem cX(Q Ac AB d g h:Nat)(z:Dl)(C n Au B:BX)(Av:Nat)(Z:Nat→Option Bf)(fr A4:Nat)(f:Nat)(p c i j:Nat)(r:G.Ae)(s:G.B4)(x:Bf)(w:World)(A:BE [Ay Q z C n Au B,AN z.AU Av Z,O Ac [[S Q],[S AB],[S d],[E fr],[E A4]] 236,O d [[Value.map (some g)],[Value.map (some h)]] 234,Ap Tryz.prog 242 AM Am g i (G.get s.rows),Ap Tryz.prog 57 AP Am h j (G.get s.jo)] w)(K:r.b≤256)(q:Z p=some x)(t:x.kd=1)(L:p≤1048576)(H:c=1)(N:i≤1099511627776)(P:j≤1099511627776):Calls Tryz.prog 155 #[S Ac,E p,Value.agg (flat [[E r.b],bv r.k.l])] w fun e W=>∃v y,e=.returned (.tuple #[])∧v≤i+(f+1)*c∧y≤j+(f+1)*c∧Sat (A6 [Ay Q z C n Au B,AN z.AU Av Z,O Ac [[S Q],[S AB],[S d],[E fr],[E A4]] 236,O d [[Value.map (some g)],[Value.map (some h)]] 234,Ap Tryz.prog 242 AM Am g i (G.get s.rows),Ap Tryz.prog 57 AP Am h j (G.get s.jo)]) w [Ay Q z C n Au B,AN z.AU Av Z,O Ac [[S Q],[S AB],[S d],[E fr],[E A4]] 236,O d [[Value.map (some g)],[Value.map (some h)]] 234,Ap Tryz.prog 242 AM Am g v (G.get (G.Bn (fun p=>(Z p).map Bf.AW) (f+1) p r s).rows),Ap Tryz.prog 57 AP Am h y (G.get (G.Bn (fun p=>(Z p).map Bf.AW) (f+1) p r s).jo)] W:=by
 subst H
 rw[Nat.mul_one]
 refine Cb A Np D 56 fun F J=>Je<|Jh<|U<|Cv D fun R=>M ?_
 refine By D<|AG C9 0 D<|AZ Gb 3 0 D D D<|By D<|AG C2 6 D<|AZ FN 1 6 D D D<|Jd D<|Af (GN FN (fun w m=>m.KP 2) Fg Fe (a:=p) (Fb (by omega)) D D J_ (by rw[q]))<|U<|Bw [[E 0],[E 0],[E 0],[E 0],[E 0],Ak 32,Ak 32,Ak 32,[I none 0 0]] fun T=>U<|Bk 0 0 9 D D D<|?_
 refine Jg<|Jf<|Je<|DD 9<|zs (AA D)<|zs (Bp D)<|zs (AS C9 2 D)<|zs (Bb Ha 4 2 D D D)<|zs (Bp D)<|zs (AS Il 0 D)<|zs (Bb GM 5 0 D D D)<|zs (BN DY 1 D D)<|zs (AA D)<|CS<|U<|KS 6 GM D Lb Le (a:=r) (Lg (by omega)) (u:=p) D D D<|M ?_
 refine AG B7 0 D<|AZ AF 0 0 D D D<|EU (by omega) D D<|M ?_
 refine DD 10<|zs (AA D)<|zs (Bp D)<|zs (AS C9 2 D)<|zs (Bb Ha 4 2 D D D)<|zs (Bp D)<|zs (AS Il 1 D)<|zs (Bb Ln 5 1 D D D)<|zs (AS B7 69 D)<|zs (DH Em 0 7 1 [bv x.k.l] D D)<|zs (AA D)<|CS<|U<|KS 7 Ln D FR O5 (a:=x.k) OB (u:=p) D D D<|M ?_
 refine Ff fun W m=>?_
 subst J
 rw[MT,MT]at m
 rw[XD (show(fun p=>(Z p).map Bf.AW) p=some x.AW from by simp only[q];rfl) (show x.AW.kd=1 from t)]
 exact⟨i+1,j+1,D,by omega,by omega,by unfold G.note;rw[if_pos (show x.AW.kd=1 from t)];exact m.pick [2,3,4,5,6,7]⟩
theorem Z0(Q Ac AB h d g:Nat)(z:Dl)(C n Au B:BX)(Av:Nat)(Z:Nat→Option Bf)(fr A4:Nat)(f:Nat)(T:∀(p c j m:Nat) (r:G.Ae) (s:G.B4) (w:World) (V:BE [Ay Q z C n Au B,AN z.AU Av Z,O Ac [[S Q],[S AB],[S h],[E fr],[E A4]] 236,O h [[Value.map (some d)],[Value.map (some g)]] 234,Ap Tryz.prog 242 AM Am d j (G.get s.rows),Ap Tryz.prog 57 AP Am g m (G.get s.jo)] w) (ag:f+r.b=257) (A5:EX Z f p r.b c) (X:j+f*c≤1099511627776) (Y:m+f*c≤1099511627776),Calls Tryz.prog 155 #[S Ac,E p,AM r] w fun e W=>∃A H,e=.returned (.tuple #[])∧A≤j+f*c∧H≤m+f*c∧Sat (A6 [Ay Q z C n Au B,AN z.AU Av Z,O Ac [[S Q],[S AB],[S h],[E fr],[E A4]] 236,O h [[Value.map (some d)],[Value.map (some g)]] 234,Ap Tryz.prog 242 AM Am d j (G.get s.rows),Ap Tryz.prog 57 AP Am g m (G.get s.jo)]) w [Ay Q z C n Au B,AN z.AU Av Z,O Ac [[S Q],[S AB],[S h],[E fr],[E A4]] 236,O h [[Value.map (some d)],[Value.map (some g)]] 234,Ap Tryz.prog 242 AM Am d A (G.get (G.Bn (fun p=>(Z p).map Bf.AW) f p r s).rows),Ap Tryz.prog 57 AP Am g H (G.get (G.Bn (fun p=>(Z p).map Bf.AW) f p r s).jo)] W)(p c j m:Nat)(r:G.Ae)(s:G.B4)(x:Bf)(w:World)(V:BE [Ay Q z C n Au B,AN z.AU Av Z,O Ac [[S Q],[S AB],[S h],[E fr],[E A4]] 236,O h [[Value.map (some d)],[Value.map (some g)]] 234,Ap Tryz.prog 242 AM Am d j (G.get s.rows),Ap Tryz.prog 57 AP Am g m (G.get s.jo)] w)(ag:f+r.b=256)(P:Z p=some x)(R:¬x.kd=1)(J:r.b<256)(an:p≤1048576)(ah:c=x.lc+x.rc)(aa:1≤c)(ai:¬x.l=0→EX Z f x.l (r.b+1) x.lc)(aj:¬x.r=0→EX Z f x.r (r.b+1) x.rc)(X:j+(f+1)*c≤1099511627776)(Y:m+(f+1)*c≤1099511627776):Calls Tryz.prog 155 #[S Ac,E p,Value.agg (flat [[E r.b],bv r.k.l])] w fun e W=>∃A H,e=.returned (.tuple #[])∧A≤j+(f+1)*c∧H≤m+(f+1)*c∧Sat (A6 [Ay Q z C n Au B,AN z.AU Av Z,O Ac [[S Q],[S AB],[S h],[E fr],[E A4]] 236,O h [[Value.map (some d)],[Value.map (some g)]] 234,Ap Tryz.prog 242 AM Am d j (G.get s.rows),Ap Tryz.prog 57 AP Am g m (G.get s.jo)]) w [Ay Q z C n Au B,AN z.AU Av Z,O Ac [[S Q],[S AB],[S h],[E fr],[E A4]] 236,O h [[Value.map (some d)],[Value.map (some g)]] 234,Ap Tryz.prog 242 AM Am d A (G.get (G.Bn (fun p=>(Z p).map Bf.AW) (f+1) p r s).rows),Ap Tryz.prog 57 AP Am g H (G.get (G.Bn (fun p=>(Z p).map Bf.AW) (f+1) p r s).jo)] W:=by
 subst ah
 rw[Nat.add_mul,Nat.one_mul,Nat.mul_add]at X Y⊢
 refine Cb V Np D 56 fun F ab=>Je<|Jh<|U<|Cv D fun K=>M ?_
 refine By D<|AG C9 0 D<|AZ Gb 3 0 D D D<|By D<|AG C2 6 D<|AZ FN 1 6 D D D<|Jd D<|Af (GN FN (fun w i=>i.KP 2) Fg Fe (a:=p) (Fb (by omega)) D D J_ (by rw[P]))<|U<|Bw [[E 0],[E 0],[E 0],[E 0],[E 0],Ak 32,Ak 32,Ak 32,[I none 0 0]] fun L=>U<|Bk 0 0 9 D D D<|?_
 refine Jg<|Jf<|Je<|DD 9<|zs (AA D)<|zs (Bp D)<|zs (AS C9 2 D)<|zs (Bb Ha 4 2 D D D)<|zs (Bp D)<|zs (AS Il 0 D)<|zs (Bb GM 5 0 D D D)<|zs (BN DY 1 D D)<|zs (AA D)<|CS<|U<|KS 6 GM D Lb Le (a:=r) (Lg (by omega)) (u:=p) D D D<|Jg<|?_
 refine I_ 6 (Ap Tryz.prog 242 AM Am d (j+1) (G.get (G.note s r p x.AW).rows)) D (by rw[MT];rfl)<|I_ 7 (Ap Tryz.prog 57 AP Am g m (G.get (G.note s r p x.AW).jo)) D (by unfold G.note;rw[if_neg (show¬x.AW.kd=1 from R)])<|M ?_
 refine AG B7 0 D<|AZ AF 0 0 D D D<|Gi (by omega) D D<|Jg<|Jf<|JH D<|Jy<|Jf<|Gq (fun a W=>∃(s2:G.B4) (t:Nat) (y:Nat),AH 56 a (Jb (Jb (Jb Jk 0 (S Ac)) 5 (S K)) 6 (S L))∧Sat F w [O L [[E x.kd],[E x.l],[E x.r],[E x.lc],[E x.rc],bv x.ls.l,bv x.rs.l,bv x.k.l,[I x.s.p x.s.v.length x.s.c]] 99,O K [[E r.b],bv r.k.l] 242,Ay Q z C n Au B,AN z.AU Av Z,O Ac [[S Q],[S AB],[S h],[E fr],[E A4]] 236,O h [[Value.map (some d)],[Value.map (some g)]] 234,Ap Tryz.prog 242 AM Am d t (G.get s2.rows),Ap Tryz.prog 57 AP Am g y (G.get s2.jo)] W∧s2=(if x.AW.l=0 then(G.note s r p x.AW)else G.Bn (fun p=>(Z p).map Bf.AW) f x.AW.l (G.under r 0) (G.note s r p x.AW))∧(t≤j+1+f*x.lc∧y≤m+f*x.lc)) ?_ ?_
 ·
  refine Je<|Jh<|AG B7 1 D<|AZ AF 0 1 D D D<|JU D D<|Jg<|Jf<|HI D (fun aa=>?_) fun aa=>?_
  ·
   refine CQ [0,1,2,3,4,5]<|Ab 0 D (AA D)<|Ab 1 D (AS B7 1 D)<|Ab 2 D (Bb AF 0 1 D D D)<|Ab 3 D (BN DY 1 D D)<|Bh 4 D<|BP MA D (fun w i=>M4 r 0 w)<|A8 [0,1,2,3,4,5]<|Bh 5 D<|?_
   refine Ba Np D (fun w i=>T x.l x.lc (j+1) m (G.under r 0) (G.note s r p x.AW) w (i.Ad (H1:=[Ay Q z C n Au B,AN z.AU Av Z,O Ac [[S Q],[S AB],[S h],[E fr],[E A4]] 236,O h [[Value.map (some d)],[Value.map (some g)]] 234,Ap Tryz.prog 242 AM Am d (j+1) (G.get (G.note s r p x.AW).rows),Ap Tryz.prog 57 AP Am g m (G.get (G.note s r p x.AW).jo)]) [2,3,4,5,6,7]) (by show f+(r.b+1)=257;omega) (ai (by omega)) (by omega) (by omega)) fun _ e W i ⟨t,ak,he,ao,aq,q⟩=>⟨_,_,he,Sat.call (H1:=[Ay Q z C n Au B,AN z.AU Av Z,O Ac [[S Q],[S AB],[S h],[E fr],[E A4]] 236,O h [[Value.map (some d)],[Value.map (some g)]] 234,Ap Tryz.prog 242 AM Am d (j+1) (G.get (G.note s r p x.AW).rows),Ap Tryz.prog 57 AP Am g m (G.get (G.note s r p x.AW).jo)]) (H2:=[O L [[E x.kd],[E x.l],[E x.r],[E x.lc],[E x.rc],bv x.ls.l,bv x.rs.l,bv x.k.l,[I x.s.p x.s.v.length x.s.c]] 99,O K [[E r.b],bv r.k.l] 242]) (i.pick [2,3,4,5,6,7,0,1]) q,?_⟩
   refine A8 [6,7,0,1,2,3]<|Cm<|Jf<|?_
   exact fun a W N i=>⟨G.Bn (fun p=>(Z p).map Bf.AW) f x.l (G.under r 0) (G.note s r p x.AW),t,ak,AY N,i.pick [6,7,0,1,2,3,4,5],by first|rw[if_pos (show x.AW.l=0 by show x.l=0;omega)]|rw[if_neg (show¬x.AW.l=0 by show¬x.l=0;omega)];rfl,by constructor<;>omega⟩
  refine Jy<|Jf<|?_
  exact fun a W N i=>⟨G.note s r p x.AW,j+1,m,AY N,i.pick [0,1,2,3,4,5,6,7],by first|rw[if_pos (show x.AW.l=0 by show x.l=0;omega)]|rw[if_neg (show¬x.AW.l=0 by show¬x.l=0;omega)];rfl,by constructor<;>omega⟩
 rintro a W ⟨s2,t,y,N,i,ad,ar⟩;revert a W
 refine Je<|Jh<|AG B7 2 D<|AZ AF 0 2 D D D<|JU D D<|Jg<|Jf<|HI D (fun al=>?_) fun al=>?_
 ·
  refine CQ [0,1,2,3,4,5]<|Ab 0 D (AA D)<|Ab 1 D (AS B7 2 D)<|Ab 2 D (Bb AF 0 2 D D D)<|Ab 3 D (BN DY 1 D D)<|Bh 4 D<|BP MA D (fun w i=>M4 r 1 w)<|A8 [0,1,2,3,4,5]<|Bh 5 D<|?_
  refine Ba Np D (fun w i=>T x.r x.rc t y (G.under r 1) s2 w (i.Ad (H1:=[Ay Q z C n Au B,AN z.AU Av Z,O Ac [[S Q],[S AB],[S h],[E fr],[E A4]] 236,O h [[Value.map (some d)],[Value.map (some g)]] 234,Ap Tryz.prog 242 AM Am d t (G.get s2.rows),Ap Tryz.prog 57 AP Am g y (G.get s2.jo)]) [2,3,4,5,6,7]) (by show f+(r.b+1)=257;omega) (aj (by omega)) (by omega) (by omega)) fun _ e W i ⟨ae,af,he,au,av,q⟩=>⟨_,_,he,Sat.call (H1:=[Ay Q z C n Au B,AN z.AU Av Z,O Ac [[S Q],[S AB],[S h],[E fr],[E A4]] 236,O h [[Value.map (some d)],[Value.map (some g)]] 234,Ap Tryz.prog 242 AM Am d t (G.get s2.rows),Ap Tryz.prog 57 AP Am g y (G.get s2.jo)]) (H2:=[O L [[E x.kd],[E x.l],[E x.r],[E x.lc],[E x.rc],bv x.ls.l,bv x.rs.l,bv x.k.l,[I x.s.p x.s.v.length x.s.c]] 99,O K [[E r.b],bv r.k.l] 242]) (i.pick [2,3,4,5,6,7,0,1]) q,?_⟩
  refine A8 [6,7,0,1,2,3]<|Cm<|Jt<|Ff fun W i=>?_
  subst ab
  rw[SP (show(fun p=>(Z p).map Bf.AW) p=some x.AW from by simp only[P];rfl) (show¬x.AW.kd=1 from R),←ad]
  first
   |(rw[if_pos (show x.AW.r=0 by show x.r=0;omega)];exact⟨ae,af,rfl,by omega,by omega,i.pick [0,1,2,3,4,5]⟩)
   |(rw[if_neg (show¬x.AW.r=0 by show¬x.r=0;omega)];exact⟨ae,af,rfl,by omega,by omega,i.pick [0,1,2,3,4,5]⟩)
 refine Jy<|Jt<|Ff fun W i=>?_
 subst ab
 rw[SP (show(fun p=>(Z p).map Bf.AW) p=some x.AW from by simp only[P];rfl) (show¬x.AW.kd=1 from R),←ad]
 first
  |(rw[if_pos (show x.AW.r=0 by show x.r=0;omega)];exact⟨t,y,rfl,by omega,by omega,i.pick [2,3,4,5,6,7]⟩)
  |(rw[if_neg (show¬x.AW.r=0 by show¬x.r=0;omega)];exact⟨t,y,rfl,by omega,by omega,i.pick [2,3,4,5,6,7]⟩)
theorem Vc(Q Ac AB a d g:Nat)(z:Dl)(C k Au B:BX)(Av:Nat)(Z:Nat→Option Bf)(fr A4:Nat):∀(f:Nat) (p c i j:Nat) (r:G.Ae) (s:G.B4) (w:World) (l:BE [Ay Q z C k Au B,AN z.AU Av Z,O Ac [[S Q],[S AB],[S a],[E fr],[E A4]] 236,O a [[Value.map (some d)],[Value.map (some g)]] 234,Ap Tryz.prog 242 AM Am d i (G.get s.rows),Ap Tryz.prog 57 AP Am g j (G.get s.jo)] w) (q:f+r.b=257) (A5:EX Z f p r.b c) (t:i+f*c≤1099511627776) (u:j+f*c≤1099511627776),Calls Tryz.prog 155 #[S Ac,E p,AM r] w fun e W=>∃v y,e=.returned (.tuple #[])∧v≤i+f*c∧y≤j+f*c∧Sat (A6 [Ay Q z C k Au B,AN z.AU Av Z,O Ac [[S Q],[S AB],[S a],[E fr],[E A4]] 236,O a [[Value.map (some d)],[Value.map (some g)]] 234,Ap Tryz.prog 242 AM Am d i (G.get s.rows),Ap Tryz.prog 57 AP Am g j (G.get s.jo)]) w [Ay Q z C k Au B,AN z.AU Av Z,O Ac [[S Q],[S AB],[S a],[E fr],[E A4]] 236,O a [[Value.map (some d)],[Value.map (some g)]] 234,Ap Tryz.prog 242 AM Am d v (G.get (G.Bn (fun p=>(Z p).map Bf.AW) f p r s).rows),Ap Tryz.prog 57 AP Am g y (G.get (G.Bn (fun p=>(Z p).map Bf.AW) f p r s).jo)] W:=by
 intro f
 induction f with
 |zero=>intro p c i j r s w l q A5;exact A5.elim
 |succ f F=>
  intro p c i j r s w l q A5 t u
  obtain⟨x,A,H,D,h⟩:=A5
  rcases h with⟨m,n⟩|⟨m,J,n,hl,hr⟩
  ·exact cX Q Ac AB a d g z C k Au B Av Z fr A4 f p c i j r s x w l (by omega) A m D n (by omega) (by omega)
  ·exact Z0 Q Ac AB a d g z C k Au B Av Z fr A4 f F p c i j r s x w l (by omega) A m J D n H hl hr t u
end Go.Proofs.YtaapafoibofbjaaGreatDoor
