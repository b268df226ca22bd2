/- Laws and walks on the road to SalvageClean (part M28). No conditions beyond each law's own. -/
import Derived.Test.YtaapafoibofbjaaGreatDoorM01
import Derived.Test.YtaapafoibofbjaaGreatDoorM27
import Derived.Test.YtaapafoibofbjaaGreatDoorM07
import Derived.Test.YtaapafoibofbjaaGreatDoorM12
set_option linter.unusedVariables false
namespace Go.Proofs.YtaapafoibofbjaaGreatDoor
open Go.RowKit
set_option maxRecDepth 100000
set_option maxHeartbeats 1000000
theorem En{il:List UInt8}{p:Nat}(h:(p+1)*256≤il.length:=by omega):(AI il p).length=256:=by unfold AI;rw[List.length_take,List.length_drop];omega
theorem LY{F:Nat→Prop}{w0:World}{H:List Atom}{z:Dl}{il:List UInt8}(i p:Nat)(f:il.length=z.jv)(g:(p+1)*256≤z.jv)(d:H[i]? =some (Ae 5 1 (I z.ip z.jv z.jC) z.jv (bv il)):=by exact rfl):∀w,Sat F w0 H w→View w (.slice (sp z.ip (p*256) z.jC 1) 256 (z.jC - p*256)) 256 1 (bv (AI il p)):=fun w e=>by
 have h:=(Db (n:=z.jv) (c:=z.jC) (m:=il) (p*256) ((p+1)*256) (BZ i d) (NR (il:=il) (p:=p)) (by omega) (by omega)) w e
 rw[show(p+1)*256 - p*256=256 by omega]at h
 exact h
theorem LO(Q:Nat)(z:Dl)(C a Au B:BX)(p:Nat)(w:World)(c:BE [Ay Q z C a Au B] w)(d:(p+1)*256≤z.jC∧p≤4096:=by omega):Calls Tryz.prog 45 #[S Q,E p] w fun e W=>e=.returned (I (sp z.ip (p*256) z.jC 1) 256 (z.jC - p*256))∧Sat (A6 [Ay Q z C a Au B]) w [Ay Q z C a Au B] W:=by
 have h:=Ya Q z C a Au B p w c d
 rw[show(p+1)*256 - p*256=256 by omega]at h
 exact h
theorem g8{Aa:Exit→Act→World→Prop}{N:Nat}{f:BW}{ty:TypeId}{pos:String}{An:Array Edge}{g:Option (Nat×Bool)}{F:Nat→Prop}{w0:World}{H:List Atom}{K:Act→World→Prop}(i j:Nat)(BI:List Nat){H2:List Atom}{t:TypeId}(P:Tryz.prog.underlying t=some (.map 3 99)){b n a:Nat}{Z:Nat→Option Bf}{x:Bf}(Q:H[i]? =some (Ae 5 1 x.s.val x.s.v.length (bv x.s.v)))(hj:H[j]? =some (AN b n Z))(e:BI.map (fun i=>H[i]?)=H2.map some){m k y:Operand}(R:Aj f m=some (.map (some b)))(o:Aj f k=some (Am a))(S:Aj f y=some (J6 x))(T:a≤4611686018427387904)(C:n<maxLen)(h:AT N f F w0 (AN b (n+1) (CF Z a x)::H2) K)(Ad:(i::j::BI).Nodup:=by decide):D3 Tryz.prog ⟨none,.mapUpdate t m k y,ty,pos,An,g⟩ Aa N f F w0 H K:=fun af w B U=>by
 have E:Sat F w0 ([Ae 5 1 x.s.val x.s.v.length (bv x.s.v),AN b n Z]++H2) w:=U.pick (i::j::BI) (by rw[List.map_cons,List.map_cons,Q,hj,e];rfl) Ad
 have hm:=E.at_ 1 _ D
 have hr:=E.at_ 0 _ D
 obtain⟨W,V,X,d⟩:=hm.1.Jb Fg Fe P C (Fb (n:=a) T) x
 have AU:∀(y:Bf),w.ownsRow 0 5 1 y.s.val y.s.v.length (bv y.s.v)→∀q,y.s.val.ownBlock=some q→q≠b:=by
  intro y ho q l r
  subst r
  obtain⟨es,clock,J, -⟩:=hm.1
  rcases ho.2 with⟨h1, -⟩|⟨ag,cap,cur,h1, -,L, -⟩
  ·rw[h1]at l;cases l
  ·rw[h1]at l
   cases l
   rw[J]at L
   cases L
 have kept:∀(y:Bf),w.ownsRow 0 5 1 y.s.val y.s.v.length (bv y.s.v)→W.ownsRow 0 5 1 y.s.val y.s.v.length (bv y.s.v):=fun y ho=>
  (Ae 5 1 y.s.val y.s.v.length (bv y.s.v)).loc w W ho d.size (fun q l=>d.block q ((Ae 5 1 y.s.val y.s.v.length (bv y.s.v)).lt w ho q l) (fun r=>AU y ho q l (by cases r;rfl)))
 have q:Sat (A6 [Ae 5 1 x.s.val x.s.v.length (bv x.s.v),AN b n Z]) w [AN b (n+1) (CF Z a x)] W:=by
  have Y:(AN b (n+1) (CF Z a x)).holds W:=⟨X,fun u G h1=>by
   unfold CF at h1
   by_cases z:u=a
   ·rw[if_pos z]at h1;cases h1;exact kept _ hr
   ·rw[if_neg z]at h1;exact kept _ (hm.2 u G h1)⟩
  have aa:∀k,(AN b (n+1) (CF Z a x)).jM k→A6 [Ae 5 1 x.s.val x.s.v.length (bv x.s.v),AN b n Z] k:=by
   rintro k (rfl|⟨u,G,h1,M⟩)
   ·exact K4.2 (.inr (.inl D))
   ·unfold CF at h1
    by_cases z:u=a
    ·rw[if_pos z]at h1;cases h1;exact K4.2 (.inl M)
    ·rw[if_neg z]at h1;exact K4.2 (.inr (.inr ⟨u,G,h1,M⟩))
  refine⟨⟨d.os,d.tape,d.output,d.size,fun k o C=>d.block k o (fun r=>C (by cases r;exact K4.2 (.inr (.inl D))))⟩,?_,?_,?_⟩
  ·intro p A c
   match p,c with
   |0,c=>cases c;exact Y
   |p+1,c=>simp at c
  ·intro p A c k o
   match p,c with
   |0,c=>cases c;exact .inl (aa k o)
   |p+1,c=>simp at c
  ·intro p O A A' ab c I
   match p,O,c,I with
   |0,0,_,_=>exact absurd D ab
   |p+1,_,c,_=>simp at c
   |0,O+1,_,I=>simp at I
 refine Pg (w':=W) B ?_ (fun ad ae=>h ad W ae (Sat.call (Gm:=[AN b (n+1) (CF Z a x)]) E q))
 simp[execOp,B.A_ R,B.A_ o,B.A_ S,V]
theorem fT(Q:Nat)(z:Dl)(C b Au B:BX)(p Av Bt:Nat)(Z:Nat→Option Bf)(Ax:Nat→Option B9)(il:List UInt8)(As:List Nat)(w:World)(f:BE [Ay Q z C b Au B,AN z.AU Av Z,Ap Tryz.prog 3 Am BT z.jk Bt Ax,Ae 5 1 (I z.ip z.jv z.jC) z.jv (bv il),Ae 3 1 (I C.p C.n C.c) C.n (Aq Bm As)] w)(h:(p+1)*256≤z.jv∧z.jv≤z.jC∧p≤4095)(i:Av≤4096∧Bt≤4096∧C.n≤4096)(l:p<2):Calls Tryz.prog 235 #[Value.agg (flat []),S Q,E p] w fun e W=>e=.returned (E 0)∧Sat (A6 [Ay Q z C b Au B,AN z.AU Av Z,Ap Tryz.prog 3 Am BT z.jk Bt Ax,Ae 5 1 (I z.ip z.jv z.jC) z.jv (bv il),Ae 3 1 (I C.p C.n C.c) C.n (Aq Bm As)]) w [Ay Q z C b Au B,AN z.AU Av Z,Ap Tryz.prog 3 Am BT z.jk Bt Ax,Ae 5 1 (I z.ip z.jv z.jC) z.jv (bv il),Ae 3 1 (I C.p C.n C.c) C.n (Aq Bm As)] W:=by
 obtain⟨h,m,o⟩:=h
 obtain⟨i,q,r⟩:=i
 have s:il.length=z.jv:=De (f.at_ 3 _ D)
 refine Cb f Ll D 68 fun F j=>Je<|Jh<|U<|Cv D fun t=>M ?_
 refine IS (by omega) D D<|A7 ?_
 intro W k
 subst j
 exact⟨D,k.pick [1,2,3,4,5]⟩
theorem iJ(Q:Nat)(z:Dl)(C b Au B:BX)(p Av Bt:Nat)(Z:Nat→Option Bf)(Ax:Nat→Option B9)(il:List UInt8)(As:List Nat)(w:World)(f:BE [Ay Q z C b Au B,AN z.AU Av Z,Ap Tryz.prog 3 Am BT z.jk Bt Ax,Ae 5 1 (I z.ip z.jv z.jC) z.jv (bv il),Ae 3 1 (I C.p C.n C.c) C.n (Aq Bm As)] w)(i:(p+1)*256≤z.jv∧z.jv≤z.jC∧p≤4095)(j:Av≤4096∧Bt≤4096∧C.n≤4096)(r:2≤p)(l:Fr.CZ p (AI il p)=false):Calls Tryz.prog 235 #[Value.agg (flat []),S Q,E p] w fun e W=>∃k:Nat,k≠0∧e=.returned (E k)∧Sat (A6 [Ay Q z C b Au B,AN z.AU Av Z,Ap Tryz.prog 3 Am BT z.jk Bt Ax,Ae 5 1 (I z.ip z.jv z.jC) z.jv (bv il),Ae 3 1 (I C.p C.n C.c) C.n (Aq Bm As)]) w [Ay Q z C b Au B,AN z.AU Av Z,Ap Tryz.prog 3 Am BT z.jk Bt Ax,Ae 5 1 (I z.ip z.jv z.jC) z.jv (bv il),Ae 3 1 (I C.p C.n C.c) C.n (Aq Bm As)] W:=by
 obtain⟨i,s,t⟩:=i
 obtain⟨j,u,v⟩:=j
 have m:il.length=z.jv:=De (f.at_ 3 _ D)
 refine Cb f Ll D 68 fun F o=>Je<|Jh<|U<|Cv D fun x=>M ?_
 refine ET (by omega) D D<|M ?_
 refine U<|Cx Mh D [1] (H1:=[Ay Q z C b Au B]) (fun w f=>LO Q z C b Au B p w f)<|U<|?_
 refine Ba E4 D (fun w d=>Xl p _ _ (AI il p) w ((LY 4 p m (by omega)) w d) En l) fun _ e W d ⟨q,y,he,J⟩=>⟨_,_,he,d.below J,?_⟩
 refine Jd D<|Bc D D<|Bc D D<|Bc D D<|M ?_
 refine Ix (by omega) D D<|A7 ?_
 intro W d
 subst o
 exact⟨q,by first|decide|assumption,D,d.pick [1,2,3,4,5]⟩
theorem an(Q:Nat)(z:Dl)(C d Au B:BX)(p Av Bt:Nat)(Z:Nat→Option Bf)(Ax:Nat→Option B9)(il:List UInt8)(As:List Nat)(w:World)(f:BE [Ay Q z C d Au B,AN z.AU Av Z,Ap Tryz.prog 3 Am BT z.jk Bt Ax,Ae 5 1 (I z.ip z.jv z.jC) z.jv (bv il),Ae 3 1 (I C.p C.n C.c) C.n (Aq Bm As)] w)(i:(p+1)*256≤z.jv∧z.jv≤z.jC∧p≤4095)(j:Av≤4096∧Bt≤4096∧C.n≤4096)(s:2≤p)(l:Fr.CZ p (AI il p)=true)(t:((AI il p).getD 0 0).toNat=3)(hr:G.record (G.load (AI il p))=none):Calls Tryz.prog 235 #[Value.agg (flat []),S Q,E p] w fun e W=>∃k:Nat,k≠0∧e=.returned (E k)∧Sat (A6 [Ay Q z C d Au B,AN z.AU Av Z,Ap Tryz.prog 3 Am BT z.jk Bt Ax,Ae 5 1 (I z.ip z.jv z.jC) z.jv (bv il),Ae 3 1 (I C.p C.n C.c) C.n (Aq Bm As)]) w [Ay Q z C d Au B,AN z.AU Av Z,Ap Tryz.prog 3 Am BT z.jk Bt Ax,Ae 5 1 (I z.ip z.jv z.jC) z.jv (bv il),Ae 3 1 (I C.p C.n C.c) C.n (Aq Bm As)] W:=by
 obtain⟨i,u,v⟩:=i
 obtain⟨j,x,y⟩:=j
 have m:il.length=z.jv:=De (f.at_ 3 _ D)
 refine Cb f Ll D 68 fun F o=>Je<|Jh<|U<|Cv D fun A=>M ?_
 refine ET (by omega) D D<|M ?_
 refine U<|Cx Mh D [1] (H1:=[Ay Q z C d Au B]) (fun w f=>LO Q z C d Au B p w f)<|U<|?_
 refine Ba E4 D (fun w b=>Lp p _ _ (AI il p) w ((LY 4 p m (by omega)) w b) En l) fun _ e W b ⟨H,K,he,r,J⟩=>⟨_,_,he,b.own r J,?_⟩
 refine Jd D<|Bc D D<|Bc D D<|Bc D D<|M ?_
 refine Ci D D D<|M ?_
 refine EU (by omega) D D<|M ?_
 refine U<|BP KJ D (fun w b=>(MV ((BZ 0) w b) D).mono (fun e W q=>⟨q.1.trans (by rw[hr]),q.2⟩))<|Jd D<|Bc D D<|Bc D D<|U<|Bw [[E 0],[E 0],[E 0],[E 0],[E 0],[E 0],Ak 32] fun L=>U<|Bk 0 0 7 D D D<|?_
 refine M ?_
 refine Gi (by decide) D D<|A7 ?_
 intro W b
 subst o
 exact⟨150,by first|decide|assumption,D,b.pick [3,4,5,6,7]⟩
theorem aM(Q:Nat)(z:Dl)(C f Au B:BX)(p Av Bt:Nat)(Z:Nat→Option Bf)(Ax:Nat→Option B9)(il:List UInt8)(As:List Nat)(Ah:B9)(w:World)(g:BE [Ay Q z C f Au B,AN z.AU Av Z,Ap Tryz.prog 3 Am BT z.jk Bt Ax,Ae 5 1 (I z.ip z.jv z.jC) z.jv (bv il),Ae 3 1 (I C.p C.n C.c) C.n (Aq Bm As)] w)(j:(p+1)*256≤z.jv∧z.jv≤z.jC∧p≤4095)(k:Av≤4096∧Bt≤4096∧C.n≤4096)(x:2≤p)(l:Fr.CZ p (AI il p)=true)(y:((AI il p).getD 0 0).toNat=3)(hr:G.record (G.load (AI il p))=some Ah):Calls Tryz.prog 235 #[Value.agg (flat []),S Q,E p] w fun e W=>∃EY,e=.returned (E 0)∧EY.n=C.n+1∧Sat (A6 [Ay Q z C f Au B,AN z.AU Av Z,Ap Tryz.prog 3 Am BT z.jk Bt Ax,Ae 5 1 (I z.ip z.jv z.jC) z.jv (bv il),Ae 3 1 (I C.p C.n C.c) C.n (Aq Bm As)]) w [Ay Q z EY f Au B,AN z.AU Av Z,Ap Tryz.prog 3 Am BT z.jk (Bt+1) (CF Ax p Ah),Ae 5 1 (I z.ip z.jv z.jC) z.jv (bv il),Ae 3 1 (I EY.p EY.n EY.c) EY.n (Aq Bm (As++[p]))] W:=by
 obtain⟨j,A,H⟩:=j
 obtain⟨k,K,L⟩:=k
 have o:il.length=z.jv:=De (g.at_ 3 _ D)
 refine Cb g Ll D 68 fun F r=>Je<|Jh<|U<|Cv D fun N=>M ?_
 refine ET (by omega) D D<|M ?_
 refine U<|Cx Mh D [1] (H1:=[Ay Q z C f Au B]) (fun w g=>LO Q z C f Au B p w g)<|U<|?_
 refine Ba E4 D (fun w d=>Lp p _ _ (AI il p) w ((LY 4 p o (by omega)) w d) En l) fun _ e W d ⟨O,P,he,s,J⟩=>⟨_,_,he,d.own s J,?_⟩
 refine Jd D<|Bc D D<|Bc D D<|Bc D D<|M ?_
 refine Ci D D D<|M ?_
 refine EU (by omega) D D<|M ?_
 refine U<|BP KJ D (fun w d=>(MV ((BZ 0) w d) D).mono (fun e W q=>⟨q.1.trans (by rw[hr]),q.2⟩))<|Jd D<|Bc D D<|Bc D D<|U<|Bw [[E 0],[E 0],[E 0],[E 0],[E 0],[E 0],Ak 32] fun R=>U<|Bk 0 0 7 D D D<|?_
 refine M ?_
 refine EU D D D<|M ?_
 refine DD 6<|zs (AA D)<|zs (Bp D)<|zs (AS C2 7 D)<|zs (Bb K1 3 7 D D D)<|zs (AA D)<|zs (BN Bv 0 D D)<|CS<|U<|KS 5 K1 D Fg Fe (a:=p) (Fb (by omega)) (u:=Ah) D D D<|M ?_
 refine By D<|AG C2 8 D<|AZ Gd 3 8 D D D<|Jd D<|U<|Ey G0 (Aq Bm [p]) D D D fun T=>U<|DI (m:=1) G0 8 (Aq Bm (As++([p]))) D D D (BZ 0) (HJ TR _) (H0 Gj D) D fun t v=>By D<|AG C2 8 D<|U<|Cq 4 8 D D D<|?_
 refine A7 ?_
 intro W d
 subst r
 exact⟨⟨t,C.n+1,v⟩,D,D,d.pick [4,5,6,7,8]⟩
theorem gl(Q:Nat)(z:Dl)(C d Au B:BX)(p Av Bt:Nat)(Z:Nat→Option Bf)(Ax:Nat→Option B9)(il:List UInt8)(As:List Nat)(w:World)(f:BE [Ay Q z C d Au B,AN z.AU Av Z,Ap Tryz.prog 3 Am BT z.jk Bt Ax,Ae 5 1 (I z.ip z.jv z.jC) z.jv (bv il),Ae 3 1 (I C.p C.n C.c) C.n (Aq Bm As)] w)(i:(p+1)*256≤z.jv∧z.jv≤z.jC∧p≤4095)(j:Av≤4096∧Bt≤4096∧C.n≤4096)(s:2≤p)(l:Fr.CZ p (AI il p)=true)(t:¬((AI il p).getD 0 0).toNat=3)(m:G.node ((AI il p).getD 0 0).toNat (G.load (AI il p))=none):Calls Tryz.prog 235 #[Value.agg (flat []),S Q,E p] w fun e W=>∃k:Nat,k≠0∧e=.returned (E k)∧Sat (A6 [Ay Q z C d Au B,AN z.AU Av Z,Ap Tryz.prog 3 Am BT z.jk Bt Ax,Ae 5 1 (I z.ip z.jv z.jC) z.jv (bv il),Ae 3 1 (I C.p C.n C.c) C.n (Aq Bm As)]) w [Ay Q z C d Au B,AN z.AU Av Z,Ap Tryz.prog 3 Am BT z.jk Bt Ax,Ae 5 1 (I z.ip z.jv z.jC) z.jv (bv il),Ae 3 1 (I C.p C.n C.c) C.n (Aq Bm As)] W:=by
 obtain⟨i,u,v⟩:=i
 obtain⟨j,x,y⟩:=j
 have o:il.length=z.jv:=De (f.at_ 3 _ D)
 refine Cb f Ll D 68 fun F q=>Je<|Jh<|U<|Cv D fun A=>M ?_
 refine ET (by omega) D D<|M ?_
 refine U<|Cx Mh D [1] (H1:=[Ay Q z C d Au B]) (fun w f=>LO Q z C d Au B p w f)<|U<|?_
 refine Ba E4 D (fun w a=>Lp p _ _ (AI il p) w ((LY 4 p o (by omega)) w a) En l) fun _ e W a ⟨H,K,he,r,J⟩=>⟨_,_,he,a.own r J,?_⟩
 refine Jd D<|Bc D D<|Bc D D<|Bc D D<|M ?_
 refine Ci D D D<|M ?_
 refine Gi (by omega) D D<|M ?_
 refine U<|?_
 refine Ba Ma D (fun w a=>ef ((BZ 0) w a) D m) fun _ e W a ⟨he,J⟩=>⟨_,_,he,a.below J,?_⟩
 refine Jd D<|Bc D D<|Bc D D<|U<|Bw [[E 0],[E 0],[E 0],[E 0],[E 0],Ak 32,Ak 32,Ak 32,[I none 0 0]] fun L=>U<|Bk 0 0 9 D D D<|?_
 refine M ?_
 refine Gi (by decide) D D<|A7 ?_
 intro W a
 subst q
 exact⟨90,by first|decide|assumption,D,a.pick [3,4,5,6,7]⟩
theorem ai(Q:Nat)(z:Dl)(C f Au B:BX)(p Av Bt:Nat)(Z:Nat→Option Bf)(Ax:Nat→Option B9)(il:List UInt8)(As:List Nat){n:G.Dh}(w:World)(g:BE [Ay Q z C f Au B,AN z.AU Av Z,Ap Tryz.prog 3 Am BT z.jk Bt Ax,Ae 5 1 (I z.ip z.jv z.jC) z.jv (bv il),Ae 3 1 (I C.p C.n C.c) C.n (Aq Bm As)] w)(j:(p+1)*256≤z.jv∧z.jv≤z.jC∧p≤4095)(m:Av≤4096∧Bt≤4096∧C.n≤4096)(R:2≤p)(o:Fr.CZ p (AI il p)=true)(T:¬((AI il p).getD 0 0).toNat=3)(q:G.node ((AI il p).getD 0 0).toNat (G.load (AI il p))=some n):Calls Tryz.prog 235 #[Value.agg (flat []),S Q,E p] w fun e W=>∃x:Bf,x.AW=n∧e=.returned (E 0)∧Sat (A6 [Ay Q z C f Au B,AN z.AU Av Z,Ap Tryz.prog 3 Am BT z.jk Bt Ax,Ae 5 1 (I z.ip z.jv z.jC) z.jv (bv il),Ae 3 1 (I C.p C.n C.c) C.n (Aq Bm As)]) w [Ay Q z C f Au B,AN z.AU (Av+1) (CF Z p x),Ap Tryz.prog 3 Am BT z.jk Bt Ax,Ae 5 1 (I z.ip z.jv z.jC) z.jv (bv il),Ae 3 1 (I C.p C.n C.c) C.n (Aq Bm As)] W:=by
 obtain⟨j,V,X⟩:=j
 obtain⟨m,Y,aa⟩:=m
 have t:il.length=z.jv:=De (g.at_ 3 _ D)
 refine Cb g Ll D 68 fun F u=>Je<|Jh<|U<|Cv D fun y=>M ?_
 refine ET (by omega) D D<|M ?_
 refine U<|Cx Mh D [1] (H1:=[Ay Q z C f Au B]) (fun w g=>LO Q z C f Au B p w g)<|U<|?_
 refine Ba E4 D (fun w d=>Lp p _ _ (AI il p) w ((LY 4 p t (by omega)) w d) En o) fun _ e W d ⟨A,H,he,K,J⟩=>⟨_,_,he,d.own K J,?_⟩
 refine Jd D<|Bc D D<|Bc D D<|Bc D D<|M ?_
 refine Ci D D D<|M ?_
 refine Gi (by omega) D D<|M ?_
 refine U<|?_
 refine Ba Ma D (fun w d=>dT ((BZ 0) w d) D q) fun _ e W d ⟨x,L,he,N,J⟩=>⟨_,_,he,d.own N J,?_⟩
 refine Jd D<|Bc D D<|Bc D D<|U<|Bw [[E 0],[E 0],[E 0],[E 0],[E 0],Ak 32,Ak 32,Ak 32,[I none 0 0]] fun P=>U<|Bk 0 0 9 D D D<|?_
 refine M ?_
 refine EU D D D<|M ?_
 refine DD 6<|zs (AA D)<|zs (Bp D)<|zs (AS C2 6 D)<|zs (Bb FN 4 6 D D D)<|zs (AA D)<|zs (BN B7 0 D D)<|CS<|U<|g8 1 5 [0,2,3,4,6,7,8] (H2:=[O P [[E x.kd],[E x.l],[E x.r],[E x.lc],[E x.rc],bv x.ls.l,bv x.rs.l,bv x.k.l,[I x.s.p x.s.v.length x.s.c]] 99,Ae 5 1 (I A ((G.load (AI il p)).length) H) ((G.load (AI il p)).length) (bv (G.load (AI il p))),O y [] 193,Ay Q z C f Au B,Ap Tryz.prog 3 Am BT z.jk Bt Ax,Ae 5 1 (I z.ip z.jv z.jC) z.jv (bv il),Ae 3 1 (I C.p C.n C.c) C.n (Aq Bm As)]) FN (a:=p) (x:=x) D D D D D D (by omega) (by unfold maxLen;omega)<|A7 ?_
 intro W d
 subst u
 exact⟨x,L,D,d.pick [4,0,5,6,7]⟩
theorem gN(w:World):Calls Tryz.prog 46 #[] w fun e W=>e=.returned (Value.agg (flat [[Value.iface 192 (Value.agg (flat []))],[Value.iface 193 (Value.agg (flat []))]]))∧Below w.heap.size w W:=by
 refine Cg w V6 D 6<|Je<|Jh<|U<|Bw [[Value.nilIface],[Value.nilIface]] fun c=>M ?_
 refine Af (fun _ _ a b=>Cs a (BH:=[]) D (v:=Value.agg (flat [])) (run_build _ _ _ _ (by kernel_rfl)))<|Af (Qx D)<|Af (fun _ _ a b=>Cs a (BH:=[]) D (v:=Value.agg (flat [])) (run_build _ _ _ _ (by kernel_rfl)))<|Af (Qx D)<|Af (fun _ _ a b=>Cs a (BH:=[(0,(Value.iface 192 (Value.agg (flat [])))),(1,(Value.iface 193 (Value.agg (flat []))))]) D (v:=Value.agg (flat [[Value.iface 192 (Value.agg (flat []))],[Value.iface 193 (Value.agg (flat []))]])) (run_build _ _ _ _ (by kernel_rfl)))<|U<|Bk 0 0 2 D D D<|?_
 refine Jg<|Jf<|Jq<|Fq Nl 0 D D fun W b=>?_
 exact⟨D,b.A0⟩
def IT(il:List UInt8)(p:Nat):Bool:=match G.CW p (AI il p)with|.no=>false|_=>true
inductive Mb (il:List UInt8) (p:Nat) (C:BX) (Av Bt:Nat) (Z:Nat→Option Bf) (Ax:Nat→Option B9) (As:List Nat):BX→Nat→Nat→(Nat→Option Bf)→(Nat→Option B9)→List Nat→Prop
 |slot:p<2→Mb il p C Av Bt Z Ax As C Av Bt Z Ax As
 |SB (x:Bf):2≤p→G.CW p (AI il p)=.nd x.AW→Mb il p C Av Bt Z Ax As C (Av+1) Bt (CF Z p x) Ax As
 |TO (EY:BX) (Ah:B9):2≤p→G.CW p (AI il p)=.rc Ah→EY.n=C.n+1→Mb il p C Av Bt Z Ax As EY Av (Bt+1) Z (CF Ax p Ah) (As++[p])
theorem h6(Q:Nat)(z:Dl)(C b Au B:BX)(p Av Bt:Nat)(Z:Nat→Option Bf)(Ax:Nat→Option B9)(il:List UInt8)(As:List Nat)(w:World)(g:BE [Ay Q z C b Au B,AN z.AU Av Z,Ap Tryz.prog 3 Am BT z.jk Bt Ax,Ae 5 1 (I z.ip z.jv z.jC) z.jv (bv il),Ae 3 1 (I C.p C.n C.c) C.n (Aq Bm As)] w)(i:(p+1)*256≤z.jv∧z.jv≤z.jC∧p≤4095)(j:Av≤4096∧Bt≤4096∧C.n≤4096)(l:2≤p)(hl:IT il p=false):Calls Tryz.prog 235 #[Value.agg (flat []),S Q,E p] w fun e W=>∃k:Nat,k≠0∧e=.returned (E k)∧Sat (A6 [Ay Q z C b Au B,AN z.AU Av Z,Ap Tryz.prog 3 Am BT z.jk Bt Ax,Ae 5 1 (I z.ip z.jv z.jC) z.jv (bv il),Ae 3 1 (I C.p C.n C.c) C.n (Aq Bm As)]) w [Ay Q z C b Au B,AN z.AU Av Z,Ap Tryz.prog 3 Am BT z.jk Bt Ax,Ae 5 1 (I z.ip z.jv z.jC) z.jv (bv il),Ae 3 1 (I C.p C.n C.c) C.n (Aq Bm As)] W:=by
 cases d:Fr.CZ p (AI il p)with
 |false=>exact iJ Q z C b Au B p Av Bt Z Ax il As w g i j l d
 |true=>
  unfold IT G.CW at hl
  rw[if_pos d]at hl
  by_cases f:((AI il p).getD 0 0).toNat=3
  ·rw[if_pos f]at hl
   cases hr:G.record (G.load (AI il p))with
   |none=>exact an Q z C b Au B p Av Bt Z Ax il As w g i j l d f hr
   |some Ah=>rw[hr]at hl;cases hl
  ·rw[if_neg f]at hl
   cases o:G.node ((AI il p).getD 0 0).toNat (G.load (AI il p))with
   |none=>exact gl Q z C b Au B p Av Bt Z Ax il As w g i j l d f o
   |some n=>rw[o]at hl;cases hl
theorem fe(Q:Nat)(z:Dl)(C g Au B:BX)(p Av Bt:Nat)(Z:Nat→Option Bf)(Ax:Nat→Option B9)(il:List UInt8)(As:List Nat)(w:World)(j:BE [Ay Q z C g Au B,AN z.AU Av Z,Ap Tryz.prog 3 Am BT z.jk Bt Ax,Ae 5 1 (I z.ip z.jv z.jC) z.jv (bv il),Ae 3 1 (I C.p C.n C.c) C.n (Aq Bm As)] w)(l:(p+1)*256≤z.jv∧z.jv≤z.jC∧p≤4095)(m:Av≤4096∧Bt≤4096∧C.n≤4096)(hl:p<2∨IT il p=true):Calls Tryz.prog 235 #[Value.agg (flat []),S Q,E p] w fun e W=>∃EY s t Kf Ks Kv,e=.returned (E 0)∧Mb il p C Av Bt Z Ax As EY s t Kf Ks Kv∧Sat (A6 [Ay Q z C g Au B,AN z.AU Av Z,Ap Tryz.prog 3 Am BT z.jk Bt Ax,Ae 5 1 (I z.ip z.jv z.jC) z.jv (bv il),Ae 3 1 (I C.p C.n C.c) C.n (Aq Bm As)]) w [Ay Q z EY g Au B,AN z.AU s Kf,Ap Tryz.prog 3 Am BT z.jk t Ks,Ae 5 1 (I z.ip z.jv z.jC) z.jv (bv il),Ae 3 1 (I EY.p EY.n EY.c) EY.n (Aq Bm Kv)] W:=by
 by_cases o:p<2
 ·exact(fT Q z C g Au B p Av Bt Z Ax il As w j l m o).mono (fun e W ⟨he,q⟩=>⟨C,Av,Bt,Z,Ax,As,he,.slot o,q⟩)
 ·have hl:=hl.resolve_left o
  unfold IT at hl
  cases i:G.CW p (AI il p)with
  |no=>rw[i]at hl;cases hl
  |nd n=>
   have a:=i
   unfold G.CW at a
   cases d:Fr.CZ p (AI il p)with
   |false=>rw[d]at a;cases a
   |true=>
    rw[if_pos d]at a
    by_cases f:((AI il p).getD 0 0).toNat=3
    ·rw[if_pos f]at a
     cases hr:G.record (G.load (AI il p))with
     |none=>rw[hr]at a;cases a
     |some Ah=>rw[hr]at a;cases a
    ·rw[if_neg f]at a
     cases h:G.node ((AI il p).getD 0 0).toNat (G.load (AI il p))with
     |none=>rw[h]at a;cases a
     |some u=>
      rw[h]at a
      cases a
      refine(ai Q z C g Au B p Av Bt Z Ax il As w j l m (by omega) d f h).mono ?_
      rintro e W ⟨x,v,he,q⟩
      exact⟨C,Av+1,Bt,CF Z p x,Ax,As,he,.SB x (by omega) (by rw[v];exact i),q⟩
  |rc Ah=>
   have a:=i
   unfold G.CW at a
   cases d:Fr.CZ p (AI il p)with
   |false=>rw[d]at a;cases a
   |true=>
    rw[if_pos d]at a
    by_cases f:((AI il p).getD 0 0).toNat=3
    ·rw[if_pos f]at a
     cases hr:G.record (G.load (AI il p))with
     |none=>rw[hr]at a;cases a
     |some A=>
      rw[hr]at a
      cases a
      refine(aM Q z C g Au B p Av Bt Z Ax il As Ah w j l m (by omega) d f hr).mono ?_
      rintro e W ⟨EY,he,y,q⟩
      exact⟨EY,Av,Bt+1,Z,CF Ax p Ah,As++[p],he,.TO EY Ah (by omega) i y,q⟩
    ·rw[if_neg f]at a
     cases h:G.node ((AI il p).getD 0 0).toNat (G.load (AI il p))with
     |none=>rw[h]at a;cases a
     |some u=>rw[h]at a;cases a
end Go.Proofs.YtaapafoibofbjaaGreatDoor
namespace Go.Proofs.YtaapafoibofbjaaGreatDoor
variable {q:Nat}
def EB(il:List UInt8)(n p:Nat):Option G.Dh:=if 2≤p∧p<n then(match G.CW p (AI il p)with|.nd x=>some x|_=>none)else none
def Dy(il:List UInt8)(n p:Nat):Option B9:=if 2≤p∧p<n then(match G.CW p (AI il p)with|.rc r=>some r|_=>none)else none
def EA(il:List UInt8)(p:Nat):Bool:=decide (2≤p)&&(match G.CW p (AI il p)with|.rc _=>true|_=>false)
def A9(il:List UInt8)(n:Nat):List Nat:=(List.range n).filter (EA il)
def FC(il:List UInt8)(p:Nat):Bool:=if p<2 then Fr.CN ((AI il p).drop 64)else IT il p
structure E1 (il:List UInt8) (p:Nat) (Z:Nat→Option Bf) (Ax:Nat→Option B9) (As:List Nat):Prop where
 nd:∀q,(Z q).map Bf.AW=EB il p q
 rc:∀q,Ax q=Dy il p q
 ch:As=A9 il p
section
variable {il:List UInt8} {p:Nat} {Z Kf:Nat→Option Bf} {Ax Ks:Nat→Option B9} {As Kv:List Nat}
theorem E1.begin:E1 il 0 (fun _=>none) (fun _=>none) []:=⟨fun q=>by unfold EB;rw[if_neg (by omega)];rfl,fun q=>by unfold Dy;rw[if_neg (by omega)],D⟩
theorem Nj:A9 il (p+1)=A9 il p++(if EA il p=true then [p]else []):=by
 unfold A9
 rw[List.range_succ,List.filter_append]
 congr 1
 cases h:EA il p<;>simp[h]
theorem SF(h:q≠p):EB il (p+1) q=EB il p q:=by
 unfold EB
 by_cases h1:2≤q∧q<p
 ·rw[if_pos h1,if_pos ⟨h1.1,by omega⟩]
 ·rw[if_neg h1,if_neg (by omega)]
theorem Su(h:q≠p):Dy il (p+1) q=Dy il p q:=by
 unfold Dy
 by_cases h1:2≤q∧q<p
 ·rw[if_pos h1,if_pos ⟨h1.1,by omega⟩]
 ·rw[if_neg h1,if_neg (by omega)]
theorem YP:EB il p p=none:=by unfold EB;rw[if_neg (by omega)]
theorem Y9:Dy il p p=none:=by unfold Dy;rw[if_neg (by omega)]
theorem E1.skip(h:E1 il p Z Ax As)(b:p<2∨G.CW p (AI il p)=.no):E1 il (p+1) Z Ax As:=by
 have c:EB il (p+1) p=none:=by
  unfold EB
  rcases b with q|q
  ·rw[if_neg (by omega)]
  ·rw[q];split<;>rfl
 have d:Dy il (p+1) p=none:=by
  unfold Dy
  rcases b with q|q
  ·rw[if_neg (by omega)]
  ·rw[q];split<;>rfl
 have e:EA il p=false:=by
  unfold EA
  rcases b with q|q
  ·rw[decide_eq_false (by omega)];rfl
  ·rw[q,Bool.and_false]
 refine⟨fun q=>?_,fun q=>?_,?_⟩
 ·by_cases a:q=p
  ·subst a;rw[h.nd,YP,c]
  ·rw[h.nd,SF a]
 ·by_cases a:q=p
  ·subst a;rw[h.rc,Y9,d]
  ·rw[h.rc,Su a]
 ·rw[Nj,e,h.ch];simp
theorem E1.bad(h:E1 il p Z Ax As)(a:FC il p=false):E1 il (p+1) Z Ax As:=by
 refine h.skip ?_
 unfold FC at a
 by_cases b:p<2
 ·exact .inl b
 ·rw[if_neg b]at a
  unfold IT at a
  cases c:G.CW p (AI il p)with
  |no=>exact .inr D
  |nd x=>rw[c]at a;cases a
  |rc r=>rw[c]at a;cases a
theorem E1.step{C EY:BX}{Av Bt e f:Nat}(h:E1 il p Z Ax As)(hl:Mb il p C Av Bt Z Ax As EY e f Kf Ks Kv):E1 il (p+1) Kf Ks Kv:=by
 cases hl with
 |slot c=>exact h.skip (.inl c)
 |SB x c b=>
  have g:Dy il (p+1) p=none:=by unfold Dy;rw[b];split<;>rfl
  have d:EA il p=false:=by unfold EA;rw[b,Bool.and_false]
  refine⟨fun q=>?_,fun q=>?_,?_⟩
  ·unfold CF
   by_cases a:q=p
   ·subst a;rw[if_pos D];unfold EB;rw[if_pos ⟨c,by omega⟩,b];rfl
   ·rw[if_neg a,h.nd,SF a]
  ·by_cases a:q=p
   ·subst a;rw[h.rc,Y9,g]
   ·rw[h.rc,Su a]
  ·rw[Nj,d,h.ch];simp
 |TO _ Ah c b j=>
  have i:EB il (p+1) p=none:=by unfold EB;rw[b];split<;>rfl
  have d:EA il p=true:=by unfold EA;rw[b,decide_eq_true c];rfl
  refine⟨fun q=>?_,fun q=>?_,?_⟩
  ·by_cases a:q=p
   ·subst a;rw[h.nd,YP,i]
   ·rw[h.nd,SF a]
  ·unfold CF
   by_cases a:q=p
   ·subst a;rw[if_pos D];unfold Dy;rw[if_pos ⟨c,by omega⟩,b]
   ·rw[if_neg a,h.rc,Su a]
  ·rw[Nj,d,h.ch];rfl
end
section
variable {il:List UInt8} {p:Nat} {Z:Nat→Option Bf} {Ax:Nat→Option B9} {As:List Nat}
theorem UG{n:G.Dh}(h:G.CW q (AI il q)=.nd n):∃kd B1,G.node kd B1=some n:=by
 unfold G.CW at h
 split at h
 ·split at h
  ·split at h<;>cases h
  ·split at h
   ·rename_i b a
    cases h
    exact⟨_,_,a⟩
   ·cases h
 ·cases h
theorem TB{r:B9}(h:G.CW q (AI il q)=.rc r):∃B1,G.record B1=some r:=by
 unfold G.CW at h
 split at h
 ·split at h
  ·split at h
   ·rename_i a hr
    cases h
    exact⟨_,hr⟩
   ·cases h
  ·split at h<;>cases h
 ·cases h
theorem X2{p c:Nat}{s:Jc}(h:G.child p c s=true):p≤4096∧c≤4096∧(p=0→c=0):=by
 unfold G.child at h
 split at h
 ·rename_i a
  simp only[Bool.and_eq_true,decide_eq_true_eq]at h
  omega
 ·simp only[Bool.and_eq_true,decide_eq_true_eq]at h
  omega
theorem Zy{kd:Nat}{B1:List UInt8}{x:Bf}(h:G.node kd B1=some x.AW):Ge x:=by
 unfold G.node at h
 split at h
 ·split at h
  ·rename_i V
   have e:x.AW=⟨1,0,0,0,0,CU,CU,G.DF B1 0,B1.drop 32⟩:=(Option.some.inj h).symm
   have a:x.kd=1:=congrArg G.Dh.kd e
   have c:x.l=0:=congrArg G.Dh.l e
   have d:x.r=0:=congrArg G.Dh.r e
   have f:x.lc=0:=congrArg G.Dh.lc e
   have g:x.rc=0:=congrArg G.Dh.rc e
   have b:x.s.v=B1.drop 32:=congrArg G.Dh.val e
   exact⟨.inl a,by rw[b];omega,by omega,by omega,by omega,by omega,fun q=>by omega,fun _=>⟨c,d,f,g⟩⟩
  ·cases h
 ·split at h
  ·split at h
   ·rename_i J
    have e:=(Option.some.inj h).symm
    have a:x.kd=2:=congrArg G.Dh.kd e
    have c:x.l=G.BD B1 0:=congrArg G.Dh.l e
    have d:x.r=G.BD B1 4:=congrArg G.Dh.r e
    have f:x.lc=G.BD B1 8:=congrArg G.Dh.lc e
    have g:x.rc=G.BD B1 12:=congrArg G.Dh.rc e
    have b:x.s.v=[]:=congrArg G.Dh.val e
    unfold G.branch at J
    simp only[Bool.and_eq_true,decide_eq_true_eq]at J
    have i:=X2 J.1.1.1.1
    have c2:=X2 J.1.1.1.2
    exact⟨.inr a,by rw[b];exact Nat.zero_le _,by omega,by omega,by omega,by omega,fun _=>by omega,fun q=>by omega⟩
   ·cases h
  ·cases h
theorem bs{r:B9}(h:G.right r=true):O0 r:=by
 obtain⟨v,f,a,b,Ah,c,s⟩:=r
 rw[Zb]at h
 have h:=of_decide_eq_true h
 exact⟨by show v≤1099511627776;omega,by show f≤1099511627776;omega,by show Ah≤4096;omega,by show c≤4096;omega⟩
theorem E1.CM(h:E1 il p Z Ax As)(g:p≤4096):∀q x,Z q=some x→Ge x∧2≤q∧q≤4096:=by
 intro q x b
 have e:=h.nd q
 rw[b]at e
 unfold EB at e
 split at e
 ·rename_i c
  cases a:G.CW q (AI il q)with
  |nd n=>
   rw[a]at e
   have d:x.AW=n:=Option.some.inj e
   obtain⟨kd,B1,f⟩:=UG a
   exact⟨Zy (by rw[d];exact f),c.1,by omega⟩
  |no=>rw[a]at e;cases e
  |rc r=>rw[a]at e;cases e
 ·cases e
theorem E1.FJ(h:E1 il p Z Ax As):∀q x,Ax q=some x→O0 x:=by
 intro q x a
 rw[h.rc q]at a
 unfold Dy at a
 split at a
 ·cases b:G.CW q (AI il q)with
  |rc r=>
   rw[b]at a
   cases a
   obtain⟨B1,hr⟩:=TB b
   unfold G.record at hr
   split at hr
   ·split at hr
    ·rename_i h1
     cases hr
     exact bs h1
    ·cases hr
   ·cases hr
  |no=>rw[b]at a;cases a
  |nd n=>rw[b]at a;cases a
 ·cases a
theorem E1.mem(h:E1 il p Z Ax As)(b:q∈As):q<p∧2≤q∧∃x,Ax q=some x:=by
 rw[h.ch]at b
 unfold A9 at b
 obtain⟨h1,a⟩:=List.mem_filter.1 b
 have h1:=List.mem_range.1 h1
 unfold EA at a
 simp only[Bool.and_eq_true,decide_eq_true_eq]at a
 refine⟨h1,a.1,?_⟩
 cases c:G.CW q (AI il q)with
 |rc r=>exact⟨r,by rw[h.rc];unfold Dy;rw[if_pos ⟨a.1,h1⟩,c]⟩
 |no=>rw[c]at a;cases a.2
 |nd n=>rw[c]at a;cases a.2
end
end Go.Proofs.YtaapafoibofbjaaGreatDoor
