/- Laws and walks on the road to SalvagePlays (part M35). No conditions beyond each law's own. -/
import Derived.Test.YtjdboncaegphmaaGreatDoorM34
set_option linter.unusedVariables false
namespace Go.Proofs.YtjdboncaegphmaaGreatDoor
open Go.RowKit
set_option maxRecDepth 100000
set_option maxHeartbeats 2000000
def AI(il:rG)(p:Nat):List UInt8:=(il.drop (p*256)).take 256
theorem NR{il:rG}{p:Nat}:(il.drop (p*256)).take ((p+1)*256 - p*256)=AI il p:=by unfold AI;rw[show(p+1)*256 - p*256=256 by omega]
theorem Vp(Q:Nat)(z:Dl)(C d Au B:BX)(p:Nat)(il:rG)(w:World)(f:BE [Ay Q z C d Au B,Ae 5 1 (I z.ip z.uX z.uY) z.uX (bv il)] w)(j:(p+1)*256≤z.uX∧z.uX≤z.uY∧p≤4096):Calls Tryz.prog 236 #[Value.agg (flat []),S Q,E p] w fun e W=>e=.returned (E (if p<2∧Fr.CN ((AI il p).drop 64)=false then 53 else 0))∧Sat (A6 [Ay Q z C d Au B,Ae 5 1 (I z.ip z.uX z.uY) z.uX (bv il)]) w [Ay Q z C d Au B,Ae 5 1 (I z.ip z.uX z.uY) z.uX (bv il)] W:=by
 obtain⟨j,m,n⟩:=j;have o:il.length=z.uX:=De (f.at_ 1 _ D);refine Cb f Ma D 18 fun F hF=>Je<|Jh<|U<|Cv D fun r=>K ?_;refine GV D D (fun k=>?_) fun k=>?_
 ·
  refine K ?_;refine U<|Cx j4 D [1] (H1:=[Ay Q z C d Au B]) (fun w f=>Ya Q z C d Au B p w f JY)<|Jj D D D<|Af (Fi A3 64 ((p+1)*256 - p*256) (Db (p*256) ((p+1)*256) (BZ 2) D) D (.some D) .none)<|Jj D D D<|U<|Ba K7 D (fun w a=>eZ _ _ _ (((il.drop (p*256)).take ((p+1)*256 - p*256)).drop 64) w ((Db 64 ((p+1)*256 - p*256) (Db (p*256) ((p+1)*256) (BZ 2) D) (DV (by rw[J3];have:((il.drop (p*256)).take ((p+1)*256 - p*256)).length=((p+1)*256 - p*256):=(by simp only[FX,J3];omega);omega))) w a) (by have:((il.drop (p*256)).take ((p+1)*256 - p*256)).length=((p+1)*256 - p*256):=(by simp only[FX,J3];omega);simp only[J3];omega)) fun _ e W a ⟨s,t,u,he,i,J⟩=>⟨_,_,he,a.below J,?_⟩
  refine Jj D D D<|Cr B7 D<|Jj D D D<|Kl D D (fun l=>?_) fun l=>?_
  ·
   refine A7 ?_;intro W a;subst hF;exact⟨congrArg (fun q=>Ending.returned (E q)) (Eq.symm (if_pos ⟨JY,by rw[←NR];exact gC.2 (fun h=>by have:=i.2 h;omega)⟩)),a.pick [1,2]⟩
  refine A7 ?_;intro W a;subst hF;exact⟨congrArg (fun q=>Ending.returned (E q)) (Eq.symm (if_neg (fun⟨h1,c⟩=>by first|omega|(rw[←NR]at c;have:=i.1 JY;rw[this]at c;cases c)))),a.pick [1,2]⟩
 refine A7 ?_;intro W a;subst hF;exact⟨congrArg (fun q=>Ending.returned (E q)) (Eq.symm (if_neg (fun⟨h1,c⟩=>by first|omega|(rw[←NR]at c;have:=i.1 JY;rw[this]at c;cases c)))),a.pick [1,2]⟩
theorem En{il:rG}{p:Nat}(h:(p+1)*256≤il.length:=by omega):(AI il p).length=256:=by unfold AI;rw[FX,J3];omega
theorem LY{F:Nat→Prop}{w0:World}{H:List Atom}{z:Dl}{il:rG}(i p:Nat)(e:il.length=z.uX)(f:(p+1)*256≤z.uX)(V:H[i]? =some (Ae 5 1 (I z.ip z.uX z.uY) z.uX (bv il)):=by exact rfl):∀w,Sat F w0 H w→View w (.slice (sp z.ip (p*256) z.uY 1) 256 (z.uY - p*256)) 256 1 (bv (AI il p)):=fun w d=>by
 have h:=(Db (n:=z.uX) (c:=z.uY) (m:=il) (p*256) ((p+1)*256) (BZ i V) (NR (il:=il) (p:=p)) JY JY) w d;rw[show(p+1)*256 - p*256=256 by omega]at h;exact h
theorem LO(Q:Nat)(z:Dl)(C a Au B:BX)(p:Nat)(w:World)(c:BE [Ay Q z C a Au B] w)(d:(p+1)*256≤z.uY∧p≤4096:=by omega):Calls Tryz.prog 128 #[S Q,E p] w fun e W=>e=.returned (I (sp z.ip (p*256) z.uY 1) 256 (z.uY - p*256))∧Sat (A6 [Ay Q z C a Au B]) w [Ay Q z C a Au B] W:=by
 have h:=Ya Q z C a Au B p w c d;rw[show(p+1)*256 - p*256=256 by omega]at h;exact h
theorem g8{Aa:Exit→Act→World→Prop}{N:Nat}{f:BW}{ty:TypeId}{pos:String}{An:Array Edge}{g:Option (Nat×Bool)}{F:Nat→Prop}{w0:World}{H:List Atom}{A5:Act→World→Prop}(i j:Nat)(BI:List Nat){H2:List Atom}{t:TypeId}(O:Tryz.prog.underlying t=some (.map 3 138)){b n a:Nat}{Z:Nat→Option Bf}{x:Bf}(V:H[i]? =some (Ae 5 1 x.s.val x.s.v.length (bv x.s.v)))(hj:H[j]? =some (AN b n Z))(e:BI.map (fun i=>H[i]?)=H2.map some){m k y:Operand}(P:Aj f m=some (.map (some b)))(o:Aj f k=some (Am a))(Q:Aj f y=some (J6 x))(R:a≤4611686018427387904)(C:n<maxLen)(h:AT N f F w0 (AN b (n+1) (CF Z a x)::H2) A5)(Ad:(i::j::BI).Nodup:=by decide):D3 Tryz.prog ⟨none,.mapUpdate t m k y,ty,pos,An,g⟩ Aa N f F w0 H A5:=fun ae w B S=>by
 have E:Sat F w0 ([Ae 5 1 x.s.val x.s.v.length (bv x.s.v),AN b n Z]++H2) w:=S.pick (i::j::BI) (by rw[Zv,Zv,V,hj,e];rfl) Ad;have hm:=E.at_ 1 _ D;have hr:=E.at_ 0 _ D;obtain⟨W,T,U,d⟩:=hm.1.Jb Fg Fe O C (Fb (n:=a) R) x;have AU:∀(y:Bf),w.ownsRow 0 5 1 y.s.val y.s.v.length (bv y.s.v)→∀q,y.s.val.ownBlock=some q→q≠b:=by
  intro y ho q l r;subst r;obtain⟨es,clock,J, -⟩:=hm.1
  rcases ho.2 with⟨h1, -⟩|⟨af,cap,cur,h1, -,K, -⟩
  ·rw[h1]at l;cases l
  ·rw[h1]at l;cases l;rw[J]at K;cases K
 have kept:∀(y:Bf),w.ownsRow 0 5 1 y.s.val y.s.v.length (bv y.s.v)→W.ownsRow 0 5 1 y.s.val y.s.v.length (bv y.s.v):=fun y ho=>
  (Ae 5 1 y.s.val y.s.v.length (bv y.s.v)).loc w W ho d.size (fun q l=>d.block q ((Ae 5 1 y.s.val y.s.v.length (bv y.s.v)).lt w ho q l) (fun r=>AU y ho q l (by cases r;rfl)))
 have q:Sat (A6 [Ae 5 1 x.s.val x.s.v.length (bv x.s.v),AN b n Z]) w [AN b (n+1) (CF Z a x)] W:=by
  have X:(AN b (n+1) (CF Z a x)).holds W:=⟨U,fun u G h1=>by
   unfold CF at h1
   by_cases z:u=a
   ·rw[if_pos z]at h1;cases h1;exact kept _ hr
   ·rw[if_neg z]at h1;exact kept _ (hm.2 u G h1)⟩
  have Y:∀k,(AN b (n+1) (CF Z a x)).u1 k→A6 [Ae 5 1 x.s.val x.s.v.length (bv x.s.v),AN b n Z] k:=by
   rintro k (rfl|⟨u,G,h1,L⟩)
   ·exact K4.2 (.inr (.inl D))
   ·unfold CF at h1
    by_cases z:u=a
    ·rw[if_pos z]at h1;cases h1;exact K4.2 (.inl L)
    ·rw[if_neg z]at h1;exact K4.2 (.inr (.inr ⟨u,G,h1,L⟩))
  refine⟨⟨d.os,d.tape,d.output,d.size,fun k o C=>d.block k o (fun r=>C (by cases r;exact K4.2 (.inr (.inl D))))⟩,?_,?_,?_⟩
  ·intro p A c
   match p,c with
   |0,c=>cases c;exact X
   |p+1,c=>simp at c
  ·intro p A c k o
   match p,c with
   |0,c=>cases c;exact .inl (Y k o)
   |p+1,c=>simp at c
  ·intro p M A A' aa c I
   match p,M,c,I with
   |0,0,_,_=>exact absurd D aa
   |p+1,_,c,_=>simp at c
   |0,M+1,_,I=>simp at I
 refine Pg (w':=W) B ?_ (fun ab ad=>h ab W ad (Sat.call (Gm:=[AN b (n+1) (CF Z a x)]) E q));simp[execOp,B.A_ P,B.A_ o,B.A_ Q,T]
theorem fT(Q:Nat)(z:Dl)(C a Au B:BX)(p Av Bt:Nat)(Z:Nat→Option Bf)(Ax:Nat→Option B9)(il:rG)(As:List Nat)(w:World)(b:BE (Ay Q z C a Au B::AN z.AU Av Z::tL z Bt Ax il C As) w)(c:(p+1)*256≤z.uX∧z.uX≤z.uY∧p≤4095)(f:Av≤4096∧Bt≤4096∧C.n≤4096)(i:p<2):Calls Tryz.prog 251 #[Value.agg (flat []),S Q,E p] w fun e W=>e=.returned (E 0)∧Sat (A6 (Ay Q z C a Au B::AN z.AU Av Z::tL z Bt Ax il C As)) w (Ay Q z C a Au B::AN z.AU Av Z::tL z Bt Ax il C As) W:=by
 obtain⟨c,j,k⟩:=c;obtain⟨f,l,m⟩:=f;have o:il.length=z.uX:=De (b.at_ 3 _ D);refine Cb b js D 68 fun F hF=>Je<|Jh<|U<|Cv D fun q=>K ?_;refine IS JY D D<|A7 ?_;intro W g;subst hF;exact⟨D,g.pick [1,2,3,4,5]⟩
theorem iJ(Q:Nat)(z:Dl)(C a Au B:BX)(p Av Bt:Nat)(Z:Nat→Option Bf)(Ax:Nat→Option B9)(il:rG)(As:List Nat)(w:World)(c:BE (Ay Q z C a Au B::AN z.AU Av Z::tL z Bt Ax il C As) w)(d:(p+1)*256≤z.uX∧z.uX≤z.uY∧p≤4095)(g:Av≤4096∧Bt≤4096∧C.n≤4096)(m:2≤p)(h:Fr.CZ p (AI il p)=false):Calls Tryz.prog 251 #[Value.agg (flat []),S Q,E p] w fun e W=>∃k:Nat,k≠0∧e=.returned (E k)∧Sat (A6 (Ay Q z C a Au B::AN z.AU Av Z::tL z Bt Ax il C As)) w (Ay Q z C a Au B::AN z.AU Av Z::tL z Bt Ax il C As) W:=by
 obtain⟨d,o,q⟩:=d;obtain⟨g,r,s⟩:=g;have i:il.length=z.uX:=De (c.at_ 3 _ D);refine Cb c js D 68 fun F hF=>Je<|Jh<|U<|Cv D fun t=>K ?_;refine ET JY D D<|K ?_;refine U<|Cx j4 D [1] (H1:=[Ay Q z C a Au B]) (fun w c=>LO Q z C a Au B p w c)<|U<|Ba SU D (fun w b=>Xl p _ _ (AI il p) w ((LY 4 p i JY) w b) En h) fun _ e W b ⟨j,u,he,J⟩=>⟨_,_,he,b.below J,?_⟩
 refine Jd D<|Bc D D<|Bc D D<|Bc D D<|K ?_;refine Ix JY D D<|A7 ?_;intro W b;subst hF;exact⟨j,by first|decide|assumption,D,b.pick [1,2,3,4,5]⟩
theorem an(Q:Nat)(z:Dl)(C b Au B:BX)(p Av Bt:Nat)(Z:Nat→Option Bf)(Ax:Nat→Option B9)(il:rG)(As:List Nat)(w:World)(c:BE (Ay Q z C b Au B::AN z.AU Av Z::tL z Bt Ax il C As) w)(d:(p+1)*256≤z.uX∧z.uX≤z.uY∧p≤4095)(g:Av≤4096∧Bt≤4096∧C.n≤4096)(m:2≤p)(h:Fr.CZ p (AI il p)=true)(o:((AI il p).getD 0 0).toNat=3)(hr:G.record (G.load (AI il p))=none):Calls Tryz.prog 251 #[Value.agg (flat []),S Q,E p] w fun e W=>∃k:Nat,k≠0∧e=.returned (E k)∧Sat (A6 (Ay Q z C b Au B::AN z.AU Av Z::tL z Bt Ax il C As)) w (Ay Q z C b Au B::AN z.AU Av Z::tL z Bt Ax il C As) W:=by
 obtain⟨d,r,s⟩:=d;obtain⟨g,t,u⟩:=g;have i:il.length=z.uX:=De (c.at_ 3 _ D);refine Cb c js D 68 fun F hF=>Je<|Jh<|U<|Cv D fun v=>K ?_;refine ET JY D D<|K ?_;refine U<|Cx j4 D [1] (H1:=[Ay Q z C b Au B]) (fun w c=>LO Q z C b Au B p w c)<|U<|Ba SU D (fun w a=>Lp p _ _ (AI il p) w ((LY 4 p i JY) w a) En h) fun _ e W a ⟨x,y,he,j,J⟩=>⟨_,_,he,a.own j J,?_⟩
 refine Jd D<|Bc D D<|Bc D D<|Bc D D<|K ?_;refine Ci D D D<|K ?_;refine EU JY D D<|K ?_;refine U<|BP PM D (fun w a=>(MV ((BZ 0) w a) D).mono (fun e W q=>⟨q.1.trans (by rw[hr]),q.2⟩))<|Jd D<|Bc D D<|Bc D D<|U<|Bw Yc fun A=>U<|Bk 0 0 7 D D D<|?_;refine K ?_;refine Gi JZ D D<|A7 ?_;intro W a;subst hF;exact⟨150,by first|decide|assumption,D,a.pick [3,4,5,6,7]⟩
theorem aM(Q:Nat)(z:Dl)(C d Au B:BX)(p Av Bt:Nat)(Z:Nat→Option Bf)(Ax:Nat→Option B9)(il:rG)(As:List Nat)(Ah:B9)(w:World)(f:BE (Ay Q z C d Au B::AN z.AU Av Z::tL z Bt Ax il C As) w)(h:(p+1)*256≤z.uX∧z.uX≤z.uY∧p≤4095)(i:Av≤4096∧Bt≤4096∧C.n≤4096)(t:2≤p)(k:Fr.CZ p (AI il p)=true)(v:((AI il p).getD 0 0).toNat=3)(hr:G.record (G.load (AI il p))=some Ah):Calls Tryz.prog 251 #[Value.agg (flat []),S Q,E p] w fun e W=>∃EY,e=.returned (E 0)∧EY.n=C.n+1∧Sat (A6 (Ay Q z C d Au B::AN z.AU Av Z::tL z Bt Ax il C As)) w [Ay Q z EY d Au B,AN z.AU Av Z,Ap Tryz.prog 3 Am BT z.uL (Bt+1) (CF Ax p Ah),Ae 5 1 (I z.ip z.uX z.uY) z.uX (bv il),Ae 3 1 (I EY.p EY.n EY.c) EY.n (Aq Bm (As++[p]))] W:=by
 obtain⟨h,y,A⟩:=h;obtain⟨i,H,L⟩:=i;have l:il.length=z.uX:=De (f.at_ 3 _ D);refine Cb f js D 68 fun F hF=>Je<|Jh<|U<|Cv D fun M=>K ?_;refine ET JY D D<|K ?_;refine U<|Cx j4 D [1] (H1:=[Ay Q z C d Au B]) (fun w f=>LO Q z C d Au B p w f)<|U<|Ba SU D (fun w b=>Lp p _ _ (AI il p) w ((LY 4 p l JY) w b) En k) fun _ e W b ⟨N,O,he,o,J⟩=>⟨_,_,he,b.own o J,?_⟩
 refine Jd D<|Bc D D<|Bc D D<|Bc D D<|K ?_;refine Ci D D D<|K ?_;refine EU JY D D<|K ?_;refine U<|BP PM D (fun w b=>(MV ((BZ 0) w b) D).mono (fun e W q=>⟨q.1.trans (by rw[hr]),q.2⟩))<|Jd D<|Bc D D<|Bc D D<|U<|Bw Yc fun P=>U<|Bk 0 0 7 D D D<|?_;refine K ?_;refine EU D D D<|K ?_;refine DD 6<|zs (AA D)<|zs (Bp D)<|zs (AS Kp 7 D)<|zs (Bb PH 3 7 D D D)<|zs (AA D)<|zs (BN sP 0 D D)<|CS<|U<|KS 5 PH D Fg Fe (a:=p) (Fb JY) (u:=Ah) D D D<|K ?_;refine By D<|AG Kp 8 D<|AZ Lc 3 8 D D D<|Jd D<|U<|Ey G0 (Aq Bm [p]) D D D fun R=>U<|DI (m:=1) G0 8 (Aq Bm (As++([p]))) D D D (BZ 0) (HJ TR _) (H0 Gj D) D fun r s=>By D<|AG Kp 8 D<|U<|Cq 4 8 D D D<|?_;refine A7 ?_;intro W b;subst hF;exact⟨⟨r,C.n+1,s⟩,D,D,b.pick [4,5,6,7,8]⟩
theorem gl(Q:Nat)(z:Dl)(C b Au B:BX)(p Av Bt:Nat)(Z:Nat→Option Bf)(Ax:Nat→Option B9)(il:rG)(As:List Nat)(w:World)(c:BE (Ay Q z C b Au B::AN z.AU Av Z::tL z Bt Ax il C As) w)(d:(p+1)*256≤z.uX∧z.uX≤z.uY∧p≤4095)(g:Av≤4096∧Bt≤4096∧C.n≤4096)(o:2≤p)(h:Fr.CZ p (AI il p)=true)(q:¬((AI il p).getD 0 0).toNat=3)(i:G.node ((AI il p).getD 0 0).toNat (G.load (AI il p))=none):Calls Tryz.prog 251 #[Value.agg (flat []),S Q,E p] w fun e W=>∃k:Nat,k≠0∧e=.returned (E k)∧Sat (A6 (Ay Q z C b Au B::AN z.AU Av Z::tL z Bt Ax il C As)) w (Ay Q z C b Au B::AN z.AU Av Z::tL z Bt Ax il C As) W:=by
 obtain⟨d,r,s⟩:=d;obtain⟨g,t,u⟩:=g;have j:il.length=z.uX:=De (c.at_ 3 _ D);refine Cb c js D 68 fun F hF=>Je<|Jh<|U<|Cv D fun v=>K ?_;refine ET JY D D<|K ?_;refine U<|Cx j4 D [1] (H1:=[Ay Q z C b Au B]) (fun w c=>LO Q z C b Au B p w c)<|U<|Ba SU D (fun w a=>Lp p _ _ (AI il p) w ((LY 4 p j JY) w a) En h) fun _ e W a ⟨x,y,he,l,J⟩=>⟨_,_,he,a.own l J,?_⟩
 refine Jd D<|Bc D D<|Bc D D<|Bc D D<|K ?_;refine Ci D D D<|K ?_;refine Gi JY D D<|K ?_;refine U<|Ba jR D (fun w a=>ef ((BZ 0) w a) D i) fun _ e W a ⟨he,J⟩=>⟨_,_,he,a.below J,?_⟩
 refine Jd D<|Bc D D<|Bc D D<|U<|Bw VF fun A=>U<|Bk 0 0 9 D D D<|?_;refine K ?_;refine Gi JZ D D<|A7 ?_;intro W a;subst hF;exact⟨90,by first|decide|assumption,D,a.pick [3,4,5,6,7]⟩
theorem ai(Q:Nat)(z:Dl)(C c Au B:BX)(p Av Bt:Nat)(Z:Nat→Option Bf)(Ax:Nat→Option B9)(il:rG)(As:List Nat){n:G.Dh}(w:World)(d:BE (Ay Q z C c Au B::AN z.AU Av Z::tL z Bt Ax il C As) w)(f:(p+1)*256≤z.uX∧z.uX≤z.uY∧p≤4095)(h:Av≤4096∧Bt≤4096∧C.n≤4096)(v:2≤p)(i:Fr.CZ p (AI il p)=true)(y:¬((AI il p).getD 0 0).toNat=3)(j:G.node ((AI il p).getD 0 0).toNat (G.load (AI il p))=some n):Calls Tryz.prog 251 #[Value.agg (flat []),S Q,E p] w fun e W=>∃x:Bf,x.AW=n∧e=.returned (E 0)∧Sat (A6 (Ay Q z C c Au B::AN z.AU Av Z::tL z Bt Ax il C As)) w (Ay Q z C c Au B::AN z.AU (Av+1) (CF Z p x)::tL z Bt Ax il C As) W:=by
 obtain⟨f,A,H⟩:=f;obtain⟨h,L,M⟩:=h;have k:il.length=z.uX:=De (d.at_ 3 _ D);refine Cb d js D 68 fun F hF=>Je<|Jh<|U<|Cv D fun l=>K ?_;refine ET JY D D<|K ?_;refine U<|Cx j4 D [1] (H1:=[Ay Q z C c Au B]) (fun w d=>LO Q z C c Au B p w d)<|U<|Ba SU D (fun w b=>Lp p _ _ (AI il p) w ((LY 4 p k JY) w b) En i) fun _ e W b ⟨m,o,he,q,J⟩=>⟨_,_,he,b.own q J,?_⟩
 refine Jd D<|Bc D D<|Bc D D<|Bc D D<|K ?_;refine Ci D D D<|K ?_;refine Gi JY D D<|K ?_;refine U<|Ba jR D (fun w b=>dT ((BZ 0) w b) D j) fun _ e W b ⟨x,r,he,s,J⟩=>⟨_,_,he,b.own s J,?_⟩
 refine Jd D<|Bc D D<|Bc D D<|U<|Bw VF fun t=>U<|Bk 0 0 9 D D D<|?_;refine K ?_;refine EU D D D<|K ?_;refine DD 6<|zs (AA D)<|zs (Bp D)<|zs (AS Kp 6 D)<|zs (Bb tr 4 6 D D D)<|zs (AA D)<|zs (BN Bv 0 D D)<|CS<|U<|g8 1 5 [0,2,3,4,6,7,8] (H2:=(O t (Xz x) 138::Ae 5 1 (I m ((G.load (AI il p)).length) o) ((G.load (AI il p)).length) (bv (G.load (AI il p)))::O l [] 252::Ay Q z C c Au B::tL z Bt Ax il C As)) tr (a:=p) (x:=x) D D D D D D JY (by unfold maxLen;omega)<|A7 ?_;intro W b;subst hF;exact⟨x,r,D,b.pick [4,0,5,6,7]⟩
