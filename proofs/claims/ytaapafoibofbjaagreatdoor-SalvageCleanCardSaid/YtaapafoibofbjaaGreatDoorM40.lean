/- Laws and walks on the road to SalvageClean (part M40). No conditions beyond each law's own. -/
import Derived.Test.YtaapafoibofbjaaGreatDoorM01
import Derived.Test.YtaapafoibofbjaaGreatDoorM28
import Derived.Test.YtaapafoibofbjaaGreatDoorM35
import Derived.Test.YtaapafoibofbjaaGreatDoorM39
import Derived.Test.YtaapafoibofbjaaGreatDoorM33
import Derived.Test.YtaapafoibofbjaaGreatDoorM34
import Derived.Test.YtaapafoibofbjaaGreatDoorM38
set_option linter.unusedVariables false
namespace Go.Proofs.YtaapafoibofbjaaGreatDoor
open Go.RowKit
set_option maxRecDepth 100000
set_option maxHeartbeats 1000000
variable {il:List UInt8} {p:Nat}
def LA(W:Nat)(nd:Nat→Option G.Dh)(rc:Nat→Option B9)(As:List Nat)(m h:Nat):Bool:=match G.EO W nd (fun p=>(rc p).getD G.DX) As As.length with
 |none=>false
 |some _=>!decide (max 1 (G.at_ As As.length)+1<m)&&!(decide (0<As.length)&&!decide (h=max 1 (G.at_ As As.length)))
def LR(il:List UInt8)(W m h:Nat):Prop:=(∀q,q<m→FC il q=true)∧LA W (EB il m) (Dy il m) (A9 il m) m h=true
theorem E1.whole{W m h:Nat}{Z:Nat→Option Bf}{Ax:Nat→Option B9}{As:List Nat}(a:E1 il p Z Ax As):La W Z Ax As m h=LA W (EB il p) (Dy il p) (A9 il p) m h:=by
 unfold La LA
 rw[show(fun p=>(Z p).map Bf.AW)=EB il p from funext a.nd,show Ax=Dy il p from funext a.rc,a.ch]
 rfl
theorem Mb.TH{Av Bt a b:Nat}{C EY:BX}{Z Kf:Nat→Option Bf}{Ax Ks:Nat→Option B9}{As Kv:List Nat}(h:Mb il p C Av Bt Z Ax As EY a b Kf Ks Kv):a≤Av+1∧b≤Bt+1∧EY.n≤C.n+1∧(p<2→EY.n=C.n):=by
 cases h with
 |slot=>omega
 |SB=>omega
 |TO _ _ _ _ h=>omega
theorem Un{d a:Nat}(h:a=d+1)(J:FC il p=false):(a=0↔∀q,q<p+1→FC il q=true):=⟨fun e=>by omega,fun q=>by rw[q p (by omega)]at J;cases J⟩
theorem eC{d:Nat}(h:d=0↔∀q,q<p→FC il q=true)(J:FC il p=true):(d=0↔∀q,q<p+1→FC il q=true):=⟨fun e q a=>(Nat.lt_or_ge q p).elim (h.1 e q) (fun z=>by rw[show q=p by omega];exact J),fun z=>h.2 (fun q a=>z q (by omega))⟩
theorem bK{N:Nat}{f:BW}{F:Nat→Prop}{w0:World}{H:List Atom}{K:Act→World→Prop}(i:Nat){b n:Nat}(c:H[i]? =some (Ap Tryz.prog 3 Am J6 b n (fun _=>none)))(h:AT N f F w0 (H.set i (AN b n (fun _=>none))) K):AT N f F w0 H K:=fun a w g d=>h a w g (d.set i c (C7.refl _ _) ⟨d.mp i c,fun a x e=>by cases e⟩ (fun j e=>.inl (by rcases e with e|⟨a,x,e,_⟩;exact e;cases e)))
theorem gm{N:Nat}{f:BW}{F:Nat→Prop}{w0:World}{H:List Atom}{K:Act→World→Prop}(W:Nat)(h:AT N f F w0 (A1 W AE::H) K):AT N f F w0 H K:=fun a w b c=>h a w b (c.new (Cn _ _) (.inl D) (fun k e=>by cases e))
attribute [local irreducible] G.through AL.bare G.version
theorem look_ok(q:Option Addr)(m c:Nat)(il:List UInt8)(P ab K T R:Nat)(w:World)(V:BE [Ae 5 1 (I q m c) m (bv il)] w)(A5:CG w)(aq:∀k,CB k→¬A6 [Ae 5 1 (I q m c) m (bv il)] k)(aR:m % 256=0)(aS:768≤m)(aT:m≤1048576)(aU:R=m/256)(aV:m≤c)(ar:Fr.choose (AI il 0) (AI il 1)=.ok ⟨P,ab,K,T,R⟩)(aW:P≤32)(aX:2≤K∧K≤R):Calls Tryz.prog 22 #[I q m c] w fun e W=>∃(Q:Nat) (z:Dl) (C au Au B:BX) (Av Bt:Nat) (Z:Nat→Option Bf) (Ax:Nat→Option B9) (As:List Nat) (Ce:List Kx),e=.returned (.tuple #[S Q,E 0])∧z.w=P∧z.m=K∧z.h=T∧z.p=R∧E1 il K Z Ax As∧(Au.n=0↔LR il P K T)∧Au.n≤1048576∧Av≤4096∧Bt≤4096∧Sat (A6 [Ae 5 1 (I q m c) m (bv il)]) w [Ay Q z C au Au B,AN z.AU Av Z,Ap Tryz.prog 3 Am BT z.jk Bt Ax,Ae 5 1 (I q m c) m (bv il)] W:=by
 have ak:∀F,A6 [Ae 5 1 (I q m c) m (bv il)]=F→∀k,CB k→¬F k:=fun F X k av q=>aq k av (X▸q)
 have al:il.length=m:=De (V.at_ 0 _ D)
 refine Cb V Ux D 85 fun F X=>M ?_
 refine Cr Co D<|Af (GG (q:=256) D D)<|Ci (by omega) D D<|M ?_
 refine Cr Co D<|Af (Iy (q:=256) D D)<|M ?_
 refine ET (by omega) D D<|M ?_
 refine HF (by omega) D D<|M ?_
 refine U<|K5 3 Am J6 fun H=>U<|K5 3 Am BT fun J=>Af (fun _ _ i d=>Cs i (BH:=[(0,(I q m c)),(2,(Value.map (some H))),(3,(Value.map (some J)))]) D (v:=Value.agg (flat [[I q m c],[E 0],[E 0],[E 0],[E 0],[E 0],[Value.map (some H)],[Value.map (some J)],[I none 0 0],[I none 0 0],[I none 0 0],[I none 0 0]])) (run_build _ _ _ _ (by kernel_rfl)))<|U<|Cv D fun Q=>M ?_
 refine U<|Cx Tryz.func45 D [0] (H1:=[O Q [[I q m c],[E 0],[E 0],[E 0],[E 0],[E 0],[Value.map (some H)],[Value.map (some J)],[I none 0 0],[I none 0 0],[I none 0 0],[I none 0 0]] 97]) (fun w V=>LO Q (⟨q,m,c,0,0,0,0,0,H,J⟩:Dl) AE AE AE AE 0 w V ⟨by show(0+1)*256≤c;omega,by omega⟩)<|Jd D<|U<|Cx Tryz.func45 D [0] (H1:=[O Q [[I q m c],[E 0],[E 0],[E 0],[E 0],[E 0],[Value.map (some H)],[Value.map (some J)],[I none 0 0],[I none 0 0],[I none 0 0],[I none 0 0]] 97]) (fun w V=>LO Q (⟨q,m,c,0,0,0,0,0,H,J⟩:Dl) AE AE AE AE 1 w V ⟨by show(1+1)*256≤c;omega,by omega⟩)<|U<|BP Tryz.func38 D (fun w d=>(choose_spec _ _ _ _ (AI il 0) (AI il 1) w ((LY (z:=(⟨q,m,c,0,0,0,0,0,H,J⟩:Dl)) 3 0 al (by show(0+1)*256≤m;omega)) w d) En ((LY (z:=(⟨q,m,c,0,0,0,0,0,H,J⟩:Dl)) 3 1 al (by show(1+1)*256≤m;omega)) w d) En).mono (fun e W q=>⟨q.1.trans (show _=Ending.returned (Value.tuple #[Value.agg (flat [[E P],[E ab],[E K],[E T],[E R]]),E 0])from by rw[ar];rfl),q.2⟩))<|Jd D<|Bc D D<|Bc D D<|By D<|AG Tryz.underlying97 1 D<|U<|Bk 0 1 5 D D D<|?_
 refine Js D<|Jg<|?_
 obtain⟨z,A⟩:∃z:Dl,z=⟨q,m,c,P,ab,K,T,R,H,J⟩:=⟨_,D⟩
 obtain rfl:q=z.ip:=by rw[A]
 obtain rfl:m=z.jv:=by rw[A]
 obtain rfl:c=z.jC:=by rw[A]
 obtain rfl:P=z.w:=by rw[A]
 obtain rfl:ab=z.g:=by rw[A]
 obtain rfl:K=z.m:=by rw[A]
 obtain rfl:T=z.h:=by rw[A]
 obtain rfl:R=z.p:=by rw[A]
 obtain rfl:H=z.AU:=by rw[A]
 obtain rfl:J=z.jk:=by rw[A]
 clear A
 refine M ?_
 refine Ci D D D<|M ?_
 refine By D<|AG C2 1 D<|AG BM 5 D<|AZ AF 0 5 D D D<|Jd D<|Ci (by omega) D D<|M ?_
 refine U<|BP V6 D (fun w d=>gN w)<|U<|Bw [[Value.nilIface],[Value.nilIface]] fun G=>U<|Bk 0 0 2 D D D<|?_
 refine M ?_
 refine By D<|AG C2 1 D<|AG BM 3 D<|AZ AF 1 3 D D D<|M ?_
 refine Dr 3 1 (Aq Bm [])<|Dr 195 2 (Aq BQ [])<|bK 5 D<|?_
 refine DL (fun ae a W=>∃(p:Nat) (C:BX) (Au:BX) (Av:Nat) (Bt:Nat) (Z:Nat→Option Bf) (Ax:Nat→Option B9) (As:List Nat) (Ce:List Kx),ae=z.m - p∧AH 85 a (Jb (Jb (Jb (Jb (Jb (Jb Jk 2 (Value.pointer none)) 3 (E 0)) 5 (S Q)) 7 (S G)) 56 (E z.m)) 57 (E p))∧Sat F w [Ae 195 2 (I Au.p Au.n Au.c) Au.n (Aq BQ Ce),Ae 3 1 (I C.p C.n C.c) C.n (Aq Bm As),O G [[Value.iface 192 (Value.agg (flat []))],[Value.iface 193 (Value.agg (flat []))]] 136,Ay Q z C AE Au AE,Ap Tryz.prog 3 Am BT z.jk Bt Ax,AN z.AU Av Z,Ae 5 1 (I z.ip z.jv z.jC) z.jv (bv il)] W∧p≤z.m∧E1 il p Z Ax As∧(Au.n=0↔∀q,q<p→FC il q=true)∧(Au.n=0→Au=AE)∧(Av≤p∧Bt≤p∧C.n≤p - 2∧Au.n≤p)) (fun a W i d=>⟨0,AE,AE,0,0,fun _=>none,fun _=>none,[],[],D,AY i,d.pick [0,1,2,3,4,5,6],by omega,E1.begin,⟨fun _ q N=>by omega,fun _=>rfl⟩,fun _=>rfl,⟨by omega,by omega,Br _,Br _⟩⟩) ?_
 rintro _ a W ⟨p,C,Au,Av,Bt,Z,Ax,As,Ce,rfl,i,d,aY,L,af,an,ag⟩;revert a W
 refine Je<|Jh<|Ej D D<|Jg<|Jf<|Je<|Cz D (fun aw=>?_) fun aw=>?_
 ·
  refine M ?_
  refine Af (BN Nl 2 D D)<|M ?_
  refine DL (fun ae a W=>∃(j:Nat) (b:BX) (l:Nat) (o:Nat) (s:Nat→Option Bf) (t:Nat→Option B9) (li:List Nat),ae=2 - j∧AH 85 a (Jb (Jb (Jb (Jb (Jb (Jb (Jb (Jb (Jb Jk 2 (Value.pointer none)) 3 (E 0)) 5 (S Q)) 7 (S G)) 56 (E z.m)) 57 (E p)) 8 (E p)) 60 (Value.agg (flat [[Value.iface 192 (Value.agg (flat []))],[Value.iface 193 (Value.agg (flat []))]]))) 61 (E j))∧Sat F w [Ae 195 2 (I Au.p Au.n Au.c) Au.n (Aq BQ Ce),Ae 3 1 (I b.p b.n b.c) b.n (Aq Bm li),O G [[Value.iface 192 (Value.agg (flat []))],[Value.iface 193 (Value.agg (flat []))]] 136,Ay Q z b AE Au AE,Ap Tryz.prog 3 Am BT z.jk o t,AN z.AU l s,Ae 5 1 (I z.ip z.jv z.jC) z.jv (bv il)] W∧((j=0∧E1 il p s t li∧l≤p∧o≤p∧b.n≤p - 2)∨(j=1∧E1 il p s t li∧(p<2→Fr.CN ((AI il p).drop 64)=true)∧l≤p∧o≤p∧b.n≤p - 2)∨(j=2∧E1 il (p+1) s t li∧FC il p=true∧l≤p+1∧o≤p+1∧b.n≤p+1 - 2))) (fun a W i d=>⟨0,C,Av,Bt,Z,Ax,As,D,AY i,d.pick [0,1,2,3,4,5,6],.inl ⟨D,L,ag.1,ag.2.1,ag.2.2.1⟩⟩) ?_
  rintro _ a W ⟨j,b,l,o,s,t,li,rfl,i,d,ax⟩;revert a W
  refine Je<|?_
  rcases ax with⟨rfl,Y,ah,ai,aj⟩|⟨rfl,Y,ay,ah,ai,aj⟩|⟨rfl,az,aA,ah,ai,aj⟩
  ·
   by_cases y:p<2∧Fr.CN ((AI il p).drop 64)=false
   ·
    have aa:FC il p=false:=by unfold FC;rw[if_pos y.1];exact y.2
    refine Jh<|IS (by omega) D D<|M ?_
    refine Af (KT Nl 0 D D D Pp)<|M ?_
    refine U<|?_
    refine KZ Sz (fun _=>by kernel_rfl) D D (fun w d=>show Calls _ _ _ w fun e W=>e=Ending.returned (E 53)∧Sat (A6 [Ay Q z b AE Au AE,Ae 5 1 (I z.ip z.jv z.jC) z.jv (bv il)]) w [Ay Q z b AE Au AE,Ae 5 1 (I z.ip z.jv z.jC) z.jv (bv il)] W from(Vp Q z b AE Au AE p il w (d.Ad (H1:=[Ay Q z b AE Au AE,Ae 5 1 (I z.ip z.jv z.jC) z.jv (bv il)]) [3,6]) (by omega)).mono fun e W q=>And.intro (q.1.trans (by rw[if_pos y])) q.2) fun _ e W d ⟨he,q⟩=>⟨_,_,he,Sat.call (H1:=[Ay Q z b AE Au AE,Ae 5 1 (I z.ip z.jv z.jC) z.jv (bv il)]) (H2:=[Ae 195 2 (I Au.p Au.n Au.c) Au.n (Aq BQ Ce),Ae 3 1 (I b.p b.n b.c) b.n (Aq Bm li),O G [[Value.iface 192 (Value.agg (flat []))],[Value.iface 193 (Value.agg (flat []))]] 136,Ap Tryz.prog 3 Am BT z.jk o t,AN z.AU l s]) (d.pick [3,6,0,1,2,4,5]) q,?_⟩
    refine M ?_
    refine Ix (by decide) D D<|M ?_
    refine U<|?_
    refine Ba EV D (fun w d=>EZ Q z b AE Au AE p 53 Ce w (d.Ad (H1:=[Ay Q z b AE Au AE,Ae 195 2 (I Au.p Au.n Au.c) Au.n (Aq BQ Ce)]) [0,2])) fun _ e W d ⟨aB,aC,he,aD,q⟩=>⟨_,_,he,Sat.call (H1:=[Ay Q z b AE Au AE,Ae 195 2 (I Au.p Au.n Au.c) Au.n (Aq BQ Ce)]) (H2:=[Ae 5 1 (I z.ip z.jv z.jC) z.jv (bv il),Ae 3 1 (I b.p b.n b.c) b.n (Aq Bm li),O G [[Value.iface 192 (Value.agg (flat []))],[Value.iface 193 (Value.agg (flat []))]] 136,Ap Tryz.prog 3 Am BT z.jk o t,AN z.AU l s]) (d.pick [0,2,1,3,4,5,6]) q,?_⟩
    refine M ?_
    refine B6 (q:=1) D D<|M ?_
    exact fun a W i d=>⟨_,by omega,p+1,b,aB,l,o,s,t,li,aC,D,AY i,d.pick [1,3,4,0,5,6,2],by omega,Y.bad aa,Un aD aa,fun h=>by omega,by omega⟩
   refine Jh<|IS (by omega) D D<|M ?_
   refine Af (KT Nl 0 D D D Pp)<|M ?_
   refine U<|?_
   refine KZ Sz (fun _=>by kernel_rfl) D D (fun w d=>show Calls _ _ _ w fun e W=>e=Ending.returned (E 0)∧Sat (A6 [Ay Q z b AE Au AE,Ae 5 1 (I z.ip z.jv z.jC) z.jv (bv il)]) w [Ay Q z b AE Au AE,Ae 5 1 (I z.ip z.jv z.jC) z.jv (bv il)] W from(Vp Q z b AE Au AE p il w (d.Ad (H1:=[Ay Q z b AE Au AE,Ae 5 1 (I z.ip z.jv z.jC) z.jv (bv il)]) [3,6]) (by omega)).mono fun e W q=>And.intro (q.1.trans (by rw[if_neg y])) q.2) fun _ e W d ⟨he,q⟩=>⟨_,_,he,Sat.call (H1:=[Ay Q z b AE Au AE,Ae 5 1 (I z.ip z.jv z.jC) z.jv (bv il)]) (H2:=[Ae 195 2 (I Au.p Au.n Au.c) Au.n (Aq BQ Ce),Ae 3 1 (I b.p b.n b.c) b.n (Aq Bm li),O G [[Value.iface 192 (Value.agg (flat []))],[Value.iface 193 (Value.agg (flat []))]] 136,Ap Tryz.prog 3 Am BT z.jk o t,AN z.AU l s]) (d.pick [3,6,0,1,2,4,5]) q,?_⟩
   refine M ?_
   refine Ci D D D<|M ?_
   refine Af (fun _ _ i d=>Hb i (p:=0) (q:=1) (r:=1) D D D)<|M ?_
   exact fun a W i d=>⟨_,by omega,1,b,l,o,s,t,li,D,AY i,d.pick [2,3,4,0,5,6,1],.inr (.inl ⟨D,Y,fun h=>by cases N:Fr.CN ((AI il p).drop 64)with|true=>rfl|false=>exact absurd ⟨h,N⟩ y,ah,ai,aj⟩)⟩
  ·
   by_cases y:2≤p∧IT il p=false
   ·
    have aa:FC il p=false:=by unfold FC;rw[if_neg (by omega)];exact y.2
    refine Jh<|IS (by omega) D D<|M ?_
    refine Af (KT Nl 1 D D D Pp)<|M ?_
    refine U<|?_
    refine KZ Ll (fun _=>by kernel_rfl) D D (fun w d=>h6 Q z b AE Au AE p l o s t il li w (d.Ad (H1:=[Ay Q z b AE Au AE,AN z.AU l s,Ap Tryz.prog 3 Am BT z.jk o t,Ae 5 1 (I z.ip z.jv z.jC) z.jv (bv il),Ae 3 1 (I b.p b.n b.c) b.n (Aq Bm li)]) [3,5,4,6,1]) (by omega) (by omega) y.1 y.2) fun _ e W d ⟨aE,aZ,he,q⟩=>⟨_,_,he,Sat.call (H1:=[Ay Q z b AE Au AE,AN z.AU l s,Ap Tryz.prog 3 Am BT z.jk o t,Ae 5 1 (I z.ip z.jv z.jC) z.jv (bv il),Ae 3 1 (I b.p b.n b.c) b.n (Aq Bm li)]) (H2:=[Ae 195 2 (I Au.p Au.n Au.c) Au.n (Aq BQ Ce),O G [[Value.iface 192 (Value.agg (flat []))],[Value.iface 193 (Value.agg (flat []))]] 136]) (d.pick [3,5,4,6,1,0,2]) q,?_⟩
    refine M ?_
    refine Ix (by omega) D D<|M ?_
    refine U<|?_
    refine Ba EV D (fun w d=>EZ Q z b AE Au AE p aE Ce w (d.Ad (H1:=[Ay Q z b AE Au AE,Ae 195 2 (I Au.p Au.n Au.c) Au.n (Aq BQ Ce)]) [0,5])) fun _ e W d ⟨aF,aG,he,aH,q⟩=>⟨_,_,he,Sat.call (H1:=[Ay Q z b AE Au AE,Ae 195 2 (I Au.p Au.n Au.c) Au.n (Aq BQ Ce)]) (H2:=[AN z.AU l s,Ap Tryz.prog 3 Am BT z.jk o t,Ae 5 1 (I z.ip z.jv z.jC) z.jv (bv il),Ae 3 1 (I b.p b.n b.c) b.n (Aq Bm li),O G [[Value.iface 192 (Value.agg (flat []))],[Value.iface 193 (Value.agg (flat []))]] 136]) (d.pick [0,5,1,2,3,4,6]) q,?_⟩
    refine M ?_
    refine B6 (q:=1) D D<|M ?_
    exact fun a W i d=>⟨_,by omega,p+1,b,aF,l,o,s,t,li,aG,D,AY i,d.pick [1,5,6,0,3,2,4],by omega,Y.bad aa,Un aH aa,fun h=>by omega,by omega⟩
   replace y:p<2∨IT il p=true:=by cases N:IT il p with|true=>exact .inr D|false=>exact .inl (Nat.lt_of_not_le (fun h=>y ⟨h,N⟩))
   refine Jh<|IS (by omega) D D<|M ?_
   refine Af (KT Nl 1 D D D Pp)<|M ?_
   refine U<|?_
   refine KZ Ll (fun _=>by kernel_rfl) D D (fun w d=>fe Q z b AE Au AE p l o s t il li w (d.Ad (H1:=[Ay Q z b AE Au AE,AN z.AU l s,Ap Tryz.prog 3 Am BT z.jk o t,Ae 5 1 (I z.ip z.jv z.jC) z.jv (bv il),Ae 3 1 (I b.p b.n b.c) b.n (Aq Bm li)]) [3,5,4,6,1]) (by omega) (by omega) y) fun _ e W d ⟨OM,aI,aJ,Kf,Ks,Kv,he,ad,q⟩=>⟨_,_,he,Sat.call (H1:=[Ay Q z b AE Au AE,AN z.AU l s,Ap Tryz.prog 3 Am BT z.jk o t,Ae 5 1 (I z.ip z.jv z.jC) z.jv (bv il),Ae 3 1 (I b.p b.n b.c) b.n (Aq Bm li)]) (H2:=[Ae 195 2 (I Au.p Au.n Au.c) Au.n (Aq BQ Ce),O G [[Value.iface 192 (Value.agg (flat []))],[Value.iface 193 (Value.agg (flat []))]] 136]) (d.pick [3,5,4,6,1,0,2]) q,?_⟩
   refine M ?_
   refine Ci D D D<|M ?_
   refine Af (fun _ _ i d=>Hb i (p:=1) (q:=1) (r:=2) D D D)<|M ?_
   exact fun a W i d=>⟨_,by omega,2,OM,aI,aJ,Kf,Ks,Kv,D,AY i,d.pick [5,4,6,0,2,1,3],.inr (.inr ⟨D,Y.step ad,by unfold FC;split;(rename_i h;exact ay h);(rename_i h;exact y.resolve_left h),by have:=ad.TH;omega,by have:=ad.TH;omega,by have:=ad.TH;omega⟩)⟩
  refine Jh<|ET (by omega) D D<|M ?_
  refine B6 (q:=1) D D<|M ?_
  exact fun a W i d=>⟨_,by omega,p+1,b,Au,l,o,s,t,li,Ce,D,AY i,d.pick [0,1,2,3,4,5,6],by omega,az,eC af aA,an,by omega⟩
 obtain rfl:p=z.m:=by omega
 refine M ?_
 refine By D<|AG C2 10 D<|AZ KD 3 10 D D D<|Cr KD D<|E2 D D<|Jg<|Jf<|Cz D (fun aK=>?_) fun aK=>?_
 ·
  obtain rfl:Au=AE:=an (by omega)
  refine gm z.w<|?_
  have aL:=af.1 D
  refine Jh<|Jd D<|U<|?_
  refine Ba Xc D (fun w d=>iZ Q z C AE Av Bt Z Ax As w (d.Ad (H1:=[Ay Q z C AE AE AE,A1 z.w AE,AN z.AU Av Z,Ap Tryz.prog 3 Am BT z.jk Bt Ax,Ae 3 1 (I C.p C.n C.c) C.n (Aq Bm As)]) [4,0,6,5,2]) (A5.sat d (ak F X)) (d.Eb A5 (ak F X) [4,0,6,5,2]) (by omega) (L.CM (by omega)) L.FJ (fun q N=>(L.mem N).2.2) (by omega) (fun q N=>by have:=(L.mem N).1;omega) (by omega)) fun _ e W d ⟨aM,aN,aO,aP,he,ao,aQ,q⟩=>⟨_,_,he,Sat.call (H1:=[Ay Q z C AE AE AE,A1 z.w AE,AN z.AU Av Z,Ap Tryz.prog 3 Am BT z.jk Bt Ax,Ae 3 1 (I C.p C.n C.c) C.n (Aq Bm As)]) (H2:=[Ae 195 2 (I AE.p AE.n AE.c) AE.n (Aq BQ Ce),O G [[Value.iface 192 (Value.agg (flat []))],[Value.iface 193 (Value.agg (flat []))]] 136,Ae 5 1 (I z.ip z.jv z.jC) z.jv (bv il)]) (d.pick [4,0,6,5,2,1,3,7]) q,?_⟩
  refine A7 ?_
  intro W d
  subst X
  exact⟨Q,z,C,aN,aO,aM,Av,Bt,Z,Ax,As,aP,D,D,D,D,D,L,⟨fun h=>⟨aL,by rw[←L.whole];exact ao.1 h⟩,fun h=>ao.2 (by rw[L.whole];exact h.2)⟩,aQ,by omega,by omega,d.pick [0,2,3,8]⟩
 refine A7 ?_
 intro W d
 subst X
 exact⟨Q,z,C,AE,Au,AE,Av,Bt,Z,Ax,As,Ce,D,D,D,D,D,L,⟨fun h=>by omega,fun h=>af.2 h.1⟩,by omega,by omega,by omega,d.pick [3,5,4,6]⟩
end Go.Proofs.YtaapafoibofbjaaGreatDoor
namespace Go.Proofs.YtaapafoibofbjaaGreatDoor
set_option maxRecDepth 10000
variable {p:Nat}
theorem Yw{c d:Nat}(h:c % 256=d % 256):UInt8.ofNat c=UInt8.ofNat d:=UInt8.toNat_inj.1 (by simp;omega)
theorem dY(l:List UInt8):Fr.Zy l=Ref.HM l:=by
 unfold Fr.Zy Ref.HM
 congr 1
 simp only[Ref.Dd]
 generalize At.sum l=c
 congr 1
 ·apply UInt8.toNat_inj.1;simp
 congr 1
 ·apply UInt8.toNat_inj.1;simp[UInt32.toNat_shiftRight,Nat.shiftRight_eq_div_pow];omega
 congr 1
 ·apply UInt8.toNat_inj.1;simp[UInt32.toNat_shiftRight,Nat.shiftRight_eq_div_pow];omega
 congr 1
 ·apply UInt8.toNat_inj.1;simp[UInt32.toNat_shiftRight,Nat.shiftRight_eq_div_pow];omega
theorem fX(s:Fr.Bu):(Fr.KL s).l=Iu s:=by
 have e:∀v k:Nat,UInt8.ofNat (v/k % 256)=UInt8.ofNat (v/k):=fun v k=>Yw (by omega)
 have a:∀v:Nat,UInt8.ofNat (v % 256)=UInt8.ofNat v:=fun v=>Yw (by omega)
 have h:Iu s=[76,68,71,49,UInt8.ofNat s.w,0,0,0,UInt8.ofNat (s.g/2^(8*0)),UInt8.ofNat (s.g/2^(8*1)),UInt8.ofNat (s.g/2^(8*2)),UInt8.ofNat (s.g/2^(8*3)),UInt8.ofNat (s.g/2^(8*4)),UInt8.ofNat (s.g/2^(8*5)),UInt8.ofNat (s.g/2^(8*6)),UInt8.ofNat (s.g/2^(8*7)),
  UInt8.ofNat (s.m/2^(8*0)),UInt8.ofNat (s.m/2^(8*1)),UInt8.ofNat (s.m/2^(8*2)),UInt8.ofNat (s.m/2^(8*3)),UInt8.ofNat (s.h/2^(8*0)),UInt8.ofNat (s.h/2^(8*1)),UInt8.ofNat (s.h/2^(8*2)),UInt8.ofNat (s.h/2^(8*3)),
  UInt8.ofNat (s.p/2^(8*0)),UInt8.ofNat (s.p/2^(8*1)),UInt8.ofNat (s.p/2^(8*2)),UInt8.ofNat (s.p/2^(8*3))]++List.replicate 32 0:=by
  unfold Iu
  simp only[Ref.Dd,Nat.div_div_eq_div_mul,e,a,Nat.reduceMul,Nat.reducePow,Nat.div_one,List.cons_append,List.nil_append]
 rw[h]
 unfold Fr.KL
 simp only[HB]
 generalize UInt8.ofNat (s.g/2^(8*0))=b
 generalize UInt8.ofNat (s.g/2^(8*1))=c
 generalize UInt8.ofNat (s.g/2^(8*2))=d
 generalize UInt8.ofNat (s.g/2^(8*3))=f
 generalize UInt8.ofNat (s.g/2^(8*4))=i
 generalize UInt8.ofNat (s.g/2^(8*5))=j
 generalize UInt8.ofNat (s.g/2^(8*6))=n
 generalize UInt8.ofNat (s.g/2^(8*7))=o
 generalize UInt8.ofNat (s.m/2^(8*0))=q
 generalize UInt8.ofNat (s.m/2^(8*1))=r
 generalize UInt8.ofNat (s.m/2^(8*2))=t
 generalize UInt8.ofNat (s.m/2^(8*3))=u
 generalize UInt8.ofNat (s.h/2^(8*0))=x
 generalize UInt8.ofNat (s.h/2^(8*1))=y
 generalize UInt8.ofNat (s.h/2^(8*2))=z
 generalize UInt8.ofNat (s.h/2^(8*3))=A
 generalize UInt8.ofNat (s.p/2^(8*0))=B
 generalize UInt8.ofNat (s.p/2^(8*1))=C
 generalize UInt8.ofNat (s.p/2^(8*2))=D
 generalize UInt8.ofNat (s.p/2^(8*3))=E
 generalize UInt8.ofNat s.w=F
 show(_:List UInt8)=_
 kernel_rfl
theorem WU(s:Fr.Bu):Fr.pack s=Ref.EC s:=by
 rw[Pj,←fX,←dY]
 unfold Fr.pack
 rw[Ji.NC _ (by rw[Fr.Q7,Ji.h];omega),List.take_zero,List.nil_append,Fr.Q7,Ji.h]
 rfl
theorem M1{n:Nat}(x:Ji n){o:Nat}{m:List UInt8}(h:o+m.length≤n)(i:Nat):(x.lay o m).l[i]? =if o≤i∧i<o+m.length then m[i - o]? else x.l[i]? :=by
 have b:=x.h
 have a:(x.l.take o).length=o:=by rw[List.length_take];omega
 rw[Ji.NC _ h]
 by_cases h1:i<o
 ·rw[List.getElem?_append_left (by omega),List.getElem?_take,if_pos h1,if_neg (by omega)]
 ·rw[List.getElem?_append_right (by omega),a]
  by_cases c:i<o+m.length
  ·rw[List.getElem?_append_left (by omega),if_pos (by omega)]
  ·rw[List.getElem?_append_right (by omega),List.getElem?_drop,if_neg (by omega)]
   congr 1
   omega
theorem L0(l:List UInt8)(p i:Nat):(AI l p)[i]? =if i<256 then l[p*256+i]? else none:=by
 unfold AI
 rw[List.getElem?_take]
 split
 ·rw[List.getElem?_drop]
 ·rfl
theorem UD{n:Nat}(x:Ji n){q:Nat}{m:List UInt8}(hm:m.length=256)(h:q*256+256≤n)(p:Nat):AI (x.lay (q*256) m).l p=if p=q then m else AI x.l p:=by
 apply List.ext_getElem?
 intro i
 rw[L0]
 by_cases e:p=q
 ·subst e
  rw[if_pos D]
  by_cases a:i<256
  ·rw[if_pos a,M1 x (by omega),if_pos (by omega),Nat.add_sub_cancel_left]
  ·rw[if_neg a,List.getElem?_eq_none (by omega)]
 ·rw[if_neg e,L0]
  by_cases a:i<256
  ·rw[if_pos a,if_pos a,M1 x (by omega),if_neg (by omega)]
  ·rw[if_neg a,if_neg a]
theorem gx{n:Nat}(x:Ji n){m:List UInt8}(h:512+m.length≤n)(b:p<2):AI (x.lay 512 m).l p=AI x.l p:=by
 apply List.ext_getElem?
 intro i
 rw[L0,L0]
 by_cases a:i<256
 ·rw[if_pos a,if_pos a,M1 x h,if_neg (by omega)]
 ·rw[if_neg a,if_neg a]
theorem a3{n:Nat}(x:Ji n){l:List UInt8}{e:Nat}(hl:l.length=n)(he:512≤e∧e≤n)(b:2≤p)(c:(p+1)*256≤e):AI (x.lay 512 ((l.drop 512).take (e - 512))).l p=AI l p:=by
 have hm:((l.drop 512).take (e - 512)).length=e - 512:=by rw[List.length_take,List.length_drop];omega
 apply List.ext_getElem?
 intro i
 rw[L0,L0]
 by_cases a:i<256
 ·rw[if_pos a,if_pos a,M1 x (by omega),if_pos (by omega),List.getElem?_take,if_pos (by omega),List.getElem?_drop]
  congr 1
  omega
 ·rw[if_neg a,if_neg a]
section
variable {n W P:Nat} {L:List Nat} {l:List UInt8} {i:Nat}
structure Gv (P:Nat) (L:List Nat):Prop where
 b:∀q∈L,2≤q∧q<P
 s:L.Pairwise (·<·)
theorem Gv.at_(h:Gv P L){j:Nat}(hj:j<L.length):2≤L.getD j 0∧L.getD j 0<P:=by
 rw[List.getD_eq_getElem?_getD,List.getElem?_eq_getElem hj]
 exact h.b _ (List.getElem_mem hj)
theorem Gv.lt(h:Gv P L){j k:Nat}(b:j<k)(a:k<L.length):L.getD j 0<L.getD k 0:=by
 rw[List.getD_eq_getElem?_getD,List.getD_eq_getElem?_getD,List.getElem?_eq_getElem a,List.getElem?_eq_getElem (by omega)]
 exact List.pairwise_iff_getElem.1 h.s j k (by omega) a b
theorem Ok(a:p≤P:=by omega):Gv P (A9 l p):=⟨fun q h=>by have:=RD h;omega,by unfold A9;exact List.Pairwise.filter _ List.pairwise_lt_range⟩
theorem S0(h:Gv P L)(hw:1≤W∧W≤32)(a:3≤P∧P≤4096){g:Nat}(b:g≤L.length+1)(c:g≤8192):Fr.DE (BL W P L g)=true:=by
 unfold BL
 split
 ·have:=h.at_ (j:=g - 2) (by omega)
  simp only[Fr.DE,Bool.and_eq_true,Bool.or_eq_true,decide_eq_true_eq]
  refine⟨⟨⟨⟨⟨⟨⟨?_,?_⟩,?_⟩,?_⟩,?_⟩,?_⟩,?_⟩,?_⟩<;>omega
 ·simp only[Fr.DE,Bool.and_eq_true,Bool.or_eq_true,decide_eq_true_eq]
  refine⟨⟨⟨⟨⟨⟨⟨?_,?_⟩,?_⟩,?_⟩,?_⟩,?_⟩,?_⟩,?_⟩<;>first|omega|exact .inl trivial
theorem Oj(g:Nat):(BL W P L g).g=g:=by unfold BL;split<;>rfl
theorem MZ(g:Nat):(BL W P L g).w=W:=by unfold BL;split<;>rfl
theorem LV(g:Nat):(BL W P L g).p=P:=by unfold BL;split<;>rfl
theorem ZS(h:Gv P L){g:Nat}(a:g≤L.length):(BL W P L g).m≤(BL W P L (g+1)).m:=by
 unfold BL
 by_cases h1:1<g
 ·rw[if_pos h1,if_pos (by omega)]
  have:=h.lt (j:=g - 2) (k:=g+1 - 2) (by omega) (by omega)
  show L.getD (g - 2) 0+1≤L.getD (g+1 - 2) 0+1
  omega
 ·rw[if_neg h1]
  split
  ·have:=h.at_ (j:=g+1 - 2) (by omega)
   show 2≤L.getD (g+1 - 2) 0+1
   omega
  ·exact Br _
theorem ZM(g:Nat):BL W P L (g+1)={BL W P L g with g:=(BL W P L g).g+1,m:=(BL W P L (g+1)).m,h:=(BL W P L (g+1)).h}:=by
 have h1:=Oj (W:=W) (P:=P) (L:=L) (g+1)
 have b:=MZ (W:=W) (P:=P) (L:=L) (g+1)
 have c:=LV (W:=W) (P:=P) (L:=L) (g+1)
 have d:=MZ (W:=W) (P:=P) (L:=L) g
 have f:=LV (W:=W) (P:=P) (L:=L) g
 have i:=Oj (W:=W) (P:=P) (L:=L) g
 have e:∀s:Fr.Bu,s=⟨s.w,s.g,s.m,s.h,s.p⟩:=fun s=>rfl
 show BL W P L (g+1)=⟨(BL W P L g).w,(BL W P L g).g+1,(BL W P L (g+1)).m,(BL W P L (g+1)).h,(BL W P L g).p⟩
 rw[d,f,i]
 have a:=e (BL W P L (g+1))
 rw[h1,b,c]at a
 exact a
theorem Ym(a:768≤n){q:Nat}(b:q<2):AI (E0 n W P L i 2).l q=Fr.pack (BL W P L (if q=i % 2 then i else i+1)):=by
 show AI ((E0 n W P L i 1).lay ((i+1) % 2*256) (Fr.pack (BL W P L (i+1)))).l q=_
 rw[UD _ (Fr.MC _) (by omega)]
 by_cases h:q=i % 2
 ·rw[if_neg (by omega),if_pos h]
  show AI ((E0 n W P L i 0).lay ((i+0) % 2*256) (Fr.pack (BL W P L (i+0)))).l q=_
  rw[UD _ (Fr.MC _) (by omega),if_pos (by rw[Nat.add_zero];exact h),Nat.add_zero]
 ·rw[if_pos (by omega),if_neg h]
theorem SV(h:Gv P L)(a:n=256*P)(b:i≤L.length)(c:0<i):768≤(L.getD (i - 1) 0+1)*256∧(L.getD (i - 1) 0+1)*256≤n:=by
 have:=h.at_ (j:=i - 1) (by omega)
 omega
theorem Tn(h:Gv P L)(hl:l.length=n)(b:768≤n)(c:n=256*P)(d:i≤L.length){q:Nat}(a:q<2):AI (Ct n W P L i l).l q=Fr.pack (BL W P L (if q=i % 2 then i else i+1)):=by
 unfold Ct
 split
 ·rename_i e
  have he:=SV h c d e
  rw[gx _ (by rw[List.length_take,List.length_drop];omega) a]
  exact Ym b a
 ·exact Ym b a
theorem h7(h:Gv P L)(hl:l.length=n)(e:768≤n)(b:n=256*P)(c:i≤L.length)(a:0<i)(d:2≤p)(f:p≤L.getD (i - 1) 0):AI (Ct n W P L i l).l p=AI l p:=by
 have he:=SV h b c a
 unfold Ct
 rw[if_pos a]
 exact a3 _ hl ⟨by omega,he.2⟩ d (by omega)
theorem NX{s:Fr.Bu}(V:Fr.DE s=true):Fr.DP (Fr.pack s)=some s:=by rw[WU];exact I7.DP (SH V)
theorem Y7(h:Gv P L)(hw:1≤W∧W≤32)(c:3≤P∧P≤4096)(hl:l.length=n)(d:768≤n)(e:n=256*P)(f:i≤L.length)(j:L.length≤4096):Fr.choose (AI (Ct n W P L i l).l 0) (AI (Ct n W P L i l).l 1)=.ok (BL W P L (i+1)):=by
 have v0:=S0 (W:=W) h hw c (g:=i) (by omega) (by omega)
 have v1:=S0 (W:=W) h hw c (g:=i+1) (by omega) (by omega)
 rw[Tn h hl d e f (q:=0) (by omega),Tn h hl d e f (q:=1) (by omega)]
 have hm:=ZS (W:=W) h (g:=i) (by omega)
 have he:=ZM (W:=W) (P:=P) (L:=L) i
 have k:=Oj (W:=W) (P:=P) (L:=L) i
 have m:=Oj (W:=W) (P:=P) (L:=L) (i+1)
 rcases Nat.mod_two_eq_zero_or_one i with a|a
 ·rw[if_pos a.symm,if_neg (by omega)]
  unfold Fr.choose
  rw[NX v0,NX v1]
  have b:Fr.Ed (BL W P L i) (BL W P L (i+1))=some (BL W P L (i+1)):=by
   unfold Fr.Ed
   rw[if_neg (by omega),if_pos (by omega),if_pos ⟨he,hm⟩]
  show(match Fr.Ed (BL W P L i) (BL W P L (i+1))with|some s=>Except.ok s|none=>Except.error 4)=_
  rw[b]
 ·rw[if_neg (by omega),if_pos a.symm]
  unfold Fr.choose
  rw[NX v0,NX v1]
  have b:Fr.Ed (BL W P L (i+1)) (BL W P L i)=some (BL W P L (i+1)):=by
   unfold Fr.Ed
   rw[if_neg (by omega),if_neg (by omega),if_pos ⟨he,hm⟩]
  show(match Fr.Ed (BL W P L (i+1)) (BL W P L i)with|some s=>Except.ok s|none=>Except.error 4)=_
  rw[b]
end
def P'(il:List UInt8)(W m h:Nat):Bool:=(List.range m).all (FC il)&&LA W (EB il m) (Dy il m) (A9 il m) m h
theorem NH{il:List UInt8}{W m h:Nat}:P' il W m h=true↔LR il W m h:=by
 unfold P' LR
 rw[Bool.and_eq_true,List.all_eq_true]
 constructor
 ·rintro⟨h1,a⟩;exact⟨fun q b=>h1 q (List.mem_range.2 b),a⟩
 ·rintro⟨h1,a⟩;exact⟨fun q b=>h1 q (List.mem_range.1 b),a⟩
def F1(n W P:Nat)(L:List Nat)(l:List UInt8)(i:Nat):Bool:=P' (Ct n W P L i l).l W (BL W P L (i+1)).m (BL W P L (i+1)).h
end Go.Proofs.YtaapafoibofbjaaGreatDoor
namespace Go.Proofs.YtaapafoibofbjaaGreatDoor
open Go.RowKit
def L1(l:List UInt8)(p:Nat):Prop:=(∃s,Fr.DP (Dc l p)=some s)∧Fr.CN ((Dc l p).drop 64)=true
theorem X9{l:List UInt8}{p:Nat}(h:Fr.CN ((Dc l p).drop 64)=true){i:Nat}(h1:64≤i)(a:i<256)(hl:256*p+i<l.length):l.getD (256*p+i) 0=0:=by
 have b:(Dc l p)[i]? =some l[256*p+i]:=by rw[fU,if_pos a,List.getElem?_eq_getElem hl]
 have c:((Dc l p).drop 64)[i - 64]? =some l[256*p+i]:=by rw[List.getElem?_drop,show 64+(i - 64)=i by omega,b]
 rw[List.getD_eq_getElem?_getD,List.getElem?_eq_getElem hl]
 exact Vu.1 h _ (List.mem_of_getElem? c)
theorem a8{l:List UInt8}{p:Nat}(h:Fr.CN ((Dc l p).drop 64)=true)(a:256*(p+1)≤l.length):GW l p 192=l:=by
 apply List.ext_getElem?
 intro i
 rw[MW (by omega)]
 split
 ·rename_i b
  have:=X9 h (i:=i - 256*p) (by omega) (by omega) (by omega)
  rw[show 256*p+(i - 256*p)=i by omega,List.getD_eq_getElem?_getD,List.getElem?_eq_getElem (by omega)]at this
  rw[List.getElem?_eq_getElem (by omega)]
  exact congrArg some this.symm
 ·rfl
section
variable {Bj AK ib n c p:Nat} {l:List UInt8} {u:Fr.Bu} {w:World}
theorem S_(d:Bj≤w.heap.size)(a:BS Bj AK ib n c w l u)(f:n≤1048576:=by omega)(g:256*(p+1)≤n:=by omega):
 Calls Tryz.prog 17 #[Value.pointer (some ⟨AK,0,none⟩),Value.int .i64 ((p:Nat):Int)] w fun e w'=>∃ch x,e=.returned (.bool ch)∧(L1 l p→ch=false∧x=l)∧BS Bj AK ib n c w' x u∧Cu (EM AK ib) w w'∧Below Bj w w':=by
 have hl:=a.len
 cases b:Fr.DP (Dc l p)with
 |some s=>
  refine(g5 d a f g b).mono ?_
  rintro e w' ⟨ch,rfl,h1,t,q⟩
  refine⟨ch,_,D,fun o=>?_,q⟩
  refine⟨?_,a8 o.2 (by omega)⟩
  cases ch with
  |false=>rfl
  |true=>
   obtain⟨i,i1,i2,i3⟩:=h1 D
   exact absurd (X9 o.2 i1 i2 (by omega)) i3
 |none=>
  have m:¬L1 l p:=fun h=>by obtain⟨⟨s,h⟩, -⟩:=h;rw[b]at h;cases h
  cases k:At.last (At.EG 60) (At.C5 ((Dc l p).take 64) 60)with
  |none=>
   refine(fx d a f g k b).mono ?_
   rintro e w' ⟨rfl,q⟩
   exact⟨_,_,D,fun h=>absurd h m,q⟩
  |some j=>
   have hj:j<512:=((F9.Yd 60 _ j).1 (F9.XZ _ k)).1
   cases r:Fr.DP (Dc (At.bit l (2048*p+j)) p)with
   |none=>
    refine(eB d a f g b k hj r).mono ?_
    rintro e w' ⟨rfl,q⟩
    exact⟨_,_,D,fun h=>absurd h m,q⟩
   |some s=>
    refine(bJ d a f g b k hj r).mono ?_
    rintro e w' ⟨rfl,q⟩
    exact⟨_,_,D,fun h=>absurd h m,q⟩
theorem W8(d:Bj≤w.heap.size)(a:BS Bj AK ib n c w l u)(f:n≤1048576)(b:256*(p+1)≤n):
 Calls Tryz.prog 19 #[Value.pointer (some ⟨AK,0,none⟩),Value.int .i64 ((p:Nat):Int)] w fun e w'=>∃ch x,e=.returned (.bool ch)∧(Fr.CZ p (Dc l p)=true→ch=false∧x=l)∧BS Bj AK ib n c w' x u∧Cu (EM AK ib) w w'∧Below Bj w w':=by
 have hl:=a.len
 cases g:Fr.CZ p (Dc l p)with
 |true=>
  refine(gO d a f b g).mono ?_
  rintro e w' ⟨rfl,q⟩
  exact⟨_,_,D,fun h=>⟨D,D⟩,q⟩
 |false=>
  have m:(Dc l p).take 256=Dc l p:=List.take_of_length_le (Nat.le_of_eq (F0 hl b))
  cases i:At.last (At.EG 252) (At.C5 (Dc l p) 252)with
  |none=>
   refine(c_ d a f b g i).mono ?_
   rintro e w' ⟨rfl,q⟩
   exact⟨_,_,D,fun h=>(by cases h),q⟩
  |some j=>
   have hj:j<2048:=((F9.Yd 252 _ j).1 (F9.XZ _ i)).1
   cases k:Fr.CZ p (Dc (At.bit l (2048*p+j)) p)with
   |false=>
    refine(ed d a f b g i hj k).mono ?_
    rintro e w' ⟨rfl,q⟩
    exact⟨_,_,D,fun h=>(by cases h),q⟩
   |true=>
    refine(iF d a f b g i hj k).mono ?_
    rintro e w' ⟨rfl,q⟩
    exact⟨_,_,D,fun h=>(by cases h),q⟩
end
end Go.Proofs.YtaapafoibofbjaaGreatDoor
