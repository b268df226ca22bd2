/- Laws and walks on the road to SalvagePlays (part M36). No conditions beyond each law's own. -/
import Derived.Test.YtjdboncaegphmaaGreatDoorM35
set_option linter.unusedVariables false
namespace Go.Proofs.YtjdboncaegphmaaGreatDoor
open Go.RowKit
set_option maxRecDepth 100000
set_option maxHeartbeats 2000000
variable {F:Nat→Prop} {w0:World}
def j0(k:Nat):Prop:=k=0∨k=2∨k=1
theorem DA.sat{w:World}{H:List Atom}(h:DA w0)(a:Sat F w0 H w)(b:∀k,j0 k→¬F k):DA w:=
 ⟨h.first.Fm (a.GA.block _ h.vz (b _ (.inl D))),Wb h.vz a.GA.size,h.consts.Fm (a.GA.block _ h.vy (b _ (.inr (.inl D)))),Wb h.vy a.GA.size,h.div.Fm (a.GA.block _ h.vx (b _ (.inr (.inr D)))),Wb h.vx a.GA.size⟩
theorem Wd{H:List Atom}{v:Value}{n size:Nat}{xs:List Value}(a:View w0 v n size xs)(e:∀k,v.ownBlock=some k→¬F k):∀w,Sat F w0 H w→View w v n size xs:=fun w c=>by
 refine⟨a.1,?_⟩
 rcases a.2 with q|⟨b,off,cap,d,h1,f,g,J,h⟩
 ·exact .inl q
 ·exact .inr ⟨b,off,cap,d,h1,f,g,Wb J c.GA.size,h.Fm (c.GA.block b J (e b (by rw[d];rfl)))⟩
theorem Lr{H:List Atom}{q:Option Addr}{n c:Nat}{il:rG}(p:Nat)(a:∀w,Sat F w0 H w→View w (I q n c) n 1 (bv il))(d:(p+1)*256≤n:=by omega):∀w,Sat F w0 H w→View w (.slice (sp q (p*256) c 1) 256 (c - p*256)) 256 1 (bv (AI il p)):=fun w b=>by
 have h:=(Db (n:=n) (c:=c) (m:=il) (p*256) ((p+1)*256) a (NR (il:=il) (p:=p)) JY JY) w b;rw[show(p+1)*256 - p*256=256 by omega]at h;exact h
theorem e7(p:Nat)(q:Option Addr)(c:Nat)(l:rG)(w:World)(g:DA w)(i:2≤p∧p<4096)(j:View w (.slice q 256 c) 256 1 (bv l))(hl:l.length=256)(a:Fr.CZ p l=true):Calls lp 47 #[E p,I q 256 c] w fun e W=>
 ∃b d,e=.returned (.tuple #[E (l.getD 0 0).toNat,.slice b (G.load l).length d,E 0])∧W.ownsRow w.heap.size 5 1 (.slice b (G.load l).length d) (G.load l).length (bv (G.load l))∧Below w.heap.size w W:=by
 refine(g1 p q c l w g i j hl).mono fun e W h=>?_;have n:(l.getD 1 0).toNat≤246:=by simp only[Fr.CZ,Kq,decide_eq_true_eq]at a;exact a.1.1.2
 have e:(l.getD 1 0).toNat=(G.load l).length:=by unfold G.load;rw[FX,J3,hl];omega
 rcases h with⟨⟨k,q,c,x,he,rfl,rfl,_,ho⟩,J⟩|⟨⟨x,_,_,f⟩,_⟩
 ·have m:(l.drop 6).take ((l.getD 1 0).toNat)=G.load l:=D;rw[m]at ho;rw[e]at he ho;exact⟨q,c,he,ho,J⟩
 ·rw[a]at f;cases f
theorem sf(p:Nat)(q:Option Addr)(c:Nat)(l:rG)(w:World)(b:DA w)(d:2≤p∧p<4096)(f:View w (.slice q 256 c) 256 1 (bv l))(hl:l.length=256)(g:Fr.CZ p l=false):Calls lp 47 #[E p,I q 256 c] w fun e W=>
 ∃k:Nat,k≠0∧e=.returned (.tuple #[E 0,I none 0 0,E k])∧Below w.heap.size w W:=by
 refine(g1 p q c l w b d f hl).mono fun e W h=>?_
 rcases h with⟨⟨_,_,_,_,_,_,_,a,_⟩,_⟩|⟨⟨x,he,i,_⟩,J⟩
 ·rw[g]at a;cases a
 ·exact⟨x,i,he,J⟩
def Vw:Bf:=⟨0,0,0,0,0,CU,CU,CU,NP⟩
theorem k0{k:Nat}{l:rG}{n:G.Dh}(h:G.node k l=some n):n.Bd=k∧(k=1∨k=2):=by
 unfold G.node at h;split at h
 ·rename_i q;split at h
  ·cases h;exact⟨q.1.symm,.inl q.1⟩
  ·cases h
 ·split at h
  ·rename_i q;split at h
   ·cases h;exact⟨q.1.symm,.inr q.1⟩
   ·cases h
  ·cases h
def W5(p:Nat)(l:rG)(Bd:Nat)(x:Bf)(r:B9)(s5:Nat):Prop:=match G.CW p l with
 |.no=>x=Vw∧r=G.DX∧s5≠0
 |.nd n=>Bd=n.Bd∧(n.Bd=1∨n.Bd=2)∧x.AW=n∧r=G.DX∧s5=0
 |.rc a=>Bd=3∧x=Vw∧r=a∧s5=0
def gj(p:Nat)(l:rG)(KE a7:List Nat)(k:Nat)(x:Bf)(r:B9)(dU:Nat):Prop:=match G.CW p l with
 |.no=>k=0∧x=Vw∧r=G.DX∧a7=KE∧dU=1
 |.nd n=>k=n.Bd∧(n.Bd=1∨n.Bd=2)∧x.AW=n∧r=G.DX∧a7=KE∧dU=0
 |.rc a=>k=3∧x=Vw∧r=a∧a7=KE++[p]∧dU=0
section
variable {p Bd s5:Nat} {l:rG} {x:Bf} {r:B9} {n:G.Dh} {KE:List Nat}
theorem mw(h:Fr.CZ p l=false)(he:s5≠0):W5 p l Bd Vw G.DX s5:=by unfold W5 G.CW;rw[h];exact⟨D,D,he⟩
theorem jB(h:Fr.CZ p l=true)(a:(l.getD 0 0).toNat=3)(hr:G.record (G.load l)=some r):W5 p l (l.getD 0 0).toNat Vw r 0:=by unfold W5 G.CW;rw[if_pos h,if_pos a,hr];exact⟨a,D,D,D⟩
theorem jQ(h:Fr.CZ p l=true)(a:(l.getD 0 0).toNat=3)(hr:G.record (G.load l)=none):W5 p l Bd Vw G.DX 150:=by unfold W5 G.CW;rw[if_pos h,if_pos a,hr];exact⟨D,D,JZ⟩
theorem sO(h:Fr.CZ p l=true)(b:¬(l.getD 0 0).toNat=3)(a:G.node (l.getD 0 0).toNat (G.load l)=some n)(c:x.AW=n):W5 p l (l.getD 0 0).toNat x G.DX 0:=by
 have q:=k0 a;unfold W5 G.CW;rw[if_pos h,if_neg b,a];exact⟨q.1.symm,q.1▸q.2,c,D,D⟩
theorem mZ(h:Fr.CZ p l=true)(a:¬(l.getD 0 0).toNat=3)(b:G.node (l.getD 0 0).toNat (G.load l)=none):W5 p l Bd Vw G.DX 90:=by unfold W5 G.CW;rw[if_pos h,if_neg a,b];exact⟨D,D,JZ⟩
theorem pX(h:W5 p l Bd x r s5)(he:s5≠0):gj p l KE KE 0 x r 1:=by
 unfold W5 at h;unfold gj;split at h
 ·exact⟨D,h.1,h.2.1,D,D⟩
 ·exact absurd h.2.2.2.2 he
 ·exact absurd h.2.2.2 he
theorem pz(h:W5 p l Bd x r s5)(he:s5=0)(a:¬Bd=3):gj p l KE KE Bd x r 0:=by
 unfold W5 at h;unfold gj;split at h
 ·exact absurd he h.2.2
 ·exact⟨h.1,h.2.1,h.2.2.1,h.2.2.2.1,D,D⟩
 ·exact absurd h.1 a
theorem r9(h:W5 p l Bd x r s5)(he:s5=0)(a:Bd=3):gj p l KE (KE++[p]) Bd x r 0:=by
 unfold W5 at h;unfold gj;split at h
 ·exact absurd he h.2.2
 ·exfalso;have:=h.1;have:=h.2.1;omega
 ·exact⟨h.1,h.2.1,h.2.2.1,D,D⟩
end
abbrev BF.add(z:BF)(vA:Option Addr)(hI:Nat)(hb:Option Addr)(ia:Nat)(dC:Option Addr)(rc:Nat)(ap:Option Addr)(ac:Nat)(k:Nat)(x:Bf)(r:B9)(KE:List Nat):BF:=
 {z with vA:=vA,hI:=hI,FN:=z.FN++[k],hb:=hb,ia:=ia,DS:=z.DS++[x],dC:=dC,rc:=rc,rs:=z.rs++[r],ap:=ap,ac:=ac,KE:=KE}
theorem Sat.kO{w:World}{H:List Atom}{DS:List Bf}{x:Bf}(h:Sat F w0 (tj DS::Ae 5 1 x.s.val x.s.v.length (bv x.s.v)::H) w):Sat F w0 (tj (DS++[x])::H) w:=by
 have h:=h.uh;have c:∀k,(tj (DS++[x])).u1 k→(jJ (tj DS) (Ae 5 1 x.s.val x.s.v.length (bv x.s.v))).u1 k:=fun k ⟨y,d,e⟩=>by
  rcases GM.1 d with q|q
  ·exact .inl ⟨y,q,e⟩
  ·rw[YU.1 q]at e;exact .inr e
 refine⟨h.GA,fun i C q=>?_,fun i C q k a=>?_,fun i j C EY b V hj k a f=>?_⟩
 ·cases i with
  |zero=>
   cases q;have g:=h.at_ 0 _ D;intro y d
   rcases GM.1 d with q|q
   ·exact g.1 y q
   ·rw[YU.1 q];exact g.2
  |succ i=>exact h.at_ (i+1) C q
 ·cases i with
  |zero=>cases q;exact h.u4 0 _ D k (c k a)
  |succ i=>exact h.u4 (i+1) C q k a
 ·cases i with
  |zero=>
   cases V;cases j with
   |zero=>exact absurd D b
   |succ j=>exact h.u_ 0 (j+1) _ EY b D hj k (c k a) f
  |succ i=>
   cases j with
   |zero=>cases hj;exact h.u_ (i+1) 0 C _ b V D k a (c k f)
   |succ j=>exact h.u_ (i+1) (j+1) C EY b V hj k a f
theorem pY(q:Option Addr)(n c p:Nat)(l:rG)(w:World)(a:View w (I q n c) n 1 (bv l))(hl:l.length=n)(d:(p+1)*256≤n∧p≤4096):Calls lp 106 #[I q n c,E p] w (sM w (I (sp q (p*256) c 1) 256 (c - p*256))):=by
 refine Cg w Xn D 12<|K ?_;refine Af (E3 (p:=256) D D)<|Jd D<|B6 (q:=1) D D<|Af (E3 (p:=256) D D)<|Af (Fi A3 (256*p) (256*(p+1)) (Bx a) D (.some D) (.some D))<|A7 ?_;intro W b;rw[show 256*(p+1) - 256*p=256 by omega,RV 256 p];exact⟨D,b.A0⟩
theorem n8(z:BF)(ip:Option Addr)(n az p:Nat)(il:rG)(w:World)(aJ:BE [Ez z AE AE,tm z,Vg z,Ub z,SQ z,S2 z,tj z.DS] w)(aE:DA w)(aF:∀k,j0 k→¬A6 [Ez z AE AE,tm z,Vg z,Ub z,SQ z,S2 z,tj z.DS] k)(ay:View w (I ip n az) n 1 (bv il))(aA:∀k,(I ip n az).ownBlock=some k→¬A6 [Ez z AE AE,tm z,Vg z,Ub z,SQ z,S2 z,tj z.DS] k)(aG:il.length=n)(a':2≤p∧p<4096∧(p+1)*256≤n)(J:z.FN.length≤4096∧z.DS.length≤4096∧z.rs.length≤4096∧z.KE.length≤4096):Calls lp 74 #[S z.Q,I ip n az,E p] w fun e W=>∃vA hI hb ia dC rc ap ac,∃k:Nat,∃x:Bf,∃r:B9,∃a7,∃aB:BX,e=.returned (.tuple #[])∧gj p (AI il p) z.KE a7 k x r aB.n∧(aB.n=0→aB=AE)∧Sat (A6 [Ez z AE AE,tm z,Vg z,Ub z,SQ z,S2 z,tj z.DS]) w (let Lw:=z.add vA hI hb ia dC rc ap ac k x r a7;[Ez Lw AE aB,tm Lw,Vg Lw,Ub Lw,SQ Lw,S2 Lw,tj Lw.DS]) W:=by
 have ba:n≤az:=by rcases ay.2 with⟨q,_,_⟩|⟨_,_,_,q,_,h,_⟩<;>cases q<;>omega
 have bb:(G.load (AI il p)).length≤255:=by have:=((AI il p).getD 1 0).toNat_lt;unfold G.load;rw[FX];omega
 refine Cb aJ X_ D 85 fun F hF=>Je<|?_;cases aj:Fr.CZ p (AI il p)with
 |false=>
  refine K ?_;refine U<|BP Xn D (fun w b=>pY _ _ _ p _ w ((Wd ay (fun k aa q=>aA k aa (hF▸q))) w b) aG JY)<|U<|Ba EV D (fun w b=>sf p _ _ (AI il p) w (aE.sat b (fun k aa q=>aF k aa (hF▸q))) JY ((Lr p (Wd ay (fun k aa q=>aA k aa (hF▸q)))) w b) En aj) fun _ e W b ⟨aK,aL,he,J⟩=>⟨_,_,he,b.below J,?_⟩
  refine Jd D<|Bc D D<|Bc D D<|Bc D D<|K ?_;refine U<|Bw VF fun ak=>K ?_;refine U<|Bw Yc fun L=>Jg<|Jf<|Gq (fun a W=>∃Bd s5,∃x:Bf,∃r:B9,AH 85 a (Jb (Jb (Jb (Jb (Jb (Jb (Jb Jk 0 (S z.Q)) 2 (E p)) 6 (E Bd)) 7 (I none 0 0)) 9 (S ak)) 10 (S L)) 8 (E s5))∧Sat F w (O L (ab r) 142::O ak (Xz x) 138::Ez z AE AE::tm z::Vg z::Ub z::kd z x) W∧W5 p (AI il p) Bd x r s5) ?_ ?_
  ·
   refine JD<|Je<|Dr 5 1 (bv [])<|Jh<|Jd D<|Ix JY D D<|K ?_;exact fun a W d b=>⟨0,aK,Vw,G.DX,AY d,b.pick [1,2,3,4,5,6,7,8,9,0],mw aj aL⟩
  rintro a W ⟨Bd,s5,x,r,d,b,al⟩;revert a W;refine K ?_;refine JU D D<|Jg<|Jf<|HI D (fun aM=>?_) fun aM=>?_
  ·
   refine K ?_;refine U<|Dr 237 2 (Aq BQ [])<|?_;refine Ba Re D (fun w b=>kU z AE AE p s5 ([]) w (b.Ad (H1:=[Ez z AE AE,Ae 237 2 (I none 0 0) 0 (Aq BQ ([]))]) [3,0])) fun _ e W b ⟨ah,bc,he,aH,q⟩=>⟨_,_,he,Sat.call (H1:=[Ez z AE AE,Ae 237 2 (I none 0 0) 0 (Aq BQ ([]))]) (H2:=(O L (ab r) 142::O ak (Xz x) 138::tm z::Vg z::Ub z::kd z x)) (b.pick [3,0,1,2,4,5,6,7,8,9,10]) q,?_⟩
   have bd:ah.n=1:=aH;refine K ?_;refine By D<|AG sT 5 D<|AZ Lc 0 5 D D D<|Jd D<|U<|Ey G0 (Aq Bm [0]) D D D fun bf=>U<|DI (m:=1) G0 5 (Aq Bm (z.FN++([0]))) D D D (BZ 0) (HJ TR _) (H0 Gj D) D fun ad ae=>By D<|AG sT 5 D<|U<|Cq 1 5 D D D<|?_;refine Jg<|Jf<|Je<|Hj (fun a W=>∃M N,AH 85 a (Jb (Jb (Jb (Jb Jk 0 (S z.Q)) 2 (E p)) 6 (E 0)) 10 (S L))∧Sat F w (O z.Q [[E z.w],[E z.g],[E z.m],[E z.h],[E z.p],[I ad (z.FN.length+1) ae],[I M (z.DS.length+1) N],[I z.dC z.rs.length z.rc],[I z.ap z.KE.length z.ac],[I none 0 0],[I ah.p ah.n ah.c],[I z.vw 257 z.vv]] 100::O L (ab r) 142::Ae 3 1 (I ad (z.FN.length+1) ae) (z.FN.length+1) (Aq Bm (z.FN++([0])))::Ae 138 102 (I M (z.DS.length+1) N) (z.DS.length+1) (Aq GI (z.DS++([x])))::Ub z::kd z x) W) ?_ ?_
   ·
    refine CQ [3,4,9,10]<|Ab 0 D (AA D)<|Ab 1 D (AA D)<|Ab 2 D (Bp D)<|Ab 3 D (AS sT 6 D)<|Ab 5 D (BN Bv 1 D D)<|Gy 4 6 D D ?_ ?_
    ·
     refine IK (Bb IA 1 6 D D D)<|A8 [3,4,9,10]<|Bh 6 D<|Ey MF (Aq GI [x]) D (tg D) Oz fun bg=>A8 [4,5,10,11]<|Bh 7 D<|DI (m:=1) MF 7 (Aq GI (z.DS++([x]))) D D D (BZ 0) (HJ jm _) (H0 QR D) D fun M N=>A8 [4,5,10,11]<|Ab 8 D (Bp D)<|Ab 9 D (AS sT 6 D)<|Bh 10 D<|Cq 2 6 D D D<|?_;refine A8 [4,5,10,11]<|Cm<|?_;exact fun a W d b=>⟨M,N,AY d,b.pick [2,4,6,7,8,9,10,11,12]⟩
    refine Ey MF (Aq GI [x]) D (tg D) Oz fun bh=>A8 [4,5,10,11]<|Bh 4 D<|IK (Bb IA 2 6 D D D)<|A8 [4,5,10,11]<|Bh 7 D<|DI (m:=1) MF 7 (Aq GI (z.DS++([x]))) D D D (BZ 0) (HJ jm _) (H0 QR D) D fun aN aO=>A8 [4,5,10,11]<|Ab 8 D (Bp D)<|Ab 9 D (AS sT 6 D)<|Bh 10 D<|Cq 2 6 D D D<|?_;refine A8 [4,5,10,11]<|Cm<|?_;exact fun a W d b=>⟨aN,aO,AY d,b.pick [2,4,6,7,8,9,10,11,12]⟩
   rintro a W ⟨M,N,d,b⟩;revert a W;refine Jf<|Je<|Hj (fun a W=>∃V X,AH 85 a (Jb (Jb (Jb Jk 0 (S z.Q)) 2 (E p)) 6 (E 0))∧Sat F w (O z.Q [[E z.w],[E z.g],[E z.m],[E z.h],[E z.p],[I ad (z.FN.length+1) ae],[I M (z.DS.length+1) N],[I V (z.rs.length+1) X],[I z.ap z.KE.length z.ac],[I none 0 0],[I ah.p ah.n ah.c],[I z.vw 257 z.vv]] 100::Ae 3 1 (I ad (z.FN.length+1) ae) (z.FN.length+1) (Aq Bm (z.FN++([0])))::Ae 138 102 (I M (z.DS.length+1) N) (z.DS.length+1) (Aq GI (z.DS++([x])))::Ae 142 38 (I V (z.rs.length+1) X) (z.rs.length+1) (Aq Mv (z.rs++([r])))::kd z x) W) ?_ ?_
   ·
    refine CQ [1,6,7]<|Ab 0 D (AA D)<|Ab 1 D (AA D)<|Ab 2 D (Bp D)<|Ab 3 D (AS sT 7 D)<|Ab 5 D (BN sP 0 D D)<|Gy 4 6 D D ?_ ?_
    ·
     refine IK (Bb W2 0 7 D D D)<|A8 [1,6,7]<|Bh 6 D<|Ey TT (Aq Mv [r]) D (tg D) Oz fun bj=>A8 [2,7,8]<|Bh 7 D<|DI (m:=1) TT 5 (Aq Mv (z.rs++([r]))) D D D (BZ 0) (HJ iV _) (H0 Wh D) D fun V X=>A8 [2,7,8]<|Ab 8 D (Bp D)<|Ab 9 D (AS sT 7 D)<|Bh 10 D<|Cq 1 7 D D D<|?_;refine A8 [2,7,8]<|Cm<|?_;exact fun a W d b=>⟨V,X,AY d,b.pick [1,3,4,5,6,7,8,9]⟩
    refine Ey TT (Aq Mv [r]) D (tg D) Oz fun bk=>A8 [2,7,8]<|Bh 4 D<|IK (Bb W2 1 7 D D D)<|A8 [2,7,8]<|Bh 7 D<|DI (m:=1) TT 5 (Aq Mv (z.rs++([r]))) D D D (BZ 0) (HJ iV _) (H0 Wh D) D fun aP aQ=>A8 [2,7,8]<|Ab 8 D (Bp D)<|Ab 9 D (AS sT 7 D)<|Bh 10 D<|Cq 1 7 D D D<|?_;refine A8 [2,7,8]<|Cm<|?_;exact fun a W d b=>⟨aP,aQ,AY d,b.pick [1,3,4,5,6,7,8,9]⟩
   rintro a W ⟨V,X,d,b⟩;revert a W;refine K ?_;refine Gi JY D D<|K ?_;refine Jt<|Ff fun W b=>?_;subst hF;rw[show z.FN.length+1=(z.FN++[0]).length from(by rw[Gd];rfl)]at b;rw[show z.DS.length+1=(z.DS++[x]).length from(by rw[Gd];rfl)]at b;rw[show z.rs.length+1=(z.rs++[r]).length from(by rw[Gd];rfl)]at b;have T:Sat _ w [tj z.DS,Ae 5 1 x.s.val x.s.v.length (bv x.s.v),Ez (z.add ad ae M N V X z.ap z.ac 0 x r z.KE) AE ah,tm (z.add ad ae M N V X z.ap z.ac 0 x r z.KE),Vg (z.add ad ae M N V X z.ap z.ac 0 x r z.KE),Ub (z.add ad ae M N V X z.ap z.ac 0 x r z.KE),SQ (z.add ad ae M N V X z.ap z.ac 0 x r z.KE),S2 (z.add ad ae M N V X z.ap z.ac 0 x r z.KE)] W:=b.pick [6,7,0,1,2,3,4,5];exact⟨ad,ae,M,N,V,X,z.ap,z.ac,0,x,r,z.KE,ah,D,aH▸(pX al JY),fun h=>absurd h JY,T.kO.pick [1,2,3,4,5,6,0]⟩
  refine K ?_;refine By D<|AG sT 5 D<|AZ Lc 2 5 D D D<|Jd D<|U<|Ey G0 (Aq Bm [Bd]) D D D fun bl=>U<|DI (m:=1) G0 4 (Aq Bm (z.FN++([Bd]))) D D D (BZ 0) (HJ TR _) (H0 Gj D) D fun A B=>By D<|AG sT 5 D<|U<|Cq 3 5 D D D<|?_;refine Jg<|Jf<|Je<|Hj (fun a W=>∃f i,AH 85 a (Jb (Jb (Jb (Jb Jk 0 (S z.Q)) 2 (E p)) 6 (E Bd)) 10 (S L))∧Sat F w (O L (ab r) 142::O z.Q [[E z.w],[E z.g],[E z.m],[E z.h],[E z.p],[I A (z.FN.length+1) B],[I f (z.DS.length+1) i],[I z.dC z.rs.length z.rc],[I z.ap z.KE.length z.ac],[I none 0 0],[I none 0 0],[I z.vw 257 z.vv]] 100::Ae 3 1 (I A (z.FN.length+1) B) (z.FN.length+1) (Aq Bm (z.FN++([Bd])))::Ae 138 102 (I f (z.DS.length+1) i) (z.DS.length+1) (Aq GI (z.DS++([x])))::Ub z::kd z x) W) ?_ ?_
  ·
   refine CQ [1,2,8,9]<|Ab 0 D (AA D)<|Ab 1 D (AA D)<|Ab 2 D (Bp D)<|Ab 3 D (AS sT 6 D)<|Ab 5 D (BN Bv 1 D D)<|Gy 4 6 D D ?_ ?_
   ·
    refine IK (Bb IA 3 6 D D D)<|A8 [1,2,8,9]<|Bh 6 D<|Ey MF (Aq GI [x]) D (tg D) Oz fun bm=>A8 [2,3,9,10]<|Bh 7 D<|DI (m:=1) MF 6 (Aq GI (z.DS++([x]))) D D D (BZ 0) (HJ jm _) (H0 QR D) D fun f i=>A8 [2,3,9,10]<|Ab 8 D (Bp D)<|Ab 9 D (AS sT 6 D)<|Bh 10 D<|Cq 4 6 D D D<|?_;refine A8 [2,3,9,10]<|Cm<|?_;exact fun a W d b=>⟨f,i,AY d,b.pick [2,4,5,6,7,8,9,10,11]⟩
   refine Ey MF (Aq GI [x]) D (tg D) Oz fun bn=>A8 [2,3,9,10]<|Bh 4 D<|IK (Bb IA 4 6 D D D)<|A8 [2,3,9,10]<|Bh 7 D<|DI (m:=1) MF 6 (Aq GI (z.DS++([x]))) D D D (BZ 0) (HJ jm _) (H0 QR D) D fun aR aS=>A8 [2,3,9,10]<|Ab 8 D (Bp D)<|Ab 9 D (AS sT 6 D)<|Bh 10 D<|Cq 4 6 D D D<|?_;refine A8 [2,3,9,10]<|Cm<|?_;exact fun a W d b=>⟨aR,aS,AY d,b.pick [2,4,5,6,7,8,9,10,11]⟩
  rintro a W ⟨f,i,d,b⟩;revert a W;refine Jf<|Je<|Hj (fun a W=>∃o t,AH 85 a (Jb (Jb (Jb Jk 0 (S z.Q)) 2 (E p)) 6 (E Bd))∧Sat F w (O z.Q [[E z.w],[E z.g],[E z.m],[E z.h],[E z.p],[I A (z.FN.length+1) B],[I f (z.DS.length+1) i],[I o (z.rs.length+1) t],[I z.ap z.KE.length z.ac],[I none 0 0],[I none 0 0],[I z.vw 257 z.vv]] 100::Ae 3 1 (I A (z.FN.length+1) B) (z.FN.length+1) (Aq Bm (z.FN++([Bd])))::Ae 138 102 (I f (z.DS.length+1) i) (z.DS.length+1) (Aq GI (z.DS++([x])))::Ae 142 38 (I o (z.rs.length+1) t) (z.rs.length+1) (Aq Mv (z.rs++([r])))::kd z x) W) ?_ ?_
  ·
   refine CQ [0,6,7]<|Ab 0 D (AA D)<|Ab 1 D (AA D)<|Ab 2 D (Bp D)<|Ab 3 D (AS sT 7 D)<|Ab 5 D (BN sP 0 D D)<|Gy 4 6 D D ?_ ?_
   ·
    refine IK (Bb W2 1 7 D D D)<|A8 [0,6,7]<|Bh 6 D<|Ey TT (Aq Mv [r]) D (tg D) Oz fun bo=>A8 [1,7,8]<|Bh 7 D<|DI (m:=1) TT 5 (Aq Mv (z.rs++([r]))) D D D (BZ 0) (HJ iV _) (H0 Wh D) D fun o t=>A8 [1,7,8]<|Ab 8 D (Bp D)<|Ab 9 D (AS sT 7 D)<|Bh 10 D<|Cq 2 7 D D D<|?_;refine A8 [1,7,8]<|Cm<|?_;exact fun a W d b=>⟨o,t,AY d,b.pick [2,3,4,5,6,7,8,9]⟩
   refine Ey TT (Aq Mv [r]) D (tg D) Oz fun bp=>A8 [1,7,8]<|Bh 4 D<|IK (Bb W2 2 7 D D D)<|A8 [1,7,8]<|Bh 7 D<|DI (m:=1) TT 5 (Aq Mv (z.rs++([r]))) D D D (BZ 0) (HJ iV _) (H0 Wh D) D fun aT aU=>A8 [1,7,8]<|Ab 8 D (Bp D)<|Ab 9 D (AS sT 7 D)<|Bh 10 D<|Cq 2 7 D D D<|?_;refine A8 [1,7,8]<|Cm<|?_;exact fun a W d b=>⟨aT,aU,AY d,b.pick [2,3,4,5,6,7,8,9]⟩
  rintro a W ⟨o,t,d,b⟩;revert a W;refine K ?_;refine E2 D D<|Jg<|Jf<|Cz D (fun aV=>?_) fun aV=>?_
  ·
   refine K ?_;refine By D<|AG sT 8 D<|AZ Lc 0 8 D D D<|Jd D<|U<|Ey G0 (Aq Bm [p]) D D D fun bq=>U<|DI (m:=1) G0 5 (Aq Bm (z.KE++([p]))) D D D (BZ 0) (HJ TR _) (H0 Gj D) D fun aq ar=>By D<|AG sT 8 D<|U<|Cq 1 8 D D D<|?_;refine Jg<|Jt<|Ff fun W b=>?_;subst hF;rw[show z.FN.length+1=(z.FN++[Bd]).length from(by rw[Gd];rfl)]at b;rw[show z.DS.length+1=(z.DS++[x]).length from(by rw[Gd];rfl)]at b;rw[show z.rs.length+1=(z.rs++[r]).length from(by rw[Gd];rfl)]at b;rw[show z.KE.length+1=(z.KE++[p]).length from(by rw[Gd];rfl)]at b;have T:Sat _ w [tj z.DS,Ae 5 1 x.s.val x.s.v.length (bv x.s.v),Ez (z.add A B f i o t aq ar Bd x r (z.KE++[p])) AE AE,tm (z.add A B f i o t aq ar Bd x r (z.KE++[p])),Vg (z.add A B f i o t aq ar Bd x r (z.KE++[p])),Ub (z.add A B f i o t aq ar Bd x r (z.KE++[p])),SQ (z.add A B f i o t aq ar Bd x r (z.KE++[p])),S2 (z.add A B f i o t aq ar Bd x r (z.KE++[p]))] W:=b.pick [7,8,1,2,3,4,5,6];exact⟨A,B,f,i,o,t,aq,ar,Bd,x,r,z.KE++[p],AE,D,r9 al JY JY,fun _=>rfl,T.kO.pick [1,2,3,4,5,6,0]⟩
  refine Jy<|Jt<|Ff fun W b=>?_;subst hF;rw[show z.FN.length+1=(z.FN++[Bd]).length from(by rw[Gd];rfl)]at b;rw[show z.DS.length+1=(z.DS++[x]).length from(by rw[Gd];rfl)]at b;rw[show z.rs.length+1=(z.rs++[r]).length from(by rw[Gd];rfl)]at b;have T:Sat _ w [tj z.DS,Ae 5 1 x.s.val x.s.v.length (bv x.s.v),Ez (z.add A B f i o t z.ap z.ac Bd x r z.KE) AE AE,tm (z.add A B f i o t z.ap z.ac Bd x r z.KE),Vg (z.add A B f i o t z.ap z.ac Bd x r z.KE),Ub (z.add A B f i o t z.ap z.ac Bd x r z.KE),SQ (z.add A B f i o t z.ap z.ac Bd x r z.KE),S2 (z.add A B f i o t z.ap z.ac Bd x r z.KE)] W:=b.pick [6,7,0,1,2,3,4,5];exact⟨A,B,f,i,o,t,z.ap,z.ac,Bd,x,r,z.KE,AE,D,pz al JY JY,fun _=>rfl,T.kO.pick [1,2,3,4,5,6,0]⟩
 |true=>
  refine K ?_;refine U<|BP Xn D (fun w b=>pY _ _ _ p _ w ((Wd ay (fun k aa q=>aA k aa (hF▸q))) w b) aG JY)<|U<|Ba EV D (fun w b=>e7 p _ _ (AI il p) w (aE.sat b (fun k aa q=>aF k aa (hF▸q))) JY ((Lr p (Wd ay (fun k aa q=>aA k aa (hF▸q)))) w b) En aj) fun _ e W b ⟨au,av,he,aW,J⟩=>⟨_,_,he,b.own aW J,?_⟩
  refine Jd D<|Bc D D<|Bc D D<|Bc D D<|K ?_;refine U<|Bw VF fun ak=>K ?_;refine U<|Bw Yc fun L=>Jg<|Jf<|Gq (fun a W=>∃Bd s5,∃x:Bf,∃r:B9,AH 85 a (Jb (Jb (Jb (Jb (Jb (Jb (Jb Jk 0 (S z.Q)) 2 (E p)) 6 (E Bd)) 7 (I au ((G.load (AI il p)).length) av)) 9 (S ak)) 10 (S L)) 8 (E s5))∧Sat F w (O L (ab r) 142::O ak (Xz x) 138::Ae 5 1 (I au ((G.load (AI il p)).length) av) ((G.load (AI il p)).length) (bv (G.load (AI il p)))::Ez z AE AE::tm z::Vg z::Ub z::kd z x) W∧W5 p (AI il p) Bd x r s5) ?_ ?_
  ·
   refine JD<|Je<|K ?_;refine Ci JY D D<|K ?_
   by_cases aC:((AI il p).getD 0 0).toNat=3
   ·
    refine K ?_;refine EU JY D D<|K ?_;cases hr:G.record (G.load (AI il p))with
    |none=>
     refine Dr 5 1 (bv [])<|?_;refine K ?_;refine U<|BP Nb D (fun w b=>(ri au ((G.load (AI il p)).length) av (G.load (AI il p)) w ((BZ 3) w b) D JY).mono (fun e W q=>⟨q.2.1 hr,q.2.2⟩))<|Jd D<|Bc D D<|Bc D D<|U<|Bk 1 0 7 D D D<|?_;refine K ?_;exact fun a W d b=>⟨((AI il p).getD 0 0).toNat,150,Vw,G.DX,AY d,b.pick [1,2,3,4,5,6,7,8,9,10,0],jQ aj aC hr⟩
    |some r=>
     refine Dr 5 1 (bv [])<|?_;refine K ?_;refine U<|BP Nb D (fun w b=>(ri au ((G.load (AI il p)).length) av (G.load (AI il p)) w ((BZ 3) w b) D JY).mono (fun e W q=>⟨q.1 _ hr,q.2.2⟩))<|Jd D<|Bc D D<|Bc D D<|U<|Bk 1 0 7 D D D<|?_;refine K ?_;exact fun a W d b=>⟨((AI il p).getD 0 0).toNat,0,Vw,r,AY d,b.pick [1,2,3,4,5,6,7,8,9,10,0],jB aj aC hr⟩
   ·
    refine K ?_;refine Gi JY D D<|K ?_;cases aD:G.node ((AI il p).getD 0 0).toNat (G.load (AI il p))with
    |none=>
     refine Dr 5 1 (bv [])<|?_;refine K ?_;refine U<|Ba OX D (fun w b=>(cM (((AI il p).getD 0 0).toNat) au ((G.load (AI il p)).length) av (G.load (AI il p)) w ((BZ 3) w b) D JY).mono fun e W q=>(⟨q.2.1 aD,q.2.2⟩:_∧_)) fun _ e W b ⟨he,J⟩=>⟨_,_,he,b.below J,?_⟩
     refine Jd D<|Bc D D<|Bc D D<|U<|Bk 2 0 9 D D D<|?_;refine K ?_;exact fun a W d b=>⟨((AI il p).getD 0 0).toNat,90,Vw,G.DX,AY d,b.pick [1,2,3,4,5,6,7,8,9,10,0],mZ aj aC aD⟩
    |some br=>
     refine K ?_;refine U<|Ba OX D (fun w b=>(cM (((AI il p).getD 0 0).toNat) au ((G.load (AI il p)).length) av (G.load (AI il p)) w ((BZ 2) w b) D JY).mono fun e W q=>(let⟨x,h1,T,aX⟩:=q.1 _ aD;⟨x,h1,T,aX,q.2.2⟩:∃x:Bf,_∧_∧_∧_)) fun _ e W b ⟨x,aY,he,aZ,J⟩=>⟨_,_,he,b.own aZ J,?_⟩
     refine Jd D<|Bc D D<|Bc D D<|U<|Bk 2 0 9 D D D<|?_;refine K ?_;exact fun a W d b=>⟨((AI il p).getD 0 0).toNat,0,x,G.DX,AY d,b.pick [1,2,3,4,5,6,7,8,9,10,0],sO aj aC aD aY⟩
  rintro a W ⟨Bd,s5,x,r,d,b,al⟩;revert a W;refine K ?_;refine JU D D<|Jg<|Jf<|HI D (fun a0=>?_) fun a0=>?_
  ·
   refine K ?_;refine U<|Dr 237 2 (Aq BQ [])<|?_;refine Ba Re D (fun w b=>kU z AE AE p s5 ([]) w (b.Ad (H1:=[Ez z AE AE,Ae 237 2 (I none 0 0) 0 (Aq BQ ([]))]) [4,0])) fun _ e W b ⟨ai,bs,he,aI,q⟩=>⟨_,_,he,Sat.call (H1:=[Ez z AE AE,Ae 237 2 (I none 0 0) 0 (Aq BQ ([]))]) (H2:=(O L (ab r) 142::O ak (Xz x) 138::Ae 5 1 (I au ((G.load (AI il p)).length) av) ((G.load (AI il p)).length) (bv (G.load (AI il p)))::tm z::Vg z::Ub z::kd z x)) (b.pick [4,0,1,2,3,5,6,7,8,9,10,11]) q,?_⟩
   have bt:ai.n=1:=aI;refine K ?_;refine By D<|AG sT 5 D<|AZ Lc 0 5 D D D<|Jd D<|U<|Ey G0 (Aq Bm [0]) D D D fun bu=>U<|DI (m:=1) G0 6 (Aq Bm (z.FN++([0]))) D D D (BZ 0) (HJ TR _) (H0 Gj D) D fun af ag=>By D<|AG sT 5 D<|U<|Cq 1 5 D D D<|?_;refine Jg<|Jf<|Je<|Hj (fun a W=>∃P R,AH 85 a (Jb (Jb (Jb (Jb Jk 0 (S z.Q)) 2 (E p)) 6 (E 0)) 10 (S L))∧Sat F w (O z.Q [[E z.w],[E z.g],[E z.m],[E z.h],[E z.p],[I af (z.FN.length+1) ag],[I P (z.DS.length+1) R],[I z.dC z.rs.length z.rc],[I z.ap z.KE.length z.ac],[I none 0 0],[I ai.p ai.n ai.c],[I z.vw 257 z.vv]] 100::O L (ab r) 142::Ae 3 1 (I af (z.FN.length+1) ag) (z.FN.length+1) (Aq Bm (z.FN++([0])))::Ae 138 102 (I P (z.DS.length+1) R) (z.DS.length+1) (Aq GI (z.DS++([x])))::Ub z::kd z x) W) ?_ ?_
   ·
    refine CQ [3,4,10,11]<|Ab 0 D (AA D)<|Ab 1 D (AA D)<|Ab 2 D (Bp D)<|Ab 3 D (AS sT 6 D)<|Ab 5 D (BN Bv 1 D D)<|Gy 4 6 D D ?_ ?_
    ·
     refine IK (Bb IA 1 6 D D D)<|A8 [3,4,10,11]<|Bh 6 D<|Ey MF (Aq GI [x]) D (tg D) Oz fun bw=>A8 [4,5,11,12]<|Bh 7 D<|DI (m:=1) MF 8 (Aq GI (z.DS++([x]))) D D D (BZ 0) (HJ jm _) (H0 QR D) D fun P R=>A8 [4,5,11,12]<|Ab 8 D (Bp D)<|Ab 9 D (AS sT 6 D)<|Bh 10 D<|Cq 2 6 D D D<|?_;refine A8 [4,5,11,12]<|Cm<|?_;exact fun a W d b=>⟨P,R,AY d,b.pick [2,4,7,8,9,10,11,12,13]⟩
    refine Ey MF (Aq GI [x]) D (tg D) Oz fun bx=>A8 [4,5,11,12]<|Bh 4 D<|IK (Bb IA 2 6 D D D)<|A8 [4,5,11,12]<|Bh 7 D<|DI (m:=1) MF 8 (Aq GI (z.DS++([x]))) D D D (BZ 0) (HJ jm _) (H0 QR D) D fun a1 a2=>A8 [4,5,11,12]<|Ab 8 D (Bp D)<|Ab 9 D (AS sT 6 D)<|Bh 10 D<|Cq 2 6 D D D<|?_;refine A8 [4,5,11,12]<|Cm<|?_;exact fun a W d b=>⟨a1,a2,AY d,b.pick [2,4,7,8,9,10,11,12,13]⟩
   rintro a W ⟨P,R,d,b⟩;revert a W;refine Jf<|Je<|Hj (fun a W=>∃Y Z,AH 85 a (Jb (Jb (Jb Jk 0 (S z.Q)) 2 (E p)) 6 (E 0))∧Sat F w (O z.Q [[E z.w],[E z.g],[E z.m],[E z.h],[E z.p],[I af (z.FN.length+1) ag],[I P (z.DS.length+1) R],[I Y (z.rs.length+1) Z],[I z.ap z.KE.length z.ac],[I none 0 0],[I ai.p ai.n ai.c],[I z.vw 257 z.vv]] 100::Ae 3 1 (I af (z.FN.length+1) ag) (z.FN.length+1) (Aq Bm (z.FN++([0])))::Ae 138 102 (I P (z.DS.length+1) R) (z.DS.length+1) (Aq GI (z.DS++([x])))::Ae 142 38 (I Y (z.rs.length+1) Z) (z.rs.length+1) (Aq Mv (z.rs++([r])))::kd z x) W) ?_ ?_
   ·
    refine CQ [1,6,7]<|Ab 0 D (AA D)<|Ab 1 D (AA D)<|Ab 2 D (Bp D)<|Ab 3 D (AS sT 7 D)<|Ab 5 D (BN sP 0 D D)<|Gy 4 6 D D ?_ ?_
    ·
     refine IK (Bb W2 0 7 D D D)<|A8 [1,6,7]<|Bh 6 D<|Ey TT (Aq Mv [r]) D (tg D) Oz fun bz=>A8 [2,7,8]<|Bh 7 D<|DI (m:=1) TT 5 (Aq Mv (z.rs++([r]))) D D D (BZ 0) (HJ iV _) (H0 Wh D) D fun Y Z=>A8 [2,7,8]<|Ab 8 D (Bp D)<|Ab 9 D (AS sT 7 D)<|Bh 10 D<|Cq 1 7 D D D<|?_;refine A8 [2,7,8]<|Cm<|?_;exact fun a W d b=>⟨Y,Z,AY d,b.pick [1,3,4,5,6,7,8,9]⟩
    refine Ey TT (Aq Mv [r]) D (tg D) Oz fun bA=>A8 [2,7,8]<|Bh 4 D<|IK (Bb W2 1 7 D D D)<|A8 [2,7,8]<|Bh 7 D<|DI (m:=1) TT 5 (Aq Mv (z.rs++([r]))) D D D (BZ 0) (HJ iV _) (H0 Wh D) D fun a3 a4=>A8 [2,7,8]<|Ab 8 D (Bp D)<|Ab 9 D (AS sT 7 D)<|Bh 10 D<|Cq 1 7 D D D<|?_;refine A8 [2,7,8]<|Cm<|?_;exact fun a W d b=>⟨a3,a4,AY d,b.pick [1,3,4,5,6,7,8,9]⟩
   rintro a W ⟨Y,Z,d,b⟩;revert a W;refine K ?_;refine Gi JY D D<|K ?_;refine Jt<|Ff fun W b=>?_;subst hF;rw[show z.FN.length+1=(z.FN++[0]).length from(by rw[Gd];rfl)]at b;rw[show z.DS.length+1=(z.DS++[x]).length from(by rw[Gd];rfl)]at b;rw[show z.rs.length+1=(z.rs++[r]).length from(by rw[Gd];rfl)]at b;have T:Sat _ w [tj z.DS,Ae 5 1 x.s.val x.s.v.length (bv x.s.v),Ez (z.add af ag P R Y Z z.ap z.ac 0 x r z.KE) AE ai,tm (z.add af ag P R Y Z z.ap z.ac 0 x r z.KE),Vg (z.add af ag P R Y Z z.ap z.ac 0 x r z.KE),Ub (z.add af ag P R Y Z z.ap z.ac 0 x r z.KE),SQ (z.add af ag P R Y Z z.ap z.ac 0 x r z.KE),S2 (z.add af ag P R Y Z z.ap z.ac 0 x r z.KE)] W:=b.pick [6,7,0,1,2,3,4,5];exact⟨af,ag,P,R,Y,Z,z.ap,z.ac,0,x,r,z.KE,ai,D,aI▸(pX al JY),fun h=>absurd h JY,T.kO.pick [1,2,3,4,5,6,0]⟩
  refine K ?_;refine By D<|AG sT 5 D<|AZ Lc 3 5 D D D<|Jd D<|U<|Ey G0 (Aq Bm [Bd]) D D D fun bB=>U<|DI (m:=1) G0 5 (Aq Bm (z.FN++([Bd]))) D D D (BZ 0) (HJ TR _) (H0 Gj D) D fun C H=>By D<|AG sT 5 D<|U<|Cq 4 5 D D D<|?_;refine Jg<|Jf<|Je<|Hj (fun a W=>∃j l,AH 85 a (Jb (Jb (Jb (Jb Jk 0 (S z.Q)) 2 (E p)) 6 (E Bd)) 10 (S L))∧Sat F w (O L (ab r) 142::O z.Q [[E z.w],[E z.g],[E z.m],[E z.h],[E z.p],[I C (z.FN.length+1) H],[I j (z.DS.length+1) l],[I z.dC z.rs.length z.rc],[I z.ap z.KE.length z.ac],[I none 0 0],[I none 0 0],[I z.vw 257 z.vv]] 100::Ae 3 1 (I C (z.FN.length+1) H) (z.FN.length+1) (Aq Bm (z.FN++([Bd])))::Ae 138 102 (I j (z.DS.length+1) l) (z.DS.length+1) (Aq GI (z.DS++([x])))::Ub z::kd z x) W) ?_ ?_
  ·
   refine CQ [1,2,9,10]<|Ab 0 D (AA D)<|Ab 1 D (AA D)<|Ab 2 D (Bp D)<|Ab 3 D (AS sT 6 D)<|Ab 5 D (BN Bv 1 D D)<|Gy 4 6 D D ?_ ?_
   ·
    refine IK (Bb IA 4 6 D D D)<|A8 [1,2,9,10]<|Bh 6 D<|Ey MF (Aq GI [x]) D (tg D) Oz fun bC=>A8 [2,3,10,11]<|Bh 7 D<|DI (m:=1) MF 7 (Aq GI (z.DS++([x]))) D D D (BZ 0) (HJ jm _) (H0 QR D) D fun j l=>A8 [2,3,10,11]<|Ab 8 D (Bp D)<|Ab 9 D (AS sT 6 D)<|Bh 10 D<|Cq 5 6 D D D<|?_;refine A8 [2,3,10,11]<|Cm<|?_;exact fun a W d b=>⟨j,l,AY d,b.pick [2,5,6,7,8,9,10,11,12]⟩
   refine Ey MF (Aq GI [x]) D (tg D) Oz fun bD=>A8 [2,3,10,11]<|Bh 4 D<|IK (Bb IA 5 6 D D D)<|A8 [2,3,10,11]<|Bh 7 D<|DI (m:=1) MF 7 (Aq GI (z.DS++([x]))) D D D (BZ 0) (HJ jm _) (H0 QR D) D fun a5 a6=>A8 [2,3,10,11]<|Ab 8 D (Bp D)<|Ab 9 D (AS sT 6 D)<|Bh 10 D<|Cq 5 6 D D D<|?_;refine A8 [2,3,10,11]<|Cm<|?_;exact fun a W d b=>⟨a5,a6,AY d,b.pick [2,5,6,7,8,9,10,11,12]⟩
  rintro a W ⟨j,l,d,b⟩;revert a W;refine Jf<|Je<|Hj (fun a W=>∃u y,AH 85 a (Jb (Jb (Jb Jk 0 (S z.Q)) 2 (E p)) 6 (E Bd))∧Sat F w (O z.Q [[E z.w],[E z.g],[E z.m],[E z.h],[E z.p],[I C (z.FN.length+1) H],[I j (z.DS.length+1) l],[I u (z.rs.length+1) y],[I z.ap z.KE.length z.ac],[I none 0 0],[I none 0 0],[I z.vw 257 z.vv]] 100::Ae 3 1 (I C (z.FN.length+1) H) (z.FN.length+1) (Aq Bm (z.FN++([Bd])))::Ae 138 102 (I j (z.DS.length+1) l) (z.DS.length+1) (Aq GI (z.DS++([x])))::Ae 142 38 (I u (z.rs.length+1) y) (z.rs.length+1) (Aq Mv (z.rs++([r])))::kd z x) W) ?_ ?_
  ·
   refine CQ [0,6,7]<|Ab 0 D (AA D)<|Ab 1 D (AA D)<|Ab 2 D (Bp D)<|Ab 3 D (AS sT 7 D)<|Ab 5 D (BN sP 0 D D)<|Gy 4 6 D D ?_ ?_
   ·
    refine IK (Bb W2 1 7 D D D)<|A8 [0,6,7]<|Bh 6 D<|Ey TT (Aq Mv [r]) D (tg D) Oz fun bE=>A8 [1,7,8]<|Bh 7 D<|DI (m:=1) TT 5 (Aq Mv (z.rs++([r]))) D D D (BZ 0) (HJ iV _) (H0 Wh D) D fun u y=>A8 [1,7,8]<|Ab 8 D (Bp D)<|Ab 9 D (AS sT 7 D)<|Bh 10 D<|Cq 2 7 D D D<|?_;refine A8 [1,7,8]<|Cm<|?_;exact fun a W d b=>⟨u,y,AY d,b.pick [2,3,4,5,6,7,8,9]⟩
   refine Ey TT (Aq Mv [r]) D (tg D) Oz fun bF=>A8 [1,7,8]<|Bh 4 D<|IK (Bb W2 2 7 D D D)<|A8 [1,7,8]<|Bh 7 D<|DI (m:=1) TT 5 (Aq Mv (z.rs++([r]))) D D D (BZ 0) (HJ iV _) (H0 Wh D) D fun a8 a9=>A8 [1,7,8]<|Ab 8 D (Bp D)<|Ab 9 D (AS sT 7 D)<|Bh 10 D<|Cq 2 7 D D D<|?_;refine A8 [1,7,8]<|Cm<|?_;exact fun a W d b=>⟨a8,a9,AY d,b.pick [2,3,4,5,6,7,8,9]⟩
  rintro a W ⟨u,y,d,b⟩;revert a W;refine K ?_;refine E2 D D<|Jg<|Jf<|Cz D (fun a_=>?_) fun a_=>?_
  ·
   refine K ?_;refine By D<|AG sT 8 D<|AZ Lc 0 8 D D D<|Jd D<|U<|Ey G0 (Aq Bm [p]) D D D fun bG=>U<|DI (m:=1) G0 5 (Aq Bm (z.KE++([p]))) D D D (BZ 0) (HJ TR _) (H0 Gj D) D fun aw ax=>By D<|AG sT 8 D<|U<|Cq 1 8 D D D<|?_;refine Jg<|Jt<|Ff fun W b=>?_;subst hF;rw[show z.FN.length+1=(z.FN++[Bd]).length from(by rw[Gd];rfl)]at b;rw[show z.DS.length+1=(z.DS++[x]).length from(by rw[Gd];rfl)]at b;rw[show z.rs.length+1=(z.rs++[r]).length from(by rw[Gd];rfl)]at b;rw[show z.KE.length+1=(z.KE++[p]).length from(by rw[Gd];rfl)]at b;have T:Sat _ w [tj z.DS,Ae 5 1 x.s.val x.s.v.length (bv x.s.v),Ez (z.add C H j l u y aw ax Bd x r (z.KE++[p])) AE AE,tm (z.add C H j l u y aw ax Bd x r (z.KE++[p])),Vg (z.add C H j l u y aw ax Bd x r (z.KE++[p])),Ub (z.add C H j l u y aw ax Bd x r (z.KE++[p])),SQ (z.add C H j l u y aw ax Bd x r (z.KE++[p])),S2 (z.add C H j l u y aw ax Bd x r (z.KE++[p]))] W:=b.pick [7,8,1,2,3,4,5,6];exact⟨C,H,j,l,u,y,aw,ax,Bd,x,r,z.KE++[p],AE,D,r9 al JY JY,fun _=>rfl,T.kO.pick [1,2,3,4,5,6,0]⟩
  refine Jy<|Jt<|Ff fun W b=>?_;subst hF;rw[show z.FN.length+1=(z.FN++[Bd]).length from(by rw[Gd];rfl)]at b;rw[show z.DS.length+1=(z.DS++[x]).length from(by rw[Gd];rfl)]at b;rw[show z.rs.length+1=(z.rs++[r]).length from(by rw[Gd];rfl)]at b;have T:Sat _ w [tj z.DS,Ae 5 1 x.s.val x.s.v.length (bv x.s.v),Ez (z.add C H j l u y z.ap z.ac Bd x r z.KE) AE AE,tm (z.add C H j l u y z.ap z.ac Bd x r z.KE),Vg (z.add C H j l u y z.ap z.ac Bd x r z.KE),Ub (z.add C H j l u y z.ap z.ac Bd x r z.KE),SQ (z.add C H j l u y z.ap z.ac Bd x r z.KE),S2 (z.add C H j l u y z.ap z.ac Bd x r z.KE)] W:=b.pick [6,7,0,1,2,3,4,5];exact⟨C,H,j,l,u,y,z.ap,z.ac,Bd,x,r,z.KE,AE,D,pz al JY JY,fun _=>rfl,T.kO.pick [1,2,3,4,5,6,0]⟩
