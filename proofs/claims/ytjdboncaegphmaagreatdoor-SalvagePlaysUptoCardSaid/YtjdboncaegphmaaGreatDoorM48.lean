/- Laws and walks on the road to SalvagePlays (part M48). No conditions beyond each law's own. -/
import Derived.Test.YtjdboncaegphmaaGreatDoorM47
set_option linter.unusedVariables false
namespace Go.Proofs.YtjdboncaegphmaaGreatDoor
open Go.RowKit
set_option maxRecDepth 100000
set_option maxHeartbeats 2000000
def PZ(b:rG)(n:Nat):Nat→UInt32
 |0=>~~~(At.fd (b.take n))
 |i+1=>PZ b n i^^^(b.getD (n+i) 0).toUInt32<<<(8*i).toUInt32
section
variable {b l x y z:rG} {n p j k:Nat} {L:List Nat} {ch GA:Bool}
theorem oW:(PZ b n 4).toNat=At.C5 b n:=by
 have h:∀i,i<4→((b.getD (n+i) 0).toUInt32<<<(8*i).toUInt32).toNat=(b.getD (n+i) 0).toNat*2^(8*i):=fun i V=>by
  have J:=(b.getD (n+i) 0).toNat_lt;rw[UInt32.toNat_shiftLeft,nX,show(8*i).toUInt32.toNat=8*i from s_ JY,s_ (show 8*i<32 by omega),Nat.shiftLeft_eq,s_];have:2^(8*i)≤2^24:=aI JZ JY;have:=Nat.mul_lt_mul_of_lt_of_le J this JZ;omega
 unfold At.C5;rw[At.ji];show(PZ b n 0^^^_^^^_^^^_^^^_).toNat=_;rw[j8,j8,j8,j8,h 0 JZ,h 1 JZ,h 2 JZ,h 3 JZ];show(~~~(At.fd (b.take n))).toNat^^^_^^^_^^^_^^^_=_;rw[sb];simp only[m',Ry,Q6,tA,Nat.reduceMul,Nat.reducePow,au]
theorem oU{i:Nat}{x:UInt32}(h:(k1 n)[i]? =some x)(V:i<8*n+32):x.toNat=At.PD n i:=by
 rw[sa V]at h;cases h;rw[oK,s_ (At.uA V)]
theorem qJ(h:j<2048):l.set (p*256+j/8) ((AI l p).getD (j/8) 0^^^UInt8.ofNat (2^(j % 8)))=F5 l p j:=by
 unfold F5 At.bit At.Im;rw[show(2048*p+j)/8=p*256+j/8 by omega,show(2048*p+j) % 8=j % 8 by omega];have:(AI l p).getD (j/8) 0=l.getD (p*256+j/8) 0:=by
  unfold AI;rw[Dm,Dm,LQ,if_pos JY,Q1]
 rw[this]
theorem kg(h:j<2048):(F5 l p j).set (p*256+j/8) ((AI (F5 l p j) p).getD (j/8) 0^^^UInt8.ofNat (2^(j % 8)))=l:=(qJ h).trans pn
theorem aL(h:256*(p+1)≤x.length)(a:k<192):(GW x p k).getD (256*p+(64+k)) 0=(AI x p).getD (64+k) 0:=by
 rw[←e8,QK];unfold AI;rw[Dm,Dm,LQ,if_pos JY,Q1,RV p 256,←e8]
theorem ou(h:256*(p+1)≤x.length)(a:k<192)(b:(AI x p).getD (64+k) 0=0):GW x p k=GW x p (k+1):=by
 refine Y2 JY ?_;rw[←QK,e8,aL h a,b]
theorem dX(hl:b.length=256)(c:k<192):Fr.CN ((b.drop 64).take (k+1))=(Fr.CN ((b.drop 64).take k)&&decide (b.getD (64+k) 0=0)):=by
 have e:(b.drop 64).take (k+1)=(b.drop 64).take k++[b.getD (64+k) 0]:=by
  rw[Ol,Q1,Dm,F3 JY];rfl
 rw[e,tp,Kq,Vu,Vu,decide_eq_true_eq];constructor
 ·intro h;exact⟨fun u hu=>h u (S5 _ hu),h _ (lU _ (YU.2 D))⟩
 ·rintro⟨h1,a⟩ u hu
  rcases GM.1 hu with q|q
  ·exact h1 u q
  ·rw[YU.1 q];exact a
theorem jl(hl:b.length=256)(a:k<192)(h:¬b.getD (64+k) 0=0):true=(ch||!Fr.CN ((b.drop 64).take (k+1))):=by rw[dX hl a,decide_eq_false h];simp
theorem sJ(hl:b.length=256)(a:k<192)(h:b.getD (64+k) 0=0)(c:GA=(ch||!Fr.CN ((b.drop 64).take k))):GA=(ch||!Fr.CN ((b.drop 64).take (k+1))):=by rw[dX hl a,decide_eq_true h,Bool.and_true];exact c
theorem mq(hu:s7 l p=(x,ch))(a:Mo x p=true)(hl:(AI x p).length=256)(b:GA=(ch||!Fr.CN (((AI x p).drop 64).take 192))):FF l p=(GW x p 192,GA):=by
 unfold FF;rw[hu,b,DV (by rw[J3];omega)];exact if_pos a
theorem m5(hu:s7 l p=(x,ch))(a:Mo x p=false):FF l p=(x,ch):=by
 unfold FF;rw[hu];exact if_neg (by rw[a];decide)
theorem mB(Df:tx l p=(y,L))(a:FF y p=(z,true)):tx l (p+1)=(z,L++[p]):=by rw[tx,Df];show((FF y p).1,L++Zt (FF y p).2 p)=_;rw[a];rfl
theorem m8(Df:tx l p=(y,L))(a:FF y p=(z,false)):tx l (p+1)=(z,L):=by rw[tx,Df];show((FF y p).1,L++Zt (FF y p).2 p)=_;rw[a];show(z,L++[])=_;rw[Ha]
end
theorem ov(D1:Option Addr)(n c p:Nat)(l:rG)(w:World)(u:BE [Ae 5 1 (I D1 n c) n (bv l)] w)(B:DA w)(C:∀k,j0 k→¬A6 [Ae 5 1 (I D1 n c) n (bv l)] k)(P:p<4096∧(p+1)*256≤n∧n≤1048576:=by omega):Calls Tryz.prog 28 #[I D1 n c,E p] w fun e W=>e=.returned (C' (tk l p).2)∧Sat (A6 [Ae 5 1 (I D1 n c) n (bv l)]) w [Ae 5 1 (I D1 n c) n (bv (tk l p).1)] W:=by
 have hl:l.length=n:=De (u.at_ 0 _ D);have Q:=(e0 (u.at_ 0 _ D)).2;refine Cb u YF D 93 fun F hF=>Je<|Jh<|Js D<|Jg<|Jf<|Je<|Jh<|Js D<|Jg<|Jf<|Gq (fun a W=>∃(m:Nat),AH 93 a (Jb (Jb (Jb (Jb Jk 0 (I D1 n c)) 1 (E p)) 4 (C' false)) 5 (E m))∧Sat F w [Ae 5 1 (I D1 n c) n (bv l)] W∧m=IQ p) ?_ ?_
 ·
  refine K ?_;refine Ej D D<|Jg<|Jf<|Cz D (fun H=>?_) fun H=>?_
  ·
   refine K ?_;exact fun a W f d=>⟨60,AY f,d.pick [0],(by unfold IQ;rw[if_pos JY])⟩
  refine Jy<|Jf<|?_;exact fun a W f d=>⟨252,AY f,d.pick [0],(by unfold IQ;rw[if_neg JY])⟩
 rintro a W ⟨m,f,d,hm⟩;revert a W;refine Je<|?_;subst hm;have R:=sF (p:=p);have S:=oQ (p:=p);refine K ?_;refine Af (E3 (p:=256) D D)<|Jd D<|B6 (q:=1) D D<|Af (E3 (p:=256) D D)<|Af (Fi A3 (256*p) (256*(p+1)) (BZ 0) D (.some D) (.some D))<|CR 20 D (show _=(I (sp D1 (p*256) c 1) 256 (c - p*256))from by rw[show 256*(p+1) - 256*p=256 by omega,RV 256 p])<|K ?_;refine U<|Ba Xc D (fun w d=>ns (IQ p) w JY) fun _ e W d ⟨r,s,he,L,J⟩=>⟨_,_,he,d.own L J,?_⟩
 refine K ?_;refine Af (Fi A3 0 (IQ p) (Lr p (BZ 1)) rfl .none (.some D))<|U<|BP nt D (fun w d=>qf (sp (sp D1 (p*256) c 1) 0 (c - p*256) 1) (IQ p) (c - p*256) ((AI l p).take (IQ p)) w ((Db 0 (IQ p) (Lr p (BZ 1)) (by rw[HE,jS])) w d) (by have:(AI l p).length=256:=(En (by have:(l).length=n:=hl;omega));simp only[FX];omega) JY)<|Js D<|Jg<|Jf<|Je<|Je<|Jh<|Js D<|Jg<|CR 8 D (show _=(Be .u32 ((PZ (AI l p) (IQ p) 0).toNat))from D)<|Jf<|JD<|DL (fun v a W=>∃(i:Nat),v=4 - i∧AH 93 a (Jb (Jb (Jb (Jb (Jb (Jb (Jb (Jb Jk 0 (I D1 n c)) 1 (E p)) 4 (C' false)) 5 (E (IQ p))) 6 (I (sp D1 (p*256) c 1) 256 (c - p*256))) 7 (I r (8*IQ p+32) s)) 9 (E i)) 8 (Be .u32 ((PZ (AI l p) (IQ p) i).toNat)))∧Sat F w [Ae 105 1 (I r (8*IQ p+32) s) (8*IQ p+32) (Aq tt (k1 (IQ p))),Ae 5 1 (I D1 n c) n (bv l)] W∧i≤4) (fun a W f d=>⟨0,D,AY f,d.pick [0,1],JY⟩) ?_;rintro _ a W ⟨i,rfl,f,d,V⟩;revert a W;refine K ?_;refine Ej D D<|Jg<|Jf<|Cz D (fun M=>?_) fun M=>?_
 ·
  refine K ?_;refine B6 D D<|Af (Dj A3 ((IQ p)+i) ((IQ p)+i) (Lr p (BZ 1)) D D)<|Af (Fj BV ((IQ p)+i) (Lr p (BZ 1)) D)<|Af (Pq BV Wz D)<|Jd D<|Af (E3 (p:=8) D D)<|Af (Gg AF K1 D)<|Af (PJ ((8*i).toUInt32) D D (s_ JY) JY)<|Af (J0 D D)<|Js D<|Jg<|CR 8 D (show _=(Be .u32 ((PZ (AI l p) (IQ p) (i+1)).toNat))from D)<|K ?_;refine B6 (q:=1) D D<|K ?_;exact fun a W f d=>⟨_,JY,i+1,D,AY f,d.pick [0,1],JY⟩
 obtain rfl:i=4:=JY;have T:=oW (b:=AI l p) (n:=IQ p);refine K ?_;refine DL (fun v a W=>∃(j:Nat),v=8*IQ p+32 - j∧AH 93 a (Jb (Jb (Jb (Jb (Jb (Jb (Jb Jk 0 (I D1 n c)) 1 (E p)) 5 (E (IQ p))) 6 (I (sp D1 (p*256) c 1) 256 (c - p*256))) 7 (I r (8*IQ p+32) s)) 8 (Be .u32 ((PZ (AI l p) (IQ p) 4).toNat))) 10 (E j))∧Sat F w [Ae 105 1 (I r (8*IQ p+32) s) (8*IQ p+32) (Aq tt (k1 (IQ p))),Ae 5 1 (I D1 n c) n (bv l)] W∧j≤8*IQ p+32∧(∀t,t<j→At.PD (IQ p) t=At.C5 (AI l p) (IQ p)→Mo (F5 l p t) p=false)) (fun a W f d=>⟨0,D,AY f,d.pick [0,1],JY,fun t h=>absurd h JY⟩) ?_;rintro _ a W ⟨j,rfl,f,d,hj,y⟩;revert a W;refine K ?_;refine Cr rT D<|Ej D D<|Jg<|Jf<|Cz D (fun N=>?_) fun N=>?_
 ·
  refine K ?_;refine Vh jE 0 j fun x G=>Af (Dj uc j j (BZ 0) D D)<|Af (J1 Wz jE j G (BZ 0) D D)<|?_;have X:=oU G JY;refine Jd D<|E2 D D<|Jg<|Jf<|Cz D (fun O=>?_) fun O=>?_
  ·
   have he:At.PD (IQ p) j=At.C5 (AI l p) (IQ p):=JY;refine K ?_;refine Af (Iy (q:=8) D D)<|Jd D<|Jd D<|Af (Iy (q:=8) D D)<|Af (Dj A3 (j/8) (j/8) (Lr p (BZ 1)) D D)<|Af (Fj BV (j/8) (Lr p (BZ 1)) D)<|Jd D<|Af (GG (q:=8) D D)<|Af (Gg AF K1 D)<|Af (pJ D D)<|Af (aK D D)<|Af (Dj A3 (j/8) (j/8) (Lr p (BZ 1)) D D)<|U<|hg 1 ((p*256)+j/8) (p*256) D D D (jV _ _ (((AI l p).getD (j/8) 0)^^^(UInt8.ofNat (2^(j % 8)))))<|Jg<|Tf 1 (bv (l.set ((p*256)+j/8) (((AI l p).getD (j/8) 0)^^^(UInt8.ofNat (2^(j % 8)))))) (bv (F5 l p j)) (congrArg bv (qJ JY))<|Jf<|Je<|?_;cases o:Mo (F5 l p j) p with
   |false=>
    refine K ?_;refine U<|BP QQ D (fun w d=>(Ns _ _ _ p (F5 l p j) w (B.sat d (fun k A z=>C k A (hF▸z))) ((BZ 1) w d) (ua.trans hl)).mono fun e W q=>⟨q.1.trans (congrArg (fun b=>Ending.returned (Value.bool b)) o),q.2⟩)<|K ?_;refine Af (Iy (q:=8) D D)<|Jd D<|Jd D<|Af (Iy (q:=8) D D)<|Af (Dj A3 (j/8) (j/8) (Lr p (BZ 1)) D D)<|Af (Fj BV (j/8) (Lr p (BZ 1)) D)<|Jd D<|Af (GG (q:=8) D D)<|Af (Gg AF K1 D)<|Af (pJ D D)<|Af (aK D D)<|Af (Dj A3 (j/8) (j/8) (Lr p (BZ 1)) D D)<|U<|hg 1 ((p*256)+j/8) (p*256) D D D (jV _ _ (((AI (F5 l p j) p).getD (j/8) 0)^^^(UInt8.ofNat (2^(j % 8)))))<|Jg<|Tf 1 (bv ((F5 l p j).set ((p*256)+j/8) (((AI (F5 l p j) p).getD (j/8) 0)^^^(UInt8.ofNat (2^(j % 8)))))) (bv l) (congrArg bv (kg JY))<|K ?_;refine B6 (q:=1) D D<|K ?_;exact fun a W f d=>⟨_,JY,j+1,D,AY f,d.pick [0,1],JY,fun t h q=>(s9 t j).elim (fun g=>y t g q) (fun g=>(show j=t by omega)▸o)⟩
   |true=>
    refine K ?_;refine U<|BP QQ D (fun w d=>(Ns _ _ _ p (F5 l p j) w (B.sat d (fun k A z=>C k A (hF▸z))) ((BZ 1) w d) (ua.trans hl)).mono fun e W q=>⟨q.1.trans (congrArg (fun b=>Ending.returned (Value.bool b)) o),q.2⟩)<|K ?_;refine U<|BP Ty D (fun w d=>(qN _ 256 _ (IQ p) 0 (AI (F5 l p j) p) w ((Lr p (BZ 1)) w d) (En (by have:(F5 l p j).length=n:=(ua.trans hl);omega)) JY).mono fun e W q=>⟨q.1.trans (congrArg (fun b=>Ending.returned (Value.bool b)) (rj o)),q.2⟩)<|A7 ?_;intro W d;subst hF;rw[ku JY he o];exact⟨D,d.pick [1]⟩
  have he:¬At.PD (IQ p) j=At.C5 (AI l p) (IQ p):=JY;refine K ?_;refine B6 (q:=1) D D<|K ?_;exact fun a W f d=>⟨_,JY,j+1,D,AY f,d.pick [0,1],JY,fun t h q=>(s9 t j).elim (fun g=>y t g q) (fun g=>absurd ((show t=j by omega)▸q) he)⟩
 refine A7 ?_;intro W d;subst hF;rw[lO (fun t Y=>y t JY)];exact⟨D,d.pick [1]⟩
theorem mO(D1:Option Addr)(n c:Nat)(l:rG)(w:World)(Q:BE [Ae 5 1 (I D1 n c) n (bv l)] w)(u:DA w)(r:∀k,j0 k→¬A6 [Ae 5 1 (I D1 n c) n (bv l)] k)(X:768≤n∧n≤1048576:=by omega):Calls Tryz.prog 25 #[I D1 n c] w fun e W=>∃R J S,e=.returned (I R J S)∧Sat (A6 [Ae 5 1 (I D1 n c) n (bv l)]) w [Ae 5 1 (I D1 n c) n (bv (sX l).1),Ae 3 1 (I R J S) J (Aq Bm (sX l).2)] W:=by
 have hl:l.length=n:=De (Q.at_ 0 _ D);refine Cb Q lg D 49 fun F hF=>K ?_;refine Dr 3 1 (Aq Bm [])<|DL (fun v a W=>∃(p:Nat) (y:rG) (L:List Nat) (j:Option Addr) (o:Nat) (g:Nat),v=2 - p∧AH 49 a (Jb (Jb (Jb (Jb Jk 0 (I D1 n c)) 2 (I none 0 0)) 4 (E p)) 3 (I j g o))∧Sat F w [Ae 3 1 (I j g o) g (Aq Bm L),Ae 5 1 (I D1 n c) n (bv y)] W∧p≤2∧g≤p∧tx l p=(y,L)∧y.length=n) (fun a W f d=>⟨0,l,[],_,_,_,D,AY f,d.pick [0,1],JY,JY,D,hl⟩) ?_;rintro _ a W ⟨p,y,L,j,o,g,rfl,f,d,Y,G4,Df,A⟩;revert a W;refine K ?_;refine Ej D D<|Jg<|Jf<|Cz D (fun T=>?_) fun T=>?_
 ·
  refine Jy<|Jf<|Je<|JD<|Je<|Jh<|Js D<|Jg<|Jf<|Gq (fun a W=>∃(x:rG) (ch:Bool),AH 49 a (Jb (Jb (Jb (Jb (Jb Jk 0 (I D1 n c)) 2 (I none 0 0)) 4 (E p)) 3 (I j g o)) 5 (C' ch))∧Sat F w [Ae 3 1 (I j g o) g (Aq Bm L),Ae 5 1 (I D1 n c) n (bv x)] W∧s7 y p=(x,ch)∧x.length=n) ?_ ?_
  ·
   refine Je<|?_;cases B:Mo y p with
   |false=>
    refine K ?_;refine U<|BP QQ D (fun w d=>(Ns _ _ _ p y w (u.sat d (fun k i z=>r k i (hF▸z))) ((BZ 1) w d) A).mono fun e W q=>⟨q.1.trans (congrArg (fun b=>Ending.returned (Value.bool b)) B),q.2⟩)<|Af (Te D)<|K ?_;refine U<|Ba YF D (fun w d=>ov D1 n c p y w (d.Ad [1]) (u.sat d (fun k i z=>r k i (hF▸z))) (fun k i z=>r k i (by have h:=NA z;exact⟨0,_,D,h⟩))) fun _ e W d ⟨he,q⟩=>⟨_,_,he,d.As [1] [0] q,?_⟩
    refine K ?_;exact fun a W f d=>⟨(tk y p).1,(tk y p).2,AY f,d.pick [1,0],(by unfold s7;exact if_neg (by rw[B];decide)),lo.trans A⟩
   |true=>
    refine K ?_;refine U<|BP QQ D (fun w d=>(Ns _ _ _ p y w (u.sat d (fun k i z=>r k i (hF▸z))) ((BZ 1) w d) A).mono fun e W q=>⟨q.1.trans (congrArg (fun b=>Ending.returned (Value.bool b)) B),q.2⟩)<|Af (Te D)<|K ?_;exact fun a W f d=>⟨y,false,AY f,d.pick [0,1],(by unfold s7;exact if_pos B),A⟩
  rintro a W ⟨x,ch,f,d,C,s⟩;revert a W;refine Je<|?_;cases t:Mo x p with
  |false=>
   refine K ?_;refine U<|BP QQ D (fun w d=>(Ns _ _ _ p x w (u.sat d (fun k i z=>r k i (hF▸z))) ((BZ 1) w d) s).mono fun e W q=>⟨q.1.trans (congrArg (fun b=>Ending.returned (Value.bool b)) t),q.2⟩)<|K ?_;refine DL (fun v a W=>v=0+0∧AH 49 a (Jb (Jb (Jb (Jb (Jb (Jb (Jb Jk 0 (I D1 n c)) 2 (I none 0 0)) 4 (E p)) 3 (I j g o)) 6 (C' false)) 7 (E 64)) 5 (C' ch))∧Sat F w [Ae 3 1 (I j g o) g (Aq Bm L),Ae 5 1 (I D1 n c) n (bv x)] W) (fun a W f d=>⟨D,AY f,d.pick [0,1]⟩) ?_;rintro _ a W ⟨rfl,f,d⟩;revert a W;refine K ?_;refine IS JY D D<|K ?_;refine J9 D (fun M=>?_) fun M=>?_
   ·
    subst M;refine K ?_;refine U<|Ey G0 (Aq Bm [p]) D D D fun Z=>U<|DI (m:=1) G0 1 (Aq Bm (L++([p]))) D D D (BZ 0) (HJ TR _) (H0 Gj D) D fun aa ab=>K ?_;refine B6 (q:=1) D D<|K ?_;exact fun a W f d=>⟨_,JY,p+1,x,L++([p]),_,_,_,D,AY f,d.pick [1,2],JY,JY,mB Df (m5 C t),s⟩
   subst M;refine K ?_;refine B6 (q:=1) D D<|K ?_;exact fun a W f d=>⟨_,JY,p+1,x,L,_,_,_,D,AY f,d.pick [0,1],JY,JY,m8 Df (m5 C t),s⟩
  |true=>
   have G:(AI x p).length=256:=En;refine K ?_;refine U<|BP QQ D (fun w d=>(Ns _ _ _ p x w (u.sat d (fun k i z=>r k i (hF▸z))) ((BZ 1) w d) s).mono fun e W q=>⟨q.1.trans (congrArg (fun b=>Ending.returned (Value.bool b)) t),q.2⟩)<|Js D<|Jg<|Jf<|Je<|Je<|Jh<|Js D<|Jg<|Tf 1 (bv x) (bv (GW x p 0)) (congrArg bv (Wn _ _).symm)<|Jf<|JD<|DL (fun v a W=>∃(k:Nat) (GA:Bool),v=192 - k∧AH 49 a (Jb (Jb (Jb (Jb (Jb (Jb (Jb Jk 0 (I D1 n c)) 2 (I none 0 0)) 4 (E p)) 3 (I j g o)) 6 (C' true)) 7 (E (64+k))) 5 (C' GA))∧Sat F w [Ae 3 1 (I j g o) g (Aq Bm L),Ae 5 1 (I D1 n c) n (bv (GW x p k))] W∧k≤192∧GA=(ch||!Fr.CN (((AI x p).drop 64).take k))) (fun a W f d=>⟨0,ch,D,AY f,d.pick [0,1],JY,by rw[Jaa,show Fr.CN []=true from D];simp⟩) ?_;rintro _ a W ⟨k,GA,rfl,f,d,i,N⟩;revert a W;refine K ?_;refine GV D D (fun V=>?_) fun V=>?_
   ·
    refine K ?_;refine Af (E3 (p:=256) D D)<|Jd D<|B6 D D<|Af (Dj A3 ((256*p)+(64+k)) ((256*p)+(64+k)) (BZ 1) D D)<|Af (Fj BV ((256*p)+(64+k)) (BZ 1) D)<|JU D D<|Jg<|Jf<|HI D (fun O=>?_) fun O=>?_
    ·
     have H:¬(AI x p).getD (64+k) 0=0:=fun q=>O (by rw[aL JY JY,q];rfl);refine K ?_;refine Af (E3 (p:=256) D D)<|Jd D<|B6 D D<|Af (Dj A3 ((256*p)+(64+k)) ((256*p)+(64+k)) (BZ 1) D D)<|U<|jj 1 ((256*p)+(64+k)) D D D (jV _ _ 0)<|Jg<|Tf 1 (bv ((GW x p k).set ((256*p)+(64+k)) 0)) (bv (GW x p (k+1))) (congrArg bv Y5)<|K ?_;refine B6 (q:=1) D D<|K ?_;exact fun a W f d=>⟨_,JY,k+1,true,D,AY f,d.pick [0,1],JY,jl G JY H⟩
    have H:(AI x p).getD (64+k) 0=0:=by rw[←aL (x:=x) (p:=p) JY JY];exact M'.1 (by have:=O;simp only[UInt8.toNat_ofNat];omega)
    refine Jy<|JA<|Jf<|Tf 1 (bv (GW x p k)) (bv (GW x p (k+1))) (congrArg bv (ou JY JY H))<|Jh<|Jd D<|B6 (q:=1) D D<|K ?_;exact fun a W f d=>⟨_,JY,k+1,GA,D,AY f,d.pick [0,1],JY,sJ G JY H N⟩
   refine K ?_;obtain rfl:k=192:=JY;refine K ?_;refine J9 D (fun P=>?_) fun P=>?_
   ·
    subst P;refine K ?_;refine U<|Ey G0 (Aq Bm [p]) D D D fun ad=>U<|DI (m:=1) G0 1 (Aq Bm (L++([p]))) D D D (BZ 0) (HJ TR _) (H0 Gj D) D fun ae af=>K ?_;refine B6 (q:=1) D D<|K ?_;exact fun a W f d=>⟨_,JY,p+1,GW x p 192,L++([p]),_,_,_,D,AY f,d.pick [1,2],JY,JY,mB Df (mq C t G N),(cn).trans s⟩
   subst P;refine K ?_;refine B6 (q:=1) D D<|K ?_;exact fun a W f d=>⟨_,JY,p+1,GW x p 192,L,_,_,_,D,AY f,d.pick [0,1],JY,JY,m8 Df (mq C t G N),(cn).trans s⟩
 refine A7 ?_;intro W d;subst hF;obtain rfl:p=2:=JY;unfold sX;rw[Df];exact⟨_,_,_,D,d.pick [1,0]⟩
theorem pO(q:Option Addr)(n c:Nat)(l:rG)(w:World)(f:DA w)(Df:Ld w)(g:n≠0→View w (I q n c) n 1 (bv l))(hl:l.length=n)(s:n≤1099511627776):Calls lp 18 #[I q n c] w fun e W=>(GD n≠0→e=.returned (.tuple #[E 0,E 0,E (GD n)]))∧(GD n=0→(∀k,sY l=.error k→e=.returned (.tuple #[E 0,E 0,E k]))∧∀u,sY l=.ok u→∃z i p,aO l u z i p∧e=.returned (.tuple #[E (Lv z i).1,E (Lv z i).2,E 0]))∧Below w.heap.size w W:=by
 refine Cg w W9 D 27<|K ?_
 by_cases b:GD n=0
 ·
  cases d:sY l with
  |ok u=>
   have t:=me d hl;refine K ?_;refine U<|Ba FW D (fun w a=>(kM _ _ _ l w (f.below a.A0 (Br _)) (Df.sat a) (fun j=>(Bx (g JY)) w a) hl).mono fun e W q=>(q.2 b).2 _ d) fun _ e W a ⟨z,T,Au,p,he,hQ,q⟩=>⟨_,_,he,a.Nk q,?_⟩
   refine Jd D<|Bc D D<|Bc D D<|Bc D D<|K ?_;have m:p≤4096:=by have:=hQ.uF;omega
   have x:=hQ.fr.all m;have y:=hQ.uD;refine K ?_;refine Ci JY D D<|K ?_;refine U<|Ba Lm D (fun w a=>pt z T Au l p T.n w (a.Ad [0,1]) hQ.fr hQ.uD (hQ.fr.all m)) fun _ e W a ⟨he,q⟩=>⟨_,_,he,a.As [0,1] [] q,?_⟩
   refine Jd D<|Bc D D<|Bc D D<|K ?_;refine Gz D D D fun W a=>?_;exact⟨fun h=>absurd b h,fun _=>⟨fun r h=>(by cases h),fun A h=>(by cases h;exact⟨z,T.n,p,hQ,D⟩)⟩,a.A0⟩
  |error k=>
   have o:=jo d;refine K ?_;refine U<|Ba FW D (fun w a=>(kM _ _ _ l w (f.below a.A0 (Br _)) (Df.sat a) (fun j=>(Bx (g JY)) w a) hl).mono fun e W q=>(q.2 b).1 _ d) fun _ e W a ⟨he,J⟩=>⟨_,_,he,a.below J,?_⟩
   refine Jd D<|Bc D D<|Bc D D<|Bc D D<|K ?_;refine Ix JY D D<|K ?_;refine Gz D D D fun W a=>?_;exact⟨fun h=>absurd b h,fun _=>⟨fun r h=>(by cases h;rfl),fun u h=>(by cases h)⟩,a.A0⟩
 ·
  refine K ?_;refine U<|Ba FW D (fun w a=>(kM _ _ _ l w (f.below a.A0 (Br _)) (Df.sat a) (fun j=>(Bx (g JY)) w a) hl).mono fun e W q=>q.1 b) fun _ e W a ⟨he,J⟩=>⟨_,_,he,a.below J,?_⟩
  refine Jd D<|Bc D D<|Bc D D<|Bc D D<|K ?_;refine Ix JY D D<|K ?_;refine Gz D D D fun W a=>?_;exact⟨fun _=>rfl,fun h=>absurd h b,a.A0⟩
def sR(u:Fr.Bu)(i:Nat)(L:List Nat):List UInt8:=if i % 2=0 then Ref.EC (Nu u i L)++Ref.EC (Nu u (i+1) L)else Ref.EC (Nu u (i+1) L)++Ref.EC (Nu u i L)
def kN(i:Nat)(L:List Nat):Nat:=if 0<i then(L.getD (i - 1) 0+1)*256 else 512
def iB(l:rG)(u:Fr.Bu)(L:List Nat)(i:Nat):List UInt8:=(sR u i L++(l.drop 512).take (kN i L - 512))++List.replicate (l.length - kN i L) 0
theorem fq(q:Option Addr)(n c:Nat)(l:rG)(u:Fr.Bu)(r:Option Addr)(o s i:Nat)(L:List Nat)(w:World)(z:DA w)(A:View w (I q n c) n 1 (bv l))(hl:l.length=n)(ab:768≤n∧n≤1048576)(t:View w (I r o s) o 1 (Aq Bm L))(B:L.length=o)(V:i≤o∧o≤4096∧u.p≤4096)(y:∀x∈L,x≤1048576)(Sf:∀x∈L,2≤x∧(x+1)*256≤n):Calls lp 39 #[I q n c,rS (Z1 u),I r o s,E i] w fun e W=>∃C F,e=.returned (I C n F)∧W.ownsRow w.heap.size 5 1 (I C n F) n (bv (iB l u L i))∧Below w.heap.size w W:=by
 refine Cg w S7 D 60<|Je<|Jh<|U<|Cv D fun ad=>K ?_;refine Af (BN Bs 0 D D)<|Jd D<|B6 (q:=1) D D<|Jd D<|U<|Ba R4 D (fun w d=>qC u (i+1) _ _ _ L w (z.below d.A0 (Br _)) ((Bx t) w d) B JY y JY) fun _ e W d ⟨G,H,he,O,J⟩=>⟨_,_,he,d.own O J,?_⟩
 refine K ?_;refine Af (BN Bs 1 D D)<|Jd D<|Jd D<|U<|Ba R4 D (fun w d=>qC u i _ _ _ L w (z.below d.A0 (Br _)) ((Bx t) w d) B JY y JY) fun _ e W d ⟨M,N,he,P,J⟩=>⟨_,_,he,d.own P J,?_⟩
 refine Js D<|Jg<|Jf<|Je<|Jh<|Js D<|Jg<|Jf<|Dr 5 1 (bv [])<|Gq (fun a W=>∃h j g,AH 60 a (Jb (Jb (Jb (Jb (Jb (Jb (Jb Jk 0 (I q n c)) 2 (I r o s)) 3 (E i)) 8 (I none 0 0)) 9 (I G 256 H)) 10 (I M 256 N)) 11 (I h 512 j))∧Sat C1 w [Ae 5 1 (I h 512 j) 512 (bv g),Ae 5 1 (I M 256 N) 256 (bv (Ref.EC (Nu u i L))),Ae 5 1 (I G 256 H) 256 (bv (Ref.EC (Nu u (i+1) L)))] W∧g=sR u i L) ?_ ?_
 ·
  refine K ?_;refine Af (GG (q:=2) D D)<|E2 D D<|Jg<|Jf<|Cz D (fun Q=>?_) fun Q=>?_
  ·
   refine K ?_;refine U<|DI A3 0 (bv (Ref.EC (Nu u i L))) D D D (BZ 1) (Eo _) (EL (l':=(Ref.EC (Nu u i L))) (Ref.b7 _)) D fun ae af=>K ?_;refine U<|DI A3 0 (bv ((Ref.EC (Nu u i L))++(Ref.EC (Nu u (i+1) L)))) D D D (BZ 2) (Eo _) (EL (l':=(Ref.EC (Nu u (i+1) L))) (Ref.b7 _)) D fun ag ah=>K ?_;exact fun a W f d=>⟨_,_,_,AY f,d.pick [0,1,2],(by unfold sR;rw[if_pos JY])⟩
  refine K ?_;refine U<|DI A3 0 (bv (Ref.EC (Nu u (i+1) L))) D D D (BZ 2) (Eo _) (EL (l':=(Ref.EC (Nu u (i+1) L))) (Ref.b7 _)) D fun ai aj=>K ?_;refine U<|DI A3 0 (bv ((Ref.EC (Nu u (i+1) L))++(Ref.EC (Nu u i L)))) D D D (BZ 1) (Eo _) (EL (l':=(Ref.EC (Nu u i L))) (Ref.b7 _)) D fun ak al=>K ?_;exact fun a W f d=>⟨_,_,_,AY f,d.pick [0,1,2],(by unfold sR;rw[if_neg JY])⟩
 rintro a W ⟨h,j,g,f,d,R⟩;revert a W;refine Je<|Jh<|Js D<|Jg<|Jf<|Gq (fun a W=>∃b,AH 60 a (Jb (Jb (Jb (Jb (Jb (Jb Jk 0 (I q n c)) 2 (I r o s)) 3 (E i)) 8 (I none 0 0)) 11 (I h 512 j)) 12 (E b))∧Sat C1 w [Ae 5 1 (I h 512 j) 512 (bv g)] W∧b=kN i L∧(512≤b∧b≤n)) ?_ ?_
 ·
  refine K ?_;refine Mp D D<|Jg<|Jf<|Cz D (fun S=>?_) fun S=>?_
  ·
   obtain⟨x,v⟩:∃x,L[i - 1]? =some x:=⟨_,F3 JY⟩
   have an:=y _ (ta v);have T:L.getD (i - 1) 0=x:=by rw[Dm,v];rfl
   have ao:=Sf _ (ta v);refine K ?_;refine Es (q:=1) D D<|Af (Dj G0 (i - 1) (i - 1) (Bx t) D D)<|Af (J1 AF Gj (i - 1) v (Bx t) D D)<|B6 (q:=1) D D<|Af (E3 (q:=256) D D)<|K ?_;exact fun a W f d=>⟨(x+1)*256,AY f,d.pick [0],(by unfold kN;rw[if_pos JY,T]),JY⟩
  refine Jy<|Jf<|?_;exact fun a W f d=>⟨512,AY f,d.pick [0],(by unfold kN;rw[if_neg JY]),JY⟩
 rintro a W ⟨b,f,d,X,aq⟩;revert a W;refine K ?_;refine Af (Fi A3 512 b (Bx A) D (.some D) (.some D))<|U<|DI A3 0 (bv (g++((l.drop 512).take (b - 512)))) D D D (Db 512 b (Bx A) D) (Eo _) (EL (by have:(l).length=n:=hl;simp only[FX,J3];omega)) D fun ar au=>K ?_;refine Tf 0 (bv (g++((l.drop 512).take (b - 512)))) (bv ((g++(l.drop 512).take (b - 512))++List.replicate (512+(b - 512) - b) 0)) (by rw[show 512+(b - 512) - b=0 by omega];exact congrArg bv (Ha _).symm)<|DL (fun Y a W=>∃k h j,Y=n - k+0∧AH 60 a (Jb (Jb (Jb Jk 0 (I q n c)) 8 (I none 0 0)) 11 (I h k j))∧Sat C1 w [Ae 5 1 (I h k j) k (bv ((g++(l.drop 512).take (b - 512))++List.replicate (k - b) 0))] W∧(b≤k∧k≤n)) (fun a W f d=>⟨512+(b - 512),_,_,D,AY f,d.pick [0],JY⟩) ?_;rintro _ a W ⟨k,h,j,rfl,f,d,av⟩;revert a W;refine K ?_;refine Cr B7 D<|Jd D<|Cr B7 D<|Ej D D<|Jg<|Jf<|Cz D (fun Z=>?_) fun Z=>?_
 ·
  refine K ?_;refine U<|Ey A3 (bv [0]) D D D fun aw=>U<|DI (m:=1) A3 1 (bv ((g++(l.drop 512).take (b - 512))++List.replicate (k - b) 0++([0]))) D D D (BZ 0) (Eo _) (EL (l':=[0]) D) D fun ax ay=>Js D<|Jg<|Tf 1 (bv ((g++(l.drop 512).take (b - 512))++List.replicate (k - b) 0++([0]))) (bv ((g++(l.drop 512).take (b - 512))++List.replicate (k+1 - b) 0)) (by rw[show k+1 - b=(k - b)+1 by omega,hs,C9])<|JA<|Jf<|?_;exact fun a W f d=>⟨_,JY,k+1,_,_,D,AY f,d.pick [1],JY⟩
 refine A7 ?_;intro W d;obtain rfl:k=n:=JY;have aa:iB l u L i=(g++(l.drop 512).take (b - 512))++List.replicate (k - b) 0:=by unfold iB;rw[←R,←X,hl]
 rw[aa];exact⟨_,_,D,d.DQ 0,d.A0⟩
theorem pM{l:rG}{u:Fr.Bu}{z:BF}{k p:Nat}(hQ:aO l u z k p):(Lv z k).1≤1073741824∧(Lv z k).2≤1073741824∧(((Lv z k).1=0∧(Lv z k).2=k)∨(0<k∧0<(Lv z k).1∧(Lv z k).2+1=(Lv z k).1+k)):=by
 cases k with
 |zero=>exact⟨F2 _,F2 _,.inl ⟨D,D⟩⟩
 |succ k=>
  obtain⟨o,ho⟩:=hQ.yes;have g:=hQ.uD;rw[G.EO]at ho;cases h1:G.EO z.w z.AW z.Em z.KE k with
  |none=>rw[h1]at ho;cases ho
  |some j=>
   rw[h1]at ho;have ho:G.version z.w z.AW z.Em z.KE j (k+1)=some o:=ho;obtain⟨q,a⟩:∃q,z.KE[k]? =some q:=⟨_,F3 JY⟩
   obtain⟨Ll,b⟩:∃q,z.KE[0]? =some q:=⟨_,F3 JY⟩
   obtain⟨y,c,_,m⟩:=hQ.fr.TO (ta a);obtain⟨s6,d,_,n⟩:=hQ.fr.TO (ta b);have s:=kG m;have t:=kG n;rw[pZ (dI a) c (dI b) d]at ho;have r:Zj z k:=by
    by_cases h:Zj z k
    ·exact h
    ·rw[if_neg h]at ho;cases ho
   have f:=r.2.1;have e:=qB (z:=z) (i:=k+1) JY b d (by rw[Yp];exact a) c;rw[dI a,dI b,tu c,tu d]at f;rw[e];dsimp only;split at f<;>omega
theorem lQ{l:rG}{u v:Fr.Bu}{L:List Nat}{i:Nat}(h:u.w=v.w∧u.p=v.p):iB l u L i=iB l v L i:=by
 have e:∀g,Nu u g L=Nu v g L:=fun g=>by unfold Nu;rw[h.1,h.2]
 unfold iB sR;rw[e,e]
def kZ(l:rG)(u:Fr.Bu)(z:BF)(i:Nat)(v:Int)(n:Nat)(w:World)(e:Ending)(W:World):Prop:=
 let t:Int:=if v= -1 then((Lv z i).2:Int)else v
 ((t<0∨((Lv z i).2:Int)<t)→e=.returned (.tuple #[I none 0 0,E 151]))∧
 (¬(t<0∨((Lv z i).2:Int)<t)→t<((Lv z i).1:Int)→e=.returned (.tuple #[I none 0 0,E 152]))∧
 (¬(t<0∨((Lv z i).2:Int)<t)→¬t<((Lv z i).1:Int)→∃(j:Nat) (a:Option Addr) (b:Nat),(j:Int)=(i:Int) - (((Lv z i).2:Int) - t)∧j≤i∧e=.returned (.tuple #[I a n b,E 0])∧W.ownsRow w.heap.size 5 1 (I a n b) n (bv (iB l u z.KE j)))
theorem m4(t:Option Addr)(n c:Nat)(l:rG)(v:Int)(w:World)(y:DA w)(Df:Ld w)(A:n≠0→View w (I t n c) n 1 (bv l))(hl:l.length=n)(ae:n≤1099511627776)(af: -9223372036854775808≤v∧v≤9223372036854775807):Calls lp 20 #[I t n c,Value.int .i64 (v:Int)] w fun e W=>(GD n≠0→e=.returned (.tuple #[I none 0 0,E (GD n)]))∧(GD n=0→(∀k,sY l=.error k→e=.returned (.tuple #[I none 0 0,E k]))∧∀u,sY l=.ok u→∃(z:BF) (i p:Nat),aO l u z i p∧kZ l u z i v n w e W)∧Below w.heap.size w W:=by
 refine Cg w P2 D 54<|K ?_
 by_cases d:GD n=0
 ·
  cases s:sY l with
  |ok u=>
   have ag:=me s hl;refine K ?_;refine U<|Ba FW D (fun w b=>(kM _ _ _ l w (y.below b.A0 (Br _)) (Df.sat b) (fun G=>(Bx (A JY)) w b) hl).mono fun e W q=>(q.2 d).2 _ s) fun _ e W b ⟨z,T,Au,p,he,hQ,q⟩=>⟨_,_,he,b.Nk q,?_⟩
   refine Jd D<|Bc D D<|Bc D D<|Bc D D<|K ?_;have H:p≤4096:=by have:=hQ.uF;omega
   have O:=hQ.fr.all H;have ah:=hQ.uD;have P:=ff d;have ai:=pM hQ;have R:=hA s;have V:z.p≤4096:=by rw[hQ.hw.2,R.1,hl];omega
   have M:∀x∈z.KE,2≤x∧x<p:=fun x r=>by rw[hQ.fr.KE]at r;have:=lf r;exact⟨this.1,this.2.1⟩
   have X:∀x∈z.KE,x≤1048576:=fun x r=>by have:=M x r;omega
   have Sf:∀x∈z.KE,2≤x∧(x+1)*256≤n:=fun x r=>by have:=M x r;have:=hQ.uF;omega
   refine K ?_;refine Ci JY D D<|K ?_;refine U<|Ba Lm D (fun w b=>pt z T Au l p T.n w (b.Ad [0,1]) hQ.fr hQ.uD (hQ.fr.all H)) fun _ e W b ⟨he,q⟩=>⟨_,_,he,b.As [0,1] [] q,?_⟩
   refine Jd D<|Bc D D<|Bc D D<|Js D<|Js D<|Jg<|Jf<|Gq (fun a W=>∃(f:Int),AH 54 a (Jb (Jb (Jb (Jb (Jb (Jb (Jb (Jb Jk 0 (I t n c)) 4 (I none 0 0)) 5 (E 0)) 6 (S z.Q)) 7 (E T.n)) 9 (E ((Lv z T.n).1))) 10 (E ((Lv z T.n).2))) 1 (Value.int .i64 (f:Int)))∧Sat C1 w [Ez z T Au,Gb z] W∧(f=if v= -1 then((Lv z T.n).2:Int)else v)) ?_ ?_
   ·
    refine K ?_;refine E2 D D<|Jg<|Jf<|Cz D (fun Y=>?_) fun Y=>?_
    ·
     refine K ?_;exact fun a W o b=>⟨(((Lv z T.n).2:Nat):Int),AY o,b.pick [0,1],by rw[if_pos JY]⟩
    refine Jy<|Jf<|?_;exact fun a W o b=>⟨v,AY o,b.pick [0,1],by rw[if_neg JY]⟩
   rintro a W ⟨f,o,b,B⟩;revert a W;refine K ?_;refine GV D D (fun Z=>?_) fun Z=>?_
   ·
    refine A7 ?_;exact fun W b=>⟨fun h=>absurd d h,fun _=>⟨fun C h=>(by cases h),fun F h=>(by cases h;exact⟨z,T.n,p,hQ,(by unfold kZ;rw[←B];exact⟨fun _=>rfl,fun h=>absurd JY h,fun h=>absurd JY h⟩)⟩)⟩,b.A0⟩
   refine K ?_;refine Kl D D (fun aa=>?_) fun aa=>?_
   ·
    refine A7 ?_;exact fun W b=>⟨fun h=>absurd d h,fun _=>⟨fun C h=>(by cases h),fun F h=>(by cases h;exact⟨z,T.n,p,hQ,(by unfold kZ;rw[←B];exact⟨fun _=>rfl,fun h=>absurd JY h,fun h=>absurd JY h⟩)⟩)⟩,b.A0⟩
   refine K ?_;refine Ej D D<|Jg<|Jf<|Cz D (fun ab=>?_) fun ab=>?_
   ·
    refine A7 ?_;exact fun W b=>⟨fun h=>absurd d h,fun _=>⟨fun C h=>(by cases h),fun F h=>(by cases h;exact⟨z,T.n,p,hQ,(by unfold kZ;rw[←B];exact⟨fun h=>absurd h JY,fun _ _=>rfl,fun _ h=>absurd JY h⟩)⟩)⟩,b.A0⟩
   refine Jy<|Jf<|Je<|?_;obtain⟨j,hj⟩:∃j:Nat,(j:Int)=(T.n:Int) - (((Lv z T.n).2:Int) - f):=⟨((T.n:Int) - (((Lv z T.n).2:Int) - f)).toNat,JY⟩
   refine DD 14<|zs (AA D)<|zs (AA D)<|zs (Bp D)<|zs (AS sT 0 D)<|zs (DH Bs 0 0 5 [[E z.w],[E z.g],[E z.m],[E z.h],[E z.p]] D D)<|zs (AA D)<|zs (Bp D)<|zs (AS sT 8 D)<|zs (Bb Lc 0 8 D D D)<|zs (AA D)<|zs (AA D)<|zs (AA D)<|?_;refine zs (fun _ _ o b=>Yx o (k:=.i64) (p:=(((Lv z T.n).2:Nat):Int)) (q:=(f:Int)) D D D)<|?_;refine zs (fun _ _ o b=>Yx o (k:=.i64) (p:=((T.n:Nat):Int)) (q:=(IntKind.i64.wrap ((((Lv z T.n).2:Nat):Int) - (f:Int)):Int)) D D D)<|CR 52 D (show _=(E j)from congrArg (Value.int IntKind.i64) (by rw[IntWalk.i64_in (((Lv z T.n).2:Int) - f) JY,IntWalk.i64_in _ JY];exact hj.symm))<|CS<|U<|Ba S7 D (fun w b=>fq t n c l ⟨z.w,z.g,z.m,z.h,z.p⟩ z.ap z.KE.length z.ac j z.KE w (y.below b.A0 (Br _)) ((Bx (A JY)) w b) hl P ((a8 1) w b) D ⟨JY,O,V⟩ X Sf) fun _ e W b ⟨aj,ak,he,ad,J⟩=>⟨_,_,he,b.own ad J,?_⟩
   refine A7 ?_;exact fun W b=>⟨fun h=>absurd d h,fun _=>⟨fun C h=>(by cases h),fun F h=>(by cases h;exact⟨z,T.n,p,hQ,(by unfold kZ;rw[←B];exact⟨fun h=>absurd h JY,fun _ h=>absurd h JY,fun _ _=>⟨j,_,_,hj,JY,D,lQ (l:=l) (u:=⟨z.w,z.g,z.m,z.h,z.p⟩) (v:=u) hQ.hw▸b.DQ 0⟩⟩)⟩)⟩,b.A0⟩
  |error k=>
   have L:=jo s;refine K ?_;refine U<|Ba FW D (fun w b=>(kM _ _ _ l w (y.below b.A0 (Br _)) (Df.sat b) (fun G=>(Bx (A JY)) w b) hl).mono fun e W q=>(q.2 d).1 _ s) fun _ e W b ⟨he,J⟩=>⟨_,_,he,b.below J,?_⟩
   refine Jd D<|Bc D D<|Bc D D<|Bc D D<|K ?_;refine Ix JY D D<|A7 ?_;exact fun W b=>⟨fun h=>absurd d h,fun _=>⟨fun C h=>(by cases h;rfl),fun u h=>(by cases h)⟩,b.A0⟩
 ·
  refine K ?_;refine U<|Ba FW D (fun w b=>(kM _ _ _ l w (y.below b.A0 (Br _)) (Df.sat b) (fun G=>(Bx (A JY)) w b) hl).mono fun e W q=>q.1 d) fun _ e W b ⟨he,J⟩=>⟨_,_,he,b.below J,?_⟩
  refine Jd D<|Bc D D<|Bc D D<|Bc D D<|K ?_;refine Ix JY D D<|A7 ?_;exact fun W b=>⟨fun _=>rfl,fun h=>absurd h d,b.A0⟩
