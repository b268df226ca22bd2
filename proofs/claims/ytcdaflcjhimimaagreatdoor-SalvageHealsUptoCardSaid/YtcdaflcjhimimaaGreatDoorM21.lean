/- Laws and walks on the road to SalvageNever and SalvageHeals (part M21). No conditions beyond each law's own. -/
import Derived.Test.YtcdaflcjhimimaaGreatDoorM01
import Derived.Test.YtcdaflcjhimimaaGreatDoorM20
import Derived.Test.YtcdaflcjhimimaaGreatDoorM04
import Derived.Test.YtcdaflcjhimimaaGreatDoorM07
import Derived.Test.YtcdaflcjhimimaaGreatDoorM05
import Derived.Test.YtcdaflcjhimimaaGreatDoorM14
import Derived.Test.YtcdaflcjhimimaaGreatDoorM17
set_option linter.unusedVariables false
namespace Go.Proofs.YtcdaflcjhimimaaGreatDoor
open Go.RowKit
set_option maxRecDepth 100000
set_option maxHeartbeats 1000000
theorem OB{q:Option Addr}{n c j:Nat}{l:List UInt8}{w:World}(m:256*(j+1)≤n∧n≤1000000000)(b:View w (.slice q n c) n 1 (bv l)):
 Calls Tryz.prog 54 #[F q n c,E j] w fun e w'=>∃p c',e=.returned (.slice p 256 c')∧View w' (.slice p 256 c') 256 1 (bv ((l.drop (256*j)).take 256))∧Below w.heap.size w w':=by
 have f:n≤l.length:=by have:=b.1;rw[D_]at this;omega
 have g:Below w.heap.size w w:=Bu _ _
 refine Bx MA D 12 ?_
 refine K<|N<|O D<|M<|G<|K<|N<|I D<|I D<|FT (p:=256) D D<|I D<|A_ (q:=1) D D<|FT (p:=256) D D<|?_
 obtain⟨o,h,a,r⟩:=Li A0 b (256*j) (256*(j+1))
 have a:=a _ b
 simp only[Nat.mul_one,Ge,Hf]at a
 have s:((l.drop (256*j)).take ((256*(j+1)) - (256*j))).length=(256*(j+1)) - (256*j):=by have:=f;simp only[List.length_take,List.length_drop];omega
 refine AT (fun _ i=>Ke i D (256*j) (256*(j+1)) (k:=.i64) (k':=.i64) D D h)<|O D<|M<|G<|AA<|AZ D<|?_
 have d:256*(j+1) - 256*j=256:=by omega
 rw[d]at a
 exact⟨_,_,by rw[d],a,g⟩
theorem Vr{Aj sb:Nat}{wd ge AD Ab Ak:Nat}{AQ:Option Addr}{ce:Nat}{ah:Option Addr}{P AY:Nat}{AV:List Nat}{ag:Option Addr}{H As:Nat}{Ay:List DD}{aa:Option Addr}{J AR:Nat}{AM:List Ef}{U:Option Addr}{L AG:Nat}{AN:List Nat}{ae:Option Addr}{R af:Nat}{bt:List Fd}{q:Option Addr}{n c p:Nat}{l:List UInt8}{w:World}(An:Aj≤w.heap.size)(c_:HV Aj w)(fl:2≤p∧p<4096)(fm:256*(p+1)≤n)(hn:n≤2000000)(c':Dv Aj w q n c 1 (bv l))(da:l.length=n)(m:P≤10000∧H≤10000∧J≤10000∧L≤10000∧R≤10000)(cb:Gg (DL sb (F ah P AY) (F ag H As) (F aa J AR) (F U L AG) (F ae R af)) w Ay AM AN p)(db:JN Aj sb w wd ge AD Ab Ak AQ ce ah P AY AV ag H As Ay aa J AR AM U L AG AN ae R af bt):
 Calls Tryz.prog 30 #[AB sb,F q n c,E p] w fun e w'=>∃cq cc cr dc ct cd cu cP cv cf cw cQ cx ca cy cR cg b5 ch cS,e=.returned (.tuple #[])∧cc=P+1∧cd=H+1∧cf=J+1∧(L≤ca∧ca≤L+1)∧((R≤b5∧b5≤R+1)∧(b5=R→cg=ae∧ch=af∧cS=bt))∧Gg (DL sb (F cq cc cr) (F ct cd cu) (F cv cf cw) (F cx ca cy) (F cg b5 ch)) w' cP cQ cR (p+1)∧JN Aj sb w' wd ge AD Ab Ak AQ ce cq cc cr dc ct cd cu cP cv cf cw cQ cx ca cy cR cg b5 ch cS∧AtR w.heap.size (.slice cq cc cr) (F ah P AY)∧AtR w.heap.size (.slice ct cd cu) (F ag H As)∧AtR w.heap.size (.slice cv cf cw) (F aa J AR)∧AtR w.heap.size (.slice cx ca cy) (F U L AG)∧AtR w.heap.size (.slice cg b5 ch) (F ae R af)∧Bd (DL sb (F ah P AY) (F ag H As) (F aa J AR) (F U L AG) (F ae R af)) w w'∧Below Aj w w':=by
 obtain⟨cj,z,o,B,C,u,t,bB,an,ao,aq,al,aw,ax,aG,bQ,aH,aQ,aN,aR,aO,aS⟩:=db
 have ay:AtR w.heap.size (F ah P AY) (F ah P AY):=AtR.refl _ _
 have aj:AtR w.heap.size (F ag H As) (F ag H As):=AtR.refl _ _
 have atR:AtR w.heap.size (F aa J AR) (F aa J AR):=AtR.refl _ _
 have az:AtR w.heap.size (F U L AG) (F U L AG):=AtR.refl _ _
 have aP:AtR w.heap.size (F ae R af) (F ae R af):=AtR.refl _ _
 have S:Bd (DL sb (F ah P AY) (F ag H As) (F aa J AR) (F U L AG) (F ae R af)) w w:=Bd.refl _ _
 have b:Below Aj w w:=Bu _ _
 refine Bx Rp D 85 ?_
 refine K<|N<|I D<|I D<|I D<|AS MA D (OB (j:=p) (by omega) (c'.below b)) ?_
 rintro _ cT ⟨fo,fp,rfl,bu,d⟩
 refine⟨_,D,?_⟩
 have S:=S.below d
 have z:=Q z d
 have o:=V o d
 have B:=V B d
 have C:=V C d
 have u:=V u d
 have t:=V t d
 have b:=BH b d An
 refine AS MQ D (Tp p _ _ _ _ (c_.below b) (by omega) bu (by simp only[List.length_take,List.length_drop];have:=da;omega)) ?_
 rintro _ fq ⟨bw,fr,bU,bV,bW,fs,rfl,ft,bc,bC⟩
 refine⟨_,D,?_⟩
 have dd:=o.lt
 have de:=B.lt
 have df:=C.lt
 have dg:=u.lt
 have dh:=t.lt
 have di:w.heap.size≤cT.heap.size:=b.size
 have fu:sb<cT.heap.size:=Ar z
 have S:=S.below bC
 have z:=Q z bC
 have o:=V o bC
 have B:=V B bC
 have C:=V C bC
 have u:=V u bC
 have t:=V t bC
 have bu:=bu.below bC
 have b:=BH b bC An
 have fv:Ap (F bV bU bW) (F ah P AY):=fun k m e=>by have:=(bc.lt k m).1;have:=(dd k e).2;omega
 have fw:Ap (F bV bU bW) (F ag H As):=fun k m e=>by have:=(bc.lt k m).1;have:=(de k e).2;omega
 have fx:Ap (F bV bU bW) (F aa J AR):=fun k m e=>by have:=(bc.lt k m).1;have:=(df k e).2;omega
 have fy:Ap (F bV bU bW) (F U L AG):=fun k m e=>by have:=(bc.lt k m).1;have:=(dg k e).2;omega
 have fz:Ap (F bV bU bW) (F ae R af):=fun k m e=>by have:=(bc.lt k m).1;have:=(dh k e).2;omega
 have bc:=CB bc di
 refine I D<|BC D D<|BC D D<|BC D D<|O D<|O D<|O D<|M<|G<|K<|N<|BQ [[E 0],[E 0],[E 0],[E 0],[E 0],Av 32,Av 32,Av 32,[F none 0 0]] ?_
 intro ak fA bd av g d
 have fB:=Bg b bd
 have fC:=AP z bd
 have bD:=BM o bd
 have aU:=BM B bd
 have aV:=BM C bd
 have aY:=BM u bd
 have bk:=BM t bd
 have S:=S.below d
 have z:=Q z d
 have o:=V o d
 have B:=V B d
 have C:=V C d
 have u:=V u d
 have t:=V t d
 have bu:=bu.below d
 have bc:=V bc d
 have b:=BH b d An
 refine M<|G<|K<|N<|BQ [[E 0],[E 0],[E 0],[E 0],[E 0],[E 0],Av 32] ?_
 intro ai fD bd av i d
 have fE:=Bg b bd
 have fF:=AP z bd
 have bE:=BM o bd
 have aW:=BM B bd
 have aX:=BM C bd
 have aZ:=BM u bd
 have bl:=BM t bd
 have fG:=AP g bd
 have S:=S.below d
 have z:=Q z d
 have o:=V o d
 have B:=V B d
 have C:=V C d
 have u:=V u d
 have t:=V t d
 have bu:=bu.below d
 have bc:=V bc d
 have g:=Q g d
 have b:=BH b d An
 refine M<|G<|?_
 simp only[show Av 32=bv Bh.l from Du _]at g
 simp only[show Av 32=bv Bh.l from Du _]at i
 intro a X
 refine ES (fun a W=>∃CL,∃x:DD,∃A:Ef,Ao 85 a (Ja (Ja (Ja (Ja (Ja (Ja (Ja Je 0 (AB sb)) 2 (E p)) 6 (E bw)) 7 (F bV bU bW)) 9 (AB ak)) 10 (AB ai)) 8 (E CL))∧Fl x∧Gf (DL sb (F ah P AY) (F ag H As) (F aa J AR) (F U L AG) (F ae R af)) W x.s∧(A.v<4294967296∧A.f<4294967296∧A.ZG<4294967296∧A.ZZ<4294967296∧A.r<4294967296∧A.c<4294967296)∧Below Aj w W∧Ai W sb [[E wd],[E ge],[E AD],[E Ab],[E Ak],[F ah P AY],[F ag H As],[F aa J AR],[F U L AG],[F none 0 0],[F ae R af],[F AQ 257 ce]] 66∧W.ownsRow Aj 3 1 (.slice ah P AY) P (Al Ct AV)∧Z (F ah P AY) sb∧AtR w.heap.size (F ah P AY) (F ah P AY)∧W.ownsRow Aj 127 102 (.slice ag H As) H (Al Dd Ay)∧Z (F ag H As) sb∧AtR w.heap.size (F ag H As) (F ag H As)∧W.ownsRow Aj 131 38 (.slice aa J AR) J (Al DY AM)∧Z (F aa J AR) sb∧AtR w.heap.size (F aa J AR) (F aa J AR)∧W.ownsRow Aj 3 1 (.slice U L AG) L (Al Ct AN)∧Z (F U L AG) sb∧AtR w.heap.size (F U L AG) (F U L AG)∧W.ownsRow Aj 173 2 (.slice ae R af) R (Al Em bt)∧Z (F ae R af) sb∧AtR w.heap.size (F ae R af) (F ae R af)∧Ap (F ah P AY) (F ag H As)∧Ap (F ah P AY) (F aa J AR)∧Ap (F ah P AY) (F U L AG)∧Ap (F ah P AY) (F ae R af)∧Ap (F ag H As) (F aa J AR)∧Ap (F ag H As) (F U L AG)∧Ap (F ag H As) (F ae R af)∧Ap (F aa J AR) (F U L AG)∧Ap (F aa J AR) (F ae R af)∧Ap (F U L AG) (F ae R af)∧Bd (DL sb (F ah P AY) (F ag H As) (F aa J AR) (F U L AG) (F ae R af)) w W∧Ai W ak [[E x.ZI],[E x.l],[E x.r],[E x.lc],[E x.rc],bv x.ls.l,bv x.rs.l,bv x.k.l,[F x.s.p x.s.v.length x.s.c]] 127∧Z (F ah P AY) ak∧Z (F ag H As) ak∧Z (F aa J AR) ak∧Z (F U L AG) ak∧Z (F ae R af) ak∧Ai W ai [[E A.v],[E A.f],[E A.ZG],[E A.ZZ],[E A.r],[E A.c],bv A.s.l] 131∧Z (F ah P AY) ai∧Z (F ag H As) ai∧Z (F aa J AR) ai∧Z (F U L AG) ai∧Z (F ae R af) ai) ?_ ?_
 ·
  revert a
  refine A2<|K<|N<|I D<|Fi (q:=(0:Nat)) D D<|O D<|M<|G<|E7 D (fun dj=>?_) fun dj=>?_
  ·
   refine AE<|Bq<|G<|?_
   intro a X
   exact⟨_,(⟨0,0,0,0,0,Bh,Bh,Bh,DZ⟩:DD),(⟨0,0,0,0,0,0,Bh⟩:Ef),At X,Fl.zero,Gf.nil _ _,by dsimp only;omega,b,z,o,T bB,ay,B,T an,aj,C,T ao,atR,u,T aq,az,t,T al,aP,AI aw,AI ax,AI aG,AI bQ,AI aH,AI aQ,AI aN,AI aR,AI aO,AI aS,S,g,T bD,T aU,T aV,T aY,T bk,i,T bE,T aW,T aX,T aZ,T bl⟩
  ·
   refine K<|N<|I D<|Dk (q:=(3:Nat)) D D<|O D<|M<|G<|Bl D (fun dk=>?_) fun dk=>?_
   ·
    refine N<|I D<|AS Si D (Wp _ _ _ _ _ (by omega) (View.own bc) (CS bc)) ?_
    rintro _ fH ⟨dm,fI,rfl,dn,bx⟩
    refine⟨_,D,?_⟩
    have S:=S.below bx
    have z:=Q z bx
    have o:=V o bx
    have B:=V B bx
    have C:=V C bx
    have u:=V u bx
    have t:=V t bx
    have bu:=bu.below bx
    have g:=Q g bx
    have i:=Q i bx
    have b:=BH b bx An
    refine I D<|BC D D<|BC D D<|Bi 0 7 i D D ?_
    intro fJ av dp bF
    have S:=S.B1 bF
    have z:=Ag bF z (by omega)
    have o:=Ax o bF bE
    have B:=Ax B bF aW
    have C:=Ax C bF aX
    have u:=Ax u bF aZ
    have t:=Ax t bF bl
    have g:=Ag bF g (by omega)
    have b:=CG b bF An
    refine O D<|M<|Bq<|G<|?_
    intro a X
    exact⟨_,(⟨0,0,0,0,0,Bh,Bh,Bh,DZ⟩:DD),dm,At X,Fl.zero,Gf.nil _ _,dn,b,z,o,T bB,ay,B,T an,aj,C,T ao,atR,u,T aq,az,t,T al,aP,AI aw,AI ax,AI aG,AI bQ,AI aH,AI aQ,AI aN,AI aR,AI aO,AI aS,S,g,T bD,T aU,T aV,T aY,T bk,dp,T bE,T aW,T aX,T aZ,T bl⟩
   ·
    refine N<|I D<|I D<|?_
    intro ar ab
    have fK:=Ar z
    have fL:=Ar g
    have fM:=Ar i
    refine Bj D (fun Aa ad=>B0 ab #[E bw,F bV bU bW] PC (T6 bw _ _ _ _ _ (by omega) (View.own bc) (CS bc)) ?_)
    rintro _ fN ⟨ck,fO,rfl,dq,dr,ds,cz,cl,bz⟩
    refine⟨_,D,?_⟩
    intro a X
    have dt:=o.lt
    have du:=B.lt
    have dv:=C.lt
    have dw:=u.lt
    have dx:=t.lt
    have fP:=bc.lt
    have S:=S.below bz
    have z:=Q z bz
    have o:=V o bz
    have B:=V B bz
    have C:=V C bz
    have u:=V u bz
    have t:=V t bz
    have bu:=bu.below bz
    have g:=Q g bz
    have i:=Q i bz
    have b:=BH b bz An
    have fQ:∀a,ck.s.p=some a→a.block≠sb:=fun a bX=>by have:=cl a bX;omega
    have dy:∀a,ck.s.p=some a→a.block≠ak:=fun a bX=>by have:=cl a bX;omega
    have fR:∀a,ck.s.p=some a→a.block≠ai:=fun a bX=>by have:=cl a bX;omega
    refine ad _ _ ?_;revert a
    refine I D<|BC D D<|BC D D<|Bi 0 9 g D D ?_
    intro fS av dz bA
    have S:=S.B1 bA
    have z:=Ag bA z (by omega)
    have o:=Ax o bA bD
    have B:=Ax B bA aU
    have C:=Ax C bA aV
    have u:=Ax u bA aY
    have t:=Ax t bA bk
    have i:=Ag bA i (by omega)
    have cz:=B8.ok.grown cz bA dy
    have b:=CG b bA An
    refine O D<|M<|Bq<|G<|?_
    intro a X
    exact⟨_,ck,(⟨0,0,0,0,0,0,Bh⟩:Ef),At X,⟨dq,dr,ds⟩,⟨cz,fun a bX h=>by have fT:=cl a bX;rcases h with h|h|h|h|h|h;exact absurd h (by omega);exact absurd (dt _ h).2 (by omega);exact absurd (du _ h).2 (by omega);exact absurd (dv _ h).2 (by omega);exact absurd (dw _ h).2 (by omega);exact absurd (dx _ h).2 (by omega)⟩,by dsimp only;omega,b,z,o,T bB,ay,B,T an,aj,C,T ao,atR,u,T aq,az,t,T al,aP,AI aw,AI ax,AI aG,AI bQ,AI aH,AI aQ,AI aN,AI aR,AI aO,AI aS,S,dz,T bD,T aU,T aV,T aY,T bk,i,T bE,T aW,T aX,T aZ,T bl⟩
 ·
  rintro a au ⟨CL,x,A,X,cm,cn,cp,b,z,o,bB,bo,B,an,bp,C,ao,bq,u,aq,br,t,al,bs,aw,ax,aG,bQ,aH,aQ,aN,aR,aO,aS,aI,g,bD,aU,aV,aY,bk,i,bE,aW,aX,aZ,bl⟩
  revert a
  refine K<|K<|?_
  have S:Bd (DL sb (F ah P AY) (F ag H As) (F aa J AR) (F U L AG) (F ae R af)) au au:=Bd.refl _ _
  have ay:AtR au.heap.size (F ah P AY) (F ah P AY):=AtR.refl _ _
  have aj:AtR au.heap.size (F ag H As) (F ag H As):=AtR.refl _ _
  have atR:AtR au.heap.size (F aa J AR) (F aa J AR):=AtR.refl _ _
  have az:AtR au.heap.size (F U L AG) (F U L AG):=AtR.refl _ _
  have aP:AtR au.heap.size (F ae R af) (F ae R af):=AtR.refl _ _
  refine N<|I D<|Fi (q:=(0:Nat)) D D<|M<|G<|E7 D (fun dA=>?_) fun dA=>?_
  ·
   refine K<|N<|I D<|I D<|I D<|AS IJ D (Iw (p:=p) (y:=((CL:Nat):Int)) (Hx:=[E wd,E ge,E AD,E Ab,E Ak,F ah P AY,F ag H As,F aa J AR,F U L AG,F none 0 0]) (Ho:=[F AQ 257 ce]) ⟨D,Gc (ss:=[[E wd],[E ge],[E AD],[E Ab],[E Ak],[F ah P AY],[F ag H As],[F aa J AR],[F U L AG],[F none 0 0]]) (Jc.one D (Jc.one D (Jc.one D (Jc.one D (Jc.one D (Jc.one D (Jc.one D (Jc.one D (Jc.one D (Jc.one D Jc.nil))))))))))⟩ ⟨D,Gc (ss:=[[F AQ 257 ce]]) (Jc.one D Jc.nil)⟩ (Bs An b.size) (by omega) z t al) ?_
   rintro _ cU ⟨aA,aB,rfl,dB,dC,dD,bY,bR⟩
   refine⟨_,D,?_⟩
   have dE:Below Aj au cU:=bR.toBelow (Bs An b.size) (fun k m=>m.elim (fun q=>by omega) (fun q=>(t.lt k q).1))
   have b6:=Cq bk bY (Ar g)
   have b7:=Cq bl bY (Ar i)
   have g:=bR.Ag g (by rintro(h|h);exact absurd h (by omega);exact bk _ h D)
   have i:=bR.Ag i (by rintro(h|h);exact absurd h (by omega);exact bl _ h D)
   have cV:=(bQ.symm.at bY (fun k m=>(o.lt k m).2)).symm
   have dF:=(aN.symm.at bY (fun k m=>(B.lt k m).2)).symm
   have dG:=(aO.symm.at bY (fun k m=>(C.lt k m).2)).symm
   have dH:=(aS.symm.at bY (fun k m=>(u.lt k m).2)).symm
   have o:=FA o bR (fun k m h=>h.elim (fun q=>bB k m q) (fun q=>bQ k m q))
   have B:=FA B bR (fun k m h=>h.elim (fun q=>an k m q) (fun q=>aN k m q))
   have C:=FA C bR (fun k m h=>h.elim (fun q=>ao k m q) (fun q=>aO k m q))
   have u:=FA u bR (fun k m h=>h.elim (fun q=>aq k m q) (fun q=>aS k m q))
   have aN:=dF
   have aO:=dG
   have aS:=dH
   have aT:=S.size
   have S:=S.trans bR (fun k m dI=>m.elim (fun q=>.inl q) (fun q=>(aP k q).elim (fun q=>Or.inr (Or.inr (Or.inr (Or.inr (Or.inr q))))) (fun q=>absurd dI (by omega))))
   have aP:=aP.trans bY aT
   have b:=b.trans dE
   have z:Ai cU sb [[E wd],[E ge],[E AD],[E Ab],[E Ak],[F ah P AY],[F ag H As],[F aa J AR],[F U L AG],[F none 0 0],[F aA (R+1) aB],[F AQ 257 ce]] 66:=dB;have t:=dC;have al:=dD
   refine M<|G<|N<|O (v:=(E 0)) D<|M<|G<|K<|N<|I D<|I D<|Bt D<|Am Cc 5 D<|AK Eo 5 z D D<|I (v:=(E 0)) D<|D6 DK D (cs:=#[E 0]) D D ?_
   intro fU av dJ d
   have S:=S.below d
   have z:=Q z d
   have o:=V o d
   have B:=V B d
   have C:=V C d
   have u:=V u d
   have t:=V t d
   have g:=Q g d
   have i:=Q i d
   have b:=BH b d An
   intro ar ab
   refine Bj D (fun Aa ad=>BK ab DK o dJ (by simp[Value.oneCell']) (Bs An b.size) (P+1) (CC AV 0 D (En _)) ?_)
   intro a aJ aK fV X cA a0
   have aT:=S.size
   have cB:=aw.BR a0 (fun k m=>(B.lt k m).2)
   have cC:=ax.BR a0 (fun k m=>(C.lt k m).2)
   have cD:=aG.BR a0 (fun k m=>(u.lt k m).2)
   have bS:=cV.BR a0 (fun k m=>(t.lt k m).2)
   have bh:=A9 a0 bB (Ar z)
   have b8:=A9 a0 bD (Ar g)
   have b9:=A9 a0 bE (Ar i)
   have S:=S.DB a0 ay (fun _ q=>Or.inr (Or.inl q))
   have z:=A' z a0 bB
   have B:=Bm B a0 aw.symm
   have C:=Bm C a0 ax.symm
   have u:=Bm u a0 aG.symm
   have t:=Bm t a0 cV.symm
   have g:=A' g a0 bD
   have i:=A' i a0 bE
   have ay:=ay.C9 a0 aT
   have aw:=cB
   have ax:=cC
   have aG:=cD
   have b:=EI b a0 o An
   have o:=cA
   refine ad _ _ ?_;revert a
   refine Bt D<|Am Cc 5 D<|C_ 5 z D D ?_
   intro fW av cE bG
   have S:=S.B1 bG
   have B:=Ax B bG an
   have C:=Ax C bG ao
   have u:=Ax u bG aq
   have t:=Ax t bG al
   have g:=Ag bG g (by omega)
   have i:=Ag bG i (by omega)
   have o:=Ax o bG bh
   have b:=CG b bG An
   have z:=cE
   refine M<|G<|K<|?_
   intro a X
   refine FX (fun a W=>∃aC aD,Ao 85 a (Ja (Ja (Ja (Ja Je 0 (AB sb)) 2 (E p)) 6 (E 0)) 10 (AB ai))∧Below Aj w W∧Z (F aJ (P+1) aK) sb∧AtR au.heap.size (F aJ (P+1) aK) (F ah P AY)∧Z (F aC (H+1) aD) sb∧AtR au.heap.size (F aC (H+1) aD) (F ag H As)∧W.ownsRow Aj 131 38 (.slice aa J AR) J (Al DY AM)∧Z (F aa J AR) sb∧AtR au.heap.size (F aa J AR) (F aa J AR)∧W.ownsRow Aj 3 1 (.slice U L AG) L (Al Ct AN)∧Z (F U L AG) sb∧AtR au.heap.size (F U L AG) (F U L AG)∧W.ownsRow Aj 173 2 (.slice aA (R+1) aB) (R+1) (Al Em (bt++[⟨p,((CL:Nat):Int)⟩]))∧Z (F aA (R+1) aB) sb∧AtR au.heap.size (F aA (R+1) aB) (F ae R af)∧Ap (F aJ (P+1) aK) (F aC (H+1) aD)∧Ap (F aJ (P+1) aK) (F aa J AR)∧Ap (F aJ (P+1) aK) (F U L AG)∧Ap (F aJ (P+1) aK) (F aA (R+1) aB)∧Ap (F aC (H+1) aD) (F aa J AR)∧Ap (F aC (H+1) aD) (F U L AG)∧Ap (F aC (H+1) aD) (F aA (R+1) aB)∧Ap (F aa J AR) (F U L AG)∧Ap (F aa J AR) (F aA (R+1) aB)∧Ap (F U L AG) (F aA (R+1) aB)∧Bd (DL sb (F ah P AY) (F ag H As) (F aa J AR) (F U L AG) (F ae R af)) au W∧Ai W ak [[E x.ZI],[E x.l],[E x.r],[E x.lc],[E x.rc],bv x.ls.l,bv x.rs.l,bv x.k.l,[F x.s.p x.s.v.length x.s.c]] 127∧Z (F aJ (P+1) aK) ak∧Z (F aC (H+1) aD) ak∧Z (F aa J AR) ak∧Z (F U L AG) ak∧Z (F aA (R+1) aB) ak∧Ai W ai [[E A.v],[E A.f],[E A.ZG],[E A.ZZ],[E A.r],[E A.c],bv A.s.l] 131∧Z (F aJ (P+1) aK) ai∧Z (F aC (H+1) aD) ai∧Z (F aa J AR) ai∧Z (F U L AG) ai∧Z (F aA (R+1) aB) ai∧W.ownsRow Aj 3 1 (.slice aJ (P+1) aK) (P+1) (Al Ct (AV++[0]))∧W.ownsRow Aj 127 102 (.slice aC (H+1) aD) (H+1) (Al Dd (Ay++[x]))∧Ai W sb [[E wd],[E ge],[E AD],[E Ab],[E Ak],[F aJ (P+1) aK],[F aC (H+1) aD],[F aa J AR],[F U L AG],[F none 0 0],[F aA (R+1) aB],[F AQ 257 ce]] 66) ?_ ?_
   ·
    refine C7 (fun W=>Below Aj w W∧Ai W ak [[E x.ZI],[E x.l],[E x.r],[E x.lc],[E x.rc],bv x.ls.l,bv x.rs.l,bv x.k.l,[F x.s.p x.s.v.length x.s.c]] 127∧Ai W ai [[E A.v],[E A.f],[E A.ZG],[E A.ZZ],[E A.r],[E A.c],bv A.s.l] 131) ?_
    intro fX av d
    have S:=S.below d
    have B:=V B d
    have C:=V C d
    have u:=V u d
    have t:=V t d
    have g:=Q g d
    have i:=Q i d
    have o:=V o d
    have z:=Q z d
    have b:=BH b d An
    revert a
    refine Bk 0 D D ⟨b,g,i⟩<|Bk 1 D D ⟨b,g,i⟩<|CF 2 D D ⟨b,g,i⟩<|BW 3 D Cc 6 D ⟨b,g,i⟩<|A5 5 D (fun W bZ a X=>by obtain⟨b,g,i⟩:=bZ;exact EO X D BD D [] [[E x.ZI],[E x.l],[E x.r],[E x.lc],[E x.rc],bv x.ls.l,bv x.rs.l,bv x.k.l,[F x.s.p x.s.v.length x.s.c]] [] g D (Cf 102)) ⟨b,g,i⟩<|?_
    intro ar ab
    refine EW 4 6 5 D D D D ?_ ?_
    ·
     intro Aa ad
     refine DI ab D (Cl ab D FN D [[E wd],[E ge],[E AD],[E Ab],[E Ak],[F aJ (P+1) aK]] (F ag H As) [[F aa J AR],[F U L AG],[F none 0 0],[F aA (R+1) aB],[F AQ 257 ce]] z D) ?_
     intro a X
     refine ad _ _ ⟨b,g,i⟩ ?_;revert a
     intro ar ab
     refine A8 6 4 D D ?_
     intro Aa ad
     refine EK ab EL [[E x.ZI],[E x.l],[E x.r],[E x.lc],[E x.rc],bv x.ls.l,bv x.rs.l,bv x.k.l,[F x.s.p x.s.v.length x.s.c]] ?_
     intro a fY X av dK d
     have S:=S.below d
     have B:=V B d
     have C:=V C d
     have u:=V u d
     have t:=V t d
     have g:=Q g d
     have i:=Q i d
     have o:=V o d
     have z:=Q z d
     have b:=BH b d An
     refine ad _ _ ⟨b,g,i⟩ ?_;revert a
     intro ar ab
     refine A8 7 3 D D ?_
     intro Aa ad
     refine BK ab EL B dK C8 (Bs An b.size) (H+1) (CC Ay x D (FO _)) ?_
     intro a aC aD fZ X cF a1
     have aT:=S.size
     have dL:=aw.Df a1 (fun k m=>(o.lt k m).2)
     have dM:=aH.BR a1 (fun k m=>(C.lt k m).2)
     have dN:=aQ.BR a1 (fun k m=>(u.lt k m).2)
     have dO:=aN.BR a1 (fun k m=>(t.lt k m).2)
     have cW:=A9 a1 an (Ar z)
     have dP:=A9 a1 aU (Ar g)
     have dQ:=A9 a1 aW (Ar i)
     have S:=S.DB a1 aj (fun _ q=>Or.inr (Or.inr (Or.inl q)))
     have C:=Bm C a1 aH.symm
     have u:=Bm u a1 aQ.symm
     have t:=Bm t a1 aN.symm
     have g:=A' g a1 aU
     have i:=A' i a1 aW
     have o:=Bm o a1 aw
     have z:=A' z a1 an
     have aj:=aj.C9 a1 aT
     have b:=EI b a1 B An
     refine ad _ _ ⟨b,g,i⟩ ?_;revert a
     refine CF 8 D D ⟨b,g,i⟩<|BW 9 D Cc 6 D ⟨b,g,i⟩<|?_
     intro ar ab
     refine A8 10 0 D D ?_
     intro Aa ad
     refine DM ab 6 z D D ?_
     intro a f_ X av dR bH
     have S:=S.B1 bH
     have C:=Ax C bH ao
     have u:=Ax u bH aq
     have t:=Ax t bH al
     have g:=Ag bH g (by omega)
     have i:=Ag bH i (by omega)
     have o:=Ax o bH bh
     have cF:=Ax cF bH cW
     have b:=CG b bH An
     refine ad _ _ ⟨b,g,i⟩ ?_;revert a
     refine B_<|G<|?_
     intro a X
     exact⟨aC,aD,At X,b,bh,ay,cW,aj,C,ao,atR,u,aq,az,t,al,aP,dL,ax,aG,bS,dM,dN,dO,aR,aO,aS,S,g,b8,dP,aV,aY,b6,i,b9,dQ,aX,aZ,b7,o,cF,dR⟩
    ·
     intro Aa ad
     refine EK ab EL [[E x.ZI],[E x.l],[E x.r],[E x.lc],[E x.rc],bv x.ls.l,bv x.rs.l,bv x.k.l,[F x.s.p x.s.v.length x.s.c]] ?_
     intro a f' X av dS d
     have S:=S.below d
     have B:=V B d
     have C:=V C d
     have u:=V u d
     have t:=V t d
     have g:=Q g d
     have i:=Q i d
     have o:=V o d
     have z:=Q z d
     have b:=BH b d An
     refine ad _ _ ⟨b,g,i⟩ ?_;revert a
     intro ar ab
     refine A8 4 4 D D ?_
     intro Aa ad
     refine DI ab D (Cl ab D FN D [[E wd],[E ge],[E AD],[E Ab],[E Ak],[F aJ (P+1) aK]] (F ag H As) [[F aa J AR],[F U L AG],[F none 0 0],[F aA (R+1) aB],[F AQ 257 ce]] z D) ?_
     intro a X
     refine ad _ _ ⟨b,g,i⟩ ?_;revert a
     intro ar ab
     refine A8 7 3 D D ?_
     intro Aa ad
     refine BK ab EL B dS C8 (Bs An b.size) (H+1) (CC Ay x D (FO _)) ?_
     intro a dT dU ga X cG a2
     have aT:=S.size
     have dV:=aw.Df a2 (fun k m=>(o.lt k m).2)
     have dW:=aH.BR a2 (fun k m=>(C.lt k m).2)
     have dX:=aQ.BR a2 (fun k m=>(u.lt k m).2)
     have dY:=aN.BR a2 (fun k m=>(t.lt k m).2)
     have cX:=A9 a2 an (Ar z)
     have dZ:=A9 a2 aU (Ar g)
     have d_:=A9 a2 aW (Ar i)
     have S:=S.DB a2 aj (fun _ q=>Or.inr (Or.inr (Or.inl q)))
     have C:=Bm C a2 aH.symm
     have u:=Bm u a2 aQ.symm
     have t:=Bm t a2 aN.symm
     have g:=A' g a2 aU
     have i:=A' i a2 aW
     have o:=Bm o a2 aw
     have z:=A' z a2 an
     have aj:=aj.C9 a2 aT
     have b:=EI b a2 B An
     refine ad _ _ ⟨b,g,i⟩ ?_;revert a
     refine CF 8 D D ⟨b,g,i⟩<|BW 9 D Cc 6 D ⟨b,g,i⟩<|?_
     intro ar ab
     refine A8 10 0 D D ?_
     intro Aa ad
     refine DM ab 6 z D D ?_
     intro a gb X av d' bI
     have S:=S.B1 bI
     have C:=Ax C bI ao
     have u:=Ax u bI aq
     have t:=Ax t bI al
     have g:=Ag bI g (by omega)
     have i:=Ag bI i (by omega)
     have o:=Ax o bI bh
     have cG:=Ax cG bI cX
     have b:=CG b bI An
     refine ad _ _ ⟨b,g,i⟩ ?_;revert a
     refine B_<|G<|?_
     intro a X
     exact⟨dT,dU,At X,b,bh,ay,cX,aj,C,ao,atR,u,aq,az,t,al,aP,dV,ax,aG,bS,dW,dX,dY,aR,aO,aS,S,g,b8,dZ,aV,aY,b6,i,b9,d_,aX,aZ,b7,o,cG,d'⟩
   ·
    rintro a gd ⟨aC,aD,X,b,bh,ay,an,aj,C,ao,atR,u,aq,az,t,al,aP,aw,ax,aG,bS,aH,aQ,aN,aR,aO,aS,S,g,b8,aU,aV,aY,b6,i,b9,aW,aX,aZ,b7,o,B,z⟩
    revert a
    refine G<|K<|?_
    intro a X
    refine FX (fun a W=>∃a3 a4,Ao 85 a (Ja (Ja (Ja Je 0 (AB sb)) 2 (E p)) 6 (E 0))∧Below Aj w W∧Z (F aJ (P+1) aK) sb∧AtR au.heap.size (F aJ (P+1) aK) (F ah P AY)∧Z (F aC (H+1) aD) sb∧AtR au.heap.size (F aC (H+1) aD) (F ag H As)∧Z (F a3 (J+1) a4) sb∧AtR au.heap.size (F a3 (J+1) a4) (F aa J AR)∧W.ownsRow Aj 3 1 (.slice U L AG) L (Al Ct AN)∧Z (F U L AG) sb∧AtR au.heap.size (F U L AG) (F U L AG)∧W.ownsRow Aj 173 2 (.slice aA (R+1) aB) (R+1) (Al Em (bt++[⟨p,((CL:Nat):Int)⟩]))∧Z (F aA (R+1) aB) sb∧AtR au.heap.size (F aA (R+1) aB) (F ae R af)∧Ap (F aJ (P+1) aK) (F aC (H+1) aD)∧Ap (F aJ (P+1) aK) (F a3 (J+1) a4)∧Ap (F aJ (P+1) aK) (F U L AG)∧Ap (F aJ (P+1) aK) (F aA (R+1) aB)∧Ap (F aC (H+1) aD) (F a3 (J+1) a4)∧Ap (F aC (H+1) aD) (F U L AG)∧Ap (F aC (H+1) aD) (F aA (R+1) aB)∧Ap (F a3 (J+1) a4) (F U L AG)∧Ap (F a3 (J+1) a4) (F aA (R+1) aB)∧Ap (F U L AG) (F aA (R+1) aB)∧Bd (DL sb (F ah P AY) (F ag H As) (F aa J AR) (F U L AG) (F ae R af)) au W∧Ai W ak [[E x.ZI],[E x.l],[E x.r],[E x.lc],[E x.rc],bv x.ls.l,bv x.rs.l,bv x.k.l,[F x.s.p x.s.v.length x.s.c]] 127∧Z (F aJ (P+1) aK) ak∧Z (F aC (H+1) aD) ak∧Z (F a3 (J+1) a4) ak∧Z (F U L AG) ak∧Z (F aA (R+1) aB) ak∧Ai W ai [[E A.v],[E A.f],[E A.ZG],[E A.ZZ],[E A.r],[E A.c],bv A.s.l] 131∧Z (F aJ (P+1) aK) ai∧Z (F aC (H+1) aD) ai∧Z (F a3 (J+1) a4) ai∧Z (F U L AG) ai∧Z (F aA (R+1) aB) ai∧W.ownsRow Aj 3 1 (.slice aJ (P+1) aK) (P+1) (Al Ct (AV++[0]))∧W.ownsRow Aj 127 102 (.slice aC (H+1) aD) (H+1) (Al Dd (Ay++[x]))∧W.ownsRow Aj 131 38 (.slice a3 (J+1) a4) (J+1) (Al DY (AM++[A]))∧Ai W sb [[E wd],[E ge],[E AD],[E Ab],[E Ak],[F aJ (P+1) aK],[F aC (H+1) aD],[F a3 (J+1) a4],[F U L AG],[F none 0 0],[F aA (R+1) aB],[F AQ 257 ce]] 66) ?_ ?_
    ·
     refine C7 (fun W=>Below Aj w W∧Ai W ak [[E x.ZI],[E x.l],[E x.r],[E x.lc],[E x.rc],bv x.ls.l,bv x.rs.l,bv x.k.l,[F x.s.p x.s.v.length x.s.c]] 127∧Ai W ai [[E A.v],[E A.f],[E A.ZG],[E A.ZZ],[E A.r],[E A.c],bv A.s.l] 131) ?_
     intro gf av d
     have S:=S.below d
     have C:=V C d
     have u:=V u d
     have t:=V t d
     have g:=Q g d
     have i:=Q i d
     have o:=V o d
     have B:=V B d
     have z:=Q z d
     have b:=BH b d An
     revert a
     refine Bk 0 D D ⟨b,g,i⟩<|Bk 1 D D ⟨b,g,i⟩<|CF 2 D D ⟨b,g,i⟩<|BW 3 D Cc 7 D ⟨b,g,i⟩<|A5 5 D (fun W bZ a X=>by obtain⟨b,g,i⟩:=bZ;exact EO X D BV D [] [[E A.v],[E A.f],[E A.ZG],[E A.ZZ],[E A.r],[E A.c],bv A.s.l] [] i D (Cf 38)) ⟨b,g,i⟩<|?_
     intro ar ab
     refine EW 4 6 5 D D D D ?_ ?_
     ·
      intro Aa ad
      refine DI ab D (Cl ab D Hb D [[E wd],[E ge],[E AD],[E Ab],[E Ak],[F aJ (P+1) aK],[F aC (H+1) aD]] (F aa J AR) [[F U L AG],[F none 0 0],[F aA (R+1) aB],[F AQ 257 ce]] z D) ?_
      intro a X
      refine ad _ _ ⟨b,g,i⟩ ?_;revert a
      intro ar ab
      refine A8 6 4 D D ?_
      intro Aa ad
      refine EK ab F_ [[E A.v],[E A.f],[E A.ZG],[E A.ZZ],[E A.r],[E A.c],bv A.s.l] ?_
      intro a gg X av ea d
      have S:=S.below d
      have C:=V C d
      have u:=V u d
      have t:=V t d
      have g:=Q g d
      have i:=Q i d
      have o:=V o d
      have B:=V B d
      have z:=Q z d
      have b:=BH b d An
      refine ad _ _ ⟨b,g,i⟩ ?_;revert a
      intro ar ab
      refine A8 7 3 D D ?_
      intro Aa ad
      refine BK ab F_ C ea C8 (Bs An b.size) (J+1) (CC AM A D (Ha _)) ?_
      intro a a3 a4 gh X cH a5
      have aT:=S.size
      have eb:=ax.Df a5 (fun k m=>(o.lt k m).2)
      have ec:=aH.Df a5 (fun k m=>(B.lt k m).2)
      have ed:=aR.BR a5 (fun k m=>(u.lt k m).2)
      have ee:=aO.BR a5 (fun k m=>(t.lt k m).2)
      have cY:=A9 a5 ao (Ar z)
      have ef:=A9 a5 aV (Ar g)
      have eg:=A9 a5 aX (Ar i)
      have S:=S.DB a5 atR (fun _ q=>Or.inr (Or.inr (Or.inr (Or.inl q))))
      have u:=Bm u a5 aR.symm
      have t:=Bm t a5 aO.symm
      have g:=A' g a5 aV
      have i:=A' i a5 aX
      have o:=Bm o a5 ax
      have B:=Bm B a5 aH
      have z:=A' z a5 ao
      have atR:=atR.C9 a5 aT
      have b:=EI b a5 C An
      refine ad _ _ ⟨b,g,i⟩ ?_;revert a
      refine CF 8 D D ⟨b,g,i⟩<|BW 9 D Cc 7 D ⟨b,g,i⟩<|?_
      intro ar ab
      refine A8 10 0 D D ?_
      intro Aa ad
      refine DM ab 7 z D D ?_
      intro a gi X av eh bJ
      have S:=S.B1 bJ
      have u:=Ax u bJ aq
      have t:=Ax t bJ al
      have g:=Ag bJ g (by omega)
      have i:=Ag bJ i (by omega)
      have o:=Ax o bJ bh
      have B:=Ax B bJ an
      have cH:=Ax cH bJ cY
      have b:=CG b bJ An
      refine ad _ _ ⟨b,g,i⟩ ?_;revert a
      refine B_<|G<|?_
      intro a X
      exact⟨a3,a4,At X,b,bh,ay,an,aj,cY,atR,u,aq,az,t,al,aP,aw,eb,aG,bS,ec,aQ,aN,ed,ee,aS,S,g,b8,aU,ef,aY,b6,i,b9,aW,eg,aZ,b7,o,B,cH,eh⟩
     ·
      intro Aa ad
      refine EK ab F_ [[E A.v],[E A.f],[E A.ZG],[E A.ZZ],[E A.r],[E A.c],bv A.s.l] ?_
      intro a gj X av ei d
      have S:=S.below d
      have C:=V C d
      have u:=V u d
      have t:=V t d
      have g:=Q g d
      have i:=Q i d
      have o:=V o d
      have B:=V B d
      have z:=Q z d
      have b:=BH b d An
      refine ad _ _ ⟨b,g,i⟩ ?_;revert a
      intro ar ab
      refine A8 4 4 D D ?_
      intro Aa ad
      refine DI ab D (Cl ab D Hb D [[E wd],[E ge],[E AD],[E Ab],[E Ak],[F aJ (P+1) aK],[F aC (H+1) aD]] (F aa J AR) [[F U L AG],[F none 0 0],[F aA (R+1) aB],[F AQ 257 ce]] z D) ?_
      intro a X
      refine ad _ _ ⟨b,g,i⟩ ?_;revert a
      intro ar ab
      refine A8 7 3 D D ?_
      intro Aa ad
      refine BK ab F_ C ei C8 (Bs An b.size) (J+1) (CC AM A D (Ha _)) ?_
      intro a ej ek gk X cI a6
      have aT:=S.size
      have en:=ax.Df a6 (fun k m=>(o.lt k m).2)
      have eo:=aH.Df a6 (fun k m=>(B.lt k m).2)
      have ep:=aR.BR a6 (fun k m=>(u.lt k m).2)
      have er:=aO.BR a6 (fun k m=>(t.lt k m).2)
      have cZ:=A9 a6 ao (Ar z)
      have et:=A9 a6 aV (Ar g)
      have eu:=A9 a6 aX (Ar i)
      have S:=S.DB a6 atR (fun _ q=>Or.inr (Or.inr (Or.inr (Or.inl q))))
      have u:=Bm u a6 aR.symm
      have t:=Bm t a6 aO.symm
      have g:=A' g a6 aV
      have i:=A' i a6 aX
      have o:=Bm o a6 ax
      have B:=Bm B a6 aH
      have z:=A' z a6 ao
      have atR:=atR.C9 a6 aT
      have b:=EI b a6 C An
      refine ad _ _ ⟨b,g,i⟩ ?_;revert a
      refine CF 8 D D ⟨b,g,i⟩<|BW 9 D Cc 7 D ⟨b,g,i⟩<|?_
      intro ar ab
      refine A8 10 0 D D ?_
      intro Aa ad
      refine DM ab 7 z D D ?_
      intro a gl X av ev bK
      have S:=S.B1 bK
      have u:=Ax u bK aq
      have t:=Ax t bK al
      have g:=Ag bK g (by omega)
      have i:=Ag bK i (by omega)
      have o:=Ax o bK bh
      have B:=Ax B bK an
      have cI:=Ax cI bK cZ
      have b:=CG b bK An
      refine ad _ _ ⟨b,g,i⟩ ?_;revert a
      refine B_<|G<|?_
      intro a X
      exact⟨ej,ek,At X,b,bh,ay,an,aj,cZ,atR,u,aq,az,t,al,aP,aw,en,aG,bS,eo,aQ,aN,ep,er,aS,S,g,b8,aU,et,aY,b6,i,b9,aW,eu,aZ,b7,o,B,cI,ev⟩
    ·
     rintro a gm ⟨a3,a4,X,b,bh,ay,an,aj,ao,atR,u,aq,az,t,al,aP,aw,ax,aG,bS,aH,aQ,aN,aR,aO,aS,S,g,b8,aU,aV,aY,b6,i,b9,aW,aX,aZ,b7,o,B,C,z⟩
     revert a
     refine G<|K<|N<|I (v:=(E 0)) D<|Dk (p:=(0:Nat)) (q:=(3:Nat)) D D<|M<|G<|Bl D (fun ew=>?_) fun ew=>?_
     ·
      refine N<|I D<|I D<|Bt D<|Am Cc 8 D<|AK Eo 8 z D D<|I D<|D6 DK D (cs:=#[E p]) D D ?_
      intro gn av ey d
      have S:=S.below d
      have u:=V u d
      have t:=V t d
      have o:=V o d
      have B:=V B d
      have C:=V C d
      have z:=Q z d
      have b:=BH b d An
      intro ar ab
      refine Bj D (fun Aa ad=>BK ab DK u ey (by simp[Value.oneCell']) (Bs An b.size) (L+1) (CC AN p D (En _)) ?_)
      intro a c0 c1 gp X cJ bm
      have aT:=S.size
      have ez:=aG.Df bm (fun k m=>(o.lt k m).2)
      have eA:=aQ.Df bm (fun k m=>(B.lt k m).2)
      have eB:=aR.Df bm (fun k m=>(C.lt k m).2)
      have eC:=aS.BR bm (fun k m=>(t.lt k m).2)
      have c2:=A9 bm aq (Ar z)
      have S:=S.DB bm az (fun _ q=>Or.inr (Or.inr (Or.inr (Or.inr (Or.inl q)))))
      have t:=Bm t bm aS.symm
      have o:=Bm o bm aG
      have B:=Bm B bm aQ
      have C:=Bm C bm aR
      have z:=A' z bm aq
      have az:=az.C9 bm aT
      have b:=EI b bm u An
      refine ad _ _ ?_;revert a
      refine Bt D<|Am Cc 8 D<|C_ 8 z D D ?_
      intro gq av eD b0
      have S:=S.B1 b0
      have t:=Ax t b0 al
      have o:=Ax o b0 bh
      have B:=Ax B b0 an
      have C:=Ax C b0 ao
      have cJ:=Ax cJ b0 c2
      have b:=CG b b0 An
      refine M<|?_
      intro a X
      refine FD ?_
      refine Ec X D ?_
      have b1:=cb.next (Y:=DL sb (F ah P AY) (F ag H As) (F aa J AR) (F U L AG) (F ae R af)) aI (fun k m y=>GM bo bp bq br bs k y m) (Be _)
      have b2:=b1.add cm cn cp
      have b3:=b2.next (Y:=DL sb (F aJ (P+1) aK) (F aC (H+1) aD) (F a3 (J+1) a4) (F c0 (L+1) c1) (F aA (R+1) aB)) S (fun k m y=>GM ay aj atR az aP k y m) (Be _)
      exact⟨aJ,P+1,aK,AV++[0],aC,H+1,aD,Ay++[x],a3,J+1,a4,AM++[A],c0,L+1,c1,AN++[p],aA,R+1,aB,bt++[⟨p,((CL:Nat):Int)⟩],D,by omega,by omega,by omega,⟨by omega,by omega⟩,⟨⟨by omega,by omega⟩,fun h=>absurd h (by omega)⟩,b3.KI,⟨cj,eD,o,B,C,cJ,t,bh,an,ao,c2,al,aw,ax,ez,bS,aH,eA,aN,eB,aO,eC⟩,bo.trans ay aI.size,bp.trans aj aI.size,bq.trans atR aI.size,br.trans az aI.size,bs.trans aP aI.size,aI.trans S (GM bo bp bq br bs),b⟩
     ·
      refine AE<|?_
      intro a X
      refine FD ?_
      refine Ec X D ?_
      have b1:=cb.next (Y:=DL sb (F ah P AY) (F ag H As) (F aa J AR) (F U L AG) (F ae R af)) aI (fun k m y=>GM bo bp bq br bs k y m) (Be _)
      have b2:=b1.add cm cn cp
      have b3:=b2.next (Y:=DL sb (F aJ (P+1) aK) (F aC (H+1) aD) (F a3 (J+1) a4) (F U L AG) (F aA (R+1) aB)) S (fun k m y=>GM ay aj atR az aP k y m) (Be _)
      exact⟨aJ,P+1,aK,AV++[0],aC,H+1,aD,Ay++[x],a3,J+1,a4,AM++[A],U,L,AG,AN,aA,R+1,aB,bt++[⟨p,((CL:Nat):Int)⟩],D,by omega,by omega,by omega,⟨by omega,by omega⟩,⟨⟨by omega,by omega⟩,fun h=>absurd h (by omega)⟩,b3.succ,⟨cj,z,o,B,C,u,t,bh,an,ao,aq,al,aw,ax,aG,bS,aH,aQ,aN,aR,aO,aS⟩,bo.trans ay aI.size,bp.trans aj aI.size,bq.trans atR aI.size,br.trans az aI.size,bs.trans aP aI.size,aI.trans S (GM bo bp bq br bs),b⟩
  ·
   refine AE<|G<|K<|N<|I D<|I D<|Bt D<|Am Cc 5 D<|AK Eo 5 z D D<|I D<|D6 DK D (cs:=#[E bw]) D D ?_
   intro gr av eE d
   have S:=S.below d
   have z:=Q z d
   have o:=V o d
   have B:=V B d
   have C:=V C d
   have u:=V u d
   have t:=V t d
   have g:=Q g d
   have i:=Q i d
   have b:=BH b d An
   intro ar ab
   refine Bj D (fun Aa ad=>BK ab DK o eE (by simp[Value.oneCell']) (Bs An b.size) (P+1) (CC AV bw D (En _)) ?_)
   intro a aL aM gu X cA a7
   have aT:=S.size
   have cB:=aw.BR a7 (fun k m=>(B.lt k m).2)
   have cC:=ax.BR a7 (fun k m=>(C.lt k m).2)
   have cD:=aG.BR a7 (fun k m=>(u.lt k m).2)
   have bT:=bQ.BR a7 (fun k m=>(t.lt k m).2)
   have bj:=A9 a7 bB (Ar z)
   have b_:=A9 a7 bD (Ar g)
   have b':=A9 a7 bE (Ar i)
   have S:=S.DB a7 ay (fun _ q=>Or.inr (Or.inl q))
   have z:=A' z a7 bB
   have B:=Bm B a7 aw.symm
   have C:=Bm C a7 ax.symm
   have u:=Bm u a7 aG.symm
   have t:=Bm t a7 bQ.symm
   have g:=A' g a7 bD
   have i:=A' i a7 bE
   have ay:=ay.C9 a7 aT
   have aw:=cB
   have ax:=cC
   have aG:=cD
   have b:=EI b a7 o An
   have o:=cA
   refine ad _ _ ?_;revert a
   refine Bt D<|Am Cc 5 D<|C_ 5 z D D ?_
   intro gv av cE bL
   have S:=S.B1 bL
   have B:=Ax B bL an
   have C:=Ax C bL ao
   have u:=Ax u bL aq
   have t:=Ax t bL al
   have g:=Ag bL g (by omega)
   have i:=Ag bL i (by omega)
   have o:=Ax o bL bj
   have b:=CG b bL An
   have z:=cE
   refine M<|G<|K<|?_
   intro a X
   refine FX (fun a W=>∃aE aF,Ao 85 a (Ja (Ja (Ja (Ja Je 0 (AB sb)) 2 (E p)) 6 (E bw)) 10 (AB ai))∧Below Aj w W∧Z (F aL (P+1) aM) sb∧AtR au.heap.size (F aL (P+1) aM) (F ah P AY)∧Z (F aE (H+1) aF) sb∧AtR au.heap.size (F aE (H+1) aF) (F ag H As)∧W.ownsRow Aj 131 38 (.slice aa J AR) J (Al DY AM)∧Z (F aa J AR) sb∧AtR au.heap.size (F aa J AR) (F aa J AR)∧W.ownsRow Aj 3 1 (.slice U L AG) L (Al Ct AN)∧Z (F U L AG) sb∧AtR au.heap.size (F U L AG) (F U L AG)∧W.ownsRow Aj 173 2 (.slice ae R af) R (Al Em bt)∧Z (F ae R af) sb∧AtR au.heap.size (F ae R af) (F ae R af)∧Ap (F aL (P+1) aM) (F aE (H+1) aF)∧Ap (F aL (P+1) aM) (F aa J AR)∧Ap (F aL (P+1) aM) (F U L AG)∧Ap (F aL (P+1) aM) (F ae R af)∧Ap (F aE (H+1) aF) (F aa J AR)∧Ap (F aE (H+1) aF) (F U L AG)∧Ap (F aE (H+1) aF) (F ae R af)∧Ap (F aa J AR) (F U L AG)∧Ap (F aa J AR) (F ae R af)∧Ap (F U L AG) (F ae R af)∧Bd (DL sb (F ah P AY) (F ag H As) (F aa J AR) (F U L AG) (F ae R af)) au W∧Ai W ak [[E x.ZI],[E x.l],[E x.r],[E x.lc],[E x.rc],bv x.ls.l,bv x.rs.l,bv x.k.l,[F x.s.p x.s.v.length x.s.c]] 127∧Z (F aL (P+1) aM) ak∧Z (F aE (H+1) aF) ak∧Z (F aa J AR) ak∧Z (F U L AG) ak∧Z (F ae R af) ak∧Ai W ai [[E A.v],[E A.f],[E A.ZG],[E A.ZZ],[E A.r],[E A.c],bv A.s.l] 131∧Z (F aL (P+1) aM) ai∧Z (F aE (H+1) aF) ai∧Z (F aa J AR) ai∧Z (F U L AG) ai∧Z (F ae R af) ai∧W.ownsRow Aj 3 1 (.slice aL (P+1) aM) (P+1) (Al Ct (AV++[bw]))∧W.ownsRow Aj 127 102 (.slice aE (H+1) aF) (H+1) (Al Dd (Ay++[x]))∧Ai W sb [[E wd],[E ge],[E AD],[E Ab],[E Ak],[F aL (P+1) aM],[F aE (H+1) aF],[F aa J AR],[F U L AG],[F none 0 0],[F ae R af],[F AQ 257 ce]] 66) ?_ ?_
   ·
    refine C7 (fun W=>Below Aj w W∧Ai W ak [[E x.ZI],[E x.l],[E x.r],[E x.lc],[E x.rc],bv x.ls.l,bv x.rs.l,bv x.k.l,[F x.s.p x.s.v.length x.s.c]] 127∧Ai W ai [[E A.v],[E A.f],[E A.ZG],[E A.ZZ],[E A.r],[E A.c],bv A.s.l] 131) ?_
    intro gw av d
    have S:=S.below d
    have B:=V B d
    have C:=V C d
    have u:=V u d
    have t:=V t d
    have g:=Q g d
    have i:=Q i d
    have o:=V o d
    have z:=Q z d
    have b:=BH b d An
    revert a
    refine Bk 0 D D ⟨b,g,i⟩<|Bk 1 D D ⟨b,g,i⟩<|CF 2 D D ⟨b,g,i⟩<|BW 3 D Cc 6 D ⟨b,g,i⟩<|A5 5 D (fun W bZ a X=>by obtain⟨b,g,i⟩:=bZ;exact EO X D BD D [] [[E x.ZI],[E x.l],[E x.r],[E x.lc],[E x.rc],bv x.ls.l,bv x.rs.l,bv x.k.l,[F x.s.p x.s.v.length x.s.c]] [] g D (Cf 102)) ⟨b,g,i⟩<|?_
    intro ar ab
    refine EW 4 6 5 D D D D ?_ ?_
    ·
     intro Aa ad
     refine DI ab D (Cl ab D FN D [[E wd],[E ge],[E AD],[E Ab],[E Ak],[F aL (P+1) aM]] (F ag H As) [[F aa J AR],[F U L AG],[F none 0 0],[F ae R af],[F AQ 257 ce]] z D) ?_
     intro a X
     refine ad _ _ ⟨b,g,i⟩ ?_;revert a
     intro ar ab
     refine A8 6 4 D D ?_
     intro Aa ad
     refine EK ab EL [[E x.ZI],[E x.l],[E x.r],[E x.lc],[E x.rc],bv x.ls.l,bv x.rs.l,bv x.k.l,[F x.s.p x.s.v.length x.s.c]] ?_
     intro a gx X av eF d
     have S:=S.below d
     have B:=V B d
     have C:=V C d
     have u:=V u d
     have t:=V t d
     have g:=Q g d
     have i:=Q i d
     have o:=V o d
     have z:=Q z d
     have b:=BH b d An
     refine ad _ _ ⟨b,g,i⟩ ?_;revert a
     intro ar ab
     refine A8 7 3 D D ?_
     intro Aa ad
     refine BK ab EL B eF C8 (Bs An b.size) (H+1) (CC Ay x D (FO _)) ?_
     intro a aE aF gy X cK a8
     have aT:=S.size
     have eG:=aw.Df a8 (fun k m=>(o.lt k m).2)
     have eH:=aH.BR a8 (fun k m=>(C.lt k m).2)
     have eI:=aQ.BR a8 (fun k m=>(u.lt k m).2)
     have eJ:=aN.BR a8 (fun k m=>(t.lt k m).2)
     have c3:=A9 a8 an (Ar z)
     have eK:=A9 a8 aU (Ar g)
     have eL:=A9 a8 aW (Ar i)
     have S:=S.DB a8 aj (fun _ q=>Or.inr (Or.inr (Or.inl q)))
     have C:=Bm C a8 aH.symm
     have u:=Bm u a8 aQ.symm
     have t:=Bm t a8 aN.symm
     have g:=A' g a8 aU
     have i:=A' i a8 aW
     have o:=Bm o a8 aw
     have z:=A' z a8 an
     have aj:=aj.C9 a8 aT
     have b:=EI b a8 B An
     refine ad _ _ ⟨b,g,i⟩ ?_;revert a
     refine CF 8 D D ⟨b,g,i⟩<|BW 9 D Cc 6 D ⟨b,g,i⟩<|?_
     intro ar ab
     refine A8 10 0 D D ?_
     intro Aa ad
     refine DM ab 6 z D D ?_
     intro a gz X av eM bM
     have S:=S.B1 bM
     have C:=Ax C bM ao
     have u:=Ax u bM aq
     have t:=Ax t bM al
     have g:=Ag bM g (by omega)
     have i:=Ag bM i (by omega)
     have o:=Ax o bM bj
     have cK:=Ax cK bM c3
     have b:=CG b bM An
     refine ad _ _ ⟨b,g,i⟩ ?_;revert a
     refine B_<|G<|?_
     intro a X
     exact⟨aE,aF,At X,b,bj,ay,c3,aj,C,ao,atR,u,aq,az,t,al,aP,eG,ax,aG,bT,eH,eI,eJ,aR,aO,aS,S,g,b_,eK,aV,aY,bk,i,b',eL,aX,aZ,bl,o,cK,eM⟩
    ·
     intro Aa ad
     refine EK ab EL [[E x.ZI],[E x.l],[E x.r],[E x.lc],[E x.rc],bv x.ls.l,bv x.rs.l,bv x.k.l,[F x.s.p x.s.v.length x.s.c]] ?_
     intro a gA X av eN d
     have S:=S.below d
     have B:=V B d
     have C:=V C d
     have u:=V u d
     have t:=V t d
     have g:=Q g d
     have i:=Q i d
     have o:=V o d
     have z:=Q z d
     have b:=BH b d An
     refine ad _ _ ⟨b,g,i⟩ ?_;revert a
     intro ar ab
     refine A8 4 4 D D ?_
     intro Aa ad
     refine DI ab D (Cl ab D FN D [[E wd],[E ge],[E AD],[E Ab],[E Ak],[F aL (P+1) aM]] (F ag H As) [[F aa J AR],[F U L AG],[F none 0 0],[F ae R af],[F AQ 257 ce]] z D) ?_
     intro a X
     refine ad _ _ ⟨b,g,i⟩ ?_;revert a
     intro ar ab
     refine A8 7 3 D D ?_
     intro Aa ad
     refine BK ab EL B eN C8 (Bs An b.size) (H+1) (CC Ay x D (FO _)) ?_
     intro a eO eP gB X cL a9
     have aT:=S.size
     have eQ:=aw.Df a9 (fun k m=>(o.lt k m).2)
     have eR:=aH.BR a9 (fun k m=>(C.lt k m).2)
     have eS:=aQ.BR a9 (fun k m=>(u.lt k m).2)
     have eT:=aN.BR a9 (fun k m=>(t.lt k m).2)
     have c4:=A9 a9 an (Ar z)
     have eU:=A9 a9 aU (Ar g)
     have eV:=A9 a9 aW (Ar i)
     have S:=S.DB a9 aj (fun _ q=>Or.inr (Or.inr (Or.inl q)))
     have C:=Bm C a9 aH.symm
     have u:=Bm u a9 aQ.symm
     have t:=Bm t a9 aN.symm
     have g:=A' g a9 aU
     have i:=A' i a9 aW
     have o:=Bm o a9 aw
     have z:=A' z a9 an
     have aj:=aj.C9 a9 aT
     have b:=EI b a9 B An
     refine ad _ _ ⟨b,g,i⟩ ?_;revert a
     refine CF 8 D D ⟨b,g,i⟩<|BW 9 D Cc 6 D ⟨b,g,i⟩<|?_
     intro ar ab
     refine A8 10 0 D D ?_
     intro Aa ad
     refine DM ab 6 z D D ?_
     intro a gC X av eW bN
     have S:=S.B1 bN
     have C:=Ax C bN ao
     have u:=Ax u bN aq
     have t:=Ax t bN al
     have g:=Ag bN g (by omega)
     have i:=Ag bN i (by omega)
     have o:=Ax o bN bj
     have cL:=Ax cL bN c4
     have b:=CG b bN An
     refine ad _ _ ⟨b,g,i⟩ ?_;revert a
     refine B_<|G<|?_
     intro a X
     exact⟨eO,eP,At X,b,bj,ay,c4,aj,C,ao,atR,u,aq,az,t,al,aP,eQ,ax,aG,bT,eR,eS,eT,aR,aO,aS,S,g,b_,eU,aV,aY,bk,i,b',eV,aX,aZ,bl,o,cL,eW⟩
   ·
    rintro a gD ⟨aE,aF,X,b,bj,ay,an,aj,C,ao,atR,u,aq,az,t,al,aP,aw,ax,aG,bT,aH,aQ,aN,aR,aO,aS,S,g,b_,aU,aV,aY,bk,i,b',aW,aX,aZ,bl,o,B,z⟩
    revert a
    refine G<|K<|?_
    intro a X
    refine FX (fun a W=>∃a_ a',Ao 85 a (Ja (Ja (Ja Je 0 (AB sb)) 2 (E p)) 6 (E bw))∧Below Aj w W∧Z (F aL (P+1) aM) sb∧AtR au.heap.size (F aL (P+1) aM) (F ah P AY)∧Z (F aE (H+1) aF) sb∧AtR au.heap.size (F aE (H+1) aF) (F ag H As)∧Z (F a_ (J+1) a') sb∧AtR au.heap.size (F a_ (J+1) a') (F aa J AR)∧W.ownsRow Aj 3 1 (.slice U L AG) L (Al Ct AN)∧Z (F U L AG) sb∧AtR au.heap.size (F U L AG) (F U L AG)∧W.ownsRow Aj 173 2 (.slice ae R af) R (Al Em bt)∧Z (F ae R af) sb∧AtR au.heap.size (F ae R af) (F ae R af)∧Ap (F aL (P+1) aM) (F aE (H+1) aF)∧Ap (F aL (P+1) aM) (F a_ (J+1) a')∧Ap (F aL (P+1) aM) (F U L AG)∧Ap (F aL (P+1) aM) (F ae R af)∧Ap (F aE (H+1) aF) (F a_ (J+1) a')∧Ap (F aE (H+1) aF) (F U L AG)∧Ap (F aE (H+1) aF) (F ae R af)∧Ap (F a_ (J+1) a') (F U L AG)∧Ap (F a_ (J+1) a') (F ae R af)∧Ap (F U L AG) (F ae R af)∧Bd (DL sb (F ah P AY) (F ag H As) (F aa J AR) (F U L AG) (F ae R af)) au W∧Ai W ak [[E x.ZI],[E x.l],[E x.r],[E x.lc],[E x.rc],bv x.ls.l,bv x.rs.l,bv x.k.l,[F x.s.p x.s.v.length x.s.c]] 127∧Z (F aL (P+1) aM) ak∧Z (F aE (H+1) aF) ak∧Z (F a_ (J+1) a') ak∧Z (F U L AG) ak∧Z (F ae R af) ak∧Ai W ai [[E A.v],[E A.f],[E A.ZG],[E A.ZZ],[E A.r],[E A.c],bv A.s.l] 131∧Z (F aL (P+1) aM) ai∧Z (F aE (H+1) aF) ai∧Z (F a_ (J+1) a') ai∧Z (F U L AG) ai∧Z (F ae R af) ai∧W.ownsRow Aj 3 1 (.slice aL (P+1) aM) (P+1) (Al Ct (AV++[bw]))∧W.ownsRow Aj 127 102 (.slice aE (H+1) aF) (H+1) (Al Dd (Ay++[x]))∧W.ownsRow Aj 131 38 (.slice a_ (J+1) a') (J+1) (Al DY (AM++[A]))∧Ai W sb [[E wd],[E ge],[E AD],[E Ab],[E Ak],[F aL (P+1) aM],[F aE (H+1) aF],[F a_ (J+1) a'],[F U L AG],[F none 0 0],[F ae R af],[F AQ 257 ce]] 66) ?_ ?_
    ·
     refine C7 (fun W=>Below Aj w W∧Ai W ak [[E x.ZI],[E x.l],[E x.r],[E x.lc],[E x.rc],bv x.ls.l,bv x.rs.l,bv x.k.l,[F x.s.p x.s.v.length x.s.c]] 127∧Ai W ai [[E A.v],[E A.f],[E A.ZG],[E A.ZZ],[E A.r],[E A.c],bv A.s.l] 131) ?_
     intro gE av d
     have S:=S.below d
     have C:=V C d
     have u:=V u d
     have t:=V t d
     have g:=Q g d
     have i:=Q i d
     have o:=V o d
     have B:=V B d
     have z:=Q z d
     have b:=BH b d An
     revert a
     refine Bk 0 D D ⟨b,g,i⟩<|Bk 1 D D ⟨b,g,i⟩<|CF 2 D D ⟨b,g,i⟩<|BW 3 D Cc 7 D ⟨b,g,i⟩<|A5 5 D (fun W bZ a X=>by obtain⟨b,g,i⟩:=bZ;exact EO X D BV D [] [[E A.v],[E A.f],[E A.ZG],[E A.ZZ],[E A.r],[E A.c],bv A.s.l] [] i D (Cf 38)) ⟨b,g,i⟩<|?_
     intro ar ab
     refine EW 4 6 5 D D D D ?_ ?_
     ·
      intro Aa ad
      refine DI ab D (Cl ab D Hb D [[E wd],[E ge],[E AD],[E Ab],[E Ak],[F aL (P+1) aM],[F aE (H+1) aF]] (F aa J AR) [[F U L AG],[F none 0 0],[F ae R af],[F AQ 257 ce]] z D) ?_
      intro a X
      refine ad _ _ ⟨b,g,i⟩ ?_;revert a
      intro ar ab
      refine A8 6 4 D D ?_
      intro Aa ad
      refine EK ab F_ [[E A.v],[E A.f],[E A.ZG],[E A.ZZ],[E A.r],[E A.c],bv A.s.l] ?_
      intro a gF X av eX d
      have S:=S.below d
      have C:=V C d
      have u:=V u d
      have t:=V t d
      have g:=Q g d
      have i:=Q i d
      have o:=V o d
      have B:=V B d
      have z:=Q z d
      have b:=BH b d An
      refine ad _ _ ⟨b,g,i⟩ ?_;revert a
      intro ar ab
      refine A8 7 3 D D ?_
      intro Aa ad
      refine BK ab F_ C eX C8 (Bs An b.size) (J+1) (CC AM A D (Ha _)) ?_
      intro a a_ a' gG X cM ba
      have aT:=S.size
      have eY:=ax.Df ba (fun k m=>(o.lt k m).2)
      have eZ:=aH.Df ba (fun k m=>(B.lt k m).2)
      have e0:=aR.BR ba (fun k m=>(u.lt k m).2)
      have e1:=aO.BR ba (fun k m=>(t.lt k m).2)
      have c5:=A9 ba ao (Ar z)
      have e2:=A9 ba aV (Ar g)
      have e3:=A9 ba aX (Ar i)
      have S:=S.DB ba atR (fun _ q=>Or.inr (Or.inr (Or.inr (Or.inl q))))
      have u:=Bm u ba aR.symm
      have t:=Bm t ba aO.symm
      have g:=A' g ba aV
      have i:=A' i ba aX
      have o:=Bm o ba ax
      have B:=Bm B ba aH
      have z:=A' z ba ao
      have atR:=atR.C9 ba aT
      have b:=EI b ba C An
      refine ad _ _ ⟨b,g,i⟩ ?_;revert a
      refine CF 8 D D ⟨b,g,i⟩<|BW 9 D Cc 7 D ⟨b,g,i⟩<|?_
      intro ar ab
      refine A8 10 0 D D ?_
      intro Aa ad
      refine DM ab 7 z D D ?_
      intro a gH X av e4 bO
      have S:=S.B1 bO
      have u:=Ax u bO aq
      have t:=Ax t bO al
      have g:=Ag bO g (by omega)
      have i:=Ag bO i (by omega)
      have o:=Ax o bO bj
      have B:=Ax B bO an
      have cM:=Ax cM bO c5
      have b:=CG b bO An
      refine ad _ _ ⟨b,g,i⟩ ?_;revert a
      refine B_<|G<|?_
      intro a X
      exact⟨a_,a',At X,b,bj,ay,an,aj,c5,atR,u,aq,az,t,al,aP,aw,eY,aG,bT,eZ,aQ,aN,e0,e1,aS,S,g,b_,aU,e2,aY,bk,i,b',aW,e3,aZ,bl,o,B,cM,e4⟩
     ·
      intro Aa ad
      refine EK ab F_ [[E A.v],[E A.f],[E A.ZG],[E A.ZZ],[E A.r],[E A.c],bv A.s.l] ?_
      intro a gI X av e5 d
      have S:=S.below d
      have C:=V C d
      have u:=V u d
      have t:=V t d
      have g:=Q g d
      have i:=Q i d
      have o:=V o d
      have B:=V B d
      have z:=Q z d
      have b:=BH b d An
      refine ad _ _ ⟨b,g,i⟩ ?_;revert a
      intro ar ab
      refine A8 4 4 D D ?_
      intro Aa ad
      refine DI ab D (Cl ab D Hb D [[E wd],[E ge],[E AD],[E Ab],[E Ak],[F aL (P+1) aM],[F aE (H+1) aF]] (F aa J AR) [[F U L AG],[F none 0 0],[F ae R af],[F AQ 257 ce]] z D) ?_
      intro a X
      refine ad _ _ ⟨b,g,i⟩ ?_;revert a
      intro ar ab
      refine A8 7 3 D D ?_
      intro Aa ad
      refine BK ab F_ C e5 C8 (Bs An b.size) (J+1) (CC AM A D (Ha _)) ?_
      intro a e6 e7 gJ X cN bb
      have aT:=S.size
      have e8:=ax.Df bb (fun k m=>(o.lt k m).2)
      have e9:=aH.Df bb (fun k m=>(B.lt k m).2)
      have e_:=aR.BR bb (fun k m=>(u.lt k m).2)
      have e':=aO.BR bb (fun k m=>(t.lt k m).2)
      have c6:=A9 bb ao (Ar z)
      have fa:=A9 bb aV (Ar g)
      have fb:=A9 bb aX (Ar i)
      have S:=S.DB bb atR (fun _ q=>Or.inr (Or.inr (Or.inr (Or.inl q))))
      have u:=Bm u bb aR.symm
      have t:=Bm t bb aO.symm
      have g:=A' g bb aV
      have i:=A' i bb aX
      have o:=Bm o bb ax
      have B:=Bm B bb aH
      have z:=A' z bb ao
      have atR:=atR.C9 bb aT
      have b:=EI b bb C An
      refine ad _ _ ⟨b,g,i⟩ ?_;revert a
      refine CF 8 D D ⟨b,g,i⟩<|BW 9 D Cc 7 D ⟨b,g,i⟩<|?_
      intro ar ab
      refine A8 10 0 D D ?_
      intro Aa ad
      refine DM ab 7 z D D ?_
      intro a gK X av fc bP
      have S:=S.B1 bP
      have u:=Ax u bP aq
      have t:=Ax t bP al
      have g:=Ag bP g (by omega)
      have i:=Ag bP i (by omega)
      have o:=Ax o bP bj
      have B:=Ax B bP an
      have cN:=Ax cN bP c6
      have b:=CG b bP An
      refine ad _ _ ⟨b,g,i⟩ ?_;revert a
      refine B_<|G<|?_
      intro a X
      exact⟨e6,e7,At X,b,bj,ay,an,aj,c6,atR,u,aq,az,t,al,aP,aw,e8,aG,bT,e9,aQ,aN,e_,e',aS,S,g,b_,aU,fa,aY,bk,i,b',aW,fb,aZ,bl,o,B,cN,fc⟩
    ·
     rintro a gL ⟨a_,a',X,b,bj,ay,an,aj,ao,atR,u,aq,az,t,al,aP,aw,ax,aG,bT,aH,aQ,aN,aR,aO,aS,S,g,b_,aU,aV,aY,bk,i,b',aW,aX,aZ,bl,o,B,C,z⟩
     revert a
     refine G<|K<|N<|I D<|Dk (q:=(3:Nat)) D D<|M<|G<|Bl D (fun fe=>?_) fun fe=>?_
     ·
      refine N<|I D<|I D<|Bt D<|Am Cc 8 D<|AK Eo 8 z D D<|I D<|D6 DK D (cs:=#[E p]) D D ?_
      intro gM av ff d
      have S:=S.below d
      have u:=V u d
      have t:=V t d
      have o:=V o d
      have B:=V B d
      have C:=V C d
      have z:=Q z d
      have b:=BH b d An
      intro ar ab
      refine Bj D (fun Aa ad=>BK ab DK u ff (by simp[Value.oneCell']) (Bs An b.size) (L+1) (CC AN p D (En _)) ?_)
      intro a c7 c8 gN X cO bn
      have aT:=S.size
      have fg:=aG.Df bn (fun k m=>(o.lt k m).2)
      have fh:=aQ.Df bn (fun k m=>(B.lt k m).2)
      have fi:=aR.Df bn (fun k m=>(C.lt k m).2)
      have fj:=aS.BR bn (fun k m=>(t.lt k m).2)
      have c9:=A9 bn aq (Ar z)
      have S:=S.DB bn az (fun _ q=>Or.inr (Or.inr (Or.inr (Or.inr (Or.inl q)))))
      have t:=Bm t bn aS.symm
      have o:=Bm o bn aG
      have B:=Bm B bn aQ
      have C:=Bm C bn aR
      have z:=A' z bn aq
      have az:=az.C9 bn aT
      have b:=EI b bn u An
      refine ad _ _ ?_;revert a
      refine Bt D<|Am Cc 8 D<|C_ 8 z D D ?_
      intro gO av fk b4
      have S:=S.B1 b4
      have t:=Ax t b4 al
      have o:=Ax o b4 bj
      have B:=Ax B b4 an
      have C:=Ax C b4 ao
      have cO:=Ax cO b4 c9
      have b:=CG b b4 An
      refine M<|?_
      intro a X
      refine FD ?_
      refine Ec X D ?_
      have b1:=cb.next (Y:=DL sb (F ah P AY) (F ag H As) (F aa J AR) (F U L AG) (F ae R af)) aI (fun k m y=>GM bo bp bq br bs k y m) (Be _)
      have b2:=b1.add cm cn cp
      have b3:=b2.next (Y:=DL sb (F aL (P+1) aM) (F aE (H+1) aF) (F a_ (J+1) a') (F c7 (L+1) c8) (F ae R af)) S (fun k m y=>GM ay aj atR az aP k y m) (Be _)
      exact⟨aL,P+1,aM,AV++[bw],aE,H+1,aF,Ay++[x],a_,J+1,a',AM++[A],c7,L+1,c8,AN++[p],ae,R,af,bt,D,by omega,by omega,by omega,⟨by omega,by omega⟩,⟨⟨by omega,by omega⟩,fun _=>⟨D,D,D⟩⟩,b3.KI,⟨cj,fk,o,B,C,cO,t,bj,an,ao,c9,al,aw,ax,fg,bT,aH,fh,aN,fi,aO,fj⟩,bo.trans ay aI.size,bp.trans aj aI.size,bq.trans atR aI.size,br.trans az aI.size,bs.trans aP aI.size,aI.trans S (GM bo bp bq br bs),b⟩
     ·
      refine AE<|?_
      intro a X
      refine FD ?_
      refine Ec X D ?_
      have b1:=cb.next (Y:=DL sb (F ah P AY) (F ag H As) (F aa J AR) (F U L AG) (F ae R af)) aI (fun k m y=>GM bo bp bq br bs k y m) (Be _)
      have b2:=b1.add cm cn cp
      have b3:=b2.next (Y:=DL sb (F aL (P+1) aM) (F aE (H+1) aF) (F a_ (J+1) a') (F U L AG) (F ae R af)) S (fun k m y=>GM ay aj atR az aP k y m) (Be _)
      exact⟨aL,P+1,aM,AV++[bw],aE,H+1,aF,Ay++[x],a_,J+1,a',AM++[A],U,L,AG,AN,ae,R,af,bt,D,by omega,by omega,by omega,⟨by omega,by omega⟩,⟨⟨by omega,by omega⟩,fun _=>⟨D,D,D⟩⟩,b3.succ,⟨cj,z,o,B,C,u,t,bj,an,ao,aq,al,aw,ax,aG,bT,aH,aQ,aN,aR,aO,aS⟩,bo.trans ay aI.size,bp.trans aj aI.size,bq.trans atR aI.size,br.trans az aI.size,bs.trans aP aI.size,aI.trans S (GM bo bp bq br bs),b⟩
theorem Xk{Aj sb wd ge AD Ab Ak:Nat}{AQ:Option Addr}{ce:Nat}{q:Option Addr}{n c:Nat}{l:List UInt8}{w:World}(An:Aj≤w.heap.size)(cn:512≤n)(hn:n≤2000000)(bn:Dv Aj w q n c 1 (bv l))(cp:l.length=n)(bI:JN Aj sb w wd ge AD Ab Ak AQ ce none 0 0 ([]) none 0 0 ([]) none 0 0 ([]) none 0 0 ([]) none 0 0 ([])):
 Calls Tryz.prog 29 #[AB sb,F q n c] w fun e w'=>∃a9 a_ bJ a' ba bo bb bc bp a3 aY a4 bq,e=.returned (.tuple #[])∧(aY≤2∧(aY=0→a3=none∧a4=0∧bq=[]))∧Gg (DL sb (F a9 2 a_) (F a' 2 ba) (F bb 2 bc) (F none 0 0) (F a3 aY a4)) w' bo bp [] 2∧JN Aj sb w' wd ge AD Ab Ak AQ ce a9 2 a_ bJ a' 2 ba bo bb 2 bc bp none 0 0 ([]) a3 aY a4 bq∧AtR w.heap.size (F a9 2 a_) (.slice none 0 0)∧AtR w.heap.size (F a' 2 ba) (.slice none 0 0)∧AtR w.heap.size (F bb 2 bc) (.slice none 0 0)∧AtR w.heap.size (F none 0 0) (.slice none 0 0)∧AtR w.heap.size (F a3 aY a4) (.slice none 0 0)∧Bd (DL sb (F none 0 0) (F none 0 0) (F none 0 0) (F none 0 0) (F none 0 0)) w w'∧Below Aj w w':=by
 obtain⟨bK,A,H,z,u,m,t,az,av,ai,aj,L,aB,aC,aD,aE,aF,aG,aH,aI,aJ,aU⟩:=bI
 have ak:AtR w.heap.size (.slice none 0 0) (.slice none 0 0):=AtR.refl _ _
 have al:AtR w.heap.size (.slice none 0 0) (.slice none 0 0):=AtR.refl _ _
 have atR:AtR w.heap.size (.slice none 0 0) (.slice none 0 0):=AtR.refl _ _
 have aZ:AtR w.heap.size (.slice none 0 0) (.slice none 0 0):=AtR.refl _ _
 have aA:AtR w.heap.size (.slice none 0 0) (.slice none 0 0):=AtR.refl _ _
 have S:Bd (DL sb (F none 0 0) (F none 0 0) (F none 0 0) (F none 0 0) (F none 0 0)) w w:=Bd.refl _ _
 have d:Below Aj w w:=Bu _ _
 refine Bx QQ D 59 ?_
 refine K<|N<|O (v:=(E 0)) D<|M<|G<|A2<|?_
 intro a x
 refine Cb (fun bd a W=>∃i P R a0 U X aV Y aa aW an ao J a5,bd=2 - i∧Ao 59 a (Ja (Ja (Ja Je 0 (AB sb)) 1 (F q n c)) 4 (E i))∧i≤2∧J≤i∧(J=0→an=none∧ao=0∧a5=[])∧(∀y∈aV,Fl y∧y.s=DZ)∧(∀y∈aW,y.v<4294967296∧y.f<4294967296∧y.ZG<4294967296∧y.ZZ<4294967296∧y.r<4294967296∧y.c<4294967296)∧W.ownsRow Aj 3 1 (.slice P i R) i (Al Ct a0)∧W.ownsRow Aj 127 102 (.slice U i X) i (Al Dd aV)∧W.ownsRow Aj 131 38 (.slice Y i aa) i (Al DY aW)∧W.ownsRow Aj 173 2 (.slice an J ao) J (Al Em a5)∧Below Aj w W∧Ai W sb [[E wd],[E ge],[E AD],[E Ab],[E Ak],[F P i R],[F U i X],[F Y i aa],[F none 0 0],[F none 0 0],[F an J ao],[F AQ 257 ce]] 66∧Z (F P i R) sb∧AtR w.heap.size (F P i R) (F none 0 0)∧Z (F U i X) sb∧AtR w.heap.size (F U i X) (F none 0 0)∧Z (F Y i aa) sb∧AtR w.heap.size (F Y i aa) (F none 0 0)∧W.ownsRow Aj 3 1 (.slice none 0 0) 0 (Al Ct ([]))∧Z (F none 0 0) sb∧AtR w.heap.size (F none 0 0) (F none 0 0)∧Z (F an J ao) sb∧AtR w.heap.size (F an J ao) (F none 0 0)∧Ap (F P i R) (F U i X)∧Ap (F P i R) (F Y i aa)∧Ap (F P i R) (F none 0 0)∧Ap (F P i R) (F an J ao)∧Ap (F U i X) (F Y i aa)∧Ap (F U i X) (F none 0 0)∧Ap (F U i X) (F an J ao)∧Ap (F Y i aa) (F none 0 0)∧Ap (F Y i aa) (F an J ao)∧Ap (F none 0 0) (F an J ao)∧Bd (DL sb (F none 0 0) (F none 0 0) (F none 0 0) (F none 0 0) (F none 0 0)) w W) _ ⟨0,_,_,_,_,_,_,_,_,_,_,_,_,_,D,At x,by omega,Be _,fun _=>⟨D,D,D⟩,(fun y ay=>by cases ay),(fun y ay=>by cases ay),H,z,u,t,d,A,T az,ak,T av,al,T ai,atR,m,T aj,aZ,T L,aA,AI aB,AI aC,AI aD,AI aE,AI aF,AI aG,AI aH,AI aI,AI aJ,AI aU,S⟩ ?_
 rintro _ a bf ⟨i,P,R,a0,U,X,aV,Y,aa,aW,an,ao,J,a5,rfl,x,ct,bL,br,a6,bg,H,z,u,t,d,A,az,ak,av,al,ai,atR,m,aj,aZ,L,aA,aB,aC,aD,aE,aF,aG,aH,aI,aJ,aU,S⟩
 revert a
 refine K<|K<|N<|I D<|B5 (q:=(2:Nat)) D D<|M<|G<|Bl D (fun bM=>?_) fun bM=>?_
 ·
  refine AE<|G<|K<|A2<|K<|N<|O D<|M<|G<|K<|K<|N<|O (v:=(E 64)) D<|M<|G<|A2<|?_
  intro a x
  refine Cb (fun bd a W=>∃j bad,bd=256 - j∧W=bf∧Ao 59 a (Ja (Ja (Ja (Ja (Ja Je 0 (AB sb)) 1 (F q n c)) 4 (E i)) 6 (E j)) 5 (Br bad))∧j≤256) _ ⟨64,_,D,D,At x,by omega⟩ ?_
  rintro _ a bf ⟨j,bad,rfl,rfl,x,cu⟩
  revert a
  refine K<|K<|N<|I D<|B5 (q:=(256:Nat)) D D<|M<|G<|Bl D (fun bN=>?_) fun bN=>?_
  ·
   refine AE<|G<|K<|A2<|N<|?_
   rcases Bool.eq_false_or_eq_true bad with bh|bh
   ·
    refine AT (fun _ x=>Fk (Ew x (v:=(Br bad)) D) (congrArg Value.bool bh))<|I D<|Ae D D D D<|Ae D D D D<|Ae D D D D<|Ae D D D D<|Ae D D D D<|Ae D D D D<|Ae D D D D<|Ae D D D D<|Bn D D<|O D<|M<|Bq<|G<|N<|I D<|A_ (q:=1) D D<|O D<|M<|G<|?_
    intro a x
    exact⟨_,by omega,j+1,_,D,D,At x,by omega⟩
   ·
    refine AT (fun _ x=>Fk (Ew x (v:=(Br bad)) D) (congrArg Value.bool bh))<|I D<|Ad D D D<|I D<|Ad D D D<|I D<|Ad D D D<|FT (p:=256) D D<|Ad D D D<|I D<|Ad D D D<|A_ D D<|?_
    obtain⟨cv,bs,rfl⟩:=Ca (bn.below d)
    have bO:=De (bn.below d) ((256*i)+j) (o:=bs+((256*i)+j)*1)
    refine Ad D D D<|Cn A0 ((256*i)+j) (bs+((256*i)+j)*1) D D<|Ad D D D<|Cg BA bO D<|?_
    by_cases bt:((((l.getD ((256*i)+j) 0).toNat:Nat):Int):Int)=(((0:Nat):Int):Int)
    ·
     refine Ad D D D<|Dr bt D D<|Ba D D<|O D<|M<|Bq<|G<|N<|I D<|A_ (q:=1) D D<|O D<|M<|G<|?_
     intro a x
     exact⟨_,by omega,j+1,_,D,D,At x,by omega⟩
    ·
     refine Ad D D D<|F6 bt D D<|Ba D D<|O D<|M<|Bq<|G<|N<|I D<|A_ (q:=1) D D<|O D<|M<|G<|?_
     intro a x
     exact⟨_,by omega,j+1,_,D,D,At x,by omega⟩
  ·
   refine BO<|AW<|AW<|BN<|G<|K<|K<|N<|I D<|M<|G<|Ej D (fun bP=>?_) fun bP=>?_
   ·
    refine N<|I D<|I D<|AS IJ D (Iw (p:=i) (y:=((53:Nat):Int)) (Hx:=[E wd,E ge,E AD,E Ab,E Ak,F P i R,F U i X,F Y i aa,F none 0 0,F none 0 0]) (Ho:=[F AQ 257 ce]) ⟨D,Gc (ss:=[[E wd],[E ge],[E AD],[E Ab],[E Ak],[F P i R],[F U i X],[F Y i aa],[F none 0 0],[F none 0 0]]) (Jc.one D (Jc.one D (Jc.one D (Jc.one D (Jc.one D (Jc.one D (Jc.one D (Jc.one D (Jc.one D (Jc.one D Jc.nil))))))))))⟩ ⟨D,Gc (ss:=[[F AQ 257 ce]]) (Jc.one D Jc.nil)⟩ (Bs An d.size) (by omega) A t L) ?_
    rintro _ bu ⟨bQ,bR,rfl,bS,bT,bU,a1,aX⟩
    refine⟨_,D,?_⟩
    have bV:Below Aj bf bu:=aX.toBelow (Bs An d.size) (fun k b=>b.elim (fun q=>by omega) (fun q=>(t.lt k q).1))
    have bw:=(aE.symm.at a1 (fun k b=>(H.lt k b).2)).symm
    have bx:=(aH.symm.at a1 (fun k b=>(z.lt k b).2)).symm
    have bz:=(aJ.symm.at a1 (fun k b=>(u.lt k b).2)).symm
    have bW:=(aU.symm.at a1 (fun k b=>(m.lt k b).2)).symm
    have H:=FA H aX (fun k b h=>h.elim (fun q=>az k b q) (fun q=>aE k b q))
    have z:=FA z aX (fun k b h=>h.elim (fun q=>av k b q) (fun q=>aH k b q))
    have u:=FA u aX (fun k b h=>h.elim (fun q=>ai k b q) (fun q=>aJ k b q))
    have m:=FA m aX (fun k b h=>h.elim (fun q=>aj k b q) (fun q=>aU k b q))
    have S:=S.trans aX (fun k b bX=>b.elim (fun q=>.inl q) (fun q=>(aA k q).elim (fun q=>Or.inr (Or.inr (Or.inr (Or.inr (Or.inr q))))) (fun q=>absurd bX (by omega))))
    have aA:=aA.trans a1 d.size
    have d:=d.trans bV
    have A:Ai bu sb [[E wd],[E ge],[E AD],[E Ab],[E Ak],[F P i R],[F U i X],[F Y i aa],[F none 0 0],[F none 0 0],[F bQ (J+1) bR],[F AQ 257 ce]] 66:=bS;have t:=bT;have L:=bU
    refine M<|G<|K<|N<|I D<|I D<|Bt D<|Am Cc 5 D<|AK Eo 5 A D D<|D6 DK D (cs:=#[E 0]) D D ?_
    intro cw aq v20 g
    have S:=S.below g
    have H:=V H g
    have z:=V z g
    have u:=V u g
    have t:=V t g
    have A:=Q A g
    have m:=V m g
    have d:=BH d g An
    intro a2 ar
    refine Bj D (fun Aa au=>BK ar DK H v20 (by simp[Value.oneCell']) (Bs An d.size) (i+1) (CC a0 0 D (En _)) ?_)
    intro a cx cy cz x B ab
    have bA:=aB.BR ab (fun k b=>(z.lt k b).2)
    have bB:=aC.BR ab (fun k b=>(u.lt k b).2)
    have bY:=aD.BR ab (fun k b=>(m.lt k b).2)
    have bZ:=bw.BR ab (fun k b=>(t.lt k b).2)
    have a7:=A9 ab az (Ar A)
    have S:=S.DB ab ak (fun _ q=>Or.inr (Or.inl q))
    have z:=Bm z ab aB.symm
    have u:=Bm u ab aC.symm
    have t:=Bm t ab bw.symm
    have A:=A' A ab az
    have m:=Bm m ab aD.symm
    have ak:=ak.C9 ab d.size
    have d:=EI d ab H An
    refine au _ _ ?_;revert a
    refine Bt D<|Am Cc 5 D<|C_ 5 A D D ?_
    intro cA aq aK aL
    have S:=S.B1 aL
    have z:=Ax z aL av
    have u:=Ax u aL ai
    have t:=Ax t aL L
    have m:=Ax m aL aj
    have B:=Ax B aL a7
    have d:=CG d aL An
    refine M<|G<|K<|N<|I D<|I D<|Bt D<|Am Cc 6 D<|AK FN 6 aK D D<|AT (fun _ x=>CE x (Bf:=[]) D (v:=Value.agg (flat [[E 0],[E 0],[E 0],[E 0],[E 0],Av 32,Av 32,Av 32,[F none 0 0]])) (run_build _ _ _ _ (by kernel_rfl)))<|E8 EL [[E 0],[E 0],[E 0],[E 0],[E 0],Av 32,Av 32,Av 32,[F none 0 0]] ?_
    intro cB aq b0 g
    have S:=S.below g
    have z:=V z g
    have u:=V u g
    have t:=V t g
    have m:=V m g
    have B:=V B g
    have aK:=Q aK g
    have d:=BH d g An
    intro a2 ar
    refine Bj D (fun Aa au=>BK ar EL z b0 C8 (Bs An d.size) (i+1) (CC aV (⟨0,0,0,0,0,Bh,Bh,Bh,DZ⟩:DD) D (FO _)) ?_)
    intro a cC cD cE x aw ad
    have b1:=bA.Df ad (fun k b=>(B.lt k b).2)
    have bC:=aF.BR ad (fun k b=>(u.lt k b).2)
    have b2:=aG.BR ad (fun k b=>(m.lt k b).2)
    have b3:=bx.BR ad (fun k b=>(t.lt k b).2)
    have bj:=A9 ad av (Ar aK)
    have S:=S.DB ad al (fun _ q=>Or.inr (Or.inr (Or.inl q)))
    have u:=Bm u ad aF.symm
    have t:=Bm t ad bx.symm
    have m:=Bm m ad aG.symm
    have B:=Bm B ad bA
    have aK:=A' aK ad av
    have al:=al.C9 ad d.size
    have d:=EI d ad z An
    refine au _ _ ?_;revert a
    refine Bt D<|Am Cc 6 D<|C_ 6 aK D D ?_
    intro cF aq aM aN
    have S:=S.B1 aN
    have u:=Ax u aN ai
    have t:=Ax t aN L
    have m:=Ax m aN aj
    have B:=Ax B aN a7
    have aw:=Ax aw aN bj
    have d:=CG d aN An
    refine M<|G<|N<|I D<|I D<|Bt D<|Am Cc 7 D<|AK Hb 7 aM D D<|AT (fun _ x=>CE x (Bf:=[]) D (v:=Value.agg (flat [[E 0],[E 0],[E 0],[E 0],[E 0],[E 0],Av 32])) (run_build _ _ _ _ (by kernel_rfl)))<|E8 F_ [[E 0],[E 0],[E 0],[E 0],[E 0],[E 0],Av 32] ?_
    intro cG aq b4 g
    have S:=S.below g
    have u:=V u g
    have t:=V t g
    have m:=V m g
    have B:=V B g
    have aw:=V aw g
    have aM:=Q aM g
    have d:=BH d g An
    intro a2 ar
    refine Bj D (fun Aa au=>BK ar F_ u b4 C8 (Bs An d.size) (i+1) (CC aW (⟨0,0,0,0,0,0,Bh⟩:Ef) D (Ha _)) ?_)
    intro a cH cI cJ x bk ae
    have b5:=bB.Df ae (fun k b=>(B.lt k b).2)
    have b6:=bC.Df ae (fun k b=>(aw.lt k b).2)
    have b7:=aI.BR ae (fun k b=>(m.lt k b).2)
    have b8:=bz.BR ae (fun k b=>(t.lt k b).2)
    have bD:=A9 ae ai (Ar aM)
    have S:=S.DB ae atR (fun _ q=>Or.inr (Or.inr (Or.inr (Or.inl q))))
    have t:=Bm t ae bz.symm
    have m:=Bm m ae aI.symm
    have B:=Bm B ae bB
    have aw:=Bm aw ae bC
    have aM:=A' aM ae ai
    have atR:=atR.C9 ae d.size
    have d:=EI d ae u An
    refine au _ _ ?_;revert a
    refine Bt D<|Am Cc 7 D<|C_ 7 aM D D ?_
    intro cK aq b9 aO
    have S:=S.B1 aO
    have t:=Ax t aO L
    have m:=Ax m aO aj
    have B:=Ax B aO a7
    have aw:=Ax aw aO bj
    have bk:=Ax bk aO bD
    have d:=CG d aO An
    refine M<|Bq<|G<|N<|I D<|A_ (q:=1) D D<|O D<|M<|G<|?_
    intro a x
    exact⟨_,by omega,i+1,_,_,_,_,_,_,_,_,_,_,_,_,_,D,At x,by omega,by omega,fun h=>absurd h (by omega),Gn a6 ⟨Fl.zero,D⟩,Gn bg,B,aw,bk,t,d,b9,T a7,ak,T bj,al,T bD,atR,m,T aj,aZ,T L,aA,AI b1,AI b5,AI bY,AI bZ,AI b6,AI b2,AI b3,AI b7,AI b8,AI bW,S⟩
   ·
    refine AE<|G<|K<|N<|I D<|I D<|Bt D<|Am Cc 5 D<|AK Eo 5 A D D<|D6 DK D (cs:=#[E 0]) D D ?_
    intro cL aq b_ g
    have S:=S.below g
    have H:=V H g
    have z:=V z g
    have u:=V u g
    have t:=V t g
    have A:=Q A g
    have m:=V m g
    have d:=BH d g An
    intro a2 ar
    refine Bj D (fun Aa au=>BK ar DK H b_ (by simp[Value.oneCell']) (Bs An d.size) (i+1) (CC a0 0 D (En _)) ?_)
    intro a cM cN cO x C af
    have bE:=aB.BR af (fun k b=>(z.lt k b).2)
    have bF:=aC.BR af (fun k b=>(u.lt k b).2)
    have b':=aD.BR af (fun k b=>(m.lt k b).2)
    have ca:=aE.BR af (fun k b=>(t.lt k b).2)
    have a8:=A9 af az (Ar A)
    have S:=S.DB af ak (fun _ q=>Or.inr (Or.inl q))
    have z:=Bm z af aB.symm
    have u:=Bm u af aC.symm
    have t:=Bm t af aE.symm
    have A:=A' A af az
    have m:=Bm m af aD.symm
    have ak:=ak.C9 af d.size
    have d:=EI d af H An
    refine au _ _ ?_;revert a
    refine Bt D<|Am Cc 5 D<|C_ 5 A D D ?_
    intro cP aq aP aQ
    have S:=S.B1 aQ
    have z:=Ax z aQ av
    have u:=Ax u aQ ai
    have t:=Ax t aQ L
    have m:=Ax m aQ aj
    have C:=Ax C aQ a8
    have d:=CG d aQ An
    refine M<|G<|K<|N<|I D<|I D<|Bt D<|Am Cc 6 D<|AK FN 6 aP D D<|AT (fun _ x=>CE x (Bf:=[]) D (v:=Value.agg (flat [[E 0],[E 0],[E 0],[E 0],[E 0],Av 32,Av 32,Av 32,[F none 0 0]])) (run_build _ _ _ _ (by kernel_rfl)))<|E8 EL [[E 0],[E 0],[E 0],[E 0],[E 0],Av 32,Av 32,Av 32,[F none 0 0]] ?_
    intro cQ aq cb g
    have S:=S.below g
    have z:=V z g
    have u:=V u g
    have t:=V t g
    have m:=V m g
    have C:=V C g
    have aP:=Q aP g
    have d:=BH d g An
    intro a2 ar
    refine Bj D (fun Aa au=>BK ar EL z cb C8 (Bs An d.size) (i+1) (CC aV (⟨0,0,0,0,0,Bh,Bh,Bh,DZ⟩:DD) D (FO _)) ?_)
    intro a cR cS cT x ax ag
    have cc:=bE.Df ag (fun k b=>(C.lt k b).2)
    have bG:=aF.BR ag (fun k b=>(u.lt k b).2)
    have cd:=aG.BR ag (fun k b=>(m.lt k b).2)
    have cf:=aH.BR ag (fun k b=>(t.lt k b).2)
    have bl:=A9 ag av (Ar aP)
    have S:=S.DB ag al (fun _ q=>Or.inr (Or.inr (Or.inl q)))
    have u:=Bm u ag aF.symm
    have t:=Bm t ag aH.symm
    have m:=Bm m ag aG.symm
    have C:=Bm C ag bE
    have aP:=A' aP ag av
    have al:=al.C9 ag d.size
    have d:=EI d ag z An
    refine au _ _ ?_;revert a
    refine Bt D<|Am Cc 6 D<|C_ 6 aP D D ?_
    intro cU aq aR aS
    have S:=S.B1 aS
    have u:=Ax u aS ai
    have t:=Ax t aS L
    have m:=Ax m aS aj
    have C:=Ax C aS a8
    have ax:=Ax ax aS bl
    have d:=CG d aS An
    refine M<|G<|N<|I D<|I D<|Bt D<|Am Cc 7 D<|AK Hb 7 aR D D<|AT (fun _ x=>CE x (Bf:=[]) D (v:=Value.agg (flat [[E 0],[E 0],[E 0],[E 0],[E 0],[E 0],Av 32])) (run_build _ _ _ _ (by kernel_rfl)))<|E8 F_ [[E 0],[E 0],[E 0],[E 0],[E 0],[E 0],Av 32] ?_
    intro cV aq cg g
    have S:=S.below g
    have u:=V u g
    have t:=V t g
    have m:=V m g
    have C:=V C g
    have ax:=V ax g
    have aR:=Q aR g
    have d:=BH d g An
    intro a2 ar
    refine Bj D (fun Aa au=>BK ar F_ u cg C8 (Bs An d.size) (i+1) (CC aW (⟨0,0,0,0,0,0,Bh⟩:Ef) D (Ha _)) ?_)
    intro a cW cX cY x bm ah
    have ch:=bF.Df ah (fun k b=>(C.lt k b).2)
    have cj:=bG.Df ah (fun k b=>(ax.lt k b).2)
    have ck:=aI.BR ah (fun k b=>(m.lt k b).2)
    have cl:=aJ.BR ah (fun k b=>(t.lt k b).2)
    have bH:=A9 ah ai (Ar aR)
    have S:=S.DB ah atR (fun _ q=>Or.inr (Or.inr (Or.inr (Or.inl q))))
    have t:=Bm t ah aJ.symm
    have m:=Bm m ah aI.symm
    have C:=Bm C ah bF
    have ax:=Bm ax ah bG
    have aR:=A' aR ah ai
    have atR:=atR.C9 ah d.size
    have d:=EI d ah u An
    refine au _ _ ?_;revert a
    refine Bt D<|Am Cc 7 D<|C_ 7 aR D D ?_
    intro cZ aq cm aT
    have S:=S.B1 aT
    have t:=Ax t aT L
    have m:=Ax m aT aj
    have C:=Ax C aT a8
    have ax:=Ax ax aT bl
    have bm:=Ax bm aT bH
    have d:=CG d aT An
    refine M<|Bq<|G<|N<|I D<|A_ (q:=1) D D<|O D<|M<|G<|?_
    intro a x
    exact⟨_,by omega,i+1,_,_,_,_,_,_,_,_,_,_,_,_,_,D,At x,by omega,by omega,br,Gn a6 ⟨Fl.zero,D⟩,Gn bg,C,ax,bm,t,d,cm,T a8,ak,T bl,al,T bH,atR,m,T aj,aZ,T L,aA,AI cc,AI ch,AI b',AI ca,AI cj,AI cd,AI cf,AI ck,AI cl,AI aU,S⟩
 ·
  refine BO<|AW<|AW<|BN<|?_
  intro a x
  refine FD ?_
  refine Ec x D ?_
  obtain rfl:i=2:=by omega
  exact⟨P,R,a0,U,X,aV,Y,aa,aW,an,J,ao,a5,D,⟨bL,br⟩,⟨fun y ay=>(a6 y ay).1,fun y ay=>by rw[(a6 y ay).2];exact Gf.nil _ _,bg,fun y ay=>by cases ay⟩,⟨bK,A,H,z,u,m,t,az,av,ai,aj,L,aB,aC,aD,aE,aF,aG,aH,aI,aJ,aU⟩,ak,al,atR,aZ,aA,S,d⟩
end Go.Proofs.YtcdaflcjhimimaaGreatDoor
