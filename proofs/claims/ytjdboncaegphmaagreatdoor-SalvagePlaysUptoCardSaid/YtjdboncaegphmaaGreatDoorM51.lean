/- Laws and walks on the road to SalvagePlays (part M51). No conditions beyond each law's own. -/
import Derived.Test.YtjdboncaegphmaaGreatDoorM50
set_option linter.unusedVariables false
namespace Go.Proofs.YtjdboncaegphmaaGreatDoor
open Go.RowKit
set_option maxRecDepth 100000
set_option maxHeartbeats 2000000
theorem p_{q:Option Addr}{n c:Nat}{l:rG}{w:World}(Z:View w (.slice q n c) n 1 (bv l))(hl:l.length=n)(F:GD n=0){s:Fr.Bu}(Q:sY (sX l).1=.ok s):
 Calls lp 29 #[I q n c] w fun e w'=>tF (Tc l) w e w':=by
 have aF:=ff F;have aG:=jD F;have d:Below w.heap.size w w:=Cn _ _;refine DZ X6 D 56 ?_;refine Ao<|AD<|AV D<|AV D<|AV (v:=(E 0)) D<|Aw<|Ai<|Ao<|AD<|Az D<|CL P6 D (Qu _ _ _ (n/256) _ _ Z hl) ?_;rintro _ aa ⟨AK,ib,ci,rfl,b,ab⟩;refine⟨_,D,?_⟩;have d:=BG d ab;have aH:=b.cap;have aI:=b.low;refine Az D<|CH D D<|CH D D<|AV D<|AV (v:=(E 0)) D<|Aw<|Ai<|Ao<|Ao<|AD<|Az (v:=(E 0)) D<|?_;have ad:(((0:Nat):Int)=((0:Nat):Int)):=D;refine Mg ad D D<|Aw<|Ai<|FQ D<|CA<|Ai<|Ao<|AD<|AV D<|Aw<|Ai<|Ao<|Ao<|AD<|Az (v:=(E 0)) D<|Aw<|Ai<|B'<|?_;have f:aa.ownsRow w.heap.size 3 1 (.slice none 0 0) 0 (Aq Bm []):=World.ownsRow_nil _ _ _ _;have t:GZ (I none 0 0) AK:=l1;have r:GZ (I none 0 0) ib:=l1;intro a g;refine Ec (fun G a W=>∃p x u y i z,G=2 - p∧AH 56 a (Jb (Jb (Jb (Jb (Jb (Jb Jk 2 (I none 0 0)) 3 (I none 0 0)) 4 (E 0)) 5 (S AK)) 19 (E p)) 7 (I u i y))∧p≤2∧tx l p=(x,z)∧i≤p∧W.ownsRow w.heap.size 3 1 (.slice u i y) i (Aq Bm z)∧Below w.heap.size w W∧BS w.heap.size AK ib n ci W x (⟨0,0,0,0,0⟩)∧GZ (I u i y) AK∧GZ (I u i y) ib) _ ⟨0,l,_,_,_,_,D,AY g,JY,D,F2 _,f,d,b,WX t,WX r⟩ ?_;rintro _ a R ⟨p,x,u,y,i,z,rfl,g,aJ,Df,ae,f,d,b,t,r⟩;revert a;refine Ao<|AD<|D_ (q:=(2:Nat)) D D<|Aw<|Ai<|Ao<|DU D (fun af=>?_) fun af=>?_
 ·
  refine CA<|Ai<|Ao<|B'<|Ao<|AD<|Az D<|AV D<|Aw<|Ai<|Ao<|AD<|Az D<|Az D<|CL E4 D (kT (p:=p) d.size b) ?_;rintro _ ag ⟨rfl,ah,T,aK⟩;refine⟨_,D,?_⟩;have A:Below w.heap.size R ag:=T.toBelow d.size (fun k o=>o.elim (fun q=>JY) (fun q=>JY));have f:=m7 f T (fun k o h=>h.elim (t k o) (r k o));have d:=d.trans A;clear A b;have b:=ah;refine Aw<|Ai<|I5 D (fun H=>?_) fun H=>?_
  ·
   refine AD<|Az D<|Az D<|K2 G0 D (cs:=#[E p]) D D ?_;intro aL ai aj J;have b:=b.below J;have f:=EN f J;have d:=BG d J;intro ak K;refine Cp D (fun A5 L=>Gn K G0 f aj (by simp[Value.oneCell']) d.size (i+1) (g7 z p D (Gj _)) ?_);intro a aM aN aO g al B;have an:=Ml B t b.G2;have ao:=Ml B r b.Hi;have b:=b.Ny B f t r;have d:=F' d B f;refine L _ _ ?_;revert a;refine AV D<|Aw<|DN<|Ai<|AD<|Dz (q:=1) D D<|Az D<|Aw<|Ai<|?_;intro a g;exact⟨_,JY,p+1,(FF x p).1,_,_,_,_,D,AY g,JY,mB Df (Prod.ext D H),JY,al,d,b,WX an,WX ao⟩
  ·
   refine CA<|DN<|Ai<|AD<|Dz (q:=1) D D<|Az D<|Aw<|Ai<|?_;intro a g;exact⟨_,JY,p+1,(FF x p).1,_,_,_,_,D,AY g,JY,m8 Df (Prod.ext D H),JY,f,d,b,WX t,WX r⟩
 ·
  refine Dv<|BY<|BY<|Ds<|Ai<|Ao<|Ao<|?_;obtain rfl:p=2:=JY;have M:sX l=(x,z):=Df;have aq:=b.len;have U:sY x=.ok s:=by rw[←Q,M]
  refine AD<|Az D<|CL TU D (oh U d.size b) ?_;rintro _ ar ⟨rfl,au,V,aP⟩;refine⟨_,D,?_⟩;have A:Below w.heap.size R ar:=V.toBelow d.size (fun k o=>o.elim (fun q=>JY) (fun q=>JY));have f:=m7 f V (fun k o h=>h.elim (t k o) (r k o));have d:=d.trans A;clear A b;have b:=au;refine AV (v:=(E 0)) D<|Aw<|Ai<|Ao<|AD<|Az (v:=(E 0)) D<|?_;have av:(((0:Nat):Int)=((0:Nat):Int)):=D;refine Mg av D D<|Aw<|?_;have X:=hA U;have aQ:=R1 X.2.1;have aR:n=256*s.p:=by rw[X.1,aq];omega
  refine Ai<|FQ D<|CA<|Ai<|Ao<|Ao<|AD<|AV (v:=(E 2)) D<|Aw<|Ai<|B'<|?_;intro a g;refine Ec (fun G a W=>∃k x Aa u y i z,G=s.m - 2 - k∧AH 56 a (Jb (Jb (Jb (Jb (Jb (Jb Jk 2 (I none 0 0)) 3 (I none 0 0)) 4 (E 0)) 5 (S AK)) 10 (E (2+k))) 7 (I u i y))∧2+k≤s.m∧L3 (sX l).1 k=(x,Aa)∧z=(sX l).2++Aa∧i≤2+k∧W.ownsRow w.heap.size 3 1 (.slice u i y) i (Aq Bm z)∧Below w.heap.size w W∧BS w.heap.size AK ib n ci W x s∧GZ (I u i y) AK∧GZ (I u i y) ib) _ ⟨0,x,[],_,_,_,_,D,AY g,JY,by rw[M];rfl,by rw[M,Ha],JY,f,d,b,WX t,WX r⟩ ?_;rintro _ a aw ⟨k,x,Aa,u,y,i,z,rfl,g,o,N,O,ae,f,d,b,t,r⟩;revert a;refine Ao<|Ao<|AD<|Az D<|Az D<|QJ D<|Gt ts 1 D<|Gt Bs 3 D<|D8 AF b.mark D<|D_ D D<|Aw<|Ai<|DU D (fun ax=>?_) fun ax=>?_
  ·
   refine CA<|Ai<|Ao<|B'<|Ao<|AD<|Az D<|Az D<|CL UR D (q5 (p:=2+k) d.size b JY JY JY) ?_;rintro _ ay ⟨rfl,az,Y,aS⟩;refine⟨_,D,?_⟩;have A:Below w.heap.size aw ay:=Y.toBelow d.size (fun k o=>o.elim (fun q=>JY) (fun q=>JY));have f:=m7 f Y (fun k o h=>h.elim (t k o) (r k o));have d:=d.trans A;clear A b;have b:=az;refine Aw<|Ai<|I5 D (fun P=>?_) fun P=>?_
   ·
    refine AD<|Az D<|Az D<|K2 G0 D (cs:=#[E (2+k)]) D D ?_;intro Da ai aA J;have b:=b.below J;have f:=EN f J;have d:=BG d J;intro ak K;refine Cp D (fun A5 L=>Gn K G0 f aA (by simp[Value.oneCell']) d.size (i+1) (g7 z (2+k) D (Gj _)) ?_);intro a aT aU aV g aB C;have aC:=Ml C t b.G2;have aD:=Ml C r b.Hi;have b:=b.Ny C f t r;have d:=F' d C f;refine L _ _ ?_;revert a;refine AV D<|Aw<|DN<|Ai<|AD<|Az D<|Dz (q:=1) D D<|AV D<|Aw<|Ai<|?_;intro a g;exact⟨_,JY,k+1,(s7 x (2+k)).1,Aa++[2+k],_,_,_,_,D,AY g,JY,uw N (Prod.ext D P),by rw[O,C9],JY,aB,d,b,WX aC,WX aD⟩
   ·
    refine CA<|DN<|Ai<|AD<|Az D<|Dz (q:=1) D D<|AV D<|Aw<|Ai<|?_;intro a g;exact⟨_,JY,k+1,(s7 x (2+k)).1,Aa,_,_,_,_,D,AY g,JY,o0 N (Prod.ext D P),O,JY,f,d,b,WX t,WX r⟩
  ·
   refine Dv<|BY<|BY<|Ds<|Ai<|Ao<|AD<|Az D<|QJ D<|Gt ts 0 D<|D8 B7 b.QY D<|Az D<|AV D<|AV D<|AV (v:=(E 0)) D<|Aw<|Ai<|C0<|?_;intro a g;refine fa g D D D D ?_;obtain rfl:k=s.m - 2:=JY;have g:Tc l=(x,z,0):=by unfold Tc;rw[hl,if_pos F];unfold t';rw[Q];show((L3 (sX l).1 (s.m - 2)).1,(sX l).2++(L3 (sX l).1 (s.m - 2)).2,0)=_;rw[N,O]
   rw[g];exact tF.mk b.len (I3 Gj JZ f) (oE d b.own f (fun j hj aE=>by cases aE;exact r _ hj D))
theorem rP{q:Option Addr}{n c:Nat}{l:rG}{w:World}(G:View w (.slice q n c) n 1 (bv l))(hl:l.length=n)(B:GD n=0){r:Nat}(ag:r≠0)(H:sY (sX l).1=.error r):
 Calls lp 29 #[I q n c] w fun e w'=>e=.returned (.tuple #[.slice none 0 0,.slice none 0 0,.int .i64 ((r:Nat):Int)])∧Below w.heap.size w w':=by
 have ah:=ff B;have ai:=jD B;have b:Below w.heap.size w w:=Cn _ _;refine DZ X6 D 56 ?_;refine Ao<|AD<|AV D<|AV D<|AV (v:=(E 0)) D<|Aw<|Ai<|Ao<|AD<|Az D<|CL P6 D (Qu _ _ _ (n/256) _ _ G hl) ?_;rintro _ K ⟨AK,ib,ci,rfl,d,L⟩;refine⟨_,D,?_⟩;have b:=BG b L;have aj:=d.cap;have ak:=d.low;refine Az D<|CH D D<|CH D D<|AV D<|AV (v:=(E 0)) D<|Aw<|Ai<|Ao<|Ao<|AD<|Az (v:=(E 0)) D<|?_;have M:(((0:Nat):Int)=((0:Nat):Int)):=D;refine Mg M D D<|Aw<|Ai<|FQ D<|CA<|Ai<|Ao<|AD<|AV D<|Aw<|Ai<|Ao<|Ao<|AD<|Az (v:=(E 0)) D<|Aw<|Ai<|B'<|?_;have f:K.ownsRow w.heap.size 3 1 (.slice none 0 0) 0 (Aq Bm []):=World.ownsRow_nil _ _ _ _;have j:GZ (I none 0 0) AK:=l1;have m:GZ (I none 0 0) ib:=l1;intro a g;refine Ec (fun N a W=>∃p x s t i u,N=2 - p∧AH 56 a (Jb (Jb (Jb (Jb (Jb (Jb Jk 2 (I none 0 0)) 3 (I none 0 0)) 4 (E 0)) 5 (S AK)) 19 (E p)) 7 (I s i t))∧p≤2∧tx l p=(x,u)∧i≤p∧W.ownsRow w.heap.size 3 1 (.slice s i t) i (Aq Bm u)∧Below w.heap.size w W∧BS w.heap.size AK ib n ci W x (⟨0,0,0,0,0⟩)∧GZ (I s i t) AK∧GZ (I s i t) ib) _ ⟨0,l,_,_,_,_,D,AY g,JY,D,F2 _,f,b,d,WX j,WX m⟩ ?_;rintro _ a C ⟨p,x,s,t,i,u,rfl,g,al,Df,an,f,b,d,j,m⟩;revert a;refine Ao<|AD<|D_ (q:=(2:Nat)) D D<|Aw<|Ai<|Ao<|DU D (fun O=>?_) fun O=>?_
 ·
  refine CA<|Ai<|Ao<|B'<|Ao<|AD<|Az D<|AV D<|Aw<|Ai<|Ao<|AD<|Az D<|Az D<|CL E4 D (kT (p:=p) b.size d) ?_;rintro _ P ⟨rfl,Q,F,ao⟩;refine⟨_,D,?_⟩;have y:Below w.heap.size C P:=F.toBelow b.size (fun k o=>o.elim (fun q=>JY) (fun q=>JY));have f:=m7 f F (fun k o h=>h.elim (j k o) (m k o));have b:=b.trans y;clear y d;have d:=Q;refine Aw<|Ai<|I5 D (fun A=>?_) fun A=>?_
  ·
   refine AD<|Az D<|Az D<|K2 G0 D (cs:=#[E p]) D D ?_;intro aq ar R J;have d:=d.below J;have f:=EN f J;have b:=BG b J;intro au T;refine Cp D (fun A5 U=>Gn T G0 f R (by simp[Value.oneCell']) b.size (i+1) (g7 u p D (Gj _)) ?_);intro a av aw ax g V z;have X:=Ml z j d.G2;have Y:=Ml z m d.Hi;have d:=d.Ny z f j m;have b:=F' b z f;refine U _ _ ?_;revert a;refine AV D<|Aw<|DN<|Ai<|AD<|Dz (q:=1) D D<|Az D<|Aw<|Ai<|?_;intro a g;exact⟨_,JY,p+1,(FF x p).1,_,_,_,_,D,AY g,JY,mB Df (Prod.ext D A),JY,V,b,d,WX X,WX Y⟩
  ·
   refine CA<|DN<|Ai<|AD<|Dz (q:=1) D D<|Az D<|Aw<|Ai<|?_;intro a g;exact⟨_,JY,p+1,(FF x p).1,_,_,_,_,D,AY g,JY,m8 Df (Prod.ext D A),JY,f,b,d,WX j,WX m⟩
 ·
  refine Dv<|BY<|BY<|Ds<|Ai<|Ao<|Ao<|?_;obtain rfl:p=2:=JY;have Z:sX l=(x,u):=Df;have ay:=d.len;have aa:sY x=.error r:=by rw[←H,Z]
  refine AD<|Az D<|CL TU D (nG aa b.size d) ?_;rintro _ ab ⟨az,rfl,ad,ae,aA⟩;refine⟨_,D,?_⟩;have y:Below w.heap.size C ab:=ae.toBelow b.size (fun k o=>o.elim (fun q=>JY) (fun q=>JY));have b:=b.trans y;clear y d;have d:=ad;refine AV D<|Aw<|Ai<|Ao<|AD<|Az D<|?_;have af:¬(((r:Nat):Int)=((0:Nat):Int)):=JY;refine Ky af D D<|Aw<|Ai<|Gf D<|Ao<|AD<|Az D<|AV D<|AV D<|AV D<|Aw<|Ai<|C0<|DK<|?_;intro a g;refine fa g D D D D ?_;exact⟨D,b⟩
theorem oD(q:Option Addr)(n c:Nat)(l:rG)(w:World)(y:CG w)(t:n≠0→View w (I q n c) n 1 (bv l))(hl:l.length=n)(G:n≤1099511627776):Calls lp 17 #[I q n c] w fun e W=>sc (Zw l) w e W:=by
 have b:Below w.heap.size w w:=Cn _ _;refine Cg w Ms D 34<|K ?_
 by_cases j:GD n=0
 ·
  have H:=ff j;have L:=jD j;cases k:sY l with
  |ok s=>
   have u:=hA k;have v:=u.2.1;have M:=R1 v;have z:n=256*s.p:=by rw[u.1,hl];omega
   refine K ?_;refine U<|HN P6 D (fun w a=>Qu _ n c (n/256) l w (Bx (t JY) w a) hl) fun _ e r a ⟨AK,ib,ci,he,f,g⟩=>⟨_,he,?_⟩
   have d:=f.mono (D2 b a).size;have b:=(D2 b a).trans (g.mono (D2 b a).size);have hlen:=d.len;refine Jd D<|Bc D D<|Bc D D<|K ?_;refine Ci D D D<|K ?_;refine U<|HN TU D (fun w a=>oh k (D2 b a).size (d.below a.A0)) fun _ e r a ⟨he,f,_,g⟩=>⟨_,he,?_⟩
   have b:=(D2 b a).trans g;clear d;have d:=f;refine K ?_;refine Ci D D D<|K ?_;refine U<|Ba Fy D (fun w a=>Tx (d.below a.A0) JY JY JY JY JY JY ((y.below b D).sat a FU)) fun _ e W a ⟨N,A,O,i4,P,Q,R,S,he,x,B,C,E,T,J⟩=>⟨_,_,he,a.own x J,?_⟩
   have V:(A9 l s.m).length=A:=I3 Gj JZ x;have X:=Ni l s.m;refine Jd D<|Bc D D<|Bc D D<|Bc D D<|U<|Bw bM fun Y=>Js D<|Js D<|U<|Bk 0 0 10 D D D<|?_;refine Jg<|Jf<|Je<|GR<|zs (AS F_ 4 D)<|zs (Bb AF 0 4 D D D)<|zs (AS F_ 5 D)<|zs (Bb AF 0 5 D D D)<|zs (Ck D)<|zs (Ck D)<|zs (Ck D)<|CS<|Jf<|Jq<|Gz D D D fun W a=>?_;have o:Zw l=((G3 (Ct n s.w s.p (A9 l s.m) i4 l).l (BL s.w s.p (A9 l s.m) (i4+1)).m (BL s.w s.p (A9 l s.m) (i4+1)).h),(FD (Ct n s.w s.p (A9 l s.m) i4 l).l (BL s.w s.p (A9 l s.m) (i4+1)).m (BL s.w s.p (A9 l s.m) (i4+1)).h),0):=by unfold Zw;rw[hl,if_pos j,k];show(bH n s l,SA n s l,0)=_;unfold bH SA;rw[k9 (i:=i4) ⟨v,z,hlen,B,C,E⟩];rfl
   rw[o];exact⟨D,D2 b a⟩
  |error F=>
   have Z:=jo k;refine K ?_;refine U<|HN P6 D (fun w a=>Qu _ n c (n/256) l w (Bx (t JY) w a) hl) fun _ e r a ⟨AK,ib,ci,he,f,g⟩=>⟨_,he,?_⟩
   have d:=f.mono (D2 b a).size;have b:=(D2 b a).trans (g.mono (D2 b a).size);have hlen:=d.len;refine Jd D<|Bc D D<|Bc D D<|K ?_;refine Ci D D D<|K ?_;refine U<|HN TU D (fun w a=>nG k (D2 b a).size (d.below a.A0)) fun _ e r a ⟨aa,he,f,_,g⟩=>⟨_,he,?_⟩
   have b:=(D2 b a).trans g;clear d;have d:=f;refine K ?_;refine Ix JY D D<|K ?_;refine Gz D D D fun W a=>?_;have o:Zw l=(0,0,F):=by unfold Zw;rw[hl,if_pos j,k]
   rw[o];exact⟨D,D2 b a⟩
 ·
  refine K ?_;refine U<|BP P6 D (fun w a=>VJ _ n c w JY j)<|Jd D<|Bc D D<|Bc D D<|K ?_;refine Ix JY D D<|K ?_;refine Gz D D D fun W a=>?_;have o:Zw l=(0,0,GD n):=by unfold Zw;rw[hl,if_neg j]
  rw[o];exact⟨D,a.A0⟩
theorem rr(q:Option Addr)(n c:Nat)(l:rG)(v:Int)(w:World)(X:CG w)(M:n≠0→View w (I q n c) n 1 (bv l))(hl:l.length=n)(aq:n≤1099511627776)(ar: -9223372036854775808≤v∧v≤9223372036854775807):Calls lp 19 #[I q n c,Value.int .i64 (v:Int)] w fun e W=>XC (G6 l v) w e W:=by
 have f:Below w.heap.size w w:=Cn _ _;refine Cg w NK D 56<|K ?_
 by_cases t:GD n=0
 ·
  have au:=ff t;have av:=jD t;cases u:sY l with
  |ok s=>
   have N:=hA u;have P:=N.2.1;have aw:=R1 P;have Y:n=256*s.p:=by rw[N.1,hl];omega
   refine K ?_;refine U<|HN P6 D (fun w d=>Qu _ n c (n/256) l w (Bx (M JY) w d) hl) fun _ e C d ⟨AK,ib,ci,he,x,y⟩=>⟨_,he,?_⟩
   have o:=x.mono (D2 f d).size;have f:=(D2 f d).trans (y.mono (D2 f d).size);have hlen:=o.len;refine Jd D<|Bc D D<|Bc D D<|K ?_;refine Ci D D D<|K ?_;refine U<|HN TU D (fun w d=>oh u (D2 f d).size (o.below d.A0)) fun _ e C d ⟨he,x,_,y⟩=>⟨_,he,?_⟩
   have f:=(D2 f d).trans y;clear o;have o:=x;refine K ?_;refine Ci D D D<|K ?_;refine U<|Ba Fy D (fun w d=>Tx (o.below d.A0) JY JY JY JY JY JY ((X.below f D).sat d FU)) fun _ e W d ⟨Q,F,R,i4,H,Z,aa,ab,he,T,ad,ae,af,ax,J⟩=>⟨_,_,he,d.own T J,?_⟩
   have ag:(A9 l s.m).length=F:=I3 Gj JZ T;have ay:=Ni l s.m;refine Jd D<|Bc D D<|Bc D D<|Bc D D<|U<|Bw bM fun V=>Js D<|Js D<|U<|Bk 0 0 10 D D D<|?_;refine Jg<|?_;have hw:D5 n s l i4:=⟨P,Y,hlen,ad,ae,af⟩
   have z:=k9 hw;have A:bH n s l=(G3 (Ct n s.w s.p (A9 l s.m) i4 l).l (BL s.w s.p (A9 l s.m) (i4+1)).m (BL s.w s.p (A9 l s.m) (i4+1)).h):=by unfold bH;rw[z];rfl
   have B:SA n s l=(FD (Ct n s.w s.p (A9 l s.m) i4 l).l (BL s.w s.p (A9 l s.m) (i4+1)).m (BL s.w s.p (A9 l s.m) (i4+1)).h):=by unfold SA;rw[z];rfl
   have ah:=qa hw;rw[A,B]at ah;refine Jf<|Gq (fun a W=>∃r,AH 56 a (Jb (Jb (Jb (Jb (Jb (Jb (Jb Jk 4 (I none 0 0)) 5 (E 0)) 6 (S AK)) 11 (S V)) 9 (I Q F R)) 10 (E i4)) 1 (Value.int .i64 (r:Int)))∧Sat C1 C [O V [[E s.w],[E s.p],[E ((BL s.w s.p (A9 l s.m) (i4+1)).m)],[E ((BL s.w s.p (A9 l s.m) (i4+1)).h)],[E (G3 (Ct n s.w s.p (A9 l s.m) i4 l).l (BL s.w s.p (A9 l s.m) (i4+1)).m (BL s.w s.p (A9 l s.m) (i4+1)).h)],[E (FD (Ct n s.w s.p (A9 l s.m) i4 l).l (BL s.w s.p (A9 l s.m) (i4+1)).m (BL s.w s.p (A9 l s.m) (i4+1)).h)],[E Z],[E aa],[E ab],[I H.p H.n H.c]] 85,Ae 3 1 (I Q F R) F (Aq Bm (A9 l s.m))] W∧(r=if v= -1 then(((FD (Ct n s.w s.p (A9 l s.m) i4 l).l (BL s.w s.p (A9 l s.m) (i4+1)).m (BL s.w s.p (A9 l s.m) (i4+1)).h):Nat):Int)else v)∧(-9223372036854775808≤r∧r≤9223372036854775807)) ?_ ?_
   ·
    refine K ?_;refine E2 D D<|Jg<|Jf<|Cz D (fun ai=>?_) fun ai=>?_
    ·
     refine Jh<|AG F_ 5 D<|AZ AF 0 5 D D D<|K ?_;exact fun a W g d=>⟨(((FD (Ct n s.w s.p (A9 l s.m) i4 l).l (BL s.w s.p (A9 l s.m) (i4+1)).m (BL s.w s.p (A9 l s.m) (i4+1)).h):Nat):Int),AY g,d.pick [0,1],by rw[if_pos JY],JY⟩
    refine Jy<|Jf<|?_;exact fun a W g d=>⟨v,AY g,d.pick [0,1],by rw[if_neg JY],JY⟩
   rintro a W ⟨r,g,d,G,az⟩;revert a W;refine K ?_;refine GV D D (fun aj=>?_) fun aj=>?_
   ·
    refine A7 ?_;intro W d;have g:G6 l v=eW n s l v:=by unfold G6;rw[hl,if_pos t,u]
    rw[g];unfold eW;rw[z,A,B,←G];rw[if_pos JY];exact XC.no (D2 f d)
   refine K ?_;refine AG F_ 5 D<|Jj D D D<|AZ AF 0 5 D D D<|Jj D D D<|Kl D D (fun ak=>?_) fun ak=>?_
   ·
    refine A7 ?_;intro W d;have g:G6 l v=eW n s l v:=by unfold G6;rw[hl,if_pos t,u]
    rw[g];unfold eW;rw[z,A,B,←G];rw[if_pos JY];exact XC.no (D2 f d)
   refine K ?_;refine AG F_ 4 D<|AZ AF 0 4 D D D<|Ej D D<|Jg<|Jf<|Cz D (fun al=>?_) fun al=>?_
   ·
    refine A7 ?_;intro W d;have g:G6 l v=eW n s l v:=by unfold G6;rw[hl,if_pos t,u]
    rw[g];unfold eW;rw[z,A,B,←G];rw[if_neg JY,if_pos JY];exact XC.no (D2 f d)
   refine Jy<|Jf<|Je<|?_;obtain⟨j,hj⟩:∃j:Nat,(j:Int)=((i4:Nat):Int) - ((((FD (Ct n s.w s.p (A9 l s.m) i4 l).l (BL s.w s.p (A9 l s.m) (i4+1)).m (BL s.w s.p (A9 l s.m) (i4+1)).h):Nat):Int) - r):=⟨(((i4:Nat):Int) - ((((FD (Ct n s.w s.p (A9 l s.m) i4 l).l (BL s.w s.p (A9 l s.m) (i4+1)).m (BL s.w s.p (A9 l s.m) (i4+1)).h):Nat):Int) - r)).toNat,JY⟩
   refine K ?_;refine AG F_ 5 D<|AZ AF 0 5 D D D<|Jd D<|?_;refine Af (fun _ _ g d=>Yx g (k:=.i64) (p:=(((FD (Ct n s.w s.p (A9 l s.m) i4 l).l (BL s.w s.p (A9 l s.m) (i4+1)).m (BL s.w s.p (A9 l s.m) (i4+1)).h):Nat):Int)) (q:=(r:Int)) D D D)<|?_;refine Af (fun _ _ g d=>Yx g (k:=.i64) (p:=((i4:Nat):Int)) (q:=(IntKind.i64.wrap ((((FD (Ct n s.w s.p (A9 l s.m) i4 l).l (BL s.w s.p (A9 l s.m) (i4+1)).m (BL s.w s.p (A9 l s.m) (i4+1)).h):Nat):Int) - (r:Int)):Int)) D D D)<|CR 54 D (show _=(E j)from congrArg (Value.int IntKind.i64) (by rw[IntWalk.i64_in ((((FD (Ct n s.w s.p (A9 l s.m) i4 l).l (BL s.w s.p (A9 l s.m) (i4+1)).m (BL s.w s.p (A9 l s.m) (i4+1)).h):Nat):Int) - r) JY,IntWalk.i64_in _ JY];exact hj.symm))<|U<|Ba OJ D (fun w d=>Q_ (i:=j) (L:=(A9 l s.m)) (o.below d.A0) JY ((BZ 1) w d) ag JY JY JY (Ok).b) fun _ e W d ⟨aA,he,an,J⟩=>⟨_,_,he,d.own an J,?_⟩
   refine A7 ?_;intro W d;have g:G6 l v=eW n s l v:=by unfold G6;rw[hl,if_pos t,u]
   rw[g];unfold eW;rw[z,A,B,←G];rw[if_neg JY,if_neg JY,←hj,ue];exact XC.mk (Ji.h _) (Ew (d.DQ 0) f.size) (D2 f d)
  |error ao=>
   have aB:=jo u;refine K ?_;refine U<|HN P6 D (fun w d=>Qu _ n c (n/256) l w (Bx (M JY) w d) hl) fun _ e C d ⟨AK,ib,ci,he,x,y⟩=>⟨_,he,?_⟩
   have o:=x.mono (D2 f d).size;have f:=(D2 f d).trans (y.mono (D2 f d).size);have hlen:=o.len;refine Jd D<|Bc D D<|Bc D D<|K ?_;refine Ci D D D<|K ?_;refine U<|HN TU D (fun w d=>nG u (D2 f d).size (o.below d.A0)) fun _ e C d ⟨aC,he,x,_,y⟩=>⟨_,he,?_⟩
   have f:=(D2 f d).trans y;clear o;have o:=x;refine K ?_;refine Ix JY D D<|A7 ?_;intro W d;have g:G6 l v=([],ao):=by unfold G6;rw[hl,if_pos t,u]
   rw[g];exact XC.no (D2 f d)
 ·
  refine K ?_;refine U<|BP P6 D (fun w d=>VJ _ n c w JY t)<|Jd D<|Bc D D<|Bc D D<|K ?_;refine Ix JY D D<|A7 ?_;intro W d;have g:G6 l v=([],GD n):=by unfold G6;rw[hl,if_neg t]
  rw[g];exact XC.no d.A0
theorem qo(q:Option Addr)(n c:Nat)(l:rG)(w:World)(F:CG w)(y:n≠0→View w (I q n c) n 1 (bv l))(hl:l.length=n)(Z:n≤1099511627776):Calls lp 21 #[I q n c] w fun e W=>tK (YB l) w e W:=by
 have g:Below w.heap.size w w:=Cn _ _;refine Cg w Oq D 53<|K ?_
 by_cases u:GD n=0
 ·
  have aa:=ff u;have ab:=jD u;have G:(sX l).1.length=n:=(ml).trans hl;cases v:s0 (sX l).1 with
  |ok s=>
   have z:=qg v;have A:=z.2;have ad:=R1 A;have H:n=256*s.p:=by rw[z.1,G];omega
   refine K ?_;refine U<|HN P6 D (fun w d=>Qu _ n c (n/256) l w (Bx (y JY) w d) hl) fun _ e j d ⟨AK,ib,ci,he,o,r⟩=>⟨_,he,?_⟩
   have f:=o.mono (D2 g d).size;have g:=(D2 g d).trans (r.mono (D2 g d).size);have hlen:=f.len;refine Jd D<|Bc D D<|Bc D D<|K ?_;refine Ci D D D<|K ?_;refine U<|HN E4 D (fun w d=>kT (p:=0) (D2 g d).size (f.below d.A0)) fun _ e j d ⟨he,o,_,r⟩=>⟨_,he,?_⟩
   have g:=(D2 g d).trans r;clear f;have f:=o;refine K ?_;refine U<|HN E4 D (fun w d=>kT (p:=1) (D2 g d).size (f.below d.A0)) fun _ e j d ⟨he,o,_,r⟩=>⟨_,he,?_⟩
   have g:=(D2 g d).trans r;clear f;have f:=o;have f:BS w.heap.size AK ib n ci j (sX l).1 ⟨0,0,0,0,0⟩:=f;have hlen:=f.len;refine K ?_;refine U<|HN UT D (fun w d=>pk v (D2 g d).size (f.below d.A0) JY) fun _ e j d ⟨he,o,r⟩=>⟨_,he,?_⟩
   have g:=(D2 g d).trans r;clear f;have f:=o;refine K ?_;refine Ci D D D<|K ?_;refine DL (fun M a W=>∃k x j,M=s.m - 2 - k∧AH 53 a (Jb (Jb (Jb (Jb (Jb Jk 2 (I none 0 0)) 3 (E 0)) 4 (E 0)) 5 (S AK)) 8 (E (2+k)))∧Sat C1 j [] W∧2+k≤s.m∧(L3 (sX l).1 k).1=x∧BS w.heap.size AK ib n ci j x s∧Below w.heap.size w j) (fun a W t d=>⟨0,(sX l).1,j,D,AY t,d.pick [],JY,D,f,g⟩) ?_;rintro _ a W ⟨k,x,j,rfl,t,d,ae,B,f,g⟩;revert a W;refine K ?_;refine By D<|AG ts 1 D<|AG Bs 3 D<|Af (fun _ _ t d=>Ei t D AF D (f.below d.A0).mark)<|Ej D D<|Jg<|Jf<|Cz D (fun N=>?_) fun N=>?_
   ·
    have hlen:=f.len;refine K ?_;refine U<|HN UR D (fun w d=>q5 (p:=2+k) (D2 g d).size (f.below d.A0) JY JY JY) fun _ e j d ⟨he,o,_,r⟩=>⟨_,he,?_⟩
    have g:=(D2 g d).trans r;clear f;have f:=o;have hlen:=f.len;refine K ?_;refine B6 (q:=1) D D<|K ?_;exact fun a W t d=>⟨_,JY,k+1,(s7 x (2+k)).1,j,D,AY t,d.pick [],JY,by show(s7 (L3 (sX l).1 k).1 (2+k)).1=_;rw[B],f,g⟩
   have hlen:=f.len;obtain rfl:k=s.m - 2:=JY;refine K ?_;refine U<|Ba Fy D (fun w d=>Tx (f.below d.A0) JY JY JY JY JY JY ((F.below g D).sat d FU)) fun _ e W d ⟨af,O,ag,i5,ah,ai,aj,ak,he,C,P,Q,R,al,J⟩=>⟨_,_,he,d.own C J,?_⟩
   have T:(A9 x s.m).length=O:=I3 Gj JZ C;have an:=Ni x s.m;refine Jd D<|Bc D D<|Bc D D<|Bc D D<|U<|Bw bM fun ao=>Js D<|Js D<|U<|Bk 0 0 10 D D D<|?_;refine Jg<|Jf<|Je<|CQ [0,1]<|Ab 0 D (AA D)<|Ab 1 D (AA D)<|Ab 2 D (AA D)<|Ab 4 D (AS F_ 5 D)<|Ab 5 D (Bb AF 0 5 D D D)<|Bh 3 D<|?_;refine Ba OJ D (fun w d=>Q_ (i:=i5) (L:=(A9 x s.m)) (f.below d.A0) JY ((BZ 1) w d) T JY JY JY (Ok).b) fun _ e W d ⟨aq,he,V,J⟩=>⟨_,_,he,d.own V J,?_⟩
   refine A8 [1,2]<|Ab 6 D (Ck D)<|Ab 7 D (Ck D)<|Ab 8 D (Ck D)<|Cm<|Jf<|Jq<|Gz D D D fun W d=>?_;have hw:D5 n s x i5:=⟨A,H,hlen,P,Q,R⟩
   have X:=k9 hw;have t:YB l=((Ct n s.w s.p (A9 x s.m) i5 x).l,(FD (Ct n s.w s.p (A9 x s.m) i5 x).l (BL s.w s.p (A9 x s.m) (i5+1)).m (BL s.w s.p (A9 x s.m) (i5+1)).h),0):=by unfold YB;rw[hl,if_pos u];unfold lj;rw[v];show(WC n s (L3 (sX l).1 (s.m - 2)).1 (cN n s (L3 (sX l).1 (s.m - 2)).1),SA n s (L3 (sX l).1 (s.m - 2)).1,0)=_;rw[B];unfold SA;rw[X];rfl
   rw[t];exact tK.mk (Ji.h _) (Ew (d.DQ 0) g.size) (D2 g d)
  |error Y=>
   have ar:=rz v;refine K ?_;refine U<|HN P6 D (fun w d=>Qu _ n c (n/256) l w (Bx (y JY) w d) hl) fun _ e j d ⟨AK,ib,ci,he,o,r⟩=>⟨_,he,?_⟩
   have f:=o.mono (D2 g d).size;have g:=(D2 g d).trans (r.mono (D2 g d).size);have hlen:=f.len;refine Jd D<|Bc D D<|Bc D D<|K ?_;refine Ci D D D<|K ?_;refine U<|HN E4 D (fun w d=>kT (p:=0) (D2 g d).size (f.below d.A0)) fun _ e j d ⟨he,o,_,r⟩=>⟨_,he,?_⟩
   have g:=(D2 g d).trans r;clear f;have f:=o;refine K ?_;refine U<|HN E4 D (fun w d=>kT (p:=1) (D2 g d).size (f.below d.A0)) fun _ e j d ⟨he,o,_,r⟩=>⟨_,he,?_⟩
   have g:=(D2 g d).trans r;clear f;have f:=o;have f:BS w.heap.size AK ib n ci j (sX l).1 ⟨0,0,0,0,0⟩:=f;have hlen:=f.len;refine K ?_;refine U<|HN UT D (fun w d=>lr v (D2 g d).size (f.below d.A0) JY) fun _ e j d ⟨au,he,o,r⟩=>⟨_,he,?_⟩
   have g:=(D2 g d).trans r;clear f;have f:=o;refine K ?_;refine Ix JY D D<|K ?_;refine Gz D D D fun W d=>?_;have t:YB l=([],0,Y):=by unfold YB;rw[hl,if_pos u];unfold lj;rw[v]
   rw[t];exact tK.no (D2 g d)
 ·
  refine K ?_;refine U<|BP P6 D (fun w d=>VJ _ n c w JY u)<|Jd D<|Bc D D<|Bc D D<|K ?_;refine Ix JY D D<|K ?_;refine Gz D D D fun W d=>?_;have t:YB l=([],0,GD n):=by unfold YB;rw[hl,if_neg u]
  rw[t];exact tK.no d.A0
theorem sv(q:Option Addr)(n c:Nat)(l:rG)(w:World)(f:CG w)(g:n≠0→View w (I q n c) n 1 (bv l))(hl:l.length=n)(h:n≤1099511627776)(a:¬GD n=0):Calls lp 29 #[I q n c] w fun e W=>tF (Tc l) w e W:=by
 have i:Below w.heap.size w w:=Cn _ _;refine Cg w X6 D 56<|K ?_;refine U<|BP P6 D (fun w b=>VJ _ n c w JY a)<|Jd D<|Bc D D<|Bc D D<|K ?_;refine Ix JY D D<|K ?_;refine Gz D D D fun W b=>?_;have d:Tc l=([],[],GD n):=by unfold Tc;rw[hl,if_neg a]
 rw[d];exact tF.no b
theorem mn(q:Option Addr)(n c:Nat)(l:rG)(w:World)(f:CG w)(d:n≠0→View w (I q n c) n 1 (bv l))(hl:l.length=n)(g:n≤1099511627776):Calls lp 29 #[I q n c] w fun e W=>tF (Tc l) w e W:=by
 by_cases a:GD n=0
 ·cases b:sY (sX l).1 with
  |ok s=>exact p_ (d (by have:=ff a;omega)) hl a b
  |error k=>
   refine(rP (d (by have:=ff a;omega)) hl a (by have:=jo b;omega) b).mono ?_;rintro e W ⟨rfl,J⟩;have h:Tc l=([],[],k):=by unfold Tc;rw[hl,if_pos a];unfold t';rw[b]
   rw[h];exact tF.no ((Sat.start C1 w).below J)
 ·exact sv q n c l w f d hl g a
section
variable {n c:Nat} {l:rG} {w:World} {u:Fr.Bu} {z:BF} {i p:Nat}
theorem bV(c:GD n=0)(hl:l.length=n)(d:sY l=.ok u)(hQ:aO l u z i p):D5 n u l i∧cN n u l=i∧bH n u l=(Lv z i).1∧SA n u l=(Lv z i).2:=by
 have a:=hA d;have e:=jD c;have hw:=ur hQ a.2.1 (show n=256*u.p by rw[a.1,hl];omega) hl;have V:=k9 hw;have b:=r' hQ hw;unfold bH SA;rw[V];exact⟨hw,D,b.1,b.2⟩
theorem qm(q:Option Addr)(f:DA w)(Df:Ld w)(g:n≠0→View w (I q n c) n 1 (bv l))(hl:l.length=n)(h:n≤1099511627776):Calls Tryz.prog 18 #[I q n c] w fun e W=>sc (Zw l) w e W:=by
 refine(pO q n c l w f Df g hl h).mono ?_;rintro e W ⟨j,m,J⟩
 by_cases a:GD n=0
 ·obtain⟨o,r⟩:=m a;cases b:sY l with
  |error k=>
   have d:Zw l=(0,0,k):=by unfold Zw;rw[hl,if_pos a,b]
   rw[d];exact⟨o _ b,J⟩
  |ok u=>
   obtain⟨z,i,p,hQ,he⟩:=r _ b;obtain⟨_,_,h1,s⟩:=bV a hl b hQ;have d:Zw l=((Lv z i).1,(Lv z i).2,0):=by unfold Zw;rw[hl,if_pos a,b];show(bH n u l,SA n u l,0)=_;rw[h1,s]
   rw[d];exact⟨he,J⟩
 ·have d:Zw l=(0,0,GD n):=by unfold Zw;rw[hl,if_neg a]
  rw[d];exact⟨j a,J⟩
theorem m0(q:Option Addr)(v:Int)(o:DA w)(Df:Ld w)(r:n≠0→View w (I q n c) n 1 (bv l))(hl:l.length=n)(s:n≤1099511627776)(x: -9223372036854775808≤v∧v≤9223372036854775807):Calls Tryz.prog 20 #[I q n c,.int .i64 v] w fun e W=>XC (G6 l v) w e W:=by
 refine(m4 q n c l v w o Df r hl s x).mono ?_;rintro e W ⟨y,A,J⟩
 by_cases a:GD n=0
 ·obtain⟨B,C⟩:=A a;cases b:sY l with
  |error k=>
   have d:G6 l v=([],k):=by unfold G6;rw[hl,if_pos a,b]
   rw[d,B _ b];exact XC.no J
  |ok u=>
   obtain⟨z,i,p,hQ,m⟩:=C _ b;obtain⟨hw,D,h1,E⟩:=bV a hl b hQ;have d:G6 l v=eW n u l v:=by unfold G6;rw[hl,if_pos a,b]
   rw[d];unfold eW;rw[D,h1,E];unfold kZ at m;generalize (if v= -1 then((Lv z i).2:Int)else v)=t at m⊢;obtain⟨F,c2,G⟩:=m
   by_cases f:t<0∨((Lv z i).2:Int)<t
   ·rw[if_pos f,F f];exact XC.no J
   ·rw[if_neg f]
    by_cases g:t<((Lv z i).1:Int)
    ·rw[if_pos g,c2 f g];exact XC.no J
    ·rw[if_neg g];obtain⟨j,K,L,hj,H,he,ho⟩:=G f g;rw[he,←hj,ue];rw[←nE hQ hw H]at ho;exact XC.mk (Ji.h _) ho J
 ·have d:G6 l v=([],GD n):=by unfold G6;rw[hl,if_neg a]
  rw[d,y a];exact XC.no J
end
