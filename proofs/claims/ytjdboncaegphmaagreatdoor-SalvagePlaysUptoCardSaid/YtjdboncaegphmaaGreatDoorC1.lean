/- SalvagePlays holds of the given program, as the card says it, for arguments whose bulk is within the row's bound. No other condition. -/
import Derived.Test.YtjdboncaegphmaaGreatDoorCards
import Derived.Test.YtjdboncaegphmaaGreatDoorTie
import Derived.ProofKit
import Derived.Lib.LaidTab
import Derived.SizedLaws
import Derived.OpenShut
import Derived.DataElems
import Derived.Deep.DeepHandedRow
import Derived.Deep.DeepLaidRun
import Derived.Test.YtjdboncaegphmaaGreatDoorM52
import Derived.Test.YtjdboncaegphmaaGreatDoorM53
set_option linter.unusedVariables false
namespace Go.Proofs.YtjdboncaegphmaaGreatDoor
open Go.RowKit
set_option maxRecDepth 100000
set_option maxHeartbeats 2000000
theorem Sat.r3{F:Nat→Prop}{w0 w:World}{H H1:List Atom}(h:Sat F w0 H w)(BI:List Nat){k:Nat}(d:k<w0.heap.size)(hF:¬F k)(e:BI.map (fun i=>H[i]?)=H1.map some:=by exact rfl)(a:BI.Nodup:=by decide):¬A6 H1 k:=by
 rintro⟨p,A,b,c⟩
 rcases(h.pick BI e a).u4 p A b k c with q|q
 ·exact hF q
 ·omega
theorem Sat.tJ{F:Nat→Prop}{w0 w:World}{H H1:List Atom}{A:Atom}(h:Sat F w0 H w)(i:Nat)(BI:List Nat)(V:H[i]? =some A:=by exact rfl)(e:(i::BI).map (fun i=>H[i]?)=(A::H1).map some:=by exact rfl)(a:(i::BI).Nodup:=by decide):∀k,A.u1 k→¬A6 H1 k:=by
 rintro k b ⟨p,B,c,d⟩;exact(h.pick (i::BI) e a).u_ 0 (p+1) A B JY D c k b d
theorem nB{a l c n c' k:Nat}(h:(I (sp (some ⟨a,0,none⟩) l c 1) n c').ownBlock=some k):a=k:=by
 unfold sp at h;split at h
 ·cases h;rfl
 ·have:(Addr.add ⟨a,0,none⟩ (l*1)).block=a:=by unfold Addr.add;split<;>rfl
  rw[←this];cases h;rfl
theorem mI{l y:rG}{b:UInt8}{x n:Nat}(a:l.set x b=y)(hl:l.length=n)(c:x<n):(l++List.replicate 80 165).set x (y.getD x 0)=y++List.replicate 80 165:=by
 subst a;rw[Dm,oM JY,QW,nz _ _ JY]
theorem q'{N:Nat}{f:BW}{F:Nat→Prop}{w0:World}{H:List Atom}{A5:Act→World→Prop}(h:AT N f F w0 (Q3 []::H) A5):AT N f F w0 H A5:=fun a w b c=>h a w b (Q3.nil c)
theorem oR(f:Nat)(c d:BX)(L A5:List Tl)(t:Option Addr)(n u:Nat)(l:rG)(v at_:Int)(w:World)(B:BE (O f (Zl c d) 27::G1 c L d A5) w)(h:n≠0→View w (I t n u) n 1 (bv l))(i:n≠0→∀k,(I t n u).ownBlock=some k→¬A6 ((O f (Zl c d) 27::G1 c L d A5)) k)(hl:l.length=n)(ae:n≤1048576)(af: -9223372036854775808≤v∧v≤9223372036854775807)(CM:QN jk L)(ag:QN iH A5)(he:c.n % 2=0)(ar:d.n % 2=0)(au:c.n≤1099511626000)(av:d.n≤1099511626000)(C:CG w)(E:∀k,CB k→¬A6 ((O f (Zl c d) 27::G1 c L d A5)) k)(G:DA w)(H:∀k,j0 k→¬A6 ((O f (Zl c d) 27::G1 c L d A5)) k)(Df:Ld w)(hQ:∀k,Zs k→¬A6 ((O f (Zl c d) 27::G1 c L d A5)) k):Calls Tryz.prog 4 #[S f,Value.agg (flat [[I t n u],[Value.int .i64 (v:Int)],[Value.int .i64 (at_:Int)]])] w fun e W=>∃(p r:BX) (T Ft:List Tl),e=.returned (C' true)∧(p.n≤c.n+14∧p.n % 2=0)∧(r.n≤d.n+6∧r.n % 2=0)∧QN jk T∧QN iH Ft∧Sat (A6 (O f (Zl c d) 27::G1 c L d A5)) w (O f (Zl p r) 27::G1 p T r Ft) W:=by
 refine Cb B Se D 96 fun F hF=>Je<|Jh<|U<|Cv D fun aw=>K ?_;refine AG E9 0 D<|AZ B7 0 0 D D D<|U<|Ba Qi D (fun w a=>pN _ _ _ l w (fun g=>(Wd (h JY) (fun k b z=>i JY k b (hF▸z))) w a) hl JY) fun _ e W a ⟨ah,he,o,J⟩=>⟨_,_,he,a.own o J,?_⟩
 refine K ?_;refine AG E9 0 D<|AZ B7 1 0 D D D<|Cr B7 D<|K ?_;refine CQ [0,1]<|Ab 0 D (AA D)<|Ab 1 D (AA D)<|Ab 2 D (AA D)<|Ab 3 D (Fi A3 0 n (BZ 0) rfl .none (.some D))<|Ab 4 D (AS E9 0 D)<|Ab 5 D (Bb B7 1 0 D D D)<|Ab 6 D (AS E9 1 D)<|Ab 7 D (Bb AF 1 1 D D D)<|Bh 8 D<|?_;refine Ba L9 D (fun w a=>ki f c d L A5 (sp (some ⟨ah,0,none⟩) 0 (n+80) 1) n (n+80) _ _ l v w (a.Ad [2,3,4,5,6]) ((Db 0 n (BZ 0) (by rw[HE,jS];exact gb hl)) w a) (fun k b=>a.tJ 0 [2,3,4,5,6] D D JZ k (congrArg some (nB b))) (fun g=>(Wd (h JY) (fun k b z=>i JY k b (hF▸z))) w a) (fun g k b=>a.r3 [2,3,4,5,6] (k_ (h g) b) (fun z=>i g k b (hF▸z))) hl ae af CM ag JY JY JY JY (C.sat a (fun k b z=>E k b (hF▸z))) (a.Eb C (fun k b z=>E k b (hF▸z)) [2,3,4,5,6]) (G.sat a (fun k b z=>H k b (hF▸z))) (fun k b=>a.r3 [2,3,4,5,6] (G.gg b) (fun z=>H k b (hF▸z))) (Df.sat a) (a.tE Df (fun k b z=>hQ k b (hF▸z)) [2,3,4,5,6])) fun _ e W a ⟨V,M,X,Y,he,ax,ay,Z,aa,q⟩=>⟨_,_,he,a.As [2,3,4,5,6] [0,1] q,?_⟩
 refine A8 [5,6]<|Ab 9 D (Te D)<|Ab 10 D (AA D)<|Dn 11 D D D D (AA D)<|Dn 12 D D D D (AS E9 0 D)<|Dn 13 D D D D (Bb B7 1 0 D D D)<|K8 14 D D D D<|BP PQ D (fun w a=>qK _ n _ _ _ l w ((BZ 5) w a) (fun g=>(Wd (h JY) (fun k b z=>i JY k b (hF▸z))) w a) hl JY)<|A8 [5,6]<|Dn 15 D D D D (Te D)<|Ab 16 D (EK D D)<|Cm<|K ?_;refine E2 D D<|Jg<|Jf<|Cz D (fun ai=>?_) fun ai=>?_
 ·
  refine A7 ?_;intro W a;subst hF;exact⟨V,M,X,Y,D,JY,JY,Z,aa,a.pick [0,1,2,3,4]⟩
 refine K ?_;refine AG E9 0 D<|AZ B7 6 0 D D D<|U<|Ba YO D (fun w a=>Nz (l:=l) ((Wd (h JY) (fun k b z=>i JY k b (hF▸z))) w a) hl JY) fun _ e W a ⟨az,aA,he,o,J⟩=>⟨_,_,he,a.own o J,?_⟩
 refine K ?_;refine AG E9 2 D<|AZ AF 7 2 D D D<|Jd D<|Es (q:=1) D D<|U<|Ba Vx D (fun w a=>q2 at_ 0 (n - 1) w JY JY) fun _ e W a ⟨x,he,aB,aj⟩=>⟨_,_,he,aj▸a,?_⟩
 obtain⟨y,N⟩:∃y,l.set x (l.getD x 0^^^4)=y:=⟨_,D⟩
 have j:y.length=n:=by rw[←N,Kh];exact hl
 obtain⟨A,P⟩:∃A,Tc y=A:=⟨_,D⟩
 have ak:=qD (l:=y);rw[P,j]at ak;refine K ?_;refine Af (Dj A3 x x (BZ 0) D D)<|Af (Fj BV x (BZ 0) D)<|Af (aK (q:=4) D D)<|Af (Dj A3 x x (BZ 0) D D)<|U<|jj 0 x D D D (jV _ _ (l.getD x 0^^^4))<|Jg<|Tf 0 (bv (l.set x (l.getD x 0^^^4))) (bv y) (congrArg bv N)<|K ?_;refine Af (Dj A3 x x (BZ 0) D D)<|Af (Fj BV x (BZ 0) D)<|Af (Dj A3 x x (BZ 6) D D)<|U<|jj 6 x D D D (jV _ _ (y.getD x 0))<|Jg<|Tf 6 (bv ((l++List.replicate 80 165).set x (y.getD x 0))) (bv (y++List.replicate 80 165)) (congrArg bv (mI N hl JY))<|K ?_;refine U<|Ba X0 D (fun w a=>P▸qH _ _ _ y w (G.sat a (fun k b z=>H k b (hF▸z))) (fun g=>(BZ 0) w a) j JY) fun _ e W a ⟨aC,aD,aE,aF,he,q⟩=>⟨_,_,he,a.Nk q,?_⟩
 refine Jd D<|Bc D D<|Bc D D<|Bc D D<|K ?_;refine Af (Fi A3 0 n (BZ 8) rfl .none (.some D))<|K ?_;refine U<|Ba UJ D (fun w a=>Za _ _ _ y A P _ _ _ _ w (C.sat a (fun k b z=>E k b (hF▸z))) (fun g=>(Db 0 n (BZ 8) (by rw[HE,jS];exact gb j)) w a) j JY ((BZ 0) w a) ((BZ 1) w a)) fun _ e W a ⟨al,an,ao,aq,he,q⟩=>⟨_,_,he,a.Nk q,?_⟩
 refine Jd D<|Bc D D<|Bc D D<|Bc D D<|K ?_;refine U<|Ba S9 D (fun w a=>kj f V M X al A.1.length an A.1 w (a.Ad [5,6,8,0]) Z) fun _ e W a ⟨m,Q,he,aG,ab,q⟩=>⟨_,_,he,a.As [5,6,8,0] [1,2,3,4,7,9,10,11] q,?_⟩
 refine K ?_;refine U<|Ba Xv D (fun w a=>nT f m M Y ao A.2.1.length aq A.2.1 w (a.Ad [0,7,8,3]) aa) fun _ e W a ⟨s,R,he,aH,ad,q⟩=>⟨_,_,he,a.As [0,7,8,3] [1,2,4,5,6,9,10] q,?_⟩
 refine K ?_;refine U<|BP PQ D (fun w a=>qK _ n _ _ _ y w ((BZ 8) w a) (fun g=>(BZ 7) w a) j JY)<|K ?_;refine U<|Cx Xg D [0,3,1,4,2] (H1:=(O f (Zl m s) 27::G1 m Q s R)) (fun w B=>pV f m s Q R w B ab ad JY JY)<|A7 ?_;intro W a;subst hF;exact⟨m,s,Q,R,D,JY,JY,ab,ad,a.pick [0,3,1,4,2]⟩
structure k6 where
 p:Option Addr
 n:Nat
 c:Nat
 l:List UInt8
 v:Int
 at_:Int
def nr(x:k6):List Value:=List.flatten [[I x.p x.n x.c],[.int .i64 x.v],[.int .i64 x.at_]]
theorem rU(x:k6):(nr x).length=3:=rfl
theorem nF:CO lp 22 32 3 40 (.agg #[.slice none 0 0,.int .i64 0,.int .i64 0]):=CO.mk' Co AB D JZ
def rK(w:World)(x:k6):Prop:=(x.n≠0→View w (I x.p x.n x.c) x.n 1 (bv x.l))∧x.l.length=x.n∧x.n≤1048576∧ -9223372036854775808≤x.v∧x.v≤9223372036854775807
theorem qI(D1:Option Addr)(n c:Nat)(A:List k6)(w:World)(r:CG w)(h:DA w)(Df:Ld w)(B:n≠0→View w (I D1 n c) n 3 (Aq nr A))(hl:A.length=n)(ar:n≤1048576)(t:∀x∈A,rK w x):Calls lp 3 #[I D1 n c] w (sM w (C' true)):=by
 have au:AE.n=0:=D;refine Cg w Rc D 32<|K ?_;refine Af (S8 [[I none 0 0],[I none 0 0]])<|U<|Cv D fun T=>Js D<|Jg<|?_;obtain⟨u,X⟩:∃b,b=T:=⟨_,D⟩
 subst X;refine Dr 29 1 (Aq tl [])<|Dr 38 1 (Aq tl [])<|q'<|q'<|K ?_;refine U<|Ba U0 D (fun w d=>ZO w (h.below d.A0 (Br _)) (Df.sat d)) fun _ e W d ⟨C,F,G,he,H,J⟩=>⟨_,_,he,d.own H J,?_⟩
 have Y:G.length=1280:=De H;refine Af (S8 [[I C 1280 F],[E 1],[E 700]])<|U<|Ba Se D (fun w d=>oR u AE AE [] [] C 1280 F G ((1:Nat):Int) ((700:Nat):Int) w (d.Ad [5,4,3,2,1]) (fun j=>(BZ 0) w d) (fun j k f=>d.tJ 0 [5,4,3,2,1] D D JZ k f) Y JY JY QN.nil QN.nil JY JY JY JY (r.sat d FU) (d.Eb r FU [5,4,3,2,1]) (h.below d.A0 (Br _)) (fun k f=>d.apart [5,4,3,2,1] (h.gg f)) (Df.sat d) (d.tE Df (fun _ _ z=>z) [5,4,3,2,1])) fun _ e W d ⟨Z,aa,ab,ad,he,av,aw,ae,af,q⟩=>⟨_,_,he,d.As [5,4,3,2,1] [0] q,?_⟩
 refine K ?_;refine Af (Te D)<|K ?_;refine DL (fun ag a W=>∃i,∃m o:BX,∃L A5,ag=n - i∧AH 32 a (Jb (Jb (Jb Jk 0 (I D1 n c)) 3 (S u)) 5 (E i))∧Sat C1 w (O u (Zl m o) 27::G1 m L o A5) W∧i≤n∧(m.n≤14*(i+1)∧m.n % 2=0)∧(o.n≤14*(i+1)∧o.n % 2=0)∧QN jk L∧QN iH A5) (fun a W y d=>⟨0,Z,aa,ab,ad,D,AY y,d.pick [0,1,2,3,4],JY,JY,JY,ae,af⟩) ?_;rintro _ a W ⟨i,m,o,L,A5,rfl,y,d,V,ax,ay,CM,M⟩;revert a W;refine K ?_;refine Cr Co D<|Ej D D<|Jg<|Jf<|Cz D (fun ah=>?_) fun ah=>?_
 ·
  refine K ?_;refine Kz hl i fun g s=>Af (Dj nF i (i*3) (Bx (B JY)) D D)<|Af (LH E9 rU i 0 3 [[I g.p g.n g.c],[Value.int .i64 (g.v:Int)],[Value.int .i64 (g.at_:Int)]] s (Bx (B JY)) D D)<|U<|Ba Se D (fun w d=>oR u m o L A5 g.p g.n g.c g.l g.v g.at_ w (d.Ad [0,1,2,3,4]) (fun j=>(Bx ((t _ (ta s)).1 j)) w d) (fun j k f=>d.apart [0,1,2,3,4] (k_ ((t _ (ta s)).1 j) f)) (t _ (ta s)).2.1 (t _ (ta s)).2.2.1 (t _ (ta s)).2.2.2 CM M JY JY JY JY (r.sat d FU) (d.Eb r FU [0,1,2,3,4]) (h.below d.A0 (Br _)) (fun k f=>d.apart [0,1,2,3,4] (h.gg f)) (Df.sat d) (d.tE Df (fun _ _ z=>z) [0,1,2,3,4])) fun _ e W d ⟨ai,aj,ak,al,he,az,aA,an,ao,q⟩=>⟨_,_,he,d.As [0,1,2,3,4] [] q,?_⟩
  refine K ?_;refine Af (Te D)<|K ?_;refine B6 (q:=1) D D<|K ?_;exact fun a W y d=>⟨_,JY,i+1,ai,aj,ak,al,D,AY y,d.pick [0,1,2,3,4],JY,JY,JY,an,ao⟩
 refine K ?_;refine U<|Ba U0 D (fun w d=>ZO w (h.below d.A0 (Br _)) (Df.sat d)) fun _ e W d ⟨N,P,Q,he,R,J⟩=>⟨_,_,he,d.own R J,?_⟩
 have aq:Q.length=1280:=De R;refine Af (S8 [[I N 1280 P],[E 0],[E 0]])<|U<|Ba Se D (fun w d=>oR u m o L A5 N 1280 P Q ((0:Nat):Int) ((0:Nat):Int) w (d.Ad [1,2,3,4,5]) (fun j=>(BZ 0) w d) (fun j k f=>d.tJ 0 [1,2,3,4,5] D D JZ k f) aq JY JY CM M JY JY JY JY (r.sat d FU) (d.Eb r FU [1,2,3,4,5]) (h.below d.A0 (Br _)) (fun k f=>d.apart [1,2,3,4,5] (h.gg f)) (Df.sat d) (d.tE Df (fun _ _ z=>z) [1,2,3,4,5])) fun _ e W d ⟨aB,aC,aD,aE,he,aF,aG,aH,aI,q⟩=>⟨_,_,he,d.As [1,2,3,4,5] [0] q,?_⟩
 refine A7 ?_;exact fun W d=>⟨D,d.A0⟩
end Go.Proofs.YtjdboncaegphmaaGreatDoor
namespace Go.Proofs.YtjdboncaegphmaaGreatDoor.salvagePlays
open Go.ChangeShapes Go.WideShapes Go.ChangeAt Go.RowKit
set_option linter.unusedVariables false
theorem own:ownKnob Tryz.prog.godebug=none:=AB
theorem laidOut:laidOutB Tryz.prog=true:=AB
theorem rV{H:Type}(d:DataW H):1≤Rows.uptoBulk d:=by
 cases d with
 |lit l=>cases l<;>simp[Rows.uptoBulk]
 |nil=>simp[Rows.uptoBulk]
 |ptr d=>simp[Rows.uptoBulk]
 |slice elems spare=>simp[Rows.uptoBulk]
 |agg parts=>simp[Rows.uptoBulk]
 |iface t d=>simp[Rows.uptoBulk]
 |map entries=>simp[Rows.uptoBulk]
 |held h=>simp[Rows.uptoBulk]
theorem sk{H:Type}:∀(es:List (DataW H)),es.length≤Rows.uptoBulkAll es:=by
 intro es
 induction es with
 |nil=>exact F2 _
 |cons d es a=>have:=rV d;simp only[Cw,Rows.uptoBulkAll];omega
theorem lA{H:Type}:∀(es:List (DataW H)) (i:Nat) (d:DataW H),es[i]? =some d→Rows.uptoBulk d≤Rows.uptoBulkAll es:=by
 intro es
 induction es with
 |nil=>intro i d h;cases h
 |cons e es a=>
  intro i d h;simp only[Rows.uptoBulkAll];cases i with
  |zero=>cases h;omega
  |succ i=>have:=a i d (by simpa using h);omega
section
variable {H:Type} {enc:TypeId×Value→H} {P:Program} {W:World} {held:Bool}
theorem sq{b off:Nat}(j:Nat):(⟨b,off,none⟩:Addr).add j=⟨b,off+j,none⟩:=by unfold Addr.add;split<;>simp_all
theorem fY{Bo:Type}{g:Bo→List Value}{R:Bo→DataW H→Prop}{t e:TypeId}{size fuel:Nat}{cs:List Value}{x:DataW H×List MemPlace}(G:P.underlying t=some (.slice e))(I:P.cellsOf e=size)(s:0<size)(hlen:∀y,(g y).length=size)
 (K:∀(m:Nat) (cs:List Value) (x:DataW H×List MemPlace),cs.length=size→DataW.trod enc P W 0 (fun _=>true) held m e cs=some x→∃y,g y=cs∧R y x.1)
 (h:DataW.trod enc P W 0 (fun _=>true) held fuel t cs=some x):
 ∃q n c,∃L:List Bo,cs=[.slice q n c]∧L.length=n∧(n≠0→View W (.slice q n c) n size (Aq g L))∧((x.1=.nil∧n=0)∨∃es rs,x.1=.slice es rs∧es.length=n∧∀(i:Nat) (y:Bo),L[i]? =some y→∃d,es[i]? =some d∧R y d):=by
 rcases DataW.trod_slice G h with⟨rfl,rfl⟩|⟨a,len,cap,elems,rest,m,_,rfl,rfl,J,hl,hm,M,k,_,_⟩
 ·exact⟨none,0,0,[],D,D,fun h=>absurd D h,.inl ⟨D,D⟩⟩
 ·have each:∀i,i<len→∃y,(∀j,j<size→W.cell? (a.add (i*size+j))=(g y)[j]?)∧∃z,elems[i]? =some z∧R y z.1:=by
   intro i V;have h1:=k i V;rw[I]at h1;have l:elems[i]? =some (elems[i]'JY):=F3 JY;rw[l]at h1;obtain⟨cs,N,O⟩:=Option.bind_eq_some_iff.1 h1;obtain⟨_,Q,o⟩:=World.cells?_some N;obtain⟨y,f,Df⟩:=K m cs _ Q O;exact⟨y,fun j hj=>by rw[f,←o j hj,Addr.add_add],_,l,Df⟩
  have S:∃L:List Bo,L.length=len∧∀i y,L[i]? =some y→(∀j,j<size→W.cell? (a.add (i*size+j))=(g y)[j]?)∧∃z,elems[i]? =some z∧R y z.1:=by
   refine⟨List.ofFn (fun i:Fin len=>Classical.choose (each i i.2)),by simp,fun i y f=>?_⟩;rw[List.getElem?_ofFn]at f;split at f
   ·rename_i V;cases f;exact Classical.choose_spec (each i V)
   ·cases f
  obtain⟨L,r,w⟩:=S;refine⟨some a,len,cap,L,D,r,fun Z=>?_,.inr ⟨_,_,D,by simpa using M,fun i y f=>?_⟩⟩
  ·have A:∀(i j:Nat) (y:Bo),L[i]? =some y→j<size→∃v,(g y)[j]? =some v∧W.cell? (a.add (i*size+j))=some v:=by
    intro i j y f hj;have B:(g y)[j]? =some ((g y)[j]'(by rw[hlen];exact hj)):=F3 _;exact⟨_,B,by rw[(w i y f).1 j hj,B]⟩
   have T:L[0]? =some (L[0]'JY):=F3 JY;obtain⟨v0,_,p⟩:=A 0 0 _ T s;rw[kY,tA]at p;have U:a.add 0=a:=by simp[Addr.add]
   rw[U]at p;have C:=World.cell?_spot p;obtain⟨b,off,spot⟩:=a;simp only at C;subst C;have X:b<W.heap.size:=by
    apply Classical.byContradiction;intro aa;have:W.heap[b]? =none:=by simp;omega
    simp[World.cell?,this]at p
   have k:=LK hlen L;refine⟨by rw[k,r];exact Br _,.inr ⟨b,off,cap,D,by rw[k,r];exact Xr _ hl,hl,hm,X,?_⟩⟩;intro j v hj;have Y:j<L.length*size:=by rw[←k];exact(EH.1 hj).1
   have E:j/size<L.length:=Nat.div_lt_of_lt_mul (by rw[RV];exact Y);have hr:j % size<size:=hJ _ s;have f:L[j/size]? =some (L[j/size]'E):=F3 E;obtain⟨u,hu,o⟩:=A (j/size) (j % size) _ f hr;have F:j/size*size+j % size=j:=by rw[RV];exact Nat.div_add_mod j size
   rw[sq,F]at o;rw[←bl hlen f,LQ,if_pos hr,Q1,F,hj]at hu;cases hu;exact o
  ·obtain⟨z,l,Df⟩:=(w i y f).2;exact⟨z.1,by rw[ti,l];rfl,Df⟩
theorem nD{e:TypeId}(he:P.underlying e=some (.int .u8)):∀(m:Nat) (cs:List Value) (x:DataW H×List MemPlace),cs.length=1→DataW.trod enc P W 0 (fun _=>true) held m e cs=some x→∃y:UInt8,[Value.int .u8 ((y.toNat:Nat):Int)]=cs∧True:=by
 intro m cs x _ h;obtain⟨z,rfl,_,hw⟩:=DataW.trod_int he h;have h1:IntKind.u8.min=0:=D;have b:IntKind.u8.max=255:=D;simp only[Lit.wf,Kq,decide_eq_true_eq]at hw;have a:z.toNat % 256=z.toNat:=s_ JY;refine⟨UInt8.ofNat z.toNat,?_,trivial⟩;show [Value.int .u8 ((z.toNat % 256:Nat):Int)]=_;rw[a,Int.toNat_of_nonneg JY]
theorem kt(l:List UInt8):Aq (fun y:UInt8=>[Value.int .u8 ((y.toNat:Nat):Int)]) l=bv l:=by
 induction l with
 |nil=>rfl
 |cons x l a=>
  show Value.int .u8 _::Aq _ l=_;rw[a];rfl
end
theorem o8{H:Type}{enc:TypeId×Value→H}{P:Program}{W:World}{held:Bool}{m:Nat}{cs:List Value}{a:Array Field}{xs:List (DataW H×List MemPlace)}(b:∀(i:Nat) (f:Field),a[i]? =some f→DataW.trod enc P W 0 (fun _=>true) held m f.type ((cs.drop f.offset).take (P.cellsOf f.type))=xs[i]?)
 {i:Nat}{t:TypeId}{off n:Nat}{x:DataW H×List MemPlace}(h:(a[i]?).map (fun f=>(f.type,f.offset))=some (t,off))(c:P.cellsOf t=n)(d:xs[i]? =some x):DataW.trod enc P W 0 (fun _=>true) held m t ((cs.drop off).take n)=some x:=by
 obtain⟨f,g,e⟩:=Option.map_eq_some_iff.1 h;simp only[Prod.mk.injEq]at e;have:=b i f g;rw[e.1,e.2,c,d]at this;exact this
theorem nJ{cs:List Value}{i:Nat}{v:Value}(h:(cs.drop i).take 1=[v]):cs.drop i=v::cs.drop (i+1):=by
 cases Ad:cs.drop i with
 |nil=>rw[Ad]at h;simp at h
 |cons x l=>
  rw[Ad]at h;simp at h;subst h;rw[←tB,Ad];rfl
theorem Qa:Tryz.prog.cellsOf 5=1:=AB
theorem qe:Tryz.prog.cellsOf 3=1:=AB
theorem p':Tryz.prog.cellsOf 29=1:=AB
theorem oX:Tryz.prog.cellsOf 32=3:=AB
theorem oH{H:Type}{enc:TypeId×Value→H}{W:World}{held:Bool}:∀(m:Nat) (cs:List Value) (x:DataW H×List MemPlace),cs.length=3→DataW.trod enc Tryz.prog W 0 (fun _=>true) held m 32 cs=some x→∃y:k6,nr y=cs∧((y.n≠0→View W (I y.p y.n y.c) y.n 1 (bv y.l))∧y.l.length=y.n∧(-9223372036854775808≤y.v∧y.v≤9223372036854775807)∧y.n≤Rows.uptoBulk x.1):=by
 intro m cs x P h;obtain⟨xs,Q,rfl,rfl,_,g,d⟩:=DataW.trod_struct E9 h;have get:∀i,i<3→∃x,xs[i]? =some x:=fun i V=>⟨xs[i]'(by rw[g];exact V),F3 _⟩
 obtain⟨j,k⟩:=get 0 JZ;obtain⟨w,o⟩:=get 1 JZ;obtain⟨z,r⟩:=get 2 JZ;have e:=o8 d (i:=0) (t:=29) (off:=0) D p' k;have h1:=o8 d (i:=1) (t:=3) (off:=1) D qe o;have f:=o8 d (i:=2) (t:=3) (off:=2) D qe r;obtain⟨q,n,c,L,A,B,s,Ad⟩:=fY (R:=fun(_:UInt8) (_:DataW H)=>True) B7 Qa JZ (fun _=>rfl) (nD BV) e;rw[kt]at s;obtain⟨a,C,_,hw⟩:=DataW.trod_int AF h1;obtain⟨b,J,_⟩:=DataW.trod_int AF f;have u:=nJ A;have E:=nJ C;have F:=nJ J;rw[HE]at u;have G:cs.drop 3=[]:=tI JY;refine⟨⟨q,n,c,L,a,b⟩,by rw[u,E,F,G];rfl,s,B,?_,?_⟩
 ·have Dt:IntKind.i64.min= -9223372036854775808:=D;have S:IntKind.i64.max=9223372036854775807:=D;simp only[Lit.wf,Kq,decide_eq_true_eq]at hw;exact(by omega: -9223372036854775808≤a∧a≤9223372036854775807)
 ·have K:xs.map (·.1)=[j.1,w.1,z.1]:=by
   have M:xs.length=3:=g
   match xs,M,k,o,r with
   |[a,b,c],_,e,h1,f=>cases e;cases h1;cases f;rfl
  have N:n≤Rows.uptoBulk j.1:=by
   rcases Ad with⟨_,N⟩|⟨es,rs,O,T,_⟩
   ·omega
   ·have:=sk es;rw[O];simp only[Rows.uptoBulk];omega
  show n≤_;simp only[K,Rows.uptoBulk,Rows.uptoBulkAll];omega
theorem S1{W:World}{name:String}{g:Nat}{cs:Array Value}{xs:List Value}(b:Tryz.prog.globalNamed name=some g)(c:W.var? Tryz.prog name=some cs)(d:cs.toList=xs)(e:xs≠[]:=by decide):Cells W g 0 xs∧g<W.heap.size:=by
 have a:Cells W g 0 xs:=by
  intro j v hj;rw[World.var?_cell b c,IC,←lb,d];exact hj
 refine⟨a,?_⟩;cases xs with
 |nil=>exact absurd D e
 |cons x xs=>
  have f:=a 0 x D;apply Classical.byContradiction;intro h;have:W.heap[g]? =none:=by simp;omega
  simp[World.cell?,this]at f
theorem U_{W:World}{name:String}{g:Nat}{cs:Array Value}{xs:List Value}(b:Tryz.prog.globalNamed name=some g)(a:W.var? Tryz.prog name=some cs)(c:cs.toList=xs):∃tb fr,W.heap[g]? =some (.cells (flat [xs]) tb fr):=by
 unfold World.var? at a;rw[b]at a;simp only[s3]at a;split at a
 ·rename_i e t fr d;cases a;refine⟨t,fr,?_⟩;rw[d,←c];simp[flat]
 ·cases a
theorem Yr:Tryz.prog.globalNamed "ledger/ledgerref1.first" =some 0:=AB
theorem gq:(Tryz.prog.globals[0]?).map (·.type)=some 234:=AB
theorem US:Tryz.prog.globalNamed "ledger/ledgerref1.consts" =some 2:=AB
theorem bN:(Tryz.prog.globals[2]?).map (·.type)=some 242:=AB
theorem YQ:Tryz.prog.globalNamed "ledger/ledgerref2.divisor" =some 1:=AB
theorem cm:(Tryz.prog.globals[1]?).map (·.type)=some 248:=AB
theorem X7:Tryz.prog.globalNamed "ledger/digest.begin" =some 3:=AB
theorem ZE:(Tryz.prog.globals[3]?).map (·.type)=some 234:=AB
theorem Wo:Tryz.prog.globalNamed "ledger/digest.round" =some 4:=AB
theorem gu:(Tryz.prog.globals[4]?).map (·.type)=some 242:=AB
theorem bx{W:World}(h:laidMetH Tryz.prog Rows.salvagePlaysUptoRow.laid W):DA W∧CG W∧Ld W:=by
 have e:laidMet Tryz.prog Rows.salvagePlaysUptoRow.laid W:=h;obtain⟨J,⟨K,t1,L,f1,M,N,f,g,a,b,⟨O,t2,c2,f2,P,Q,i,j,c,d,⟨R,t3,S,f3,T,U,k,m,n,o,⟨V,t4,X,f4,Y,Z,p,q,r,s,⟨aa,t5,ab,f5,ad,ae,t,u,v,w,_,_⟩,_⟩,_⟩,_⟩,_⟩,_⟩:=e;obtain rfl:=Option.some.inj (Yr.symm.trans f);obtain rfl:=Option.some.inj (US.symm.trans i);obtain rfl:=Option.some.inj (YQ.symm.trans k);obtain rfl:=Option.some.inj (X7.symm.trans p);obtain rfl:=Option.some.inj (Wo.symm.trans t);obtain rfl:=Option.some.inj (gq.symm.trans g);obtain rfl:=Option.some.inj (bN.symm.trans j);obtain rfl:=Option.some.inj (cm.symm.trans m);obtain rfl:=Option.some.inj (ZE.symm.trans q);obtain rfl:=Option.some.inj (gu.symm.trans u);have x:=Lib.cells_of_tab (zs:=N'.map fun z=>((z:Nat):Int)) Il Wz AB AB b;have y:=Lib.cells_of_tab (zs:=J7.map fun z=>((z:Nat):Int)) DY Wz AB AB d;have A:=Lib.cells_of_tab (zs:=Ref.GL.map fun z=>((z.toNat:Nat):Int)) qi BV AB AB o;have B:=Lib.cells_of_tab (zs:=AL.IP.l.map fun z=>((z.toNat:Nat):Int)) Il Wz AB AB s;have C:=Lib.cells_of_tab (zs:=AL.Tj.l.map fun z=>((z.toNat:Nat):Int)) DY Wz AB AB w;have d1:=Lib.cells_of_tab (zs:=AL.IP.l.map fun z=>((z.toNat:Nat):Int)) Il Wz AB AB b;have d2:=Lib.cells_of_tab (zs:=AL.Tj.l.map fun z=>((z.toNat:Nat):Int)) DY Wz AB AB d;obtain⟨D,E⟩:=S1 (xs:=(Hr N').toList) Yr a (by rw[x];rfl);obtain⟨F,G⟩:=S1 (xs:=(Hr J7).toList) US c (by rw[y];rfl);obtain⟨H,I⟩:=S1 (xs:=bv Ref.GL) YQ n (by rw[A];rfl);exact⟨⟨D,E,F,G,H,I⟩,⟨U_ Wo v (by rw[C];rfl),U_ X7 r (by rw[B];rfl)⟩,⟨U_ US c (by rw[d2];rfl),U_ Yr a (by rw[d1];rfl)⟩⟩
set_option maxRecDepth 100000 in
theorem gA (H:Type) (enc:TypeId×Value→H) (W:World) (base:Nat) (args:Array Value) (f gs:List (DataW H)) (before:List MemPlace)
 (r:∀(j:Nat) t v,Tryz.f3.params[j]? =some t→args[j]? =some v→Value.okWide Tryz.prog W .any base t v)
 (u:DataW.Whole enc Tryz.prog Tryz.f3.params.toList Rows.salvagePlaysSpec.vars false W args.toList f gs before)
 (w:Rows.uptoSmall H (f++gs)=true)
 (E:laidMetH Tryz.prog Rows.salvagePlaysUptoRow.laid W):
 Calls Tryz.prog 3 args W fun e B8=>∃v,e=.returned v∧Rows.salvagePlaysSpec.post enc Tryz.prog Tryz.f3 false true false false W args v B8:=by
 have g:=u;obtain⟨p,q,z,F,rfl,U,X⟩:=u;have A:DataW.TrodAll enc Tryz.prog W 0 (fun _=>true) true Tryz.f3.params.toList args.toList f p:=z;rw[Tryz.params3]at A r;obtain⟨v0,Y,d0,Z,G,Ll,aa,rfl,rfl,B,K⟩:=trodAll_cons A;obtain⟨rfl,rfl,rfl⟩:=trodAll_nil K;obtain rfl:args=#[v0]:=by cases args;simp_all
 obtain⟨rfl,rfl⟩:=trodVars_none F;clear z;simp only[Ha]at g w;have k:Rows.uptoBulkAll [d0]≤1048576:=by simpa[Rows.uptoSmall]using w
 simp only[Rows.uptoBulkAll]at k;have L:∀x∈G,x.block<W.heap.size:=fun x a=>by simpa using g.lt x a
 have M:=B;obtain⟨s,n,c,rfl⟩:=okWide_slice Co (r 0 22 v0 D D);obtain⟨fuel,N⟩:=B;obtain⟨ab,ad,c',m,C,O,P,Ad⟩:=fY (R:=fun(y:k6) (d:DataW H)=>(y.n≠0→View W (I y.p y.n y.c) y.n 1 (bv y.l))∧y.l.length=y.n∧(-9223372036854775808≤y.v∧y.v≤9223372036854775807)∧y.n≤Rows.uptoBulk d) Co oX JZ rU oH (by simpa[Value.cells]using N);simp only[List.cons.injEq,Value.slice.injEq,and_true]at C;obtain⟨rfl,rfl,rfl⟩:=C;have b:n≤1048576∧∀x∈m,rK W x:=by
  rcases Ad with⟨_,ae⟩|⟨es,rs,a,af,b⟩
  ·refine⟨JY,fun x a=>?_⟩;rw[ni (by omega:m.length=0)]at a;cases a
  ·have Q:d0=.slice es rs:=a;rw[Q]at k;simp only[Rows.uptoBulk]at k;have:=sk es;refine⟨JY,fun x a=>?_⟩;obtain⟨i,V⟩:=List.mem_iff_getElem?.1 a;obtain⟨d,h1,EF,Ev,Kw,HQ⟩:=b i x V;have:=lA es i d h1;exact⟨EF,Ev,JY,Kw⟩
 obtain⟨S,T,Df⟩:=bx E;refine(qI _ _ _ m W T S Df P O b.1 b.2).mono fun e B8 o=>?_;obtain⟨o,J⟩:=o;subst o;exact⟨_,D,_,_,_,[],_,[],g,trodAll_mk1 (shut_bool PW _),trodAll_mk1 (Below.trod laidOut AB (of_decide_eq_true AB) M J (fun x a=>L x (by simpa using a))),D,J.frame _,fun h=>by cases h⟩
def On:DataW Unit→List Value
 |.agg l=>l.map fun d=>match d with
  |.lit (.int k n)=>Value.int k n
  |_=>undef
 |_=>[]
noncomputable def Ta(os:Os):World:=
 let w0:=World.holding Tryz.prog os ⟨#[],#[],[]⟩
 {w0 with heap:=((((((w0.heap).modify 0 fun
   |.cells _ t frozen=>.cells (On (Rows.laid_ledger_ledgerref1_first (H:=Unit))).toArray t frozen
   |o=>o).modify 2 fun
   |.cells _ t frozen=>.cells (On (Rows.laid_ledger_ledgerref1_consts (H:=Unit))).toArray t frozen
   |o=>o).modify 1 fun
   |.cells _ t frozen=>.cells (On (Rows.laid_ledger_ledgerref2_divisor (H:=Unit))).toArray t frozen
   |o=>o).modify 3 fun
   |.cells _ t frozen=>.cells (On (Rows.laid_ledger_digest_begin (H:=Unit))).toArray t frozen
   |o=>o).modify 4 fun
   |.cells _ t frozen=>.cells (On (Rows.laid_ledger_digest_round (H:=Unit))).toArray t frozen
   |o=>o)}
def Rg:Array Value:=#[.slice none 0 0]
theorem hU(os:Os):laidMet Tryz.prog Rows.salvagePlaysUptoRow.laid ((Ta os).forCall (fun _ _=>0) ⟨#[],Rg,[]⟩).memory:=
 laidMet_of_run3 8 AB AB AB
theorem reads(os:Os){H:Type}(enc:TypeId×Value→H):∃places,DataW.whole enc Tryz.prog ((Ta os).forCall (fun _ _=>0) ⟨#[],Rg,[]⟩).memory Tryz.f3.params.toList Rows.salvagePlaysSpec.vars false Rg.toList 8=some ([.nil],[],places):=
 ⟨[],AB⟩
set_option maxRecDepth 100000 in
theorem lifted (os:Os) (started:os.Started) (H:Type) (enc:TypeId×Value→H) (F:Stop.Interp):
 ReturnsInHanded {} Tryz.checked os 3 .any ((Rows.OpenSpec.upto Rows.salvagePlaysSpec).preRow enc Tryz.prog Tryz.f3 Rows.salvagePlaysUptoRow.domain false Rows.salvagePlaysUptoRow.laid) (((Rows.OpenSpec.upto Rows.salvagePlaysSpec).at F).post enc Tryz.prog Tryz.f3 false true false false):=by
 obtain⟨places,a⟩:=reads os enc;refine returnsInHanded_of_row (C:=Tryz.checked) (s:=Rows.OpenSpec.upto Rows.salvagePlaysSpec) own started AB Rc
  (witness_row_at (enc:=enc) (C:=Tryz.checked) false (Ta os) Rg D AB AB AB
    (OpenSpec.preRow_of_cond 8 a AB (fun k b=>by cases b;kernel_rfl) AB (hU os))) ?_
 intro W base args c gs before d e _ f h g _ _;exact gA H enc W base args c gs before d e (f _ D) g
theorem said:Rows.SalvagePlaysUptoSaid:=
 OpenClaim.holds_of_cond 3 Tryz.f3 D D D D D D D ⟨D,D,D,D,D⟩ D D D D D AB Rc AB
  (of_decide_eq_true AB) (by unfold Func.isWrapper;first|(rw[if_pos (by decide+kernel)];kernel_rfl)|(rw[if_neg (by decide+kernel)];exact⟨D,D⟩))
  (fun os started H enc _ F=>by rw[OpenClaim.pre_eq_preRow];exact lifted os started H enc F)
theorem plain(f:FuncId)(fn:Func)(b:Tryz.pinned.checked.prog.funcNamed "ledger/ledgerlaw23.SalvagePlays" =some f)(c:Tryz.pinned.checked.prog.funcs[f]? =some fn):
 true=Tryz.pinned.checked.prog.looks []∧∀(j:Nat) t,fn.params[j]? =some t→Tryz.pinned.checked.prog.wantsStandIn t=false:=by
 obtain rfl:f=3:=Option.some.inj ((show Tryz.prog.funcNamed "ledger/ledgerlaw23.SalvagePlays" =some 3 by kernel_rfl).symm.trans b)|>.symm;obtain rfl:fn=Tryz.f3:=(Option.some.inj (Rc.symm.trans c)).symm;refine⟨AB,fun j t a=>?_⟩;rw[Tryz.params3]at a;obtain rfl:t=22:=by simpa using Array.mem_of_getElem? a
 exact(show Tryz.prog.wantsStandIn 22=false by kernel_rfl)
theorem card:Rows.SalvagePlaysUptoCardSaid:=
 Claim7.holds_tied_plain_at .later [] _ _ _ _ said (fun _ h=>by cases h) AB (fun _ h=>by cases h) salvagePlaysUpto_row_tie D ⟨D,D⟩ AB D plain AB
end Go.Proofs.YtjdboncaegphmaaGreatDoor.salvagePlays
