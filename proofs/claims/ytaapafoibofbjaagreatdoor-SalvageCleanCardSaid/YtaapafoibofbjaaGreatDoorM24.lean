/- Laws and walks on the road to SalvageClean (part M24). No conditions beyond each law's own. -/
import Derived.Test.YtaapafoibofbjaaGreatDoorM01
import Derived.Test.YtaapafoibofbjaaGreatDoorM23
set_option linter.unusedVariables false
namespace Go.Proofs.YtaapafoibofbjaaGreatDoor
open Go.RowKit
set_option maxRecDepth 100000
set_option maxHeartbeats 1000000
variable {Ar Bg c:Nat}
theorem So(Q Ac AB a:Nat)(z:Dl)(C b Au B:BX)(Av:Nat)(Z:Nat→Option Bf)(AJ:List (G.Ae×Nat))(AO:List (Jc×Nat))(fr A4 Ar Bg c:Nat)(f:Jc)(r:G.Ae)(CM:∀p x,Z p=some x→Ge x)(w:World)(g:BE [Ay Q z C b Au B,AN z.AU Av Z,O Ac [[S Q],[S AB],[S a],[E fr],[E A4]] 236] w)(h:Ar≤1048576:=by omega):Calls Tryz.prog 154 #[S Ac,Value.agg (flat [[E Ar],[E Bg],[E c],bv f.l]),AM r] w fun e W=>e=.returned (.bool (G.E7 (B0 z.w Z AJ AO fr) Ar Bg c r))∧Sat (A6 [Ay Q z C b Au B,AN z.AU Av Z,O Ac [[S Q],[S AB],[S a],[E fr],[E A4]] 236]) w [Ay Q z C b Au B,AN z.AU Av Z,O Ac [[S Q],[S AB],[S a],[E fr],[E A4]] 236] W:=by
 cases d:Z Ar with
 |none=>exact gp Q Ac AB a z C b Au B Av Z AJ AO fr A4 Ar Bg c f r w g h d
 |some x=>exact gP Q Ac AB a z C b Au B Av Z AJ AO fr A4 Ar Bg c f r x w g h d (by have:=(CM _ _ d).lc;omega) (by have:=(CM _ _ d).rc;omega)
theorem NJ(nd:Nat→Option G.Dh):∀(f p:Nat) (r:G.Ae) (s:G.B4),(G.Bn nd f p r s).A4=s.A4:=by
 intro f
 induction f with
 |zero=>intro p r s;rfl
 |succ f a=>
  intro p r s
  rw[G.Bn]
  simp only
  split
  ·rfl
  ·split
   ·split
    ·rfl
    ·rw[a];rfl
   ·rw[a]
    split
    ·rfl
    ·rw[a];rfl
theorem Rs{W:Nat}{Z:Nat→Option Bf}{AJ:List (G.Ae×Nat)}{AO:List (Jc×Nat)}{fr h:Nat}{r:G.Ae}{x:Bf}(CM:∀p x,Z p=some x→Ge x∧2≤p∧p≤4096)(hOr:∀q p,G.get AJ q=some p→∃c,EX Z (257 - q.b) p q.b c)(d:Z Ar=some x)(hl:G.E7 (B0 W Z AJ AO fr) Ar Bg c r=true)(Ad:G.G8 (B0 W Z AJ AO fr) Ar x.AW r=true)(J:h+r.b=257)(n:1≤h:=by omega):EX Z h Ar r.b c:=by
 rw[Ic d]at hl
 have hl:=of_decide_eq_true hl
 have o:=(CM _ _ d).2
 obtain⟨s,hl⟩:=hl
 rcases hl with⟨e,f, -⟩|⟨e,f,t⟩
 ·cases h with
  |zero=>omega
  |succ h=>exact⟨x,d,by omega,by omega,.inl ⟨e,f⟩⟩
 ·unfold G.G8 B0 at Ad
  rw[if_neg (show¬x.AW.kd=1 from e)]at Ad
  have Ad:=of_decide_eq_true Ad
  simp only at Ad
  cases g:G.get AJ r with
  |none=>rw[g]at Ad;simp at Ad;omega
  |some p=>
   rw[g]at Ad
   simp only[Option.getD_some]at Ad
   subst Ad
   obtain⟨c',A5⟩:=hOr _ _ g
   rw[show 257 - r.b=h by omega]at A5
   cases h with
   |zero=>omega
   |succ h=>
    obtain⟨y,i,h1,j,k⟩:=A5
    rw[d]at i
    cases i
    rcases k with⟨a, -⟩|⟨a,l,u,m⟩
    ·exact absurd a e
    ·exact⟨x,d,by omega,j,.inr ⟨e,l,f,m⟩⟩
theorem Vk{W:Nat}{Z:Nat→Option Bf}{AJ:List (G.Ae×Nat)}{AO:List (Jc×Nat)}{fr h:Nat}{r:G.Ae}{x:Bf}(V:Ge x)(e:Z Ar=some x)(hl:G.E7 (B0 W Z AJ AO fr) Ar Bg c r=true)(f:1≤h):(h - 1)*x.lc+(h - 1)*x.rc+1≤h*c:=by
 rw[Ic e]at hl
 have hl:=of_decide_eq_true hl
 obtain⟨g,rfl⟩:∃g,h=g+1:=⟨h - 1,by omega⟩
 rw[Nat.add_sub_cancel,←Nat.mul_add,Nat.add_mul,Nat.one_mul]
 rcases hl.2 with⟨a,d, -⟩|⟨a,d, -⟩
 ·have:=V.z a
  rw[this.2.2.1,this.2.2.2,d]
  omega
 ·have:=V.b (V.kd.resolve_left a)
  rw[d]
  omega
def HO(a:G.Env)(f Ar:Nat)(n:G.Dh)(r:G.Ae)(s:G.B4):Option G.B4:=if Ar<a.fr then(if G.G8 a Ar n r=true then some (G.Bn a.nd (257 - r.b) Ar r s)else none)else Fh a f Ar n r s
theorem Kg{W:Nat}{Z:Nat→Option Bf}{AJ:List (G.Ae×Nat)}{AO:List (Jc×Nat)}{fr f:Nat}{a:Jc}{r:G.Ae}{s:G.B4}{x:Bf}(d:Z Ar=some x)(hl:G.E7 (B0 W Z AJ AO fr) Ar Bg c r=true):G.through (B0 W Z AJ AO fr) (f+1) Ar Bg c a r s=(HO (B0 W Z AJ AO fr) f Ar x.AW r s).bind fun g=>if G.Hw W x.AW (256 - r.b)=a then some g else none:=by
 rw[G.through,if_pos hl]
 have e:((B0 W Z AJ AO fr).nd Ar).getD G.DJ=x.AW:=by unfold B0;simp only[d];rfl
 simp only[e]
 rfl
theorem Td{a:G.Env}{f:Nat}{b:Jc}{r:G.Ae}{s:G.B4}(hl:G.E7 a Ar Bg c r=false):G.through a f Ar Bg c b r s=none:=by
 cases f with
 |zero=>rfl
 |succ f=>rw[G.through,if_neg (by rw[hl];decide)]
theorem W4(Q Ac AB a d f:Nat)(v1 v2:Value)(z:Dl)(C g:BX)(Av:Nat)(Z:Nat→Option Bf)(AJ:List (G.Ae×Nat))(AO:List (Jc×Nat))(fr:Nat)(hw:z.w≤32)(CM:∀p x,Z p=some x→Ge x∧2≤p∧p≤4096)(hOr:∀q p,G.get AJ q=some p→∃c,EX Z (257 - q.b) p q.b c)(Y:∀k p,G.get AO k=some p→∃x,Z p=some x)(B:BX)(Ar Bg c m o h:Nat)(u:Jc)(r:G.Ae)(s:G.B4)(w:World)(v:BE [Ay Q z C g AE B,A1 z.w B,AN z.AU Av Z,O Ac [[S Q],[S AB],[S a],[E fr],[E s.A4]] 236,O AB [[v1],[v2]] 234,AQ 242 AM v1 (G.get AJ),AQ 57 AP v2 (G.get AO),O a [[Value.map (some d)],[Value.map (some f)]] 234,Ap Tryz.prog 242 AM Am d m (G.get s.rows),Ap Tryz.prog 57 AP Am f o (G.get s.jo)] w)(A5:CG w)(J:∀k,CB k→¬A6 [Ay Q z C g AE B,A1 z.w B,AN z.AU Av Z,O Ac [[S Q],[S AB],[S a],[E fr],[E s.A4]] 236,O AB [[v1],[v2]] 234,AQ 242 AM v1 (G.get AJ),AQ 57 AP v2 (G.get AO),O a [[Value.map (some d)],[Value.map (some f)]] 234,Ap Tryz.prog 242 AM Am d m (G.get s.rows),Ap Tryz.prog 57 AP Am f o (G.get s.jo)] k)(aa:Ar≤1048576)(ab:Bg≤1048576)(K:G.E7 (B0 z.w Z AJ AO fr) Ar Bg c r=false):Calls Tryz.prog 118 #[S Ac,Value.agg (flat [[E Ar],[E Bg],[E c],bv u.l]),Value.agg (flat [[E r.b],bv r.k.l])] w fun e W=>∃i L A,e=.returned (.bool false)∧1≤i.n∧i.n≤1048576∧Sat (A6 [Ay Q z C g AE B,A1 z.w B,AN z.AU Av Z,O Ac [[S Q],[S AB],[S a],[E fr],[E s.A4]] 236,O AB [[v1],[v2]] 234,AQ 242 AM v1 (G.get AJ),AQ 57 AP v2 (G.get AO),O a [[Value.map (some d)],[Value.map (some f)]] 234,Ap Tryz.prog 242 AM Am d m (G.get s.rows),Ap Tryz.prog 57 AP Am f o (G.get s.jo)]) w [Ay Q z C g i A,A1 z.w A,AN z.AU Av Z,Ae 195 2 (I i.p i.n i.c) i.n (Aq BQ L)] W:=by
 have ad:∀F,A6 [Ay Q z C g AE B,A1 z.w B,AN z.AU Av Z,O Ac [[S Q],[S AB],[S a],[E fr],[E s.A4]] 236,O AB [[v1],[v2]] 234,AQ 242 AM v1 (G.get AJ),AQ 57 AP v2 (G.get AO),O a [[Value.map (some d)],[Value.map (some f)]] 234,Ap Tryz.prog 242 AM Am d m (G.get s.rows),Ap Tryz.prog 57 AP Am f o (G.get s.jo)]=F→∀k,CB k→¬F k:=fun F y k N q=>J k N (y▸q)
 refine Cb v IC D 106 fun F y=>Je<|Jh<|U<|Cv D fun P=>U<|Cv D fun R=>M ?_
 refine Af (BN DS 1 D D)<|Af (BN DY 0 D D)<|U<|Cx Pa D [2,4,5] (H1:=[Ay Q z C g AE B,AN z.AU Av Z,O Ac [[S Q],[S AB],[S a],[E fr],[E s.A4]] 236]) (fun w v=>(So Q Ac AB a z C g AE B Av Z AJ AO fr s.A4 Ar Bg c u r (fun p x h=>(CM p x h).1) w v).mono fun e W q=>⟨q.1.trans (by rw[K]),q.2⟩)<|Af (fun _ _ T j=>CE T (b:=false) D)<|M ?_
 refine DD 6<|zs (AA D)<|zs (Bp D)<|zs (AS C9 0 D)<|zs (Bb Gb 5 0 D D D)<|zs (AS DS 1 D)<|zs (Bb AF 1 1 D D D)<|CS<|U<|?_
 refine Dr 195 2 (Aq BQ [])<|?_
 refine Ba EV D (fun w j=>EZ Q z C g AE B Bg 170 ([]) w (j.Ad (H1:=[Ay Q z C g AE B,Ae 195 2 (I none 0 0) 0 (Aq BQ ([]))]) [3,0])) fun _ e W j ⟨H,V,he,X,q⟩=>⟨_,_,he,Sat.call (H1:=[Ay Q z C g AE B,Ae 195 2 (I none 0 0) 0 (Aq BQ ([]))]) (H2:=[O R [[E r.b],bv r.k.l] 242,O P [[E Ar],[E Bg],[E c],bv u.l] 240,A1 z.w B,AN z.AU Av Z,O Ac [[S Q],[S AB],[S a],[E fr],[E s.A4]] 236,O AB [[v1],[v2]] 234,AQ 242 AM v1 (G.get AJ),AQ 57 AP v2 (G.get AO),O a [[Value.map (some d)],[Value.map (some f)]] 234,Ap Tryz.prog 242 AM Am d m (G.get s.rows),Ap Tryz.prog 57 AP Am f o (G.get s.jo)]) (j.pick [3,0,1,2,4,5,6,7,8,9,10,11,12]) q,?_⟩
 have ae:H.n=1:=X
 refine A7 ?_
 intro W j
 subst y
 exact⟨H,V,B,D,by omega,by omega,j.pick [0,4,5,1]⟩
theorem ct(Q Ac AB g i j:Nat)(v1 v2:Value)(z:Dl)(C m:BX)(Av:Nat)(Z:Nat→Option Bf)(AJ:List (G.Ae×Nat))(AO:List (Jc×Nat))(fr:Nat)(hw:z.w≤32)(CM:∀p x,Z p=some x→Ge x∧2≤p∧p≤4096)(hOr:∀q p,G.get AJ q=some p→∃c,EX Z (257 - q.b) p q.b c)(av:∀k p,G.get AO k=some p→∃x,Z p=some x)(f:Nat)(aw:∀(B:BX) (Ar Bg c o t h:Nat) (u:Jc) (r:G.Ae) (s:G.B4) (w:World) (an:BE [Ay Q z C m AE B,A1 z.w B,AN z.AU Av Z,O Ac [[S Q],[S AB],[S g],[E fr],[E s.A4]] 236,O AB [[v1],[v2]] 234,AQ 242 AM v1 (G.get AJ),AQ 57 AP v2 (G.get AO),O g [[Value.map (some i)],[Value.map (some j)]] 234,Ap Tryz.prog 242 AM Am i o (G.get s.rows),Ap Tryz.prog 57 AP Am j t (G.get s.jo)] w) (A5:CG w) (ax:∀k,CB k→¬A6 [Ay Q z C m AE B,A1 z.w B,AN z.AU Av Z,O Ac [[S Q],[S AB],[S g],[E fr],[E s.A4]] 236,O AB [[v1],[v2]] 234,AQ 242 AM v1 (G.get AJ),AQ 57 AP v2 (G.get AO),O g [[Value.map (some i)],[Value.map (some j)]] 234,Ap Tryz.prog 242 AM Am i o (G.get s.rows),Ap Tryz.prog 57 AP Am j t (G.get s.jo)] k) (aC:Bg≤f) (J:h+r.b=257) (aD:1≤h) (aE:Ar≤1048576) (aF:Bg≤1048576) (aG:o+h*c≤1099511627776) (aH:t+h*c≤1099511627776) (aI:s.A4≤2097152),Calls Tryz.prog 118 #[S Ac,Value.agg (flat [[E Ar],[E Bg],[E c],bv u.l]),AM r] w fun e W=>(∀H,G.through (B0 z.w Z AJ AO fr) f Ar Bg c u r s=some H→∃P aj ak,e=.returned (.bool true)∧aj≤o+h*c∧ak≤t+h*c∧H.A4≤2097152∧Sat (A6 [Ay Q z C m AE B,A1 z.w B,AN z.AU Av Z,O Ac [[S Q],[S AB],[S g],[E fr],[E s.A4]] 236,O AB [[v1],[v2]] 234,AQ 242 AM v1 (G.get AJ),AQ 57 AP v2 (G.get AO),O g [[Value.map (some i)],[Value.map (some j)]] 234,Ap Tryz.prog 242 AM Am i o (G.get s.rows),Ap Tryz.prog 57 AP Am j t (G.get s.jo)]) w [Ay Q z C m AE P,A1 z.w P,AN z.AU Av Z,O Ac [[S Q],[S AB],[S g],[E fr],[E H.A4]] 236,O AB [[v1],[v2]] 234,AQ 242 AM v1 (G.get AJ),AQ 57 AP v2 (G.get AO),O g [[Value.map (some i)],[Value.map (some j)]] 234,Ap Tryz.prog 242 AM Am i aj (G.get H.rows),Ap Tryz.prog 57 AP Am j ak (G.get H.jo)] W)∧(G.through (B0 z.w Z AJ AO fr) f Ar Bg c u r s=none→∃K ar P,e=.returned (.bool false)∧1≤K.n∧K.n≤1048576∧Sat (A6 [Ay Q z C m AE B,A1 z.w B,AN z.AU Av Z,O Ac [[S Q],[S AB],[S g],[E fr],[E s.A4]] 236,O AB [[v1],[v2]] 234,AQ 242 AM v1 (G.get AJ),AQ 57 AP v2 (G.get AO),O g [[Value.map (some i)],[Value.map (some j)]] 234,Ap Tryz.prog 242 AM Am i o (G.get s.rows),Ap Tryz.prog 57 AP Am j t (G.get s.jo)]) w [Ay Q z C m K P,A1 z.w P,AN z.AU Av Z,Ae 195 2 (I K.p K.n K.c) K.n (Aq BQ ar)] W))(B:BX)(Ar Bg c o t h:Nat)(u:Jc)(r:G.Ae)(s:G.B4)(x:Bf)(w:World)(an:BE [Ay Q z C m AE B,A1 z.w B,AN z.AU Av Z,O Ac [[S Q],[S AB],[S g],[E fr],[E s.A4]] 236,O AB [[v1],[v2]] 234,AQ 242 AM v1 (G.get AJ),AQ 57 AP v2 (G.get AO),O g [[Value.map (some i)],[Value.map (some j)]] 234,Ap Tryz.prog 242 AM Am i o (G.get s.rows),Ap Tryz.prog 57 AP Am j t (G.get s.jo)] w)(A5:CG w)(ax:∀k,CB k→¬A6 [Ay Q z C m AE B,A1 z.w B,AN z.AU Av Z,O Ac [[S Q],[S AB],[S g],[E fr],[E s.A4]] 236,O AB [[v1],[v2]] 234,AQ 242 AM v1 (G.get AJ),AQ 57 AP v2 (G.get AO),O g [[Value.map (some i)],[Value.map (some j)]] 234,Ap Tryz.prog 242 AM Am i o (G.get s.rows),Ap Tryz.prog 57 AP Am j t (G.get s.jo)] k)(aC:Bg≤f+1)(J:h+r.b=257)(aD:1≤h)(aE:Ar≤1048576)(aF:Bg≤1048576)(aG:o+h*c≤1099511627776)(aH:t+h*c≤1099511627776)(aI:s.A4≤2097152)(aa:Z Ar=some x)(al:x.kd=1)(V:Ge x)(ae:G.E7 (B0 z.w Z AJ AO fr) Ar Bg c r=true)(aZ:Ar<Bg)(a0:(h - 1)*x.lc+(h - 1)*x.rc+1≤h*c):Calls Tryz.prog 118 #[S Ac,Value.agg (flat [[E Ar],[E Bg],[E c],bv u.l]),Value.agg (flat [[E r.b],bv r.k.l])] w fun e W=>(∀H,G.through (B0 z.w Z AJ AO fr) (f+1) Ar Bg c u r s=some H→∃P aj ak,e=.returned (.bool true)∧aj≤o+h*c∧ak≤t+h*c∧H.A4≤2097152∧Sat (A6 [Ay Q z C m AE B,A1 z.w B,AN z.AU Av Z,O Ac [[S Q],[S AB],[S g],[E fr],[E s.A4]] 236,O AB [[v1],[v2]] 234,AQ 242 AM v1 (G.get AJ),AQ 57 AP v2 (G.get AO),O g [[Value.map (some i)],[Value.map (some j)]] 234,Ap Tryz.prog 242 AM Am i o (G.get s.rows),Ap Tryz.prog 57 AP Am j t (G.get s.jo)]) w [Ay Q z C m AE P,A1 z.w P,AN z.AU Av Z,O Ac [[S Q],[S AB],[S g],[E fr],[E H.A4]] 236,O AB [[v1],[v2]] 234,AQ 242 AM v1 (G.get AJ),AQ 57 AP v2 (G.get AO),O g [[Value.map (some i)],[Value.map (some j)]] 234,Ap Tryz.prog 242 AM Am i aj (G.get H.rows),Ap Tryz.prog 57 AP Am j ak (G.get H.jo)] W)∧(G.through (B0 z.w Z AJ AO fr) (f+1) Ar Bg c u r s=none→∃K ar P,e=.returned (.bool false)∧1≤K.n∧K.n≤1048576∧Sat (A6 [Ay Q z C m AE B,A1 z.w B,AN z.AU Av Z,O Ac [[S Q],[S AB],[S g],[E fr],[E s.A4]] 236,O AB [[v1],[v2]] 234,AQ 242 AM v1 (G.get AJ),AQ 57 AP v2 (G.get AO),O g [[Value.map (some i)],[Value.map (some j)]] 234,Ap Tryz.prog 242 AM Am i o (G.get s.rows),Ap Tryz.prog 57 AP Am j t (G.get s.jo)]) w [Ay Q z C m K P,A1 z.w P,AN z.AU Av Z,Ae 195 2 (I K.p K.n K.c) K.n (Aq BQ ar)] W):=by
 have af:∀F,A6 [Ay Q z C m AE B,A1 z.w B,AN z.AU Av Z,O Ac [[S Q],[S AB],[S g],[E fr],[E s.A4]] 236,O AB [[v1],[v2]] 234,AQ 242 AM v1 (G.get AJ),AQ 57 AP v2 (G.get AO),O g [[Value.map (some i)],[Value.map (some j)]] 234,Ap Tryz.prog 242 AM Am i o (G.get s.rows),Ap Tryz.prog 57 AP Am j t (G.get s.jo)]=F→∀k,CB k→¬F k:=fun F N k al q=>ax k al (N▸q)
 have a1:=V.v
 have a2:=V.l
 have a3:=V.r
 have a4:=V.z
 refine Cb an IC D 106 fun F N=>Je<|Jh<|U<|Cv D fun T=>U<|Cv D fun X=>M ?_
 refine Af (BN DS 1 D D)<|Af (BN DY 0 D D)<|U<|Cx Pa D [2,4,5] (H1:=[Ay Q z C m AE B,AN z.AU Av Z,O Ac [[S Q],[S AB],[S g],[E fr],[E s.A4]] 236]) (fun w an=>(So Q Ac AB g z C m AE B Av Z AJ AO fr s.A4 Ar Bg c u r (fun p x h=>(CM p x h).1) w an).mono fun e W q=>⟨q.1.trans (by rw[ae]),q.2⟩)<|Af (fun _ _ A d=>CE A (b:=true) D)<|M ?_
 refine CQ [0,1,2,3,4,5,6,7,8,9,10,11]<|Ab 0 D (AA D)<|Ab 1 D (Bp D)<|Ab 2 D (AS C9 0 D)<|Ab 3 D (Bb Gb 5 0 D D D)<|Ab 4 D (Bp D)<|Ab 5 D (AS C2 6 D)<|Ab 6 D (Bb FN 2 6 D D D)<|Ab 7 D (AS DS 0 D)<|Ab 8 D (Bb AF 1 0 D D D)<|Ab 9 D (GN FN (fun w d=>d.KP 4) Fg Fe (a:=Ar) (Fb (by omega)) D D J_ (by rw[aa]))<|Bh 10 D<|Bw [[E 0],[E 0],[E 0],[E 0],[E 0],Ak 32,Ak 32,Ak 32,[I none 0 0]] fun Y=>A8 [1,2,3,4,5,6,7,8,9,10,11,12]<|Bh 11 D<|Bk 0 0 9 D D D<|?_
 refine A8 [1,2,3,4,5,6,7,8,9,10,11,12]<|Cm<|Jf<|Gq (fun a W=>∃(L:G.B4) (ag:Nat) (ah:Nat) (ab:BX),AH 106 a (Jb (Jb (Jb (Jb Jk 0 (S Ac)) 4 (S T)) 5 (S X)) 7 (S Y))∧Sat F w [O Y [[E x.kd],[E x.l],[E x.r],[E x.lc],[E x.rc],bv x.ls.l,bv x.rs.l,bv x.k.l,[I x.s.p x.s.v.length x.s.c]] 99,O X [[E r.b],bv r.k.l] 242,O T [[E Ar],[E Bg],[E c],bv u.l] 240,Ay Q z C m AE ab,A1 z.w ab,AN z.AU Av Z,O Ac [[S Q],[S AB],[S g],[E fr],[E L.A4]] 236,O AB [[v1],[v2]] 234,AQ 242 AM v1 (G.get AJ),AQ 57 AP v2 (G.get AO),O g [[Value.map (some i)],[Value.map (some j)]] 234,Ap Tryz.prog 242 AM Am i ag (G.get L.rows),Ap Tryz.prog 57 AP Am j ah (G.get L.jo)] W∧HO (B0 z.w Z AJ AO fr) f Ar x.AW r s=some L∧(ag≤o+h*c∧ah≤t+h*c∧L.A4≤2097152)) ?_ ?_
 ·
  refine Je<|GR<|zs (AS DS 0 D)<|zs (Bb AF 2 0 D D D)<|zs (AA D)<|zs (Bp D)<|zs (AS C9 3 D)<|zs (Bb AF 6 3 D D D)<|zs (Rn D D)<|CS<|Jf<|Cz D (fun aJ=>?_) fun aJ=>?_
  ·
   refine Je<|GR<|zs (AA D)<|zs (Bp D)<|zs (AS C9 1 D)<|zs (Bb Ha 6 1 D D D)<|zs (Bp D)<|zs (AS Il 0 D)<|zs (Bb GM 7 0 D D D)<|zs (BN DY 1 D D)<|zs (O2 GM 8 D Lb Le (a:=r) (Lg (by omega)) D D)<|zs (AS DS 0 D)<|zs (Bb AF 2 0 D D D)<|zs (Pz D D)<|zs (Ck D)<|CS<|Jf<|Gq (fun a W=>∃(Ad:Bool),AH 106 a (Jb (Jb (Jb (Jb (Jb (Jb Jk 0 (S Ac)) 4 (S T)) 5 (S X)) 6 (C' false)) 7 (S Y)) 8 (C' Ad))∧Sat F w [O Y [[E x.kd],[E x.l],[E x.r],[E x.lc],[E x.rc],bv x.ls.l,bv x.rs.l,bv x.k.l,[I x.s.p x.s.v.length x.s.c]] 99,O X [[E r.b],bv r.k.l] 242,O T [[E Ar],[E Bg],[E c],bv u.l] 240,Ay Q z C m AE B,A1 z.w B,AN z.AU Av Z,O Ac [[S Q],[S AB],[S g],[E fr],[E s.A4]] 236,O AB [[v1],[v2]] 234,AQ 242 AM v1 (G.get AJ),AQ 57 AP v2 (G.get AO),O g [[Value.map (some i)],[Value.map (some j)]] 234,Ap Tryz.prog 242 AM Am i o (G.get s.rows),Ap Tryz.prog 57 AP Am j t (G.get s.jo)] W∧Ad=G.G8 (B0 z.w Z AJ AO fr) Ar x.AW r) ?_ ?_
   ·
    refine Je<|Jh<|AG B7 0 D<|AZ AF 0 0 D D D<|EU (by omega) D D<|M ?_
    refine GR<|zs (AA D)<|zs (Bp D)<|zs (AS C9 1 D)<|zs (Bb Ha 6 1 D D D)<|zs (Bp D)<|zs (AS Il 1 D)<|zs (Bb Ln 7 1 D D D)<|zs (AS B7 69 D)<|zs (DH Em 0 7 1 [bv x.k.l] D D)<|zs (O2 Ln 9 D FR O5 (a:=x.k) OB D D)<|zs (AS DS 0 D)<|zs (Bb AF 2 0 D D D)<|zs (Pz D D)<|zs (Ck D)<|CS<|Jf<|?_
    exact fun a W A d=>⟨decide (((((G.get AO) x.k).getD 0:Nat):Int)=((Ar:Nat):Int)),AY A,d.pick [0,1,2,3,4,5,6,7,8,9,10,11,12],(by unfold G.G8;rw[if_pos (show x.AW.kd=1 from al)];show _=decide ((G.get AO x.k).getD 0=Ar);exact decide_eq_decide.2 (by constructor<;>intro a5<;>omega))⟩
   rintro a W ⟨Ad,A,d,au⟩;revert a W
   refine M ?_
   refine Af (fun _ _ A d=>CE A (b:=Ad) D)<|Jg<|Jf<|J9 D (fun ao=>?_) fun ao=>?_
   ·
    refine Je<|DD 6<|zs (AA D)<|zs (Bp D)<|zs (AS C9 0 D)<|zs (Bb Gb 6 0 D D D)<|zs (AS DS 1 D)<|zs (Bb AF 2 1 D D D)<|CS<|U<|?_
    refine Dr 195 2 (Aq BQ [])<|?_
    refine Ba EV D (fun w d=>EZ Q z C m AE B Bg 172 ([]) w (d.Ad (H1:=[Ay Q z C m AE B,Ae 195 2 (I none 0 0) 0 (Aq BQ ([]))]) [4,0])) fun _ e W d ⟨ay,aK,he,aL,q⟩=>⟨_,_,he,Sat.call (H1:=[Ay Q z C m AE B,Ae 195 2 (I none 0 0) 0 (Aq BQ ([]))]) (H2:=[O Y [[E x.kd],[E x.l],[E x.r],[E x.lc],[E x.rc],bv x.ls.l,bv x.rs.l,bv x.k.l,[I x.s.p x.s.v.length x.s.c]] 99,O X [[E r.b],bv r.k.l] 242,O T [[E Ar],[E Bg],[E c],bv u.l] 240,A1 z.w B,AN z.AU Av Z,O Ac [[S Q],[S AB],[S g],[E fr],[E s.A4]] 236,O AB [[v1],[v2]] 234,AQ 242 AM v1 (G.get AJ),AQ 57 AP v2 (G.get AO),O g [[Value.map (some i)],[Value.map (some j)]] 234,Ap Tryz.prog 242 AM Am i o (G.get s.rows),Ap Tryz.prog 57 AP Am j t (G.get s.jo)]) (d.pick [4,0,1,2,3,5,6,7,8,9,10,11,12,13]) q,?_⟩
    have a6:ay.n=1:=aL
    refine A7 ?_
    intro W d
    subst N
    have ad:G.through (B0 z.w Z AJ AO fr) (f+1) Ar Bg c u r s=none:=by
     rw[Kg aa ae];unfold HO;rw[if_pos (show Ar<(B0 z.w Z AJ AO fr).fr from by show Ar<fr;omega),if_neg (by rw[←au];revert ao;cases Ad<;>decide)];rfl
    refine⟨fun H R=>(by rw[ad]at R;cases R),fun _=>?_⟩
    exact⟨ay,aK,B,D,by omega,by omega,d.pick [0,5,6,1]⟩
   refine M ?_
   refine AG DS 0 D<|AZ AF 2 0 D D D<|Af (BN DY 1 D D)<|U<|?_
   refine Ba Np D (fun w d=>Vc Q Ac AB g i j z C m AE B Av Z fr s.A4 h Ar c o t r s w (d.Ad (H1:=[Ay Q z C m AE B,AN z.AU Av Z,O Ac [[S Q],[S AB],[S g],[E fr],[E s.A4]] 236,O g [[Value.map (some i)],[Value.map (some j)]] 234,Ap Tryz.prog 242 AM Am i o (G.get s.rows),Ap Tryz.prog 57 AP Am j t (G.get s.jo)]) [3,5,6,10,11,12]) (by omega) (Rs CM hOr aa ae (by rw[←au];revert ao;cases Ad<;>decide) (by omega)) (by omega) (by omega)) fun _ e W d ⟨aM,aN,he,a7,a8,q⟩=>⟨_,_,he,Sat.call (H1:=[Ay Q z C m AE B,AN z.AU Av Z,O Ac [[S Q],[S AB],[S g],[E fr],[E s.A4]] 236,O g [[Value.map (some i)],[Value.map (some j)]] 234,Ap Tryz.prog 242 AM Am i o (G.get s.rows),Ap Tryz.prog 57 AP Am j t (G.get s.jo)]) (H2:=[O Y [[E x.kd],[E x.l],[E x.r],[E x.lc],[E x.rc],bv x.ls.l,bv x.rs.l,bv x.k.l,[I x.s.p x.s.v.length x.s.c]] 99,O X [[E r.b],bv r.k.l] 242,O T [[E Ar],[E Bg],[E c],bv u.l] 240,A1 z.w B,O AB [[v1],[v2]] 234,AQ 242 AM v1 (G.get AJ),AQ 57 AP v2 (G.get AO)]) (d.pick [3,5,6,10,11,12,0,1,2,4,7,8,9]) q,?_⟩
   refine Jg<|?_
   refine FO 2 [[S Q],[S AB],[S g],[E fr],[E ((G.Bn (fun p=>(Z p).map Bf.AW) h Ar r s).A4)]] D (by rw[NJ])<|Jf<|?_
   exact fun a W A d=>⟨G.Bn (fun p=>(Z p).map Bf.AW) h Ar r s,aM,aN,B,AY A,d.pick [6,7,8,0,9,1,2,10,11,12,3,4,5],(by unfold HO;rw[if_pos (show Ar<(B0 z.w Z AJ AO fr).fr from by show Ar<fr;omega),if_pos (by rw[←au];revert ao;cases Ad<;>decide),show 257 - r.b=h by omega];rfl),by refine⟨?_,?_,?_⟩<;>first|omega|(rw[NJ];omega)⟩
  refine Je<|?_
  cases aq:Fh (B0 z.w Z AJ AO fr) f Ar x.AW r s with
  |none=>
   refine Jh<|Jd D<|AG DS 0 D<|AZ AF 2 0 D D D<|Af (BN B7 0 D D)<|Af (BN DY 1 D D)<|U<|?_
   refine Ba Nm D (fun w d=>(T0 Q Ac AB g i j v1 v2 z C m Av Z AJ AO fr hw CM hOr av f aw B Ar o t h r s x w (d.Ad (H1:=[Ay Q z C m AE B,A1 z.w B,AN z.AU Av Z,O Ac [[S Q],[S AB],[S g],[E fr],[E s.A4]] 236,O AB [[v1],[v2]] 234,AQ 242 AM v1 (G.get AJ),AQ 57 AP v2 (G.get AO),O g [[Value.map (some i)],[Value.map (some j)]] 234,Ap Tryz.prog 242 AM Am i o (G.get s.rows),Ap Tryz.prog 57 AP Am j t (G.get s.jo)]) [3,4,5,6,7,8,9,10,11,12]) (A5.sat d (af F N)) (d.Eb A5 (af F N) [3,4,5,6,7,8,9,10,11,12]) (by omega) (by omega) (by omega) aa al (by omega) (by omega) (by omega) (by omega) (by omega) (by omega)).mono fun e W q=>q.2 aq) fun _ e W d ⟨aO,aP,aQ,he,a9,a_,q⟩=>⟨_,_,he,Sat.call (H1:=[Ay Q z C m AE B,A1 z.w B,AN z.AU Av Z,O Ac [[S Q],[S AB],[S g],[E fr],[E s.A4]] 236,O AB [[v1],[v2]] 234,AQ 242 AM v1 (G.get AJ),AQ 57 AP v2 (G.get AO),O g [[Value.map (some i)],[Value.map (some j)]] 234,Ap Tryz.prog 242 AM Am i o (G.get s.rows),Ap Tryz.prog 57 AP Am j t (G.get s.jo)]) (H2:=[O Y [[E x.kd],[E x.l],[E x.r],[E x.lc],[E x.rc],bv x.ls.l,bv x.rs.l,bv x.k.l,[I x.s.p x.s.v.length x.s.c]] 99,O X [[E r.b],bv r.k.l] 242,O T [[E Ar],[E Bg],[E c],bv u.l] 240]) (d.pick [3,4,5,6,7,8,9,10,11,12,0,1,2]) q,?_⟩
   refine Af (fun _ _ A d=>CE A (b:=false) D)<|A7 ?_
   intro W d
   subst N
   have ad:G.through (B0 z.w Z AJ AO fr) (f+1) Ar Bg c u r s=none:=by
    rw[Kg aa ae];unfold HO;rw[if_neg (show¬Ar<(B0 z.w Z AJ AO fr).fr from by show¬Ar<fr;omega),aq];rfl
   refine⟨fun H R=>(by rw[ad]at R;cases R),fun _=>?_⟩
   exact⟨aO,aP,aQ,D,by omega,by omega,d.pick [0,1,2,3]⟩
  |some aR=>
   refine Jh<|Jd D<|AG DS 0 D<|AZ AF 2 0 D D D<|Af (BN B7 0 D D)<|Af (BN DY 1 D D)<|U<|?_
   refine Ba Nm D (fun w d=>(T0 Q Ac AB g i j v1 v2 z C m Av Z AJ AO fr hw CM hOr av f aw B Ar o t h r s x w (d.Ad (H1:=[Ay Q z C m AE B,A1 z.w B,AN z.AU Av Z,O Ac [[S Q],[S AB],[S g],[E fr],[E s.A4]] 236,O AB [[v1],[v2]] 234,AQ 242 AM v1 (G.get AJ),AQ 57 AP v2 (G.get AO),O g [[Value.map (some i)],[Value.map (some j)]] 234,Ap Tryz.prog 242 AM Am i o (G.get s.rows),Ap Tryz.prog 57 AP Am j t (G.get s.jo)]) [3,4,5,6,7,8,9,10,11,12]) (A5.sat d (af F N)) (d.Eb A5 (af F N) [3,4,5,6,7,8,9,10,11,12]) (by omega) (by omega) (by omega) aa al (by omega) (by omega) (by omega) (by omega) (by omega) (by omega)).mono fun e W q=>q.1 _ aq) fun _ e W d ⟨aS,aT,aU,he,a',ba,bb,q⟩=>⟨_,_,he,Sat.call (H1:=[Ay Q z C m AE B,A1 z.w B,AN z.AU Av Z,O Ac [[S Q],[S AB],[S g],[E fr],[E s.A4]] 236,O AB [[v1],[v2]] 234,AQ 242 AM v1 (G.get AJ),AQ 57 AP v2 (G.get AO),O g [[Value.map (some i)],[Value.map (some j)]] 234,Ap Tryz.prog 242 AM Am i o (G.get s.rows),Ap Tryz.prog 57 AP Am j t (G.get s.jo)]) (H2:=[O Y [[E x.kd],[E x.l],[E x.r],[E x.lc],[E x.rc],bv x.ls.l,bv x.rs.l,bv x.k.l,[I x.s.p x.s.v.length x.s.c]] 99,O X [[E r.b],bv r.k.l] 242,O T [[E Ar],[E Bg],[E c],bv u.l] 240]) (d.pick [3,4,5,6,7,8,9,10,11,12,0,1,2]) q,?_⟩
   refine Af (fun _ _ A d=>CE A (b:=true) D)<|M ?_
   exact fun a W A d=>⟨aR,aT,aU,aS,AY A,d.pick [10,11,12,0,1,2,3,4,5,6,7,8,9],(by unfold HO;rw[if_neg (show¬Ar<(B0 z.w Z AJ AO fr).fr from by show¬Ar<fr;omega)];first|done|exact aq),by refine⟨?_,?_,?_⟩<;>first|omega|(rw[NJ];omega)⟩
 rintro a W ⟨L,ag,ah,ab,A,d,az,bc⟩;revert a W
 refine Je<|Je<|?_
 refine CQ [0,1,2,5,6,7,8,9,10,11,12]<|Ab 0 D (AA D)<|Ab 1 D (Bp D)<|Ab 2 D (AS C9 0 D)<|Ab 3 D (Bb Gb 4 0 D D D)<|Ab 4 D (BN B7 0 D D)<|Ab 5 D (AS DY 0 D)<|Ab 6 D (Bb AF 1 0 D D D)<|Ab 7 D (HS (p:=256) D D)<|Ab 9 D (AS DS 3 D)<|Ab 10 D (DH B5 2 3 1 [bv u.l] D D)<|Bh 8 D<|?_
 refine Ba Qw D (fun w d=>U6 Q z C m AE ab (256 - r.b) Av Z x w (d.Ad (H1:=[Ay Q z C m AE ab,A1 z.w ab,AN z.AU Av Z]) [3,4,5]) aa (A5.sat d (af F N)) (d.Eb A5 (af F N) [3,4,5]) (by omega) (by omega) (by omega) (by omega)) fun _ e W d ⟨he,ai,q⟩=>⟨_,_,he,Sat.call (H1:=[Ay Q z C m AE ab,A1 z.w ab,AN z.AU Av Z]) (H2:=[O Y [[E x.kd],[E x.l],[E x.r],[E x.lc],[E x.rc],bv x.ls.l,bv x.rs.l,bv x.k.l,[I x.s.p x.s.v.length x.s.c]] 99,O X [[E r.b],bv r.k.l] 242,O T [[E Ar],[E Bg],[E c],bv u.l] 240,O Ac [[S Q],[S AB],[S g],[E fr],[E L.A4]] 236,O AB [[v1],[v2]] 234,AQ 242 AM v1 (G.get AJ),AQ 57 AP v2 (G.get AO),O g [[Value.map (some i)],[Value.map (some j)]] 234,Ap Tryz.prog 242 AM Am i ag (G.get L.rows),Ap Tryz.prog 57 AP Am j ah (G.get L.jo)]) (d.pick [3,4,5,0,1,2,6,7,8,9,10,11,12]) q,?_⟩
 refine A8 [3,4,5,2,6,7,8,9,10,11,12]<|?_
 refine Ab 11 D (fun _ _ A d=>Qj A (G.Hw z.w x.AW (256 - r.b)).h u.h D D _ D)<|Cm<|Jf<|HI D (fun aV=>?_) fun aV=>?_
 ·
  refine Je<|DD 6<|zs (AA D)<|zs (Bp D)<|zs (AS C9 0 D)<|zs (Bb Gb 6 0 D D D)<|zs (AS DS 1 D)<|zs (Bb AF 5 1 D D D)<|CS<|U<|?_
  refine Dr 195 2 (Aq BQ [])<|?_
  refine Ba EV D (fun w d=>EZ Q z C m AE ai Bg 171 ([]) w (d.Ad (H1:=[Ay Q z C m AE ai,Ae 195 2 (I none 0 0) 0 (Aq BQ ([]))]) [1,0])) fun _ e W d ⟨aA,aW,he,aX,q⟩=>⟨_,_,he,Sat.call (H1:=[Ay Q z C m AE ai,Ae 195 2 (I none 0 0) 0 (Aq BQ ([]))]) (H2:=[A1 z.w ai,AN z.AU Av Z,O Y [[E x.kd],[E x.l],[E x.r],[E x.lc],[E x.rc],bv x.ls.l,bv x.rs.l,bv x.k.l,[I x.s.p x.s.v.length x.s.c]] 99,O X [[E r.b],bv r.k.l] 242,O T [[E Ar],[E Bg],[E c],bv u.l] 240,O Ac [[S Q],[S AB],[S g],[E fr],[E L.A4]] 236,O AB [[v1],[v2]] 234,AQ 242 AM v1 (G.get AJ),AQ 57 AP v2 (G.get AO),O g [[Value.map (some i)],[Value.map (some j)]] 234,Ap Tryz.prog 242 AM Am i ag (G.get L.rows),Ap Tryz.prog 57 AP Am j ah (G.get L.jo)]) (d.pick [1,0,2,3,4,5,6,7,8,9,10,11,12,13]) q,?_⟩
  have bd:aA.n=1:=aX
  refine A7 ?_
  intro W d
  subst N
  have ad:G.through (B0 z.w Z AJ AO fr) (f+1) Ar Bg c u r s=none:=by
   rw[Kg aa ae];rw[az];simp only[Option.bind_some];exact if_neg (fun aY=>by have:=congrArg Jc.l aY;first|contradiction|(exact absurd this (by assumption)))
  refine⟨fun H R=>(by rw[ad]at R;cases R),fun _=>?_⟩
  exact⟨aA,aW,ai,D,by omega,by omega,d.pick [0,2,3,1]⟩
 refine A7 ?_
 intro W d
 subst N
 have ad:G.through (B0 z.w Z AJ AO fr) (f+1) Ar Bg c u r s=some L:=by rw[Kg aa ae,az];simp only[Option.bind_some];exact if_pos (by apply Jc.ext;first|assumption|(apply Classical.byContradiction;assumption))
 refine⟨fun H R=>?_,fun aB=>by rw[ad]at aB;cases aB⟩
 rw[ad]at R
 cases R
 exact⟨ai,ag,ah,D,by omega,by omega,by omega,d.pick [0,1,2,6,7,8,9,10,11,12]⟩
theorem eb(Q Ac AB g i j:Nat)(v1 v2:Value)(z:Dl)(C m:BX)(Av:Nat)(Z:Nat→Option Bf)(AJ:List (G.Ae×Nat))(AO:List (Jc×Nat))(fr:Nat)(hw:z.w≤32)(CM:∀p x,Z p=some x→Ge x∧2≤p∧p≤4096)(hOr:∀q p,G.get AJ q=some p→∃c,EX Z (257 - q.b) p q.b c)(av:∀k p,G.get AO k=some p→∃x,Z p=some x)(f:Nat)(aw:∀(B:BX) (Ar Bg c o t h:Nat) (u:Jc) (r:G.Ae) (s:G.B4) (w:World) (an:BE [Ay Q z C m AE B,A1 z.w B,AN z.AU Av Z,O Ac [[S Q],[S AB],[S g],[E fr],[E s.A4]] 236,O AB [[v1],[v2]] 234,AQ 242 AM v1 (G.get AJ),AQ 57 AP v2 (G.get AO),O g [[Value.map (some i)],[Value.map (some j)]] 234,Ap Tryz.prog 242 AM Am i o (G.get s.rows),Ap Tryz.prog 57 AP Am j t (G.get s.jo)] w) (A5:CG w) (ax:∀k,CB k→¬A6 [Ay Q z C m AE B,A1 z.w B,AN z.AU Av Z,O Ac [[S Q],[S AB],[S g],[E fr],[E s.A4]] 236,O AB [[v1],[v2]] 234,AQ 242 AM v1 (G.get AJ),AQ 57 AP v2 (G.get AO),O g [[Value.map (some i)],[Value.map (some j)]] 234,Ap Tryz.prog 242 AM Am i o (G.get s.rows),Ap Tryz.prog 57 AP Am j t (G.get s.jo)] k) (aC:Bg≤f) (J:h+r.b=257) (aD:1≤h) (aE:Ar≤1048576) (aF:Bg≤1048576) (aG:o+h*c≤1099511627776) (aH:t+h*c≤1099511627776) (aI:s.A4≤2097152),Calls Tryz.prog 118 #[S Ac,Value.agg (flat [[E Ar],[E Bg],[E c],bv u.l]),AM r] w fun e W=>(∀H,G.through (B0 z.w Z AJ AO fr) f Ar Bg c u r s=some H→∃P aj ak,e=.returned (.bool true)∧aj≤o+h*c∧ak≤t+h*c∧H.A4≤2097152∧Sat (A6 [Ay Q z C m AE B,A1 z.w B,AN z.AU Av Z,O Ac [[S Q],[S AB],[S g],[E fr],[E s.A4]] 236,O AB [[v1],[v2]] 234,AQ 242 AM v1 (G.get AJ),AQ 57 AP v2 (G.get AO),O g [[Value.map (some i)],[Value.map (some j)]] 234,Ap Tryz.prog 242 AM Am i o (G.get s.rows),Ap Tryz.prog 57 AP Am j t (G.get s.jo)]) w [Ay Q z C m AE P,A1 z.w P,AN z.AU Av Z,O Ac [[S Q],[S AB],[S g],[E fr],[E H.A4]] 236,O AB [[v1],[v2]] 234,AQ 242 AM v1 (G.get AJ),AQ 57 AP v2 (G.get AO),O g [[Value.map (some i)],[Value.map (some j)]] 234,Ap Tryz.prog 242 AM Am i aj (G.get H.rows),Ap Tryz.prog 57 AP Am j ak (G.get H.jo)] W)∧(G.through (B0 z.w Z AJ AO fr) f Ar Bg c u r s=none→∃K ar P,e=.returned (.bool false)∧1≤K.n∧K.n≤1048576∧Sat (A6 [Ay Q z C m AE B,A1 z.w B,AN z.AU Av Z,O Ac [[S Q],[S AB],[S g],[E fr],[E s.A4]] 236,O AB [[v1],[v2]] 234,AQ 242 AM v1 (G.get AJ),AQ 57 AP v2 (G.get AO),O g [[Value.map (some i)],[Value.map (some j)]] 234,Ap Tryz.prog 242 AM Am i o (G.get s.rows),Ap Tryz.prog 57 AP Am j t (G.get s.jo)]) w [Ay Q z C m K P,A1 z.w P,AN z.AU Av Z,Ae 195 2 (I K.p K.n K.c) K.n (Aq BQ ar)] W))(B:BX)(Ar Bg c o t h:Nat)(u:Jc)(r:G.Ae)(s:G.B4)(x:Bf)(w:World)(an:BE [Ay Q z C m AE B,A1 z.w B,AN z.AU Av Z,O Ac [[S Q],[S AB],[S g],[E fr],[E s.A4]] 236,O AB [[v1],[v2]] 234,AQ 242 AM v1 (G.get AJ),AQ 57 AP v2 (G.get AO),O g [[Value.map (some i)],[Value.map (some j)]] 234,Ap Tryz.prog 242 AM Am i o (G.get s.rows),Ap Tryz.prog 57 AP Am j t (G.get s.jo)] w)(A5:CG w)(ax:∀k,CB k→¬A6 [Ay Q z C m AE B,A1 z.w B,AN z.AU Av Z,O Ac [[S Q],[S AB],[S g],[E fr],[E s.A4]] 236,O AB [[v1],[v2]] 234,AQ 242 AM v1 (G.get AJ),AQ 57 AP v2 (G.get AO),O g [[Value.map (some i)],[Value.map (some j)]] 234,Ap Tryz.prog 242 AM Am i o (G.get s.rows),Ap Tryz.prog 57 AP Am j t (G.get s.jo)] k)(aC:Bg≤f+1)(J:h+r.b=257)(aD:2≤h)(aE:Ar≤1048576)(aF:Bg≤1048576)(aG:o+h*c≤1099511627776)(aH:t+h*c≤1099511627776)(aI:s.A4≤2097152)(aa:Z Ar=some x)(al:¬x.kd=1)(V:Ge x)(ae:G.E7 (B0 z.w Z AJ AO fr) Ar Bg c r=true)(aZ:Ar<Bg)(a0:(h - 1)*x.lc+(h - 1)*x.rc+1≤h*c):Calls Tryz.prog 118 #[S Ac,Value.agg (flat [[E Ar],[E Bg],[E c],bv u.l]),Value.agg (flat [[E r.b],bv r.k.l])] w fun e W=>(∀H,G.through (B0 z.w Z AJ AO fr) (f+1) Ar Bg c u r s=some H→∃P aj ak,e=.returned (.bool true)∧aj≤o+h*c∧ak≤t+h*c∧H.A4≤2097152∧Sat (A6 [Ay Q z C m AE B,A1 z.w B,AN z.AU Av Z,O Ac [[S Q],[S AB],[S g],[E fr],[E s.A4]] 236,O AB [[v1],[v2]] 234,AQ 242 AM v1 (G.get AJ),AQ 57 AP v2 (G.get AO),O g [[Value.map (some i)],[Value.map (some j)]] 234,Ap Tryz.prog 242 AM Am i o (G.get s.rows),Ap Tryz.prog 57 AP Am j t (G.get s.jo)]) w [Ay Q z C m AE P,A1 z.w P,AN z.AU Av Z,O Ac [[S Q],[S AB],[S g],[E fr],[E H.A4]] 236,O AB [[v1],[v2]] 234,AQ 242 AM v1 (G.get AJ),AQ 57 AP v2 (G.get AO),O g [[Value.map (some i)],[Value.map (some j)]] 234,Ap Tryz.prog 242 AM Am i aj (G.get H.rows),Ap Tryz.prog 57 AP Am j ak (G.get H.jo)] W)∧(G.through (B0 z.w Z AJ AO fr) (f+1) Ar Bg c u r s=none→∃K ar P,e=.returned (.bool false)∧1≤K.n∧K.n≤1048576∧Sat (A6 [Ay Q z C m AE B,A1 z.w B,AN z.AU Av Z,O Ac [[S Q],[S AB],[S g],[E fr],[E s.A4]] 236,O AB [[v1],[v2]] 234,AQ 242 AM v1 (G.get AJ),AQ 57 AP v2 (G.get AO),O g [[Value.map (some i)],[Value.map (some j)]] 234,Ap Tryz.prog 242 AM Am i o (G.get s.rows),Ap Tryz.prog 57 AP Am j t (G.get s.jo)]) w [Ay Q z C m K P,A1 z.w P,AN z.AU Av Z,Ae 195 2 (I K.p K.n K.c) K.n (Aq BQ ar)] W):=by
 have af:∀F,A6 [Ay Q z C m AE B,A1 z.w B,AN z.AU Av Z,O Ac [[S Q],[S AB],[S g],[E fr],[E s.A4]] 236,O AB [[v1],[v2]] 234,AQ 242 AM v1 (G.get AJ),AQ 57 AP v2 (G.get AO),O g [[Value.map (some i)],[Value.map (some j)]] 234,Ap Tryz.prog 242 AM Am i o (G.get s.rows),Ap Tryz.prog 57 AP Am j t (G.get s.jo)]=F→∀k,CB k→¬F k:=fun F N k al q=>ax k al (N▸q)
 have a1:=V.v
 have a2:=V.l
 have a3:=V.r
 have a4:=V.z
 refine Cb an IC D 106 fun F N=>Je<|Jh<|U<|Cv D fun T=>U<|Cv D fun X=>M ?_
 refine Af (BN DS 1 D D)<|Af (BN DY 0 D D)<|U<|Cx Pa D [2,4,5] (H1:=[Ay Q z C m AE B,AN z.AU Av Z,O Ac [[S Q],[S AB],[S g],[E fr],[E s.A4]] 236]) (fun w an=>(So Q Ac AB g z C m AE B Av Z AJ AO fr s.A4 Ar Bg c u r (fun p x h=>(CM p x h).1) w an).mono fun e W q=>⟨q.1.trans (by rw[ae]),q.2⟩)<|Af (fun _ _ A d=>CE A (b:=true) D)<|M ?_
 refine CQ [0,1,2,3,4,5,6,7,8,9,10,11]<|Ab 0 D (AA D)<|Ab 1 D (Bp D)<|Ab 2 D (AS C9 0 D)<|Ab 3 D (Bb Gb 5 0 D D D)<|Ab 4 D (Bp D)<|Ab 5 D (AS C2 6 D)<|Ab 6 D (Bb FN 2 6 D D D)<|Ab 7 D (AS DS 0 D)<|Ab 8 D (Bb AF 1 0 D D D)<|Ab 9 D (GN FN (fun w d=>d.KP 4) Fg Fe (a:=Ar) (Fb (by omega)) D D J_ (by rw[aa]))<|Bh 10 D<|Bw [[E 0],[E 0],[E 0],[E 0],[E 0],Ak 32,Ak 32,Ak 32,[I none 0 0]] fun Y=>A8 [1,2,3,4,5,6,7,8,9,10,11,12]<|Bh 11 D<|Bk 0 0 9 D D D<|?_
 refine A8 [1,2,3,4,5,6,7,8,9,10,11,12]<|Cm<|Jf<|Gq (fun a W=>∃(L:G.B4) (ag:Nat) (ah:Nat) (ab:BX),AH 106 a (Jb (Jb (Jb (Jb Jk 0 (S Ac)) 4 (S T)) 5 (S X)) 7 (S Y))∧Sat F w [O Y [[E x.kd],[E x.l],[E x.r],[E x.lc],[E x.rc],bv x.ls.l,bv x.rs.l,bv x.k.l,[I x.s.p x.s.v.length x.s.c]] 99,O X [[E r.b],bv r.k.l] 242,O T [[E Ar],[E Bg],[E c],bv u.l] 240,Ay Q z C m AE ab,A1 z.w ab,AN z.AU Av Z,O Ac [[S Q],[S AB],[S g],[E fr],[E L.A4]] 236,O AB [[v1],[v2]] 234,AQ 242 AM v1 (G.get AJ),AQ 57 AP v2 (G.get AO),O g [[Value.map (some i)],[Value.map (some j)]] 234,Ap Tryz.prog 242 AM Am i ag (G.get L.rows),Ap Tryz.prog 57 AP Am j ah (G.get L.jo)] W∧HO (B0 z.w Z AJ AO fr) f Ar x.AW r s=some L∧(ag≤o+h*c∧ah≤t+h*c∧L.A4≤2097152)) ?_ ?_
 ·
  refine Je<|GR<|zs (AS DS 0 D)<|zs (Bb AF 2 0 D D D)<|zs (AA D)<|zs (Bp D)<|zs (AS C9 3 D)<|zs (Bb AF 6 3 D D D)<|zs (Rn D D)<|CS<|Jf<|Cz D (fun aJ=>?_) fun aJ=>?_
  ·
   refine Je<|GR<|zs (AA D)<|zs (Bp D)<|zs (AS C9 1 D)<|zs (Bb Ha 6 1 D D D)<|zs (Bp D)<|zs (AS Il 0 D)<|zs (Bb GM 7 0 D D D)<|zs (BN DY 1 D D)<|zs (O2 GM 8 D Lb Le (a:=r) (Lg (by omega)) D D)<|zs (AS DS 0 D)<|zs (Bb AF 2 0 D D D)<|zs (Pz D D)<|zs (Ck D)<|CS<|Jf<|Gq (fun a W=>∃(Ad:Bool),AH 106 a (Jb (Jb (Jb (Jb (Jb (Jb Jk 0 (S Ac)) 4 (S T)) 5 (S X)) 6 (C' false)) 7 (S Y)) 8 (C' Ad))∧Sat F w [O Y [[E x.kd],[E x.l],[E x.r],[E x.lc],[E x.rc],bv x.ls.l,bv x.rs.l,bv x.k.l,[I x.s.p x.s.v.length x.s.c]] 99,O X [[E r.b],bv r.k.l] 242,O T [[E Ar],[E Bg],[E c],bv u.l] 240,Ay Q z C m AE B,A1 z.w B,AN z.AU Av Z,O Ac [[S Q],[S AB],[S g],[E fr],[E s.A4]] 236,O AB [[v1],[v2]] 234,AQ 242 AM v1 (G.get AJ),AQ 57 AP v2 (G.get AO),O g [[Value.map (some i)],[Value.map (some j)]] 234,Ap Tryz.prog 242 AM Am i o (G.get s.rows),Ap Tryz.prog 57 AP Am j t (G.get s.jo)] W∧Ad=G.G8 (B0 z.w Z AJ AO fr) Ar x.AW r) ?_ ?_
   ·
    refine Je<|Jh<|AG B7 0 D<|AZ AF 0 0 D D D<|Gi (by omega) D D<|M ?_
    exact fun a W A d=>⟨decide (((((G.get AJ) r).getD 0:Nat):Int)=((Ar:Nat):Int)),AY A,d.pick [0,1,2,3,4,5,6,7,8,9,10,11,12],(by unfold G.G8;rw[if_neg (show¬x.AW.kd=1 from al)];show _=decide ((G.get AJ r).getD 0=Ar);exact decide_eq_decide.2 (by constructor<;>intro a5<;>omega))⟩
   rintro a W ⟨Ad,A,d,au⟩;revert a W
   refine M ?_
   refine Af (fun _ _ A d=>CE A (b:=Ad) D)<|Jg<|Jf<|J9 D (fun ao=>?_) fun ao=>?_
   ·
    refine Je<|DD 6<|zs (AA D)<|zs (Bp D)<|zs (AS C9 0 D)<|zs (Bb Gb 6 0 D D D)<|zs (AS DS 1 D)<|zs (Bb AF 2 1 D D D)<|CS<|U<|?_
    refine Dr 195 2 (Aq BQ [])<|?_
    refine Ba EV D (fun w d=>EZ Q z C m AE B Bg 172 ([]) w (d.Ad (H1:=[Ay Q z C m AE B,Ae 195 2 (I none 0 0) 0 (Aq BQ ([]))]) [4,0])) fun _ e W d ⟨ay,aK,he,aL,q⟩=>⟨_,_,he,Sat.call (H1:=[Ay Q z C m AE B,Ae 195 2 (I none 0 0) 0 (Aq BQ ([]))]) (H2:=[O Y [[E x.kd],[E x.l],[E x.r],[E x.lc],[E x.rc],bv x.ls.l,bv x.rs.l,bv x.k.l,[I x.s.p x.s.v.length x.s.c]] 99,O X [[E r.b],bv r.k.l] 242,O T [[E Ar],[E Bg],[E c],bv u.l] 240,A1 z.w B,AN z.AU Av Z,O Ac [[S Q],[S AB],[S g],[E fr],[E s.A4]] 236,O AB [[v1],[v2]] 234,AQ 242 AM v1 (G.get AJ),AQ 57 AP v2 (G.get AO),O g [[Value.map (some i)],[Value.map (some j)]] 234,Ap Tryz.prog 242 AM Am i o (G.get s.rows),Ap Tryz.prog 57 AP Am j t (G.get s.jo)]) (d.pick [4,0,1,2,3,5,6,7,8,9,10,11,12,13]) q,?_⟩
    have a6:ay.n=1:=aL
    refine A7 ?_
    intro W d
    subst N
    have ad:G.through (B0 z.w Z AJ AO fr) (f+1) Ar Bg c u r s=none:=by
     rw[Kg aa ae];unfold HO;rw[if_pos (show Ar<(B0 z.w Z AJ AO fr).fr from by show Ar<fr;omega),if_neg (by rw[←au];revert ao;cases Ad<;>decide)];rfl
    refine⟨fun H R=>(by rw[ad]at R;cases R),fun _=>?_⟩
    exact⟨ay,aK,B,D,by omega,by omega,d.pick [0,5,6,1]⟩
   refine M ?_
   refine AG DS 0 D<|AZ AF 2 0 D D D<|Af (BN DY 1 D D)<|U<|?_
   refine Ba Np D (fun w d=>Vc Q Ac AB g i j z C m AE B Av Z fr s.A4 h Ar c o t r s w (d.Ad (H1:=[Ay Q z C m AE B,AN z.AU Av Z,O Ac [[S Q],[S AB],[S g],[E fr],[E s.A4]] 236,O g [[Value.map (some i)],[Value.map (some j)]] 234,Ap Tryz.prog 242 AM Am i o (G.get s.rows),Ap Tryz.prog 57 AP Am j t (G.get s.jo)]) [3,5,6,10,11,12]) (by omega) (Rs CM hOr aa ae (by rw[←au];revert ao;cases Ad<;>decide) (by omega)) (by omega) (by omega)) fun _ e W d ⟨aM,aN,he,a7,a8,q⟩=>⟨_,_,he,Sat.call (H1:=[Ay Q z C m AE B,AN z.AU Av Z,O Ac [[S Q],[S AB],[S g],[E fr],[E s.A4]] 236,O g [[Value.map (some i)],[Value.map (some j)]] 234,Ap Tryz.prog 242 AM Am i o (G.get s.rows),Ap Tryz.prog 57 AP Am j t (G.get s.jo)]) (H2:=[O Y [[E x.kd],[E x.l],[E x.r],[E x.lc],[E x.rc],bv x.ls.l,bv x.rs.l,bv x.k.l,[I x.s.p x.s.v.length x.s.c]] 99,O X [[E r.b],bv r.k.l] 242,O T [[E Ar],[E Bg],[E c],bv u.l] 240,A1 z.w B,O AB [[v1],[v2]] 234,AQ 242 AM v1 (G.get AJ),AQ 57 AP v2 (G.get AO)]) (d.pick [3,5,6,10,11,12,0,1,2,4,7,8,9]) q,?_⟩
   refine Jg<|?_
   refine FO 2 [[S Q],[S AB],[S g],[E fr],[E ((G.Bn (fun p=>(Z p).map Bf.AW) h Ar r s).A4)]] D (by rw[NJ])<|Jf<|?_
   exact fun a W A d=>⟨G.Bn (fun p=>(Z p).map Bf.AW) h Ar r s,aM,aN,B,AY A,d.pick [6,7,8,0,9,1,2,10,11,12,3,4,5],(by unfold HO;rw[if_pos (show Ar<(B0 z.w Z AJ AO fr).fr from by show Ar<fr;omega),if_pos (by rw[←au];revert ao;cases Ad<;>decide),show 257 - r.b=h by omega];rfl),by refine⟨?_,?_,?_⟩<;>first|omega|(rw[NJ];omega)⟩
  refine Je<|?_
  cases aq:Fh (B0 z.w Z AJ AO fr) f Ar x.AW r s with
  |none=>
   refine Jh<|Jd D<|AG DS 0 D<|AZ AF 2 0 D D D<|Af (BN B7 0 D D)<|Af (BN DY 1 D D)<|U<|?_
   refine Ba Nm D (fun w d=>(UY Q Ac AB g i j v1 v2 z C m Av Z AJ AO fr hw CM hOr av f aw B Ar o t h r s x w (d.Ad (H1:=[Ay Q z C m AE B,A1 z.w B,AN z.AU Av Z,O Ac [[S Q],[S AB],[S g],[E fr],[E s.A4]] 236,O AB [[v1],[v2]] 234,AQ 242 AM v1 (G.get AJ),AQ 57 AP v2 (G.get AO),O g [[Value.map (some i)],[Value.map (some j)]] 234,Ap Tryz.prog 242 AM Am i o (G.get s.rows),Ap Tryz.prog 57 AP Am j t (G.get s.jo)]) [3,4,5,6,7,8,9,10,11,12]) (A5.sat d (af F N)) (d.Eb A5 (af F N) [3,4,5,6,7,8,9,10,11,12]) (by omega) (by omega) (by omega) aa al (by omega) (by omega) (by omega) (by omega) (by omega) (by omega)).mono fun e W q=>q.2 aq) fun _ e W d ⟨aO,aP,aQ,he,a9,a_,q⟩=>⟨_,_,he,Sat.call (H1:=[Ay Q z C m AE B,A1 z.w B,AN z.AU Av Z,O Ac [[S Q],[S AB],[S g],[E fr],[E s.A4]] 236,O AB [[v1],[v2]] 234,AQ 242 AM v1 (G.get AJ),AQ 57 AP v2 (G.get AO),O g [[Value.map (some i)],[Value.map (some j)]] 234,Ap Tryz.prog 242 AM Am i o (G.get s.rows),Ap Tryz.prog 57 AP Am j t (G.get s.jo)]) (H2:=[O Y [[E x.kd],[E x.l],[E x.r],[E x.lc],[E x.rc],bv x.ls.l,bv x.rs.l,bv x.k.l,[I x.s.p x.s.v.length x.s.c]] 99,O X [[E r.b],bv r.k.l] 242,O T [[E Ar],[E Bg],[E c],bv u.l] 240]) (d.pick [3,4,5,6,7,8,9,10,11,12,0,1,2]) q,?_⟩
   refine Af (fun _ _ A d=>CE A (b:=false) D)<|A7 ?_
   intro W d
   subst N
   have ad:G.through (B0 z.w Z AJ AO fr) (f+1) Ar Bg c u r s=none:=by
    rw[Kg aa ae];unfold HO;rw[if_neg (show¬Ar<(B0 z.w Z AJ AO fr).fr from by show¬Ar<fr;omega),aq];rfl
   refine⟨fun H R=>(by rw[ad]at R;cases R),fun _=>?_⟩
   exact⟨aO,aP,aQ,D,by omega,by omega,d.pick [0,1,2,3]⟩
  |some aR=>
   refine Jh<|Jd D<|AG DS 0 D<|AZ AF 2 0 D D D<|Af (BN B7 0 D D)<|Af (BN DY 1 D D)<|U<|?_
   refine Ba Nm D (fun w d=>(UY Q Ac AB g i j v1 v2 z C m Av Z AJ AO fr hw CM hOr av f aw B Ar o t h r s x w (d.Ad (H1:=[Ay Q z C m AE B,A1 z.w B,AN z.AU Av Z,O Ac [[S Q],[S AB],[S g],[E fr],[E s.A4]] 236,O AB [[v1],[v2]] 234,AQ 242 AM v1 (G.get AJ),AQ 57 AP v2 (G.get AO),O g [[Value.map (some i)],[Value.map (some j)]] 234,Ap Tryz.prog 242 AM Am i o (G.get s.rows),Ap Tryz.prog 57 AP Am j t (G.get s.jo)]) [3,4,5,6,7,8,9,10,11,12]) (A5.sat d (af F N)) (d.Eb A5 (af F N) [3,4,5,6,7,8,9,10,11,12]) (by omega) (by omega) (by omega) aa al (by omega) (by omega) (by omega) (by omega) (by omega) (by omega)).mono fun e W q=>q.1 _ aq) fun _ e W d ⟨aS,aT,aU,he,a',ba,bb,q⟩=>⟨_,_,he,Sat.call (H1:=[Ay Q z C m AE B,A1 z.w B,AN z.AU Av Z,O Ac [[S Q],[S AB],[S g],[E fr],[E s.A4]] 236,O AB [[v1],[v2]] 234,AQ 242 AM v1 (G.get AJ),AQ 57 AP v2 (G.get AO),O g [[Value.map (some i)],[Value.map (some j)]] 234,Ap Tryz.prog 242 AM Am i o (G.get s.rows),Ap Tryz.prog 57 AP Am j t (G.get s.jo)]) (H2:=[O Y [[E x.kd],[E x.l],[E x.r],[E x.lc],[E x.rc],bv x.ls.l,bv x.rs.l,bv x.k.l,[I x.s.p x.s.v.length x.s.c]] 99,O X [[E r.b],bv r.k.l] 242,O T [[E Ar],[E Bg],[E c],bv u.l] 240]) (d.pick [3,4,5,6,7,8,9,10,11,12,0,1,2]) q,?_⟩
   refine Af (fun _ _ A d=>CE A (b:=true) D)<|M ?_
   exact fun a W A d=>⟨aR,aT,aU,aS,AY A,d.pick [10,11,12,0,1,2,3,4,5,6,7,8,9],(by unfold HO;rw[if_neg (show¬Ar<(B0 z.w Z AJ AO fr).fr from by show¬Ar<fr;omega)];first|done|exact aq),by refine⟨?_,?_,?_⟩<;>first|omega|(rw[NJ];omega)⟩
 rintro a W ⟨L,ag,ah,ab,A,d,az,bc⟩;revert a W
 refine Je<|Je<|?_
 refine CQ [0,1,2,5,6,7,8,9,10,11,12]<|Ab 0 D (AA D)<|Ab 1 D (Bp D)<|Ab 2 D (AS C9 0 D)<|Ab 3 D (Bb Gb 4 0 D D D)<|Ab 4 D (BN B7 0 D D)<|Ab 5 D (AS DY 0 D)<|Ab 6 D (Bb AF 1 0 D D D)<|Ab 7 D (HS (p:=256) D D)<|Ab 9 D (AS DS 3 D)<|Ab 10 D (DH B5 2 3 1 [bv u.l] D D)<|Bh 8 D<|?_
 refine Ba Qw D (fun w d=>U6 Q z C m AE ab (256 - r.b) Av Z x w (d.Ad (H1:=[Ay Q z C m AE ab,A1 z.w ab,AN z.AU Av Z]) [3,4,5]) aa (A5.sat d (af F N)) (d.Eb A5 (af F N) [3,4,5]) (by omega) (by omega) (by omega) (by omega)) fun _ e W d ⟨he,ai,q⟩=>⟨_,_,he,Sat.call (H1:=[Ay Q z C m AE ab,A1 z.w ab,AN z.AU Av Z]) (H2:=[O Y [[E x.kd],[E x.l],[E x.r],[E x.lc],[E x.rc],bv x.ls.l,bv x.rs.l,bv x.k.l,[I x.s.p x.s.v.length x.s.c]] 99,O X [[E r.b],bv r.k.l] 242,O T [[E Ar],[E Bg],[E c],bv u.l] 240,O Ac [[S Q],[S AB],[S g],[E fr],[E L.A4]] 236,O AB [[v1],[v2]] 234,AQ 242 AM v1 (G.get AJ),AQ 57 AP v2 (G.get AO),O g [[Value.map (some i)],[Value.map (some j)]] 234,Ap Tryz.prog 242 AM Am i ag (G.get L.rows),Ap Tryz.prog 57 AP Am j ah (G.get L.jo)]) (d.pick [3,4,5,0,1,2,6,7,8,9,10,11,12]) q,?_⟩
 refine A8 [3,4,5,2,6,7,8,9,10,11,12]<|?_
 refine Ab 11 D (fun _ _ A d=>Qj A (G.Hw z.w x.AW (256 - r.b)).h u.h D D _ D)<|Cm<|Jf<|HI D (fun aV=>?_) fun aV=>?_
 ·
  refine Je<|DD 6<|zs (AA D)<|zs (Bp D)<|zs (AS C9 0 D)<|zs (Bb Gb 6 0 D D D)<|zs (AS DS 1 D)<|zs (Bb AF 5 1 D D D)<|CS<|U<|?_
  refine Dr 195 2 (Aq BQ [])<|?_
  refine Ba EV D (fun w d=>EZ Q z C m AE ai Bg 171 ([]) w (d.Ad (H1:=[Ay Q z C m AE ai,Ae 195 2 (I none 0 0) 0 (Aq BQ ([]))]) [1,0])) fun _ e W d ⟨aA,aW,he,aX,q⟩=>⟨_,_,he,Sat.call (H1:=[Ay Q z C m AE ai,Ae 195 2 (I none 0 0) 0 (Aq BQ ([]))]) (H2:=[A1 z.w ai,AN z.AU Av Z,O Y [[E x.kd],[E x.l],[E x.r],[E x.lc],[E x.rc],bv x.ls.l,bv x.rs.l,bv x.k.l,[I x.s.p x.s.v.length x.s.c]] 99,O X [[E r.b],bv r.k.l] 242,O T [[E Ar],[E Bg],[E c],bv u.l] 240,O Ac [[S Q],[S AB],[S g],[E fr],[E L.A4]] 236,O AB [[v1],[v2]] 234,AQ 242 AM v1 (G.get AJ),AQ 57 AP v2 (G.get AO),O g [[Value.map (some i)],[Value.map (some j)]] 234,Ap Tryz.prog 242 AM Am i ag (G.get L.rows),Ap Tryz.prog 57 AP Am j ah (G.get L.jo)]) (d.pick [1,0,2,3,4,5,6,7,8,9,10,11,12,13]) q,?_⟩
  have bd:aA.n=1:=aX
  refine A7 ?_
  intro W d
  subst N
  have ad:G.through (B0 z.w Z AJ AO fr) (f+1) Ar Bg c u r s=none:=by
   rw[Kg aa ae];rw[az];simp only[Option.bind_some];exact if_neg (fun aY=>by have:=congrArg Jc.l aY;first|contradiction|(exact absurd this (by assumption)))
  refine⟨fun H R=>(by rw[ad]at R;cases R),fun _=>?_⟩
  exact⟨aA,aW,ai,D,by omega,by omega,d.pick [0,2,3,1]⟩
 refine A7 ?_
 intro W d
 subst N
 have ad:G.through (B0 z.w Z AJ AO fr) (f+1) Ar Bg c u r s=some L:=by rw[Kg aa ae,az];simp only[Option.bind_some];exact if_pos (by apply Jc.ext;first|assumption|(apply Classical.byContradiction;assumption))
 refine⟨fun H R=>?_,fun aB=>by rw[ad]at aB;cases aB⟩
 rw[ad]at R
 cases R
 exact⟨ai,ag,ah,D,by omega,by omega,by omega,d.pick [0,1,2,6,7,8,9,10,11,12]⟩
theorem Qg(Q Ac AB a d g:Nat)(v1 v2:Value)(z:Dl)(C t:BX)(Av:Nat)(Z:Nat→Option Bf)(AJ:List (G.Ae×Nat))(AO:List (Jc×Nat))(fr:Nat)(hw:z.w≤32)(CM:∀p x,Z p=some x→Ge x∧2≤p∧p≤4096)(hOr:∀q p,G.get AJ q=some p→∃c,EX Z (257 - q.b) p q.b c)(N:∀k p,G.get AO k=some p→∃x,Z p=some x):∀(f:Nat) (B:BX) (Ar Bg c j m h:Nat) (u:Jc) (r:G.Ae) (s:G.B4) (w:World) (A:BE [Ay Q z C t AE B,A1 z.w B,AN z.AU Av Z,O Ac [[S Q],[S AB],[S a],[E fr],[E s.A4]] 236,O AB [[v1],[v2]] 234,AQ 242 AM v1 (G.get AJ),AQ 57 AP v2 (G.get AO),O a [[Value.map (some d)],[Value.map (some g)]] 234,Ap Tryz.prog 242 AM Am d j (G.get s.rows),Ap Tryz.prog 57 AP Am g m (G.get s.jo)] w) (A5:CG w) (D:∀k,CB k→¬A6 [Ay Q z C t AE B,A1 z.w B,AN z.AU Av Z,O Ac [[S Q],[S AB],[S a],[E fr],[E s.A4]] 236,O AB [[v1],[v2]] 234,AQ 242 AM v1 (G.get AJ),AQ 57 AP v2 (G.get AO),O a [[Value.map (some d)],[Value.map (some g)]] 234,Ap Tryz.prog 242 AM Am d j (G.get s.rows),Ap Tryz.prog 57 AP Am g m (G.get s.jo)] k) (R:Bg≤f) (J:h+r.b=257) (K:1≤h) (F:Ar≤1048576) (H:Bg≤1048576) (T:j+h*c≤1099511627776) (U:m+h*c≤1099511627776) (V:s.A4≤2097152),Calls Tryz.prog 118 #[S Ac,Value.agg (flat [[E Ar],[E Bg],[E c],bv u.l]),AM r] w fun e W=>(∀v,G.through (B0 z.w Z AJ AO fr) f Ar Bg c u r s=some v→∃L X Y,e=.returned (.bool true)∧X≤j+h*c∧Y≤m+h*c∧v.A4≤2097152∧Sat (A6 [Ay Q z C t AE B,A1 z.w B,AN z.AU Av Z,O Ac [[S Q],[S AB],[S a],[E fr],[E s.A4]] 236,O AB [[v1],[v2]] 234,AQ 242 AM v1 (G.get AJ),AQ 57 AP v2 (G.get AO),O a [[Value.map (some d)],[Value.map (some g)]] 234,Ap Tryz.prog 242 AM Am d j (G.get s.rows),Ap Tryz.prog 57 AP Am g m (G.get s.jo)]) w [Ay Q z C t AE L,A1 z.w L,AN z.AU Av Z,O Ac [[S Q],[S AB],[S a],[E fr],[E v.A4]] 236,O AB [[v1],[v2]] 234,AQ 242 AM v1 (G.get AJ),AQ 57 AP v2 (G.get AO),O a [[Value.map (some d)],[Value.map (some g)]] 234,Ap Tryz.prog 242 AM Am d X (G.get v.rows),Ap Tryz.prog 57 AP Am g Y (G.get v.jo)] W)∧(G.through (B0 z.w Z AJ AO fr) f Ar Bg c u r s=none→∃y ad L,e=.returned (.bool false)∧1≤y.n∧y.n≤1048576∧Sat (A6 [Ay Q z C t AE B,A1 z.w B,AN z.AU Av Z,O Ac [[S Q],[S AB],[S a],[E fr],[E s.A4]] 236,O AB [[v1],[v2]] 234,AQ 242 AM v1 (G.get AJ),AQ 57 AP v2 (G.get AO),O a [[Value.map (some d)],[Value.map (some g)]] 234,Ap Tryz.prog 242 AM Am d j (G.get s.rows),Ap Tryz.prog 57 AP Am g m (G.get s.jo)]) w [Ay Q z C t y L,A1 z.w L,AN z.AU Av Z,Ae 195 2 (I y.p y.n y.c) y.n (Aq BQ ad)] W):=by
 intro f
 induction f with
 |zero=>
  intro B Ar Bg c j m h u r s w A A5 D R J K F H T U V
  have o:G.E7 (B0 z.w Z AJ AO fr) Ar Bg c r=false:=by
   cases i:Z Ar with
   |none=>exact Qc i
   |some x=>rw[Ic i];exact decide_eq_false (by omega)
  refine(W4 Q Ac AB a d g v1 v2 z C t Av Z AJ AO fr hw CM hOr N B Ar Bg c j m h u r s w A A5 D F H o).mono (fun e W q=>⟨fun v M=>?_,fun _=>q⟩)
  rw[Td o]at M
  cases M
 |succ f aa=>
  intro B Ar Bg c j m h u r s w A A5 D R J K F H T U V
  cases o:G.E7 (B0 z.w Z AJ AO fr) Ar Bg c r with
  |false=>
   refine(W4 Q Ac AB a d g v1 v2 z C t Av Z AJ AO fr hw CM hOr N B Ar Bg c j m h u r s w A A5 D F H o).mono (fun e W q=>⟨fun v M=>?_,fun _=>q⟩)
   rw[Td o]at M
   cases M
  |true=>
   cases i:Z Ar with
   |none=>rw[Qc i]at o;cases o
   |some x=>
    have hl:=o
    rw[Ic i]at hl
    have hl:=of_decide_eq_true hl
    by_cases ab:x.kd=1
    ·exact ct Q Ac AB a d g v1 v2 z C t Av Z AJ AO fr hw CM hOr N f aa B Ar Bg c j m h u r s x w A A5 D R J K F H T U V i ab (CM _ _ i).1 o hl.1 (Vk (CM _ _ i).1 i o K)
    ·exact eb Q Ac AB a d g v1 v2 z C t Av Z AJ AO fr hw CM hOr N f aa B Ar Bg c j m h u r s x w A A5 D R J (by omega) F H T U V i ab (CM _ _ i).1 o hl.1 (Vk (CM _ _ i).1 i o K)
end Go.Proofs.YtaapafoibofbjaaGreatDoor
