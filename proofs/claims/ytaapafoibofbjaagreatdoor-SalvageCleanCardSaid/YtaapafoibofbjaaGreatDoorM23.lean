/- Laws and walks on the road to SalvageClean (part M23). No conditions beyond each law's own. -/
import Derived.Test.YtaapafoibofbjaaGreatDoorM01
import Derived.Test.YtaapafoibofbjaaGreatDoorM22
set_option linter.unusedVariables false
namespace Go.Proofs.YtaapafoibofbjaaGreatDoor
open Go.RowKit
set_option maxRecDepth 100000
set_option maxHeartbeats 1000000
structure Ge (x:Bf):Prop where
 kd:x.kd=1∨x.kd=2
 v:x.s.v.length≤4096
 lc:x.lc≤4096
 rc:x.rc≤4096
 l:x.l≤4096
 r:x.r≤4096
 b:x.kd=2→1≤x.lc+x.rc
 z:x.kd=1→x.l=0∧x.r=0∧x.lc=0∧x.rc=0
theorem Vm{P:Program}{N:Nat}{f:BW}{F:Nat→Prop}{w0:World}{H:List Atom}{o:Oper}{v BA:Value}(h:BR P N f F w0 H o v)(e:v=BA):BR P N f F w0 H o BA:=e▸h
theorem Tp{W:Nat}{Z:Nat→Option Bf}{AJ:List (G.Ae×Nat)}{AO:List (Jc×Nat)}{fr:Nat}{r:G.Ae}{x:Bf}(a:x.kd=1):G.Ik (B0 W Z AJ AO fr) x.AW r=match G.get AO x.k with|none=>false|some q=>decide ((((Z q).map Bf.AW).getD G.DJ).val=x.s.v):=by
 unfold G.Ik B0
 rw[if_pos (show x.AW.kd=1 from a)]
 rfl
theorem N_{W:Nat}{Z:Nat→Option Bf}{AJ:List (G.Ae×Nat)}{AO:List (Jc×Nat)}{fr:Nat}{r:G.Ae}{x:Bf}(a:¬x.kd=1):G.Ik (B0 W Z AJ AO fr) x.AW r=(decide ((((Z ((G.get AJ r).getD 0)).map Bf.AW).getD G.DJ).kd=2)&&decide ((((Z ((G.get AJ r).getD 0)).map Bf.AW).getD G.DJ).l=x.l)&&decide ((((Z ((G.get AJ r).getD 0)).map Bf.AW).getD G.DJ).r=x.r)):=by
 unfold G.Ik B0
 rw[if_neg (show¬x.AW.kd=1 from a)]
 rfl
def Fh(a:G.Env)(f Ar:Nat)(n:G.Dh)(r:G.Ae)(s:G.B4):Option G.B4:=
 (if n.l=0 then some s else G.through a f n.l Ar n.lc n.ls (G.under r 0) s).bind fun s1=>
 (if n.r=0 then some s1 else G.through a f n.r Ar n.rc n.rs (G.under r 1) s1).bind fun s2=>
 if Ar=s2.A4∧G.Ik a n r=false then some {G.note s2 r Ar n with A4:=s2.A4+1}else none
theorem T0(Q Ac AB g i j:Nat)(v1 v2:Value)(z:Dl)(C m:BX)(Av:Nat)(Z:Nat→Option Bf)(AJ:List (G.Ae×Nat))(AO:List (Jc×Nat))(fr:Nat)(hw:z.w≤32)(CM:∀p x,Z p=some x→Ge x∧2≤p∧p≤4096)(hOr:∀q p,G.get AJ q=some p→∃c,EX Z (257 - q.b) p q.b c)(aG:∀k p,G.get AO k=some p→∃x,Z p=some x)(f:Nat)(aX:∀(B:BX) (Ar Bg c o t h:Nat) (ao:Jc) (r:G.Ae) (s:G.B4) (w:World) (ay:BE [Ay Q z C m AE B,A1 z.w B,AN z.AU Av Z,O Ac [[S Q],[S AB],[S g],[E fr],[E s.A4]] 236,O AB [[v1],[v2]] 234,AQ 242 AM v1 (G.get AJ),AQ 57 AP v2 (G.get AO),O g [[Value.map (some i)],[Value.map (some j)]] 234,Ap Tryz.prog 242 AM Am i o (G.get s.rows),Ap Tryz.prog 57 AP Am j t (G.get s.jo)] w) (A5:CG w) (az:∀k,CB k→¬A6 [Ay Q z C m AE B,A1 z.w B,AN z.AU Av Z,O Ac [[S Q],[S AB],[S g],[E fr],[E s.A4]] 236,O AB [[v1],[v2]] 234,AQ 242 AM v1 (G.get AJ),AQ 57 AP v2 (G.get AO),O g [[Value.map (some i)],[Value.map (some j)]] 234,Ap Tryz.prog 242 AM Am i o (G.get s.rows),Ap Tryz.prog 57 AP Am j t (G.get s.jo)] k) (aH:Bg≤f) (J:h+r.b=257) (aI:1≤h) (aJ:Ar≤1048576) (aY:Bg≤1048576) (aK:o+h*c≤1099511627776) (aL:t+h*c≤1099511627776) (aM:s.A4≤2097152),Calls Tryz.prog 118 #[S Ac,Value.agg (flat [[E Ar],[E Bg],[E c],bv ao.l]),AM r] w fun e W=>(∀L,G.through (B0 z.w Z AJ AO fr) f Ar Bg c ao r s=some L→∃P af ag,e=.returned (.bool true)∧af≤o+h*c∧ag≤t+h*c∧L.A4≤2097152∧Sat (A6 [Ay Q z C m AE B,A1 z.w B,AN z.AU Av Z,O Ac [[S Q],[S AB],[S g],[E fr],[E s.A4]] 236,O AB [[v1],[v2]] 234,AQ 242 AM v1 (G.get AJ),AQ 57 AP v2 (G.get AO),O g [[Value.map (some i)],[Value.map (some j)]] 234,Ap Tryz.prog 242 AM Am i o (G.get s.rows),Ap Tryz.prog 57 AP Am j t (G.get s.jo)]) w [Ay Q z C m AE P,A1 z.w P,AN z.AU Av Z,O Ac [[S Q],[S AB],[S g],[E fr],[E L.A4]] 236,O AB [[v1],[v2]] 234,AQ 242 AM v1 (G.get AJ),AQ 57 AP v2 (G.get AO),O g [[Value.map (some i)],[Value.map (some j)]] 234,Ap Tryz.prog 242 AM Am i af (G.get L.rows),Ap Tryz.prog 57 AP Am j ag (G.get L.jo)] W)∧(G.through (B0 z.w Z AJ AO fr) f Ar Bg c ao r s=none→∃K aq P,e=.returned (.bool false)∧1≤K.n∧K.n≤1048576∧Sat (A6 [Ay Q z C m AE B,A1 z.w B,AN z.AU Av Z,O Ac [[S Q],[S AB],[S g],[E fr],[E s.A4]] 236,O AB [[v1],[v2]] 234,AQ 242 AM v1 (G.get AJ),AQ 57 AP v2 (G.get AO),O g [[Value.map (some i)],[Value.map (some j)]] 234,Ap Tryz.prog 242 AM Am i o (G.get s.rows),Ap Tryz.prog 57 AP Am j t (G.get s.jo)]) w [Ay Q z C m K P,A1 z.w P,AN z.AU Av Z,Ae 195 2 (I K.p K.n K.c) K.n (Aq BQ aq)] W))(B:BX)(Ar o t h:Nat)(r:G.Ae)(s:G.B4)(x:Bf)(w:World)(ay:BE [Ay Q z C m AE B,A1 z.w B,AN z.AU Av Z,O Ac [[S Q],[S AB],[S g],[E fr],[E s.A4]] 236,O AB [[v1],[v2]] 234,AQ 242 AM v1 (G.get AJ),AQ 57 AP v2 (G.get AO),O g [[Value.map (some i)],[Value.map (some j)]] 234,Ap Tryz.prog 242 AM Am i o (G.get s.rows),Ap Tryz.prog 57 AP Am j t (G.get s.jo)] w)(A5:CG w)(az:∀k,CB k→¬A6 [Ay Q z C m AE B,A1 z.w B,AN z.AU Av Z,O Ac [[S Q],[S AB],[S g],[E fr],[E s.A4]] 236,O AB [[v1],[v2]] 234,AQ 242 AM v1 (G.get AJ),AQ 57 AP v2 (G.get AO),O g [[Value.map (some i)],[Value.map (some j)]] 234,Ap Tryz.prog 242 AM Am i o (G.get s.rows),Ap Tryz.prog 57 AP Am j t (G.get s.jo)] k)(aH:Ar≤f)(J:h+r.b=257)(aI:1≤h)(aA:Z Ar=some x)(aa:x.kd=1)(aJ:Ar≤1048576)(aN:x.l=0)(aO:x.r=0)(aK:o+((h - 1)*x.lc+(h - 1)*x.rc+1)≤1099511627776)(aL:t+((h - 1)*x.lc+(h - 1)*x.rc+1)≤1099511627776)(aM:s.A4≤2097152):Calls Tryz.prog 156 #[S Ac,E Ar,Value.agg (flat [[E x.kd],[E x.l],[E x.r],[E x.lc],[E x.rc],bv x.ls.l,bv x.rs.l,bv x.k.l,[I x.s.p x.s.v.length x.s.c]]),Value.agg (flat [[E r.b],bv r.k.l])] w fun e W=>(∀L,Fh (B0 z.w Z AJ AO fr) f Ar x.AW r s=some L→∃P af ag,e=.returned (.bool true)∧af≤o+((h - 1)*x.lc+(h - 1)*x.rc+1)∧ag≤t+((h - 1)*x.lc+(h - 1)*x.rc+1)∧L.A4≤2097152∧Sat (A6 [Ay Q z C m AE B,A1 z.w B,AN z.AU Av Z,O Ac [[S Q],[S AB],[S g],[E fr],[E s.A4]] 236,O AB [[v1],[v2]] 234,AQ 242 AM v1 (G.get AJ),AQ 57 AP v2 (G.get AO),O g [[Value.map (some i)],[Value.map (some j)]] 234,Ap Tryz.prog 242 AM Am i o (G.get s.rows),Ap Tryz.prog 57 AP Am j t (G.get s.jo)]) w [Ay Q z C m AE P,A1 z.w P,AN z.AU Av Z,O Ac [[S Q],[S AB],[S g],[E fr],[E L.A4]] 236,O AB [[v1],[v2]] 234,AQ 242 AM v1 (G.get AJ),AQ 57 AP v2 (G.get AO),O g [[Value.map (some i)],[Value.map (some j)]] 234,Ap Tryz.prog 242 AM Am i af (G.get L.rows),Ap Tryz.prog 57 AP Am j ag (G.get L.jo)] W)∧(Fh (B0 z.w Z AJ AO fr) f Ar x.AW r s=none→∃K aq P,e=.returned (.bool false)∧1≤K.n∧K.n≤1048576∧Sat (A6 [Ay Q z C m AE B,A1 z.w B,AN z.AU Av Z,O Ac [[S Q],[S AB],[S g],[E fr],[E s.A4]] 236,O AB [[v1],[v2]] 234,AQ 242 AM v1 (G.get AJ),AQ 57 AP v2 (G.get AO),O g [[Value.map (some i)],[Value.map (some j)]] 234,Ap Tryz.prog 242 AM Am i o (G.get s.rows),Ap Tryz.prog 57 AP Am j t (G.get s.jo)]) w [Ay Q z C m K P,A1 z.w P,AN z.AU Av Z,Ae 195 2 (I K.p K.n K.c) K.n (Aq BQ aq)] W):=by
 have aZ:∀F,A6 [Ay Q z C m AE B,A1 z.w B,AN z.AU Av Z,O Ac [[S Q],[S AB],[S g],[E fr],[E s.A4]] 236,O AB [[v1],[v2]] 234,AQ 242 AM v1 (G.get AJ),AQ 57 AP v2 (G.get AO),O g [[Value.map (some i)],[Value.map (some j)]] 234,Ap Tryz.prog 242 AM Am i o (G.get s.rows),Ap Tryz.prog 57 AP Am j t (G.get s.jo)]=F→∀k,CB k→¬F k:=fun F ah k aa q=>az k aa (ah▸q)
 refine Cb ay Nm D 159 fun F ah=>Je<|Jh<|U<|Cv D fun R=>U<|Cv D fun T=>Js D<|Jg<|Jf<|Gq (fun a W=>∃(s1:G.B4) (ai:Nat) (aj:Nat) (an:BX),AH 159 a (Jb (Jb (Jb (Jb Jk 0 (S Ac)) 1 (E Ar)) 6 (S R)) 7 (S T))∧Sat F w [O T [[E r.b],bv r.k.l] 242,O R [[E x.kd],[E x.l],[E x.r],[E x.lc],[E x.rc],bv x.ls.l,bv x.rs.l,bv x.k.l,[I x.s.p x.s.v.length x.s.c]] 99,Ay Q z C m AE an,A1 z.w an,AN z.AU Av Z,O Ac [[S Q],[S AB],[S g],[E fr],[E s1.A4]] 236,O AB [[v1],[v2]] 234,AQ 242 AM v1 (G.get AJ),AQ 57 AP v2 (G.get AO),O g [[Value.map (some i)],[Value.map (some j)]] 234,Ap Tryz.prog 242 AM Am i ai (G.get s1.rows),Ap Tryz.prog 57 AP Am j aj (G.get s1.jo)] W∧(if x.AW.l=0 then some s else G.through (B0 z.w Z AJ AO fr) f x.AW.l Ar x.AW.lc x.AW.ls (G.under r 0) s)=some s1∧(ai≤o+(h - 1)*x.lc∧aj≤t+(h - 1)*x.lc∧s1.A4≤2097152)) ?_ ?_
 ·
  refine Je<|?_
  refine CQ [0,1,4]<|Ab 0 D (AS B7 1 D)<|Ab 1 D (Bb AF 1 1 D D D)<|Ab 2 D (GY (by omega) D D)<|Ab 3 D (AA D)<|C3 4 D D D D D D D<|C3 5 D D D D D D D<|C3 6 D D D D D D D<|C3 7 D D D D D D D<|C3 8 D D D D D D D<|C3 9 D D D D D D D<|C3 10 D D D D D D D<|C3 11 D D D D D D D<|C3 12 D D D D D D D<|C3 13 D D D D D D D<|C3 14 D D D D D D D<|C3 15 D D D D D D D<|C3 16 D D D D D D D<|Ab 17 D (EK D D)<|Cm<|M ?_
  exact fun a W N d=>⟨s,o,t,B,AY N,d.pick [0,1,2,3,4,5,6,7,8,9,10,11],by first|exact if_pos (show x.AW.l=0 from aB)|exact if_pos (show x.AW.l=0 from aN)|exact if_neg (show¬x.AW.l=0 from aB)|exact(if_neg (show¬x.AW.l=0 from aB)).trans a0,by refine⟨?_,?_,?_⟩<;>omega⟩
 rintro a W ⟨s1,ai,aj,an,N,d,ar,a1⟩;revert a W
 refine Gq (fun a W=>∃(s2:G.B4) (X:Nat) (Y:Nat) (A:BX),AH 159 a (Jb (Jb (Jb (Jb Jk 0 (S Ac)) 1 (E Ar)) 6 (S R)) 7 (S T))∧Sat F w [O T [[E r.b],bv r.k.l] 242,O R [[E x.kd],[E x.l],[E x.r],[E x.lc],[E x.rc],bv x.ls.l,bv x.rs.l,bv x.k.l,[I x.s.p x.s.v.length x.s.c]] 99,Ay Q z C m AE A,A1 z.w A,AN z.AU Av Z,O Ac [[S Q],[S AB],[S g],[E fr],[E s2.A4]] 236,O AB [[v1],[v2]] 234,AQ 242 AM v1 (G.get AJ),AQ 57 AP v2 (G.get AO),O g [[Value.map (some i)],[Value.map (some j)]] 234,Ap Tryz.prog 242 AM Am i X (G.get s2.rows),Ap Tryz.prog 57 AP Am j Y (G.get s2.jo)] W∧(if x.AW.r=0 then some s1 else G.through (B0 z.w Z AJ AO fr) f x.AW.r Ar x.AW.rc x.AW.rs (G.under r 1) s1)=some s2∧(X≤ai+(h - 1)*x.rc∧Y≤aj+(h - 1)*x.rc∧s2.A4≤2097152)) ?_ ?_
 ·
  refine Je<|?_
  refine CQ [0,1,4]<|Ab 0 D (AS B7 2 D)<|Ab 1 D (Bb AF 1 2 D D D)<|Ab 2 D (GY (by omega) D D)<|Ab 3 D (AA D)<|C3 4 D D D D D D D<|C3 5 D D D D D D D<|C3 6 D D D D D D D<|C3 7 D D D D D D D<|C3 8 D D D D D D D<|C3 9 D D D D D D D<|C3 10 D D D D D D D<|C3 11 D D D D D D D<|C3 12 D D D D D D D<|C3 13 D D D D D D D<|C3 14 D D D D D D D<|C3 15 D D D D D D D<|C3 16 D D D D D D D<|Ab 17 D (EK D D)<|Cm<|M ?_
  exact fun a W N d=>⟨s1,ai,aj,an,AY N,d.pick [0,1,2,3,4,5,6,7,8,9,10,11],by first|exact if_pos (show x.AW.r=0 from aC)|exact if_pos (show x.AW.r=0 from aO)|exact if_neg (show¬x.AW.r=0 from aC)|exact(if_neg (show¬x.AW.r=0 from aC)).trans a2,by refine⟨?_,?_,?_⟩<;>omega⟩
 rintro a W ⟨s2,X,Y,A,N,d,au,a3⟩;revert a W
 refine Je<|Jh<|Js D<|Jg<|Jf<|Gq (fun a W=>∃(ak:Bool),AH 159 a (Jb (Jb (Jb (Jb (Jb Jk 0 (S Ac)) 1 (E Ar)) 6 (S R)) 7 (S T)) 9 (C' ak))∧Sat F w [O T [[E r.b],bv r.k.l] 242,O R [[E x.kd],[E x.l],[E x.r],[E x.lc],[E x.rc],bv x.ls.l,bv x.rs.l,bv x.k.l,[I x.s.p x.s.v.length x.s.c]] 99,Ay Q z C m AE A,A1 z.w A,AN z.AU Av Z,O Ac [[S Q],[S AB],[S g],[E fr],[E s2.A4]] 236,O AB [[v1],[v2]] 234,AQ 242 AM v1 (G.get AJ),AQ 57 AP v2 (G.get AO),O g [[Value.map (some i)],[Value.map (some j)]] 234,Ap Tryz.prog 242 AM Am i X (G.get s2.rows),Ap Tryz.prog 57 AP Am j Y (G.get s2.jo)] W∧ak=G.Ik (B0 z.w Z AJ AO fr) x.AW r) ?_ ?_
 ·
  refine Je<|Jh<|AG B7 0 D<|AZ AF 1 0 D D D<|EU (by omega) D D<|M ?_
  cases ab:G.get AO x.k with
  |none=>
   refine GR<|zs (AA D)<|zs (Bp D)<|zs (AS C9 1 D)<|zs (Bb Ha 5 1 D D D)<|zs (Bp D)<|zs (AS Il 1 D)<|zs (Bb Ln 6 1 D D D)<|zs (AS B7 69 D)<|zs (DH Em 1 7 1 [bv x.k.l] D D)<|zs (Vm (UK Ln 8 D FR O5 (a:=x.k) OB D D) (by simp only[ab];exact D))<|zs (AA D)<|zs (El D D)<|zs (El D D)<|zs (Ck D)<|zs (Ck D)<|CS<|Jf<|G9<|AR (AA D)<|AR (AA D)<|Bq D D D D<|Bq D D D D<|Bq D D D D<|Bq D D D D<|Bq D D D D<|Bq D D D D<|Bq D D D D<|Bq D D D D<|Bq D D D D<|Bq D D D D<|Bq D D D D<|Bq D D D D<|Bq D D D D<|AR (EK D D)<|AR (Ck D)<|Er<|Jf<|?_
   exact fun a W N d=>⟨false,AY N,d.pick [0,1,2,3,4,5,6,7,8,9,10,11],by rw[Tp aa,ab]⟩
  |some q=>
   obtain⟨y,ad⟩:=aG _ _ ab
   have a4:=(CM _ _ ad).2
   refine GR<|zs (AA D)<|zs (Bp D)<|zs (AS Tryz.underlying236 1 D)<|zs (Bb Tryz.underlying230 5 1 D D D)<|zs (Bp D)<|zs (AS Tryz.underlying234 1 D)<|zs (Bb Tryz.underlying232 6 1 D D D)<|zs (AS Tryz.underlying99 69 D)<|zs (DH Tryz.underlying57 1 7 1 [bv x.k.l] D D)<|zs (Vm (UK Tryz.underlying232 8 D FR O5 (a:=x.k) OB D D) (by simp only[ab];exact D))<|zs (AA D)<|zs (El D D)<|zs (El D D)<|zs (Ck D)<|zs (Ck D)<|CS<|Jf<|G9<|AR (AA D)<|AR (AA D)<|B2 D D D<|AR (AA D)<|B2 D D D<|AR (Bp D)<|B2 D D D<|AR (AS Tryz.underlying236 0 D)<|B2 D D D<|AR (Bb Tryz.underlying89 5 0 D D D)<|B2 D D D<|AR (Bp D)<|B2 D D D<|AR (AS Tryz.underlying97 6 D)<|B2 D D D<|AR (Bb Tryz.underlying92 2 6 D D D)<|B2 D D D<|AR (AA D)<|B2 D D D<|AR (GN Tryz.underlying92 (fun w d=>d.KP 4) Fg Fe (a:=q) (Fb (by omega)) D D J_ (by rw[ad]))<|B2 D D D<|AR (Io Tryz.underlying99 8 D D D Tryz.underlying22)<|B2 D D D<|AR (AS Tryz.underlying99 101 D)<|B2 D D D<|AR (Bb Tryz.underlying22 1 8 D D D)<|B2 D D D<|?_
   rcases Bool.eq_false_or_eq_true (decide (y.s.v=x.s.v))with al|al
   ·
    have aP:=of_decide_eq_true al
    refine MB Sl D (fun w d=>al▸XE _ _ _ y.s.v _ _ _ x.s.v w ((OC 4 ad) w d) D ((OC 4 aA) w d) D)<|AR (D' D D)<|AR (Ck D)<|Er<|Jf<|?_
    exact fun a W N d=>⟨true,AY N,d.pick [0,1,2,3,4,5,6,7,8,9,10,11],by rw[Tp aa,ab];simp only[ad,Option.map_some,Option.getD_some,show y.AW.val=y.s.v from D];first|rfl|exact(decide_eq_true (by assumption)).symm|exact(decide_eq_false (by assumption)).symm⟩
   have aP:=of_decide_eq_false al
   refine MB Sl D (fun w d=>al▸XE _ _ _ y.s.v _ _ _ x.s.v w ((OC 4 ad) w d) D ((OC 4 aA) w d) D)<|AR (D' D D)<|AR (Ck D)<|Er<|Jf<|?_
   exact fun a W N d=>⟨false,AY N,d.pick [0,1,2,3,4,5,6,7,8,9,10,11],by rw[Tp aa,ab];simp only[ad,Option.map_some,Option.getD_some,show y.AW.val=y.s.v from D];first|rfl|exact(decide_eq_true (by assumption)).symm|exact(decide_eq_false (by assumption)).symm⟩
 rintro a W ⟨ak,N,d,av⟩;revert a W
 refine M ?_
 refine By D<|AG C9 4 D<|AZ AF 5 4 D D D<|Li D D (fun aQ=>?_) fun aQ=>?_
 ·
  refine M ?_
  refine J9 D (fun aR=>?_) fun aR=>?_
  ·
   refine M ?_
   refine By D<|AG C9 0 D<|AZ Gb 5 0 D D D<|Jd D<|U<|?_
   refine Dr 195 2 (Aq BQ [])<|?_
   refine Ba EV D (fun w d=>EZ Q z C m AE A Ar 172 ([]) w (d.Ad (H1:=[Ay Q z C m AE A,Ae 195 2 (I none 0 0) 0 (Aq BQ ([]))]) [3,0])) fun _ e W d ⟨aD,aS,he,aT,q⟩=>⟨_,_,he,Sat.call (H1:=[Ay Q z C m AE A,Ae 195 2 (I none 0 0) 0 (Aq BQ ([]))]) (H2:=[O T [[E r.b],bv r.k.l] 242,O R [[E x.kd],[E x.l],[E x.r],[E x.lc],[E x.rc],bv x.ls.l,bv x.rs.l,bv x.k.l,[I x.s.p x.s.v.length x.s.c]] 99,A1 z.w A,AN z.AU Av Z,O Ac [[S Q],[S AB],[S g],[E fr],[E s2.A4]] 236,O AB [[v1],[v2]] 234,AQ 242 AM v1 (G.get AJ),AQ 57 AP v2 (G.get AO),O g [[Value.map (some i)],[Value.map (some j)]] 234,Ap Tryz.prog 242 AM Am i X (G.get s2.rows),Ap Tryz.prog 57 AP Am j Y (G.get s2.jo)]) (d.pick [3,0,1,2,4,5,6,7,8,9,10,11,12]) q,?_⟩
   have a5:aD.n=1:=aT
   refine A7 ?_
   intro W d
   subst ah
   have ae:Fh (B0 z.w Z AJ AO fr) f Ar x.AW r s=none:=by
    unfold Fh;rw[ar];simp only[Option.bind_some];rw[au];simp only[Option.bind_some];exact if_neg (fun aw=>by obtain⟨aU,ax⟩:=aw;first|omega|exact Bool.noConfusion ((show ak=true by assumption).symm.trans (av.trans ax)))
   refine⟨fun L V=>(by rw[ae]at V;cases V),fun _=>?_⟩
   exact⟨aD,aS,A,D,by omega,by omega,d.pick [0,4,5,1]⟩
  refine M ?_
  refine By D<|AG C9 4 D<|AZ AF 5 4 D D D<|B6 (q:=1) D D<|By D<|AG C9 4 D<|U<|Cq 5 4 D D D<|?_
  refine Jg<|Jf<|Je<|DD 9<|zs (AA D)<|zs (Bp D)<|zs (AS C9 2 D)<|zs (Bb Ha 5 2 D D D)<|zs (Bp D)<|zs (AS Il 0 D)<|zs (Bb GM 9 0 D D D)<|zs (BN DY 0 D D)<|zs (AA D)<|CS<|U<|KS 10 GM D Lb Le (a:=r) (Lg (by omega)) (u:=Ar) D D D<|M ?_
  refine AG B7 0 D<|AZ AF 1 0 D D D<|EU (by omega) D D<|M ?_
  refine DD 10<|zs (AA D)<|zs (Bp D)<|zs (AS C9 2 D)<|zs (Bb Ha 5 2 D D D)<|zs (Bp D)<|zs (AS Il 1 D)<|zs (Bb Ln 9 1 D D D)<|zs (AS B7 69 D)<|zs (DH Em 1 7 1 [bv x.k.l] D D)<|zs (AA D)<|CS<|U<|KS 11 Ln D FR O5 (a:=x.k) OB (u:=Ar) D D D<|A7 ?_
  intro W d
  subst ah
  have ae:Fh (B0 z.w Z AJ AO fr) f Ar x.AW r s=some {G.note s2 r Ar x.AW with A4:=s2.A4+1}:=by
   unfold Fh;rw[ar];simp only[Option.bind_some];rw[au];simp only[Option.bind_some];rw[if_pos ⟨by omega,by rw[←av];first|done|assumption|exact Bool.eq_false_iff.2 (by assumption)⟩]
  refine⟨fun L V=>?_,fun aE=>by rw[ae]at aE;cases aE⟩
  rw[ae]at V
  cases V
  rw[MT,MT]at d
  exact⟨A,X+1,Y+1,D,by omega,by omega,by show s2.A4+1≤2097152;omega,by unfold G.note;rw[if_pos (show x.AW.kd=1 from aa)];exact d.pick [2,3,4,5,6,7,8,9,10,11]⟩
 refine M ?_
 refine By D<|AG C9 0 D<|AZ Gb 5 0 D D D<|Jd D<|U<|?_
 refine Dr 195 2 (Aq BQ [])<|?_
 refine Ba EV D (fun w d=>EZ Q z C m AE A Ar 172 ([]) w (d.Ad (H1:=[Ay Q z C m AE A,Ae 195 2 (I none 0 0) 0 (Aq BQ ([]))]) [3,0])) fun _ e W d ⟨aF,aV,he,aW,q⟩=>⟨_,_,he,Sat.call (H1:=[Ay Q z C m AE A,Ae 195 2 (I none 0 0) 0 (Aq BQ ([]))]) (H2:=[O T [[E r.b],bv r.k.l] 242,O R [[E x.kd],[E x.l],[E x.r],[E x.lc],[E x.rc],bv x.ls.l,bv x.rs.l,bv x.k.l,[I x.s.p x.s.v.length x.s.c]] 99,A1 z.w A,AN z.AU Av Z,O Ac [[S Q],[S AB],[S g],[E fr],[E s2.A4]] 236,O AB [[v1],[v2]] 234,AQ 242 AM v1 (G.get AJ),AQ 57 AP v2 (G.get AO),O g [[Value.map (some i)],[Value.map (some j)]] 234,Ap Tryz.prog 242 AM Am i X (G.get s2.rows),Ap Tryz.prog 57 AP Am j Y (G.get s2.jo)]) (d.pick [3,0,1,2,4,5,6,7,8,9,10,11,12]) q,?_⟩
 have a6:aF.n=1:=aW
 refine A7 ?_
 intro W d
 subst ah
 have ae:Fh (B0 z.w Z AJ AO fr) f Ar x.AW r s=none:=by
  unfold Fh;rw[ar];simp only[Option.bind_some];rw[au];simp only[Option.bind_some];exact if_neg (fun aw=>by obtain⟨aU,ax⟩:=aw;first|omega|exact Bool.noConfusion ((show ak=true by assumption).symm.trans (av.trans ax)))
 refine⟨fun L V=>(by rw[ae]at V;cases V),fun _=>?_⟩
 exact⟨aF,aV,A,D,by omega,by omega,d.pick [0,4,5,1]⟩
theorem UY(Q Ac AB g i j:Nat)(v1 v2:Value)(z:Dl)(C o:BX)(Av:Nat)(Z:Nat→Option Bf)(AJ:List (G.Ae×Nat))(AO:List (Jc×Nat))(fr:Nat)(hw:z.w≤32)(CM:∀p x,Z p=some x→Ge x∧2≤p∧p≤4096)(hOr:∀q p,G.get AJ q=some p→∃c,EX Z (257 - q.b) p q.b c)(bd:∀k p,G.get AO k=some p→∃x,Z p=some x)(f:Nat)(av:∀(B:BX) (Ar Bg c A H h:Nat) (ax:Jc) (r:G.Ae) (s:G.B4) (w:World) (aF:BE [Ay Q z C o AE B,A1 z.w B,AN z.AU Av Z,O Ac [[S Q],[S AB],[S g],[E fr],[E s.A4]] 236,O AB [[v1],[v2]] 234,AQ 242 AM v1 (G.get AJ),AQ 57 AP v2 (G.get AO),O g [[Value.map (some i)],[Value.map (some j)]] 234,Ap Tryz.prog 242 AM Am i A (G.get s.rows),Ap Tryz.prog 57 AP Am j H (G.get s.jo)] w) (A5:CG w) (aG:∀k,CB k→¬A6 [Ay Q z C o AE B,A1 z.w B,AN z.AU Av Z,O Ac [[S Q],[S AB],[S g],[E fr],[E s.A4]] 236,O AB [[v1],[v2]] 234,AQ 242 AM v1 (G.get AJ),AQ 57 AP v2 (G.get AO),O g [[Value.map (some i)],[Value.map (some j)]] 234,Ap Tryz.prog 242 AM Am i A (G.get s.rows),Ap Tryz.prog 57 AP Am j H (G.get s.jo)] k) (aM:Bg≤f) (J:h+r.b=257) (aN:1≤h) (aO:Ar≤1048576) (bf:Bg≤1048576) (aP:A+h*c≤1099511627776) (aQ:H+h*c≤1099511627776) (aR:s.A4≤2097152),Calls Tryz.prog 118 #[S Ac,Value.agg (flat [[E Ar],[E Bg],[E c],bv ax.l]),AM r] w fun e W=>(∀K,G.through (B0 z.w Z AJ AO fr) f Ar Bg c ax r s=some K→∃Y an ao,e=.returned (.bool true)∧an≤A+h*c∧ao≤H+h*c∧K.A4≤2097152∧Sat (A6 [Ay Q z C o AE B,A1 z.w B,AN z.AU Av Z,O Ac [[S Q],[S AB],[S g],[E fr],[E s.A4]] 236,O AB [[v1],[v2]] 234,AQ 242 AM v1 (G.get AJ),AQ 57 AP v2 (G.get AO),O g [[Value.map (some i)],[Value.map (some j)]] 234,Ap Tryz.prog 242 AM Am i A (G.get s.rows),Ap Tryz.prog 57 AP Am j H (G.get s.jo)]) w [Ay Q z C o AE Y,A1 z.w Y,AN z.AU Av Z,O Ac [[S Q],[S AB],[S g],[E fr],[E K.A4]] 236,O AB [[v1],[v2]] 234,AQ 242 AM v1 (G.get AJ),AQ 57 AP v2 (G.get AO),O g [[Value.map (some i)],[Value.map (some j)]] 234,Ap Tryz.prog 242 AM Am i an (G.get K.rows),Ap Tryz.prog 57 AP Am j ao (G.get K.jo)] W)∧(G.through (B0 z.w Z AJ AO fr) f Ar Bg c ax r s=none→∃N ay Y,e=.returned (.bool false)∧1≤N.n∧N.n≤1048576∧Sat (A6 [Ay Q z C o AE B,A1 z.w B,AN z.AU Av Z,O Ac [[S Q],[S AB],[S g],[E fr],[E s.A4]] 236,O AB [[v1],[v2]] 234,AQ 242 AM v1 (G.get AJ),AQ 57 AP v2 (G.get AO),O g [[Value.map (some i)],[Value.map (some j)]] 234,Ap Tryz.prog 242 AM Am i A (G.get s.rows),Ap Tryz.prog 57 AP Am j H (G.get s.jo)]) w [Ay Q z C o N Y,A1 z.w Y,AN z.AU Av Z,Ae 195 2 (I N.p N.n N.c) N.n (Aq BQ ay)] W))(B:BX)(Ar A H h:Nat)(r:G.Ae)(s:G.B4)(x:Bf)(w:World)(aF:BE [Ay Q z C o AE B,A1 z.w B,AN z.AU Av Z,O Ac [[S Q],[S AB],[S g],[E fr],[E s.A4]] 236,O AB [[v1],[v2]] 234,AQ 242 AM v1 (G.get AJ),AQ 57 AP v2 (G.get AO),O g [[Value.map (some i)],[Value.map (some j)]] 234,Ap Tryz.prog 242 AM Am i A (G.get s.rows),Ap Tryz.prog 57 AP Am j H (G.get s.jo)] w)(A5:CG w)(aG:∀k,CB k→¬A6 [Ay Q z C o AE B,A1 z.w B,AN z.AU Av Z,O Ac [[S Q],[S AB],[S g],[E fr],[E s.A4]] 236,O AB [[v1],[v2]] 234,AQ 242 AM v1 (G.get AJ),AQ 57 AP v2 (G.get AO),O g [[Value.map (some i)],[Value.map (some j)]] 234,Ap Tryz.prog 242 AM Am i A (G.get s.rows),Ap Tryz.prog 57 AP Am j H (G.get s.jo)] k)(aM:Ar≤f)(J:h+r.b=257)(aN:2≤h)(bg:Z Ar=some x)(af:¬x.kd=1)(aO:Ar≤1048576)(aH:x.l≤4096)(aI:x.r≤4096)(aP:A+((h - 1)*x.lc+(h - 1)*x.rc+1)≤1099511627776)(aQ:H+((h - 1)*x.lc+(h - 1)*x.rc+1)≤1099511627776)(aR:s.A4≤2097152):Calls Tryz.prog 156 #[S Ac,E Ar,Value.agg (flat [[E x.kd],[E x.l],[E x.r],[E x.lc],[E x.rc],bv x.ls.l,bv x.rs.l,bv x.k.l,[I x.s.p x.s.v.length x.s.c]]),Value.agg (flat [[E r.b],bv r.k.l])] w fun e W=>(∀K,Fh (B0 z.w Z AJ AO fr) f Ar x.AW r s=some K→∃Y an ao,e=.returned (.bool true)∧an≤A+((h - 1)*x.lc+(h - 1)*x.rc+1)∧ao≤H+((h - 1)*x.lc+(h - 1)*x.rc+1)∧K.A4≤2097152∧Sat (A6 [Ay Q z C o AE B,A1 z.w B,AN z.AU Av Z,O Ac [[S Q],[S AB],[S g],[E fr],[E s.A4]] 236,O AB [[v1],[v2]] 234,AQ 242 AM v1 (G.get AJ),AQ 57 AP v2 (G.get AO),O g [[Value.map (some i)],[Value.map (some j)]] 234,Ap Tryz.prog 242 AM Am i A (G.get s.rows),Ap Tryz.prog 57 AP Am j H (G.get s.jo)]) w [Ay Q z C o AE Y,A1 z.w Y,AN z.AU Av Z,O Ac [[S Q],[S AB],[S g],[E fr],[E K.A4]] 236,O AB [[v1],[v2]] 234,AQ 242 AM v1 (G.get AJ),AQ 57 AP v2 (G.get AO),O g [[Value.map (some i)],[Value.map (some j)]] 234,Ap Tryz.prog 242 AM Am i an (G.get K.rows),Ap Tryz.prog 57 AP Am j ao (G.get K.jo)] W)∧(Fh (B0 z.w Z AJ AO fr) f Ar x.AW r s=none→∃N ay Y,e=.returned (.bool false)∧1≤N.n∧N.n≤1048576∧Sat (A6 [Ay Q z C o AE B,A1 z.w B,AN z.AU Av Z,O Ac [[S Q],[S AB],[S g],[E fr],[E s.A4]] 236,O AB [[v1],[v2]] 234,AQ 242 AM v1 (G.get AJ),AQ 57 AP v2 (G.get AO),O g [[Value.map (some i)],[Value.map (some j)]] 234,Ap Tryz.prog 242 AM Am i A (G.get s.rows),Ap Tryz.prog 57 AP Am j H (G.get s.jo)]) w [Ay Q z C o N Y,A1 z.w Y,AN z.AU Av Z,Ae 195 2 (I N.p N.n N.c) N.n (Aq BQ ay)] W):=by
 have ag:∀F,A6 [Ay Q z C o AE B,A1 z.w B,AN z.AU Av Z,O Ac [[S Q],[S AB],[S g],[E fr],[E s.A4]] 236,O AB [[v1],[v2]] 234,AQ 242 AM v1 (G.get AJ),AQ 57 AP v2 (G.get AO),O g [[Value.map (some i)],[Value.map (some j)]] 234,Ap Tryz.prog 242 AM Am i A (G.get s.rows),Ap Tryz.prog 57 AP Am j H (G.get s.jo)]=F→∀k,CB k→¬F k:=fun F P k af q=>aG k af (P▸q)
 refine Cb aF Nm D 159 fun F P=>Je<|Jh<|U<|Cv D fun V=>U<|Cv D fun X=>Js D<|Jg<|Jf<|Gq (fun a W=>∃(s1:G.B4) (aa:Nat) (ab:Nat) (R:BX),AH 159 a (Jb (Jb (Jb (Jb Jk 0 (S Ac)) 1 (E Ar)) 6 (S V)) 7 (S X))∧Sat F w [O X [[E r.b],bv r.k.l] 242,O V [[E x.kd],[E x.l],[E x.r],[E x.lc],[E x.rc],bv x.ls.l,bv x.rs.l,bv x.k.l,[I x.s.p x.s.v.length x.s.c]] 99,Ay Q z C o AE R,A1 z.w R,AN z.AU Av Z,O Ac [[S Q],[S AB],[S g],[E fr],[E s1.A4]] 236,O AB [[v1],[v2]] 234,AQ 242 AM v1 (G.get AJ),AQ 57 AP v2 (G.get AO),O g [[Value.map (some i)],[Value.map (some j)]] 234,Ap Tryz.prog 242 AM Am i aa (G.get s1.rows),Ap Tryz.prog 57 AP Am j ab (G.get s1.jo)] W∧(if x.AW.l=0 then some s else G.through (B0 z.w Z AJ AO fr) f x.AW.l Ar x.AW.lc x.AW.ls (G.under r 0) s)=some s1∧(aa≤A+(h - 1)*x.lc∧ab≤H+(h - 1)*x.lc∧s1.A4≤2097152)) ?_ ?_
 ·
  refine Je<|?_
  by_cases ai:x.l=0
  ·
   refine CQ [0,1,4]<|Ab 0 D (AS B7 1 D)<|Ab 1 D (Bb AF 1 1 D D D)<|Ab 2 D (GY (by omega) D D)<|Ab 3 D (AA D)<|C3 4 D D D D D D D<|C3 5 D D D D D D D<|C3 6 D D D D D D D<|C3 7 D D D D D D D<|C3 8 D D D D D D D<|C3 9 D D D D D D D<|C3 10 D D D D D D D<|C3 11 D D D D D D D<|C3 12 D D D D D D D<|C3 13 D D D D D D D<|C3 14 D D D D D D D<|C3 15 D D D D D D D<|C3 16 D D D D D D D<|Ab 17 D (EK D D)<|Cm<|M ?_
   exact fun a W m d=>⟨s,A,H,B,AY m,d.pick [0,1,2,3,4,5,6,7,8,9,10,11],by first|exact if_pos (show x.AW.l=0 from ai)|exact if_pos (show x.AW.l=0 from aH)|exact if_neg (show¬x.AW.l=0 from ai)|exact(if_neg (show¬x.AW.l=0 from ai)).trans aq,by refine⟨?_,?_,?_⟩<;>omega⟩
  cases aq:G.through (B0 z.w Z AJ AO fr) f x.AW.l Ar x.AW.lc x.AW.ls (G.under r 0) s with
  |none=>
   refine CQ [0,1,4]<|Ab 0 D (AS B7 1 D)<|Ab 1 D (Bb AF 1 1 D D D)<|Ab 2 D (Hp (by omega) D D)<|Ab 3 D (AA D)<|Dn 4 D D D D (AA D)<|Dn 5 D D D D (AS B7 1 D)<|Dn 6 D D D D (Bb AF 1 1 D D D)<|Dn 7 D D D D (AA D)<|Dn 8 D D D D (AS B7 3 D)<|Dn 9 D D D D (Bb AF 1 3 D D D)<|Dn 10 D D D D (AS B7 5 D)<|Dn 11 D D D D (DH B5 1 5 1 [bv x.ls.l] D D)<|Dn 12 D D D D (fun _ _ m d=>E_ m (BH:=[(0,(E x.l)),(1,(E Ar)),(2,(E x.lc)),(3,(Value.agg (flat [bv x.ls.l])))]) D (r:=flat [[E x.l],[E Ar],[E x.lc],bv x.ls.l]) (E5 DS (ss:=[[E 0],[E 0],[E 0],Ak 32]) (by kernel_rfl) (places:=[(0,1),(1,1),(2,1),(3,32)]) (by kernel_rfl) (B3 [] [[E 0]] [[E 0],[E 0],Ak 32] [[E x.l]] D Ja.nil (Ja.one Ja.nil) (Ja.one Ja.nil) D (B3 [[E x.l]] [[E 0]] [[E 0],Ak 32] [[E Ar]] D (Ja.one Ja.nil) (Ja.one Ja.nil) (Ja.one Ja.nil) D (B3 [[E x.l],[E Ar]] [[E 0]] [Ak 32] [[E x.lc]] D (Ja.one (Ja.one Ja.nil)) (Ja.one Ja.nil) (Ja.one Ja.nil) D (B3 [[E x.l],[E Ar],[E x.lc]] [Ak 32] [] [bv x.ls.l] D (Ja.one (Ja.one (Ja.one Ja.nil))) (Ja.row (Jl 32) Ja.nil) (Ja.row x.ls.row Ja.nil) D D))))))<|Dn 13 D D D D (BN DY 0 D D)<|K8 14 D D D D<|BP MA D (fun w d=>M4 r 0 w)<|A8 [0,1,4]<|K8 15 D D D D<|?_
   refine Ba IC D (fun w d=>(av B x.l Ar x.lc A H (h - 1) x.ls (G.under r 0) s w (d.Ad (H1:=[Ay Q z C o AE B,A1 z.w B,AN z.AU Av Z,O Ac [[S Q],[S AB],[S g],[E fr],[E s.A4]] 236,O AB [[v1],[v2]] 234,AQ 242 AM v1 (G.get AJ),AQ 57 AP v2 (G.get AO),O g [[Value.map (some i)],[Value.map (some j)]] 234,Ap Tryz.prog 242 AM Am i A (G.get s.rows),Ap Tryz.prog 57 AP Am j H (G.get s.jo)]) [2,3,4,5,6,7,8,9,10,11]) (A5.sat d (ag F P)) (d.Eb A5 (ag F P) [2,3,4,5,6,7,8,9,10,11]) (by omega) (by show h - 1+(r.b+1)=257;omega) (by omega) (by omega) (by omega) (by omega) (by omega) (by omega)).mono fun e W q=>q.2 aq) fun _ e W d ⟨aS,aT,Di,he,bh,bj,q⟩=>⟨_,_,he,Sat.call (H1:=[Ay Q z C o AE B,A1 z.w B,AN z.AU Av Z,O Ac [[S Q],[S AB],[S g],[E fr],[E s.A4]] 236,O AB [[v1],[v2]] 234,AQ 242 AM v1 (G.get AJ),AQ 57 AP v2 (G.get AO),O g [[Value.map (some i)],[Value.map (some j)]] 234,Ap Tryz.prog 242 AM Am i A (G.get s.rows),Ap Tryz.prog 57 AP Am j H (G.get s.jo)]) (H2:=[O X [[E r.b],bv r.k.l] 242,O V [[E x.kd],[E x.l],[E x.r],[E x.lc],[E x.rc],bv x.ls.l,bv x.rs.l,bv x.k.l,[I x.s.p x.s.v.length x.s.c]] 99]) (d.pick [2,3,4,5,6,7,8,9,10,11,0,1]) q,?_⟩
   refine A8 [4,5,2]<|Dn 16 D D D D (fun _ _ m d=>CE m (b:=false) D)<|Ab 17 D (D' D D)<|Cm<|A7 ?_
   intro W d
   subst P
   have ad:Fh (B0 z.w Z AJ AO fr) f Ar x.AW r s=none:=by
    unfold Fh;rw[if_neg (show¬x.AW.l=0 from ai),aq];rfl
   refine⟨fun K T=>(by rw[ad]at T;cases T),fun _=>?_⟩
   exact⟨aS,aT,Di,D,by omega,by omega,d.pick [0,1,2,3]⟩
  |some s1=>
   refine CQ [0,1,4]<|Ab 0 D (AS B7 1 D)<|Ab 1 D (Bb AF 1 1 D D D)<|Ab 2 D (Hp (by omega) D D)<|Ab 3 D (AA D)<|Dn 4 D D D D (AA D)<|Dn 5 D D D D (AS B7 1 D)<|Dn 6 D D D D (Bb AF 1 1 D D D)<|Dn 7 D D D D (AA D)<|Dn 8 D D D D (AS B7 3 D)<|Dn 9 D D D D (Bb AF 1 3 D D D)<|Dn 10 D D D D (AS B7 5 D)<|Dn 11 D D D D (DH B5 1 5 1 [bv x.ls.l] D D)<|Dn 12 D D D D (fun _ _ m d=>E_ m (BH:=[(0,(E x.l)),(1,(E Ar)),(2,(E x.lc)),(3,(Value.agg (flat [bv x.ls.l])))]) D (r:=flat [[E x.l],[E Ar],[E x.lc],bv x.ls.l]) (E5 DS (ss:=[[E 0],[E 0],[E 0],Ak 32]) (by kernel_rfl) (places:=[(0,1),(1,1),(2,1),(3,32)]) (by kernel_rfl) (B3 [] [[E 0]] [[E 0],[E 0],Ak 32] [[E x.l]] D Ja.nil (Ja.one Ja.nil) (Ja.one Ja.nil) D (B3 [[E x.l]] [[E 0]] [[E 0],Ak 32] [[E Ar]] D (Ja.one Ja.nil) (Ja.one Ja.nil) (Ja.one Ja.nil) D (B3 [[E x.l],[E Ar]] [[E 0]] [Ak 32] [[E x.lc]] D (Ja.one (Ja.one Ja.nil)) (Ja.one Ja.nil) (Ja.one Ja.nil) D (B3 [[E x.l],[E Ar],[E x.lc]] [Ak 32] [] [bv x.ls.l] D (Ja.one (Ja.one (Ja.one Ja.nil))) (Ja.row (Jl 32) Ja.nil) (Ja.row x.ls.row Ja.nil) D D))))))<|Dn 13 D D D D (BN DY 0 D D)<|K8 14 D D D D<|BP MA D (fun w d=>M4 r 0 w)<|A8 [0,1,4]<|K8 15 D D D D<|?_
   refine Ba IC D (fun w d=>(av B x.l Ar x.lc A H (h - 1) x.ls (G.under r 0) s w (d.Ad (H1:=[Ay Q z C o AE B,A1 z.w B,AN z.AU Av Z,O Ac [[S Q],[S AB],[S g],[E fr],[E s.A4]] 236,O AB [[v1],[v2]] 234,AQ 242 AM v1 (G.get AJ),AQ 57 AP v2 (G.get AO),O g [[Value.map (some i)],[Value.map (some j)]] 234,Ap Tryz.prog 242 AM Am i A (G.get s.rows),Ap Tryz.prog 57 AP Am j H (G.get s.jo)]) [2,3,4,5,6,7,8,9,10,11]) (A5.sat d (ag F P)) (d.Eb A5 (ag F P) [2,3,4,5,6,7,8,9,10,11]) (by omega) (by show h - 1+(r.b+1)=257;omega) (by omega) (by omega) (by omega) (by omega) (by omega) (by omega)).mono fun e W q=>q.1 _ aq) fun _ e W d ⟨aU,aV,aW,he,bk,bl,bm,q⟩=>⟨_,_,he,Sat.call (H1:=[Ay Q z C o AE B,A1 z.w B,AN z.AU Av Z,O Ac [[S Q],[S AB],[S g],[E fr],[E s.A4]] 236,O AB [[v1],[v2]] 234,AQ 242 AM v1 (G.get AJ),AQ 57 AP v2 (G.get AO),O g [[Value.map (some i)],[Value.map (some j)]] 234,Ap Tryz.prog 242 AM Am i A (G.get s.rows),Ap Tryz.prog 57 AP Am j H (G.get s.jo)]) (H2:=[O X [[E r.b],bv r.k.l] 242,O V [[E x.kd],[E x.l],[E x.r],[E x.lc],[E x.rc],bv x.ls.l,bv x.rs.l,bv x.k.l,[I x.s.p x.s.v.length x.s.c]] 99]) (d.pick [2,3,4,5,6,7,8,9,10,11,0,1]) q,?_⟩
   refine A8 [10,11,2]<|Dn 16 D D D D (fun _ _ m d=>CE m (b:=true) D)<|Ab 17 D (D' D D)<|Cm<|M ?_
   exact fun a W m d=>⟨s1,aV,aW,aU,AY m,d.pick [10,11,0,1,2,3,4,5,6,7,8,9],by first|exact if_pos (show x.AW.l=0 from ai)|exact if_pos (show x.AW.l=0 from aH)|exact if_neg (show¬x.AW.l=0 from ai)|exact(if_neg (show¬x.AW.l=0 from ai)).trans aq,by refine⟨?_,?_,?_⟩<;>omega⟩
 rintro a W ⟨s1,aa,ab,R,m,d,aw,bn⟩;revert a W
 refine Gq (fun a W=>∃(s2:G.B4) (aj:Nat) (ak:Nat) (L:BX),AH 159 a (Jb (Jb (Jb (Jb Jk 0 (S Ac)) 1 (E Ar)) 6 (S V)) 7 (S X))∧Sat F w [O X [[E r.b],bv r.k.l] 242,O V [[E x.kd],[E x.l],[E x.r],[E x.lc],[E x.rc],bv x.ls.l,bv x.rs.l,bv x.k.l,[I x.s.p x.s.v.length x.s.c]] 99,Ay Q z C o AE L,A1 z.w L,AN z.AU Av Z,O Ac [[S Q],[S AB],[S g],[E fr],[E s2.A4]] 236,O AB [[v1],[v2]] 234,AQ 242 AM v1 (G.get AJ),AQ 57 AP v2 (G.get AO),O g [[Value.map (some i)],[Value.map (some j)]] 234,Ap Tryz.prog 242 AM Am i aj (G.get s2.rows),Ap Tryz.prog 57 AP Am j ak (G.get s2.jo)] W∧(if x.AW.r=0 then some s1 else G.through (B0 z.w Z AJ AO fr) f x.AW.r Ar x.AW.rc x.AW.rs (G.under r 1) s1)=some s2∧(aj≤aa+(h - 1)*x.rc∧ak≤ab+(h - 1)*x.rc∧s2.A4≤2097152)) ?_ ?_
 ·
  refine Je<|?_
  by_cases al:x.r=0
  ·
   refine CQ [0,1,4]<|Ab 0 D (AS B7 2 D)<|Ab 1 D (Bb AF 1 2 D D D)<|Ab 2 D (GY (by omega) D D)<|Ab 3 D (AA D)<|C3 4 D D D D D D D<|C3 5 D D D D D D D<|C3 6 D D D D D D D<|C3 7 D D D D D D D<|C3 8 D D D D D D D<|C3 9 D D D D D D D<|C3 10 D D D D D D D<|C3 11 D D D D D D D<|C3 12 D D D D D D D<|C3 13 D D D D D D D<|C3 14 D D D D D D D<|C3 15 D D D D D D D<|C3 16 D D D D D D D<|Ab 17 D (EK D D)<|Cm<|M ?_
   exact fun a W m d=>⟨s1,aa,ab,R,AY m,d.pick [0,1,2,3,4,5,6,7,8,9,10,11],by first|exact if_pos (show x.AW.r=0 from al)|exact if_pos (show x.AW.r=0 from aI)|exact if_neg (show¬x.AW.r=0 from al)|exact(if_neg (show¬x.AW.r=0 from al)).trans ar,by refine⟨?_,?_,?_⟩<;>omega⟩
  cases ar:G.through (B0 z.w Z AJ AO fr) f x.AW.r Ar x.AW.rc x.AW.rs (G.under r 1) s1 with
  |none=>
   refine CQ [0,1,4]<|Ab 0 D (AS B7 2 D)<|Ab 1 D (Bb AF 1 2 D D D)<|Ab 2 D (Hp (by omega) D D)<|Ab 3 D (AA D)<|Dn 4 D D D D (AA D)<|Dn 5 D D D D (AS B7 2 D)<|Dn 6 D D D D (Bb AF 1 2 D D D)<|Dn 7 D D D D (AA D)<|Dn 8 D D D D (AS B7 4 D)<|Dn 9 D D D D (Bb AF 1 4 D D D)<|Dn 10 D D D D (AS B7 37 D)<|Dn 11 D D D D (DH B5 1 6 1 [bv x.rs.l] D D)<|Dn 12 D D D D (fun _ _ m d=>E_ m (BH:=[(0,(E x.r)),(1,(E Ar)),(2,(E x.rc)),(3,(Value.agg (flat [bv x.rs.l])))]) D (r:=flat [[E x.r],[E Ar],[E x.rc],bv x.rs.l]) (E5 DS (ss:=[[E 0],[E 0],[E 0],Ak 32]) (by kernel_rfl) (places:=[(0,1),(1,1),(2,1),(3,32)]) (by kernel_rfl) (B3 [] [[E 0]] [[E 0],[E 0],Ak 32] [[E x.r]] D Ja.nil (Ja.one Ja.nil) (Ja.one Ja.nil) D (B3 [[E x.r]] [[E 0]] [[E 0],Ak 32] [[E Ar]] D (Ja.one Ja.nil) (Ja.one Ja.nil) (Ja.one Ja.nil) D (B3 [[E x.r],[E Ar]] [[E 0]] [Ak 32] [[E x.rc]] D (Ja.one (Ja.one Ja.nil)) (Ja.one Ja.nil) (Ja.one Ja.nil) D (B3 [[E x.r],[E Ar],[E x.rc]] [Ak 32] [] [bv x.rs.l] D (Ja.one (Ja.one (Ja.one Ja.nil))) (Ja.row (Jl 32) Ja.nil) (Ja.row x.rs.row Ja.nil) D D))))))<|Dn 13 D D D D (BN DY 0 D D)<|K8 14 D D D D<|BP MA D (fun w d=>M4 r 1 w)<|A8 [0,1,4]<|K8 15 D D D D<|?_
   refine Ba IC D (fun w d=>(av R x.r Ar x.rc aa ab (h - 1) x.rs (G.under r 1) s1 w (d.Ad (H1:=[Ay Q z C o AE R,A1 z.w R,AN z.AU Av Z,O Ac [[S Q],[S AB],[S g],[E fr],[E s1.A4]] 236,O AB [[v1],[v2]] 234,AQ 242 AM v1 (G.get AJ),AQ 57 AP v2 (G.get AO),O g [[Value.map (some i)],[Value.map (some j)]] 234,Ap Tryz.prog 242 AM Am i aa (G.get s1.rows),Ap Tryz.prog 57 AP Am j ab (G.get s1.jo)]) [2,3,4,5,6,7,8,9,10,11]) (A5.sat d (ag F P)) (d.Eb A5 (ag F P) [2,3,4,5,6,7,8,9,10,11]) (by omega) (by show h - 1+(r.b+1)=257;omega) (by omega) (by omega) (by omega) (by omega) (by omega) (by omega)).mono fun e W q=>q.2 ar) fun _ e W d ⟨aX,aY,aZ,he,bo,bp,q⟩=>⟨_,_,he,Sat.call (H1:=[Ay Q z C o AE R,A1 z.w R,AN z.AU Av Z,O Ac [[S Q],[S AB],[S g],[E fr],[E s1.A4]] 236,O AB [[v1],[v2]] 234,AQ 242 AM v1 (G.get AJ),AQ 57 AP v2 (G.get AO),O g [[Value.map (some i)],[Value.map (some j)]] 234,Ap Tryz.prog 242 AM Am i aa (G.get s1.rows),Ap Tryz.prog 57 AP Am j ab (G.get s1.jo)]) (H2:=[O X [[E r.b],bv r.k.l] 242,O V [[E x.kd],[E x.l],[E x.r],[E x.lc],[E x.rc],bv x.ls.l,bv x.rs.l,bv x.k.l,[I x.s.p x.s.v.length x.s.c]] 99]) (d.pick [2,3,4,5,6,7,8,9,10,11,0,1]) q,?_⟩
   refine A8 [4,5,2]<|Dn 16 D D D D (fun _ _ m d=>CE m (b:=false) D)<|Ab 17 D (D' D D)<|Cm<|A7 ?_
   intro W d
   subst P
   have ad:Fh (B0 z.w Z AJ AO fr) f Ar x.AW r s=none:=by
    unfold Fh;rw[aw];simp only[Option.bind_some];rw[if_neg (show¬x.AW.r=0 from al),ar];rfl
   refine⟨fun K T=>(by rw[ad]at T;cases T),fun _=>?_⟩
   exact⟨aX,aY,aZ,D,by omega,by omega,d.pick [0,1,2,3]⟩
  |some s2=>
   refine CQ [0,1,4]<|Ab 0 D (AS B7 2 D)<|Ab 1 D (Bb AF 1 2 D D D)<|Ab 2 D (Hp (by omega) D D)<|Ab 3 D (AA D)<|Dn 4 D D D D (AA D)<|Dn 5 D D D D (AS B7 2 D)<|Dn 6 D D D D (Bb AF 1 2 D D D)<|Dn 7 D D D D (AA D)<|Dn 8 D D D D (AS B7 4 D)<|Dn 9 D D D D (Bb AF 1 4 D D D)<|Dn 10 D D D D (AS B7 37 D)<|Dn 11 D D D D (DH B5 1 6 1 [bv x.rs.l] D D)<|Dn 12 D D D D (fun _ _ m d=>E_ m (BH:=[(0,(E x.r)),(1,(E Ar)),(2,(E x.rc)),(3,(Value.agg (flat [bv x.rs.l])))]) D (r:=flat [[E x.r],[E Ar],[E x.rc],bv x.rs.l]) (E5 DS (ss:=[[E 0],[E 0],[E 0],Ak 32]) (by kernel_rfl) (places:=[(0,1),(1,1),(2,1),(3,32)]) (by kernel_rfl) (B3 [] [[E 0]] [[E 0],[E 0],Ak 32] [[E x.r]] D Ja.nil (Ja.one Ja.nil) (Ja.one Ja.nil) D (B3 [[E x.r]] [[E 0]] [[E 0],Ak 32] [[E Ar]] D (Ja.one Ja.nil) (Ja.one Ja.nil) (Ja.one Ja.nil) D (B3 [[E x.r],[E Ar]] [[E 0]] [Ak 32] [[E x.rc]] D (Ja.one (Ja.one Ja.nil)) (Ja.one Ja.nil) (Ja.one Ja.nil) D (B3 [[E x.r],[E Ar],[E x.rc]] [Ak 32] [] [bv x.rs.l] D (Ja.one (Ja.one (Ja.one Ja.nil))) (Ja.row (Jl 32) Ja.nil) (Ja.row x.rs.row Ja.nil) D D))))))<|Dn 13 D D D D (BN DY 0 D D)<|K8 14 D D D D<|BP MA D (fun w d=>M4 r 1 w)<|A8 [0,1,4]<|K8 15 D D D D<|?_
   refine Ba IC D (fun w d=>(av R x.r Ar x.rc aa ab (h - 1) x.rs (G.under r 1) s1 w (d.Ad (H1:=[Ay Q z C o AE R,A1 z.w R,AN z.AU Av Z,O Ac [[S Q],[S AB],[S g],[E fr],[E s1.A4]] 236,O AB [[v1],[v2]] 234,AQ 242 AM v1 (G.get AJ),AQ 57 AP v2 (G.get AO),O g [[Value.map (some i)],[Value.map (some j)]] 234,Ap Tryz.prog 242 AM Am i aa (G.get s1.rows),Ap Tryz.prog 57 AP Am j ab (G.get s1.jo)]) [2,3,4,5,6,7,8,9,10,11]) (A5.sat d (ag F P)) (d.Eb A5 (ag F P) [2,3,4,5,6,7,8,9,10,11]) (by omega) (by show h - 1+(r.b+1)=257;omega) (by omega) (by omega) (by omega) (by omega) (by omega) (by omega)).mono fun e W q=>q.1 _ ar) fun _ e W d ⟨a0,a1,a2,he,bq,br,bs,q⟩=>⟨_,_,he,Sat.call (H1:=[Ay Q z C o AE R,A1 z.w R,AN z.AU Av Z,O Ac [[S Q],[S AB],[S g],[E fr],[E s1.A4]] 236,O AB [[v1],[v2]] 234,AQ 242 AM v1 (G.get AJ),AQ 57 AP v2 (G.get AO),O g [[Value.map (some i)],[Value.map (some j)]] 234,Ap Tryz.prog 242 AM Am i aa (G.get s1.rows),Ap Tryz.prog 57 AP Am j ab (G.get s1.jo)]) (H2:=[O X [[E r.b],bv r.k.l] 242,O V [[E x.kd],[E x.l],[E x.r],[E x.lc],[E x.rc],bv x.ls.l,bv x.rs.l,bv x.k.l,[I x.s.p x.s.v.length x.s.c]] 99]) (d.pick [2,3,4,5,6,7,8,9,10,11,0,1]) q,?_⟩
   refine A8 [10,11,2]<|Dn 16 D D D D (fun _ _ m d=>CE m (b:=true) D)<|Ab 17 D (D' D D)<|Cm<|M ?_
   exact fun a W m d=>⟨s2,a1,a2,a0,AY m,d.pick [10,11,0,1,2,3,4,5,6,7,8,9],by first|exact if_pos (show x.AW.r=0 from al)|exact if_pos (show x.AW.r=0 from aI)|exact if_neg (show¬x.AW.r=0 from al)|exact(if_neg (show¬x.AW.r=0 from al)).trans ar,by refine⟨?_,?_,?_⟩<;>omega⟩
 rintro a W ⟨s2,aj,ak,L,m,d,az,bt⟩;revert a W
 refine Je<|Jh<|Js D<|Jg<|Jf<|Gq (fun a W=>∃(au:Bool),AH 159 a (Jb (Jb (Jb (Jb (Jb Jk 0 (S Ac)) 1 (E Ar)) 6 (S V)) 7 (S X)) 9 (C' au))∧Sat F w [O X [[E r.b],bv r.k.l] 242,O V [[E x.kd],[E x.l],[E x.r],[E x.lc],[E x.rc],bv x.ls.l,bv x.rs.l,bv x.k.l,[I x.s.p x.s.v.length x.s.c]] 99,Ay Q z C o AE L,A1 z.w L,AN z.AU Av Z,O Ac [[S Q],[S AB],[S g],[E fr],[E s2.A4]] 236,O AB [[v1],[v2]] 234,AQ 242 AM v1 (G.get AJ),AQ 57 AP v2 (G.get AO),O g [[Value.map (some i)],[Value.map (some j)]] 234,Ap Tryz.prog 242 AM Am i aj (G.get s2.rows),Ap Tryz.prog 57 AP Am j ak (G.get s2.jo)] W∧au=G.Ik (B0 z.w Z AJ AO fr) x.AW r) ?_ ?_
 ·
  refine Je<|Jh<|AG B7 0 D<|AZ AF 1 0 D D D<|Gi (by omega) D D<|M ?_
  cases ah:Z ((G.get AJ r).getD 0)with
  |none=>
   have a3:(G.get AJ r).getD 0≤1048576:=by
    cases aA:G.get AJ r with
    |none=>exact Nat.zero_le _
    |some p=>obtain⟨c,ae⟩:=hOr _ _ aA;cases he:257 - r.b with
     |zero=>rw[he]at ae;exact ae.elim
     |succ e=>rw[he]at ae;obtain⟨_,_,_,aB,_⟩:=ae;exact aB
   refine CQ [0,1,2,3,4,5,6,7,8,9,10,11]<|Ab 0 D (AA D)<|Ab 1 D (Bp D)<|Ab 2 D (AS C9 0 D)<|Ab 3 D (Bb Gb 5 0 D D D)<|Ab 4 D (Bp D)<|Ab 5 D (AS C2 6 D)<|Ab 6 D (Bb FN 2 6 D D D)<|Ab 7 D (AA D)<|Ab 8 D (Bp D)<|Ab 9 D (AS C9 1 D)<|Ab 10 D (Bb Ha 5 1 D D D)<|Ab 11 D (Bp D)<|Ab 12 D (AS Il 0 D)<|Ab 13 D (Bb GM 6 0 D D D)<|Ab 14 D (BN DY 0 D D)<|Ab 15 D (O2 GM 7 D Lb Le (a:=r) (Lg (by omega)) D D)<|Ab 16 D (GN FN (fun w d=>d.KP 4) Fg Fe (a:=(((G.get AJ) r).getD 0)) (Fb (by omega)) D D J_ (by rw[ah]))<|Bh 17 D<|Bw [[E 0],[E 0],[E 0],[E 0],[E 0],Ak 32,Ak 32,Ak 32,[I none 0 0]] fun a4=>A8 [1,2,3,4,5,6,7,8,9,10,11,12]<|Bh 18 D<|Bk 0 0 9 D D D<|?_
   refine A8 [1,2,3,4,5,6,7,8,9,10,11,12]<|Cm<|Jf<|Jh<|AG B7 0 D<|AZ AF 0 0 D D D<|Gi (by decide) D D<|M ?_
   exact fun a W m d=>⟨false,AY m,d.pick [1,2,3,4,5,6,7,8,9,10,11,12],by rw[N_ af,ah];rfl⟩
  |some y=>
   have a3:(G.get AJ r).getD 0≤1048576:=by
    cases aA:G.get AJ r with
    |none=>exact Nat.zero_le _
    |some p=>obtain⟨c,ae⟩:=hOr _ _ aA;cases he:257 - r.b with
     |zero=>rw[he]at ae;exact ae.elim
     |succ e=>rw[he]at ae;obtain⟨_,_,_,aB,_⟩:=ae;exact aB
   have bu:=(CM _ _ ah).1
   refine CQ [0,1,2,3,4,5,6,7,8,9,10,11]<|Ab 0 D (AA D)<|Ab 1 D (Bp D)<|Ab 2 D (AS C9 0 D)<|Ab 3 D (Bb Gb 5 0 D D D)<|Ab 4 D (Bp D)<|Ab 5 D (AS C2 6 D)<|Ab 6 D (Bb FN 2 6 D D D)<|Ab 7 D (AA D)<|Ab 8 D (Bp D)<|Ab 9 D (AS C9 1 D)<|Ab 10 D (Bb Ha 5 1 D D D)<|Ab 11 D (Bp D)<|Ab 12 D (AS Il 0 D)<|Ab 13 D (Bb GM 6 0 D D D)<|Ab 14 D (BN DY 0 D D)<|Ab 15 D (O2 GM 7 D Lb Le (a:=r) (Lg (by omega)) D D)<|Ab 16 D (GN FN (fun w d=>d.KP 4) Fg Fe (a:=(((G.get AJ) r).getD 0)) (Fb (by omega)) D D J_ (by rw[ah]))<|Bh 17 D<|Bw [[E 0],[E 0],[E 0],[E 0],[E 0],Ak 32,Ak 32,Ak 32,[I none 0 0]] fun a4=>A8 [1,2,3,4,5,6,7,8,9,10,11,12]<|Bh 18 D<|Bk 0 0 9 D D D<|?_
   refine A8 [1,2,3,4,5,6,7,8,9,10,11,12]<|Cm<|Jf<|Jh<|AG B7 0 D<|AZ AF 0 0 D D D<|Gx D D (fun a5=>?_) fun a5=>?_
   ·
    refine M ?_
    refine AG B7 1 D<|Jj D D D<|AZ AF 0 1 D D D<|Jj D D D<|AG B7 1 D<|Jj D D D<|AZ AF 2 1 D D D<|Jj D D D<|Gx D D (fun a6=>?_) fun a6=>?_
    ·
     refine M ?_
     refine AG B7 2 D<|Jj D D D<|AZ AF 0 2 D D D<|Jj D D D<|AG B7 2 D<|Jj D D D<|AZ AF 2 2 D D D<|Jj D D D<|Gx D D (fun a7=>?_) fun a7=>?_
     ·
      refine M ?_
      exact fun a W m d=>⟨true,AY m,d.pick [1,2,3,4,5,6,7,8,9,10,11,12],by rw[N_ af,ah];symm;simp only[Option.map_some,Option.getD_some,show y.AW.kd=y.kd from D,show y.AW.l=y.l from D,show y.AW.r=y.r from D];simp;omega⟩
     refine M ?_
     exact fun a W m d=>⟨false,AY m,d.pick [1,2,3,4,5,6,7,8,9,10,11,12],by rw[N_ af,ah];symm;simp only[Option.map_some,Option.getD_some,show y.AW.kd=y.kd from D,show y.AW.l=y.l from D,show y.AW.r=y.r from D];simp;omega⟩
    refine M ?_
    exact fun a W m d=>⟨false,AY m,d.pick [1,2,3,4,5,6,7,8,9,10,11,12],by rw[N_ af,ah];symm;simp only[Option.map_some,Option.getD_some,show y.AW.kd=y.kd from D,show y.AW.l=y.l from D,show y.AW.r=y.r from D];simp;omega⟩
   refine M ?_
   exact fun a W m d=>⟨false,AY m,d.pick [1,2,3,4,5,6,7,8,9,10,11,12],by rw[N_ af,ah];symm;simp only[Option.map_some,Option.getD_some,show y.AW.kd=y.kd from D,show y.AW.l=y.l from D,show y.AW.r=y.r from D];simp;omega⟩
 rintro a W ⟨au,m,d,aC⟩;revert a W
 refine M ?_
 refine By D<|AG C9 4 D<|AZ AF 5 4 D D D<|Li D D (fun a8=>?_) fun a8=>?_
 ·
  refine M ?_
  refine J9 D (fun a9=>?_) fun a9=>?_
  ·
   refine M ?_
   refine By D<|AG C9 0 D<|AZ Gb 5 0 D D D<|Jd D<|U<|?_
   refine Dr 195 2 (Aq BQ [])<|?_
   refine Ba EV D (fun w d=>EZ Q z C o AE L Ar 172 ([]) w (d.Ad (H1:=[Ay Q z C o AE L,Ae 195 2 (I none 0 0) 0 (Aq BQ ([]))]) [3,0])) fun _ e W d ⟨aJ,a_,he,a',q⟩=>⟨_,_,he,Sat.call (H1:=[Ay Q z C o AE L,Ae 195 2 (I none 0 0) 0 (Aq BQ ([]))]) (H2:=[O X [[E r.b],bv r.k.l] 242,O V [[E x.kd],[E x.l],[E x.r],[E x.lc],[E x.rc],bv x.ls.l,bv x.rs.l,bv x.k.l,[I x.s.p x.s.v.length x.s.c]] 99,A1 z.w L,AN z.AU Av Z,O Ac [[S Q],[S AB],[S g],[E fr],[E s2.A4]] 236,O AB [[v1],[v2]] 234,AQ 242 AM v1 (G.get AJ),AQ 57 AP v2 (G.get AO),O g [[Value.map (some i)],[Value.map (some j)]] 234,Ap Tryz.prog 242 AM Am i aj (G.get s2.rows),Ap Tryz.prog 57 AP Am j ak (G.get s2.jo)]) (d.pick [3,0,1,2,4,5,6,7,8,9,10,11,12]) q,?_⟩
   have bw:aJ.n=1:=a'
   refine A7 ?_
   intro W d
   subst P
   have ad:Fh (B0 z.w Z AJ AO fr) f Ar x.AW r s=none:=by
    unfold Fh;rw[aw];simp only[Option.bind_some];rw[az];simp only[Option.bind_some];exact if_neg (fun aD=>by obtain⟨ba,aE⟩:=aD;first|omega|exact Bool.noConfusion ((show au=true by assumption).symm.trans (aC.trans aE)))
   refine⟨fun K T=>(by rw[ad]at T;cases T),fun _=>?_⟩
   exact⟨aJ,a_,L,D,by omega,by omega,d.pick [0,4,5,1]⟩
  refine M ?_
  refine By D<|AG C9 4 D<|AZ AF 5 4 D D D<|B6 (q:=1) D D<|By D<|AG C9 4 D<|U<|Cq 5 4 D D D<|?_
  refine Jg<|Jf<|Je<|DD 9<|zs (AA D)<|zs (Bp D)<|zs (AS C9 2 D)<|zs (Bb Ha 5 2 D D D)<|zs (Bp D)<|zs (AS Il 0 D)<|zs (Bb GM 9 0 D D D)<|zs (BN DY 0 D D)<|zs (AA D)<|CS<|U<|KS 10 GM D Lb Le (a:=r) (Lg (by omega)) (u:=Ar) D D D<|M ?_
  refine AG B7 0 D<|AZ AF 1 0 D D D<|Gi (by omega) D D<|A7 ?_
  intro W d
  subst P
  have ad:Fh (B0 z.w Z AJ AO fr) f Ar x.AW r s=some {G.note s2 r Ar x.AW with A4:=s2.A4+1}:=by
   unfold Fh;rw[aw];simp only[Option.bind_some];rw[az];simp only[Option.bind_some];rw[if_pos ⟨by omega,by rw[←aC];first|done|assumption|exact Bool.eq_false_iff.2 (by assumption)⟩]
  refine⟨fun K T=>?_,fun aK=>by rw[ad]at aK;cases aK⟩
  rw[ad]at T
  cases T
  rw[MT]at d
  exact⟨L,aj+1,ak,D,by omega,by omega,by show s2.A4+1≤2097152;omega,by unfold G.note;rw[if_neg (show¬x.AW.kd=1 from af)];exact d.pick [2,3,4,5,6,7,8,9,10,11]⟩
 refine M ?_
 refine By D<|AG C9 0 D<|AZ Gb 5 0 D D D<|Jd D<|U<|?_
 refine Dr 195 2 (Aq BQ [])<|?_
 refine Ba EV D (fun w d=>EZ Q z C o AE L Ar 172 ([]) w (d.Ad (H1:=[Ay Q z C o AE L,Ae 195 2 (I none 0 0) 0 (Aq BQ ([]))]) [3,0])) fun _ e W d ⟨aL,bb,he,bc,q⟩=>⟨_,_,he,Sat.call (H1:=[Ay Q z C o AE L,Ae 195 2 (I none 0 0) 0 (Aq BQ ([]))]) (H2:=[O X [[E r.b],bv r.k.l] 242,O V [[E x.kd],[E x.l],[E x.r],[E x.lc],[E x.rc],bv x.ls.l,bv x.rs.l,bv x.k.l,[I x.s.p x.s.v.length x.s.c]] 99,A1 z.w L,AN z.AU Av Z,O Ac [[S Q],[S AB],[S g],[E fr],[E s2.A4]] 236,O AB [[v1],[v2]] 234,AQ 242 AM v1 (G.get AJ),AQ 57 AP v2 (G.get AO),O g [[Value.map (some i)],[Value.map (some j)]] 234,Ap Tryz.prog 242 AM Am i aj (G.get s2.rows),Ap Tryz.prog 57 AP Am j ak (G.get s2.jo)]) (d.pick [3,0,1,2,4,5,6,7,8,9,10,11,12]) q,?_⟩
 have bx:aL.n=1:=bc
 refine A7 ?_
 intro W d
 subst P
 have ad:Fh (B0 z.w Z AJ AO fr) f Ar x.AW r s=none:=by
  unfold Fh;rw[aw];simp only[Option.bind_some];rw[az];simp only[Option.bind_some];exact if_neg (fun aD=>by obtain⟨ba,aE⟩:=aD;first|omega|exact Bool.noConfusion ((show au=true by assumption).symm.trans (aC.trans aE)))
 refine⟨fun K T=>(by rw[ad]at T;cases T),fun _=>?_⟩
 exact⟨aL,bb,L,D,by omega,by omega,d.pick [0,4,5,1]⟩
end Go.Proofs.YtaapafoibofbjaaGreatDoor
