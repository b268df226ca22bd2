/- Laws and walks on the road to SalvagePlays (part M47). No conditions beyond each law's own. -/
import Derived.Test.YtjdboncaegphmaaGreatDoorM46
set_option linter.unusedVariables false
namespace Go.Proofs.YtjdboncaegphmaaGreatDoor
set_option maxRecDepth 100000
set_option maxHeartbeats 2000000
def IQ(p:Nat):Nat:=if p<2 then 60 else 252
def ME(l:rG)(p:Nat):Option Nat:=At.last (At.EG (IQ p)) (At.C5 (AI l p) (IQ p))
def F5(l:rG)(p j:Nat):List UInt8:=At.bit l (2048*p+j)
def tk(l:rG)(p:Nat):List UInt8×Bool:=match ME l p with
 |none=>(l,false)
 |some j=>if Mo (F5 l p j) p=true then(F5 l p j,true)else(l,false)
def s7(l:rG)(p:Nat):List UInt8×Bool:=if Mo l p=true then(l,false)else tk l p
def FF(l:rG)(p:Nat):List UInt8×Bool:=if Mo (s7 l p).1 p=true then(GW (s7 l p).1 p 192,(s7 l p).2||!Fr.CN ((AI (s7 l p).1 p).drop 64))else s7 l p
def Zt(b:Bool)(p:Nat):List Nat:=if b=true then [p]else []
def tx(l:rG):Nat→List UInt8×List Nat
 |0=>(l,[])
 |p+1=>((FF (tx l p).1 p).1,(tx l p).2++Zt (FF (tx l p).1 p).2 p)
def sX(l:rG):List UInt8×List Nat:=tx l 2
def L3(l:rG):Nat→List UInt8×List Nat
 |0=>(l,[])
 |k+1=>((s7 (L3 l k).1 (2+k)).1,(L3 l k).2++Zt (s7 (L3 l k).1 (2+k)).2 (2+k))
section
variable {l:rG} {n p j:Nat}
theorem a1:8*IQ p+32≤2048:=by unfold IQ;split<;>decide
theorem oQ:60≤IQ p:=by unfold IQ;split<;>decide
theorem sF:IQ p+4≤256:=by unfold IQ;split<;>decide
theorem ua:(F5 l p j).length=l.length:=At.Tz _ _
theorem pn:F5 (F5 l p j) p j=l:=At.Zk _ _
theorem sb:(~~~(At.fd l)).toNat=At.sum l:=by
 rw[At.TV,←At.ON (At.OI l JZ),←At.kv,UInt32.toNat_not];rfl
theorem pb(h:At.C5 l n=0):ke l n 0:=by
 have e:(~~~(At.fd (l.take n))).toNat=At.stored l n:=sb.trans ((At.XP l n).1 h);rw[At.Sh]at e;have b:=(l.getD n 0).toNat_lt;have c:=(l.getD (n+1) 0).toNat_lt;have d:=(l.getD (n+2) 0).toNat_lt;have f:=(l.getD (n+3) 0).toNat_lt;intro t a;rw[UInt32.xor_zero];generalize ~~~(At.fd (l.take n))=x at e;apply M'.1;rw[Hx,Ss,show(8*t).toUInt32.toNat=8*t from s_ JY,s_ (show 8*t<32 by omega),mM]
 match t,a with
 |0,_=>show(l.getD n 0).toNat=x.toNat/1 % 256;omega
 |1,_=>show(l.getD (n+1) 0).toNat=x.toNat/256 % 256;omega
 |2,_=>show(l.getD (n+2) 0).toNat=x.toNat/65536 % 256;omega
 |3,_=>show(l.getD (n+3) 0).toNat=x.toNat/16777216 % 256;omega
theorem rk(h:Mo l p=true):At.C5 (AI l p) (IQ p)=0:=by
 unfold Mo at h;unfold IQ;split at h
 ·rename_i b;rw[if_pos b,←At.qQ];unfold Fr.DP at h
  by_cases a:At.C5 ((AI l p).take 64) 60=0
  ·exact a
  ·rw[if_neg a]at h;cases h
 ·rename_i b;rw[if_neg b]
  by_cases a:At.C5 (AI l p) 252=0
  ·exact a
  ·rw[b9 p _ a]at h;cases h
theorem rj(h:Mo l p=true):decide (ke (AI l p) (IQ p) 0)=true:=decide_eq_true (pb (rk h))
theorem sL(h:ME l p=some j):j<8*IQ p+32∧At.PD (IQ p) j=At.C5 (AI l p) (IQ p):=(At.qU a1).1 h
theorem kx(h1:j<8*IQ p+32)(a:At.PD (IQ p) j=At.C5 (AI l p) (IQ p)):ME l p=some j:=(At.qU a1).2 ⟨h1,a⟩
theorem ku(h1:j<8*IQ p+32)(a:At.PD (IQ p) j=At.C5 (AI l p) (IQ p))(b:Mo (F5 l p j) p=true):tk l p=(F5 l p j,true):=by
 unfold tk;rw[kx h1 a];exact if_pos b
theorem lO(h:∀j,j<8*IQ p+32→At.PD (IQ p) j=At.C5 (AI l p) (IQ p)→Mo (F5 l p j) p=false):tk l p=(l,false):=by
 unfold tk;cases a:ME l p with
 |none=>rfl
 |some j=>have:=sL a;exact if_neg (by rw[h j this.1 this.2];decide)
theorem lo:(tk l p).1.length=l.length:=by
 unfold tk;split
 ·rfl
 ·split
  ·exact ua
  ·rfl
theorem na:(s7 l p).1.length=l.length:=by
 unfold s7;split
 ·rfl
 ·exact lo
theorem pa(h:256*(p+1)≤l.length):(FF l p).1.length=l.length:=by
 unfold FF;split
 ·exact(cn (by rw[na];omega)).trans na
 ·exact na
theorem ml(h:512≤l.length:=by omega):(sX l).1.length=l.length:=by
 show(FF (FF l 0).1 1).1.length=_;rw[pa (by rw[pa JY];omega),pa JY]
theorem b4:∀k,(L3 l k).1.length=l.length
 |0=>rfl
 |k+1=>na.trans (b4 k)
end
def t'(l:rG):Except Nat (List UInt8×List Nat):=match sY (sX l).1 with
 |.error k=>.error k
 |.ok s=>.ok ((L3 (sX l).1 (s.m - 2)).1,(sX l).2++(L3 (sX l).1 (s.m - 2)).2)
def lj(l:rG):Except Nat (List UInt8×Fr.Bu):=match s0 (sX l).1 with
 |.error k=>.error k
 |.ok s=>.ok ((L3 (sX l).1 (s.m - 2)).1,s)
end Go.Proofs.YtjdboncaegphmaaGreatDoor
namespace Go.Proofs.YtjdboncaegphmaaGreatDoor
open Go.RowKit
set_option maxRecDepth 100000
set_option maxHeartbeats 2000000
def mV{Bo:Type}:Except Nat Bo→Nat
 |.ok _=>0
 |.error k=>k
def S_(l:rG)(n:Nat):Nat→Option Fr.Bu
 |0=>none
 |p+1=>match sW (AI l p) n with
  |none=>S_ l n p
  |some s=>match S_ l n p with
   |none=>some s
   |some v=>if v.g<s.g then some s else some v
section
variable {l:rG} {n p:Nat} {s v:Fr.Bu}
theorem ll{b:rG}(h:Fr.DP b=none):sW b n=none:=by unfold sW;rw[h]
theorem lq{b:rG}(h:Fr.DP b=some s)(a:¬s.p=n/256:=by omega):sW b n=none:=by unfold sW;rw[h];exact if_neg a
theorem tD{b:rG}(h:Fr.DP b=some s)(a:s.p=n/256:=by omega):sW b n=some s:=by unfold sW;rw[h];exact if_pos a
theorem gH(h:sW (AI l p) n=none):S_ l n (p+1)=S_ l n p:=by rw[S_,h]
theorem lI(h:sW (AI l p) n=some s)(a:S_ l n p=none):S_ l n (p+1)=some s:=by rw[S_,h,a]
theorem ly(h:sW (AI l p) n=some s)(a:S_ l n p=some v)(b:v.g<s.g:=by omega):S_ l n (p+1)=some s:=by rw[S_,h,a];exact if_pos b
theorem Uk(h:sW (AI l p) n=some s)(a:S_ l n p=some v)(b:¬v.g<s.g:=by omega):S_ l n (p+1)=some v:=by rw[S_,h,a];exact if_neg b
theorem ey:lH (sW (AI l 0) n) (sW (AI l 1) n)=match S_ l n 2 with
 |some s=>.ok s
 |none=>.error 4:=by
 rw[S_,S_,S_];cases sW (AI l 0) n<;>cases sW (AI l 1) n<;>first|rfl|(simp only[lH];split<;>rfl)
end
theorem oT(AK ib n c:Nat)(u:Fr.Bu)(a b d f g i j k:Value)(l:rG)(w:World)(m:BE [O AK (ZK ib n c u a b d f g i j k) 118,Ae 5 1 (I (some ⟨ib,0,none⟩) n c) n (bv l)] w)(A:768≤n∧n≤1048576∧n % 256=0)(r:n≤c):Calls lp 34 #[S AK] w fun e W=>∃s:Fr.Bu,e=.returned (E (mV (sY l)))∧(∀y,sY l=.ok y→s=y)∧Sat (A6 [O AK (ZK ib n c u a b d f g i j k) 118,Ae 5 1 (I (some ⟨ib,0,none⟩) n c) n (bv l)]) w [O AK (ZK ib n c s a b d f g i j k) 118,Ae 5 1 (I (some ⟨ib,0,none⟩) n c) n (bv l)] W:=by
 have x:l.length=n:=De (m.at_ 1 _ D);refine Cb m TU D 28 fun F hF=>K ?_;cases v:Fr.choose (AI l 0) (AI l 1)with
 |ok s=>
  refine K ?_;refine U<|Cx Tryz.func63 D [0] (H1:=[O AK (ZK ib n c u a b d f g i j k) 118]) (fun w m=>HG AK ib n c u a b d f g i j k 0 w m JY r)<|Jd D<|U<|Cx Tryz.func63 D [0] (H1:=[O AK (ZK ib n c u a b d f g i j k) 118]) (fun w m=>HG AK ib n c u a b d f g i j k 1 w m JY r)<|U<|BP Tryz.func62 D (fun w o=>(choose_spec _ _ _ _ (AI l 0) (AI l 1) w ((Hy (ib:=ib) 1 0 x JY r) w o) En ((Hy (ib:=ib) 1 1 x JY r) w o) En).mono (fun e W q=>⟨q.1.trans (show _=Ending.returned (Value.tuple #[rS (Z1 s),E 0])from by rw[v];rfl),q.2⟩))<|Jd D<|Bc D D<|Bc D D<|By D<|AG Tryz.underlying118 1 D<|U<|Bk 0 1 5 D D D<|?_;refine K ?_;refine G9<|AR (AA D)<|AR (OY D D D)<|AR (AA D)<|B2 D D D<|AR (AA D)<|B2 D D D<|AR (Bp D)<|B2 D D D<|AR (AS ts 1 D)<|B2 D D D<|AR (AS Bs 5 D)<|B2 D D D<|AR (Bb AF 0 5 D D D)<|B2 D D D<|AR (AA D)<|B2 D D D<|KK Sn D [0] (H1:=[O AK (ZK ib n c s a b d f g i j k) 118]) (fun w m=>YJ AK ib n c s a b d f g i j k w m JY)<|B2 D D D<|?_
  by_cases z:((s.p:Nat):Int)=((n/256:Nat):Int)
  ·
   refine AR (GY z D D)<|AR (D' D D)<|Er<|A7 ?_;intro W o;subst hF;have t:sY l=.ok s:=by unfold sY;rw[v];exact if_pos JY
   exact⟨s,by rw[t];rfl,(fun s2 h=>(by rw[t]at h;cases h;rfl)),o.pick [0,1]⟩
  refine AR (Hp z D D)<|AR (D' D D)<|Er<|A7 ?_;intro W o;subst hF;have t:sY l=.error 4:=by unfold sY;rw[v];exact if_neg JY
  exact⟨s,by rw[t];rfl,(fun s2 h=>(by rw[t]at h;cases h)),o.pick [0,1]⟩
 |error B=>
  rcases Uh v with rfl|rfl
  ·
   refine K ?_;refine U<|Cx Tryz.func63 D [0] (H1:=[O AK (ZK ib n c u a b d f g i j k) 118]) (fun w m=>HG AK ib n c u a b d f g i j k 0 w m JY r)<|Jd D<|U<|Cx Tryz.func63 D [0] (H1:=[O AK (ZK ib n c u a b d f g i j k) 118]) (fun w m=>HG AK ib n c u a b d f g i j k 1 w m JY r)<|U<|BP Tryz.func62 D (fun w o=>(choose_spec _ _ _ _ (AI l 0) (AI l 1) w ((Hy (ib:=ib) 1 0 x JY r) w o) En ((Hy (ib:=ib) 1 1 x JY r) w o) En).mono (fun e W q=>⟨q.1.trans (show _=Ending.returned (Value.tuple #[rS SY,E 4])from by rw[v];rfl),q.2⟩))<|Jd D<|Bc D D<|Bc D D<|By D<|AG Tryz.underlying118 1 D<|U<|Bk 0 1 5 D D D<|?_;refine K ?_;refine G9<|AR (AA D)<|AR (M6 JZ D D)<|AR (AA D)<|Bq D D D D<|Bq D D D D<|Bq D D D D<|Bq D D D D<|Bq D D D D<|Bq D D D D<|Bq D D D D<|Bq D D D D<|AR (EK D D)<|Er<|A7 ?_;intro W o;subst hF;have t:sY l=.error 4:=by unfold sY;rw[v]
   exact⟨⟨0,0,0,0,0⟩,by rw[t];rfl,(fun s2 h=>(by rw[t]at h;cases h)),o.pick [0,1]⟩
  ·
   refine K ?_;refine U<|Cx Tryz.func63 D [0] (H1:=[O AK (ZK ib n c u a b d f g i j k) 118]) (fun w m=>HG AK ib n c u a b d f g i j k 0 w m JY r)<|Jd D<|U<|Cx Tryz.func63 D [0] (H1:=[O AK (ZK ib n c u a b d f g i j k) 118]) (fun w m=>HG AK ib n c u a b d f g i j k 1 w m JY r)<|U<|BP Tryz.func62 D (fun w o=>(choose_spec _ _ _ _ (AI l 0) (AI l 1) w ((Hy (ib:=ib) 1 0 x JY r) w o) En ((Hy (ib:=ib) 1 1 x JY r) w o) En).mono (fun e W q=>⟨q.1.trans (show _=Ending.returned (Value.tuple #[rS SY,E 55])from by rw[v];rfl),q.2⟩))<|Jd D<|Bc D D<|Bc D D<|By D<|AG Tryz.underlying118 1 D<|U<|Bk 0 1 5 D D D<|?_;refine K ?_;refine G9<|AR (AA D)<|AR (M6 JZ D D)<|AR (AA D)<|Bq D D D D<|Bq D D D D<|Bq D D D D<|Bq D D D D<|Bq D D D D<|Bq D D D D<|Bq D D D D<|Bq D D D D<|AR (EK D D)<|Er<|A7 ?_;intro W o;subst hF;have t:sY l=.error 55:=by unfold sY;rw[v]
   exact⟨⟨0,0,0,0,0⟩,by rw[t];rfl,(fun s2 h=>(by rw[t]at h;cases h)),o.pick [0,1]⟩
theorem sn(AK ib n c:Nat)(u:Fr.Bu)(i j k m o r t x:Value)(l:rG)(w:World)(y:BE [O AK (ZK ib n c u i j k m o r t x) 118,Ae 5 1 (I (some ⟨ib,0,none⟩) n c) n (bv l)] w)(M:768≤n∧n≤1048576∧n % 256=0)(z:n≤c):Calls lp 41 #[S AK] w fun e W=>∃s:Fr.Bu,e=.returned (E (mV (s0 l)))∧(∀N,s0 l=.ok N→s=N)∧Sat (A6 [O AK (ZK ib n c u i j k m o r t x) 118,Ae 5 1 (I (some ⟨ib,0,none⟩) n c) n (bv l)]) w [O AK (ZK ib n c s i j k m o r t x) 118,Ae 5 1 (I (some ⟨ib,0,none⟩) n c) n (bv l)] W:=by
 have B:l.length=n:=De (y.at_ 1 _ D);refine Cb y UT D 61 fun F hF=>K ?_;cases C:Fr.choose (AI l 0) (AI l 1)with
 |ok s=>
  refine K ?_;refine U<|Cx Ut D [0] (H1:=[O AK (ZK ib n c u i j k m o r t x) 118]) (fun w y=>HG AK ib n c u i j k m o r t x 0 w y JY z)<|Jd D<|U<|Cx Ut D [0] (H1:=[O AK (ZK ib n c u i j k m o r t x) 118]) (fun w y=>HG AK ib n c u i j k m o r t x 1 w y JY z)<|U<|BP Rr D (fun w b=>(choose_spec _ _ _ _ (AI l 0) (AI l 1) w ((Hy (ib:=ib) 1 0 B JY z) w b) En ((Hy (ib:=ib) 1 1 B JY z) w b) En).mono (fun e W q=>⟨q.1.trans (show _=Ending.returned (Value.tuple #[rS (Z1 s),E 0])from by rw[C];rfl),q.2⟩))<|Jd D<|Bc D D<|Bc D D<|U<|Bw SY fun P=>U<|Bk 0 0 5 D D D<|?_;refine K ?_;refine Ix JZ D D<|K ?_;refine U<|Ba TU D (fun w b=>oT AK ib n c u i j k m o r t x l w (b.Ad [1,2]) M z) fun _ e W b ⟨T,he,G,q⟩=>⟨_,_,he,b.As [1,2] [0] q,?_⟩
  refine A7 ?_;intro W b;have d:s0 l=sY l:=by unfold s0;rw[C]
  subst hF;rw[d];exact⟨T,D,G,b.pick [0,1]⟩
 |error aa=>
  rcases Uh C with rfl|rfl
  ·
   refine K ?_;refine U<|Cx Ut D [0] (H1:=[O AK (ZK ib n c u i j k m o r t x) 118]) (fun w y=>HG AK ib n c u i j k m o r t x 0 w y JY z)<|Jd D<|U<|Cx Ut D [0] (H1:=[O AK (ZK ib n c u i j k m o r t x) 118]) (fun w y=>HG AK ib n c u i j k m o r t x 1 w y JY z)<|U<|BP Rr D (fun w b=>(choose_spec _ _ _ _ (AI l 0) (AI l 1) w ((Hy (ib:=ib) 1 0 B JY z) w b) En ((Hy (ib:=ib) 1 1 B JY z) w b) En).mono (fun e W q=>⟨q.1.trans (show _=Ending.returned (Value.tuple #[rS SY,E 4])from by rw[C];rfl),q.2⟩))<|Jd D<|Bc D D<|Bc D D<|U<|Bw SY fun P=>U<|Bk 0 0 5 D D D<|?_;refine K ?_;refine Ci D D D<|K ?_;refine DL (fun V a W=>∃p fd,∃v:Fr.Bu,V=2 - p∧AH 61 a (Jb (Jb (Jb (Jb Jk 0 (S AK)) 2 (E 0)) 21 (E p)) 5 (C' fd))∧Sat F w [O AK (ZK ib n c v i j k m o r t x) 118,Ae 5 1 (I (some ⟨ib,0,none⟩) n c) n (bv l)] W∧p≤2∧(S_ l n p=if fd=true then some v else none)) (fun a W A b=>⟨0,false,u,D,AY A,b.pick [1,2],JY,D⟩) ?_;rintro _ a W ⟨p,fd,v,rfl,A,b,ab,f⟩;revert a W;refine Je<|Jh<|Ej D D<|Jg<|Jf<|Je<|Cz D (fun X=>?_) fun X=>?_
   ·
    refine K ?_;cases d:Fr.DP (AI l p)with
    |none=>
     refine K ?_;refine U<|Cx Ut D [0] (H1:=[O AK (ZK ib n c v i j k m o r t x) 118]) (fun w y=>HG AK ib n c v i j k m o r t x p w y JY z)<|U<|Ba LM D (fun w b=>IX _ _ _ w d ((Hy (ib:=ib) 1 p B JY z) w b) En) fun _ e W b ⟨ad,he,ae,J⟩=>⟨_,_,he,b.below J,?_⟩
     refine Jd D<|Bc D D<|Bc D D<|U<|Bw SY fun Y=>U<|Bk 0 0 5 D D D<|?_;refine K ?_;refine G9<|AR (AA D)<|AR (M6 JY D D)<|AR (AA D)<|Bq D D D D<|Bq D D D D<|Bq D D D D<|Bq D D D D<|Bq D D D D<|AR (EK D D)<|AR (AA D)<|Bq D D D D<|Bq D D D D<|Bq D D D D<|GU D D D<|GU D D D<|GU D D D<|GU D D D<|GU D D D<|GU D D D<|GU D D D<|GU D D D<|Bq D D D D<|AR (EK D D)<|Er<|K ?_;refine B6 (q:=1) D D<|K ?_;exact fun a W A b=>⟨_,JY,p+1,fd,v,D,AY A,b.pick [1,2],JY,by first|exact(gH (ll d)).trans f|exact(gH (lq d)).trans f|exact Uk (tD d) f|exact lI (tD d) f|exact ly (tD d) f⟩
    |some s=>
     refine K ?_;refine U<|Cx Ut D [0] (H1:=[O AK (ZK ib n c v i j k m o r t x) 118]) (fun w y=>HG AK ib n c v i j k m o r t x p w y JY z)<|U<|Ba LM D (fun w b=>KR _ _ _ w (s:=s) d ((Hy (ib:=ib) 1 p B JY z) w b) En) fun _ e W b ⟨he,J⟩=>⟨_,_,he,b.below J,?_⟩
     refine Jd D<|Bc D D<|Bc D D<|U<|Bw SY fun Y=>U<|Bk 0 0 5 D D D<|?_;refine K ?_;refine G9<|AR (AA D)<|AR (OY D D D)<|AR (AA D)<|B2 D D D<|AR (AS Bs 4 D)<|B2 D D D<|AR (Bb AF 0 4 D D D)<|B2 D D D<|AR (AA D)<|B2 D D D<|KK Sn D [1] (H1:=[O AK (ZK ib n c v i j k m o r t x) 118]) (fun w y=>YJ AK ib n c v i j k m o r t x w y JY)<|B2 D D D<|?_
     by_cases Q:((s.p:Nat):Int)=((n/256:Nat):Int)
     ·
      refine AR (OY Q D D)<|AR (D' D D)<|AR (AA D)<|B2 D D D<|AR (AA D)<|B2 D D D<|AR (Te D)<|B2 D D D<|AR (AA D)<|?_;cases fd
      ·
       refine Bq D D D D<|Bq D D D D<|Bq D D D D<|Bq D D D D<|Bq D D D D<|Bq D D D D<|Bq D D D D<|Bq D D D D<|B2 D D D<|AR (D' D D)<|AR (D' D D)<|Er<|K ?_;refine Af (BN Bs 0 D D)<|By D<|AG ts 1 D<|U<|Bk 1 1 5 D D D<|?_;refine K ?_;refine B6 (q:=1) D D<|K ?_;exact fun a W A b=>⟨_,JY,p+1,true,s,D,AY A,b.pick [1,2],JY,by first|exact(gH (ll d)).trans f|exact(gH (lq d)).trans f|exact Uk (tD d) f|exact lI (tD d) f|exact ly (tD d) f⟩
      refine B2 D D D<|AR (AS Bs 1 D)<|B2 D D D<|AR (Bb AF 0 1 D D D)<|B2 D D D<|AR (AA D)<|B2 D D D<|AR (Bp D)<|B2 D D D<|AR (AS ts 1 D)<|B2 D D D<|AR (AS Bs 2 D)<|B2 D D D<|AR (Bb AF 1 2 D D D)<|B2 D D D<|?_
      by_cases R:((v.g:Nat):Int)<((s.g:Nat):Int)
      ·
       refine AR (YD R D D)<|B2 D D D<|AR (EK D D)<|AR (D' D D)<|Er<|K ?_;refine Af (BN Bs 0 D D)<|By D<|AG ts 1 D<|U<|Bk 1 1 5 D D D<|?_;refine K ?_;refine B6 (q:=1) D D<|K ?_;exact fun a W A b=>⟨_,JY,p+1,true,s,D,AY A,b.pick [1,2],JY,by first|exact(gH (ll d)).trans f|exact(gH (lq d)).trans f|exact Uk (tD d) f|exact lI (tD d) f|exact ly (tD d) f⟩
      refine AR (LG R D D)<|B2 D D D<|AR (EK D D)<|AR (D' D D)<|Er<|K ?_;refine B6 (q:=1) D D<|K ?_;exact fun a W A b=>⟨_,JY,p+1,true,v,D,AY A,b.pick [1,2],JY,by first|exact(gH (ll d)).trans f|exact(gH (lq d)).trans f|exact Uk (tD d) f|exact lI (tD d) f|exact ly (tD d) f⟩
     refine AR (M6 Q D D)<|AR (D' D D)<|AR (AA D)<|Bq D D D D<|Bq D D D D<|Bq D D D D<|GU D D D<|GU D D D<|GU D D D<|GU D D D<|GU D D D<|GU D D D<|GU D D D<|GU D D D<|Bq D D D D<|AR (EK D D)<|Er<|K ?_;refine B6 (q:=1) D D<|K ?_;exact fun a W A b=>⟨_,JY,p+1,fd,v,D,AY A,b.pick [1,2],JY,by first|exact(gH (ll d)).trans f|exact(gH (lq d)).trans f|exact Uk (tD d) f|exact lI (tD d) f|exact ly (tD d) f⟩
   refine K ?_;refine Af (Te D)<|Jg<|Jf<|J9 D (fun H=>?_) fun H=>?_
   ·
    refine A7 ?_;intro W b;subst hF;have d:s0 l=match S_ l n 2 with|some s=>.ok s|none=>.error 4:=by unfold s0;rw[C,B];exact ey
    obtain rfl:p=2:=JY;have L:fd=false:=by cases fd with|false=>rfl|true=>cases H
    rw[L]at f;rw[show S_ l n 2=none from f]at d;rw[d];exact⟨v,D,(fun s2 h=>(by cases h)),b.pick [0,1]⟩
   refine A7 ?_;intro W b;subst hF;have d:s0 l=match S_ l n 2 with|some s=>.ok s|none=>.error 4:=by unfold s0;rw[C,B];exact ey
   obtain rfl:p=2:=JY;have L:fd=true:=by cases fd with|true=>rfl|false=>cases H
   rw[L]at f;rw[show S_ l n 2=some v from f]at d;rw[d];exact⟨v,D,(fun s2 h=>(by cases h;rfl)),b.pick [0,1]⟩
  ·
   refine K ?_;refine U<|Cx Ut D [0] (H1:=[O AK (ZK ib n c u i j k m o r t x) 118]) (fun w y=>HG AK ib n c u i j k m o r t x 0 w y JY z)<|Jd D<|U<|Cx Ut D [0] (H1:=[O AK (ZK ib n c u i j k m o r t x) 118]) (fun w y=>HG AK ib n c u i j k m o r t x 1 w y JY z)<|U<|BP Rr D (fun w b=>(choose_spec _ _ _ _ (AI l 0) (AI l 1) w ((Hy (ib:=ib) 1 0 B JY z) w b) En ((Hy (ib:=ib) 1 1 B JY z) w b) En).mono (fun e W q=>⟨q.1.trans (show _=Ending.returned (Value.tuple #[rS SY,E 55])from by rw[C];rfl),q.2⟩))<|Jd D<|Bc D D<|Bc D D<|U<|Bw SY fun P=>U<|Bk 0 0 5 D D D<|?_;refine K ?_;refine Ix JZ D D<|K ?_;refine U<|Ba TU D (fun w b=>oT AK ib n c u i j k m o r t x l w (b.Ad [1,2]) M z) fun _ e W b ⟨Z,he,G,q⟩=>⟨_,_,he,b.As [1,2] [0] q,?_⟩
   refine A7 ?_;intro W b;have d:s0 l=sY l:=by unfold s0;rw[C];exact if_neg JZ
   subst hF;rw[d];exact⟨Z,D,G,b.pick [0,1]⟩
theorem VJ(q:Option Addr)(n c:Nat)(w:World)(h:n≤9223372036854775807)(d:GD n≠0):Calls lp 33 #[I q n c] w (sM w (.tuple #[.pointer none,E (GD n)])):=by
 refine Cg w P6 D 22<|K ?_;refine Cr B7 D<|Af (GG (q:=256) D D)<|JU D D<|Jg<|Jf<|HI D (fun e=>?_) fun e=>?_
 ·
  refine A7 ?_;intro W a;have b:GD n=42:=by unfold GD;rw[if_neg JY]
  rw[b];exact⟨D,a.A0⟩
 refine K ?_;refine Cr B7 D<|Af (Iy (q:=256) D D)<|K ?_;refine GV D D (fun f=>?_) fun f=>?_
 ·
  refine A7 ?_;intro W a;have b:GD n=40:=by unfold GD;rw[if_pos JY,if_pos JY]
  rw[b];exact⟨D,a.A0⟩
 refine K ?_;refine Kl D D (fun g=>?_) fun g=>?_
 ·
  refine A7 ?_;intro W a;have b:GD n=40:=by unfold GD;rw[if_pos JY,if_pos JY]
  rw[b];exact⟨D,a.A0⟩
 refine K ?_;exact absurd (by unfold GD;rw[if_pos JY,if_neg JY]) d
def Uj(n BU V:Nat):List UInt32:=(List.range (8*n+32)).map fun i=>if BU≤i∧i<V then UInt32.ofNat (At.PD n i)else 0
section
variable {n j BU V:Nat} {r:UInt32}
theorem nb:(Uj n BU V).length=8*n+32:=by unfold Uj;rw[MU,Wv]
theorem mm{i:Nat}(h:i<8*n+32):(Uj n BU V)[i]? =some (if BU≤i∧i<V then UInt32.ofNat (At.PD n i)else 0):=by unfold Uj;rw[ti,kL h];rfl
theorem kP:List.replicate (8*n+32) 0=Uj n (8*n) (8*n):=by
 apply Q2;intro i
 by_cases h:i<8*n+32
 ·rw[mm h,if_neg JY,eg,if_pos h]
 ·rw[S6 (by rw[He];omega),S6 (by rw[nb];omega)]
theorem rL{b a:Nat}(hj:j<8*n+32)(h:∀i,(b≤i∧i<a)↔i=j∨(BU≤i∧i<V)):(Uj n BU V).set j (UInt32.ofNat (At.PD n j))=Uj n b a:=by
 apply Q2;intro i;rw[jz,nb]
 by_cases a:i<8*n+32
 ·rw[mm a,mm a]
  by_cases e:j=i
  ·subst e;rw[if_pos D,if_pos hj,if_pos ((h j).2 (.inl D))]
  ·rw[if_neg e]
   by_cases q:BU≤i∧i<V
   ·rw[if_pos q,if_pos ((h i).2 (.inr q))]
   ·rw[if_neg q,if_neg (fun z=>((h i).1 z).elim (fun y=>e y.symm) q)]
 ·rw[if_neg JY,S6 (by rw[nb];omega),S6 (by rw[nb];omega)]
theorem dv(hj:j+1≤8*n)(hr:r=At.aT (8*n - (j+1)) 1):(Uj n (j+1) (8*n)).set j (At.cz r)=Uj n j (8*n):=by
 have e:At.cz r=UInt32.ofNat (At.PD n j):=by
  apply lX.1;rw[oK,s_ (At.uA JY),At.mv JY,hr];show(At.aT (8*n - (j+1)+1) 1).toNat=_;rw[At.nQ,show 8*n - (j+1)+1=8*n - j by omega];rfl
 rw[e];exact rL JY (fun i=>JY)
theorem pC(hj:j<32):(Uj n 0 (8*n+j)).set (8*n+j) (UInt32.ofNat (2^j))=Uj n 0 (8*n+(j+1)):=by
 rw[←At.qn (n:=n) hj];exact rL JY (fun i=>JY)
end
def k1(n:Nat):List UInt32:=Uj n 0 (8*n+32)
theorem sa{n i:Nat}(h:i<8*n+32):(k1 n)[i]? =some (UInt32.ofNat (At.PD n i)):=by unfold k1;rw[mm h,if_pos JY]
theorem ns(n:Nat)(w:World)(u:1≤n∧n≤4096):Calls lp 48 #[E n] w fun e W=>∃l m,e=.returned (I l (8*n+32) m)∧W.ownsRow w.heap.size 105 1 (I l (8*n+32) m) (8*n+32) (Aq tt (k1 n))∧Below w.heap.size w W:=by
 refine Cg w Xc D 44<|K ?_;refine Af (E3 (p:=8) D D)<|B6 (q:=32) D D<|U<|nP uc ((8*n)+32) D D (sI _) fun v=>K ?_;refine Af (E3 (p:=8) D D)<|Es (q:=1) D D<|Js D<|Jg<|CR 5 D (show _=(Value.int .i64 (((8*n:Nat):Int) - 1:Int))from congrArg (Value.int .i64) JY)<|Tf 0 (Aq tt (List.replicate ((8*n)+32) 0)) (Aq tt (Uj n (8*n) (8*n))) (congrArg (Aq tt) kP)<|Jf<|JD<|DL (fun h a W=>∃k,∃r:UInt32,∃d f,h=0+k∧AH 44 a (Jb (Jb (Jb (Jb (Jb Jk 0 (E n)) 2 (I none 0 0)) 3 (I d (8*n+32) f)) 5 (Value.int .i64 (((k:Nat):Int) - 1:Int))) 4 (Be .u32 r.toNat))∧Sat C1 w [Ae 105 1 (I d (8*n+32) f) (8*n+32) (Aq tt (Uj n k (8*n)))] W∧k≤8*n∧r=At.aT (8*n - k) 1) (fun a W c b=>⟨8*n,1,_,_,D,AY c,b.pick [0],JY,by rw[XT];rfl⟩) ?_;rintro _ a W ⟨k,r,d,f,rfl,c,b,y,hr⟩;revert a W;refine K ?_;refine dE D D<|Jg<|Jf<|Cz D (fun s=>?_) fun s=>?_
 ·
  obtain⟨j,rfl⟩:∃j,k=j+1:=⟨k - 1,JY⟩
  refine CR 5 D (show _=(E j)from congrArg (Value.int .i64) JY)<|K ?_;refine Af (RW (q:=1) D D)<|E2 D D<|Jg<|Jf<|Cz D (fun o=>?_) fun o=>?_
  ·
   have g:r&&&1=1:=lX.1 (show(r&&&1).toNat=1 by omega);refine Jh<|Jd D<|Af (KO 1 D D)<|Af (J0 (q:=3988292384) D D)<|K ?_;refine Vh jE 0 j fun z A=>Af (Dj uc j j (BZ 0) D D)<|U<|jj 0 j D D D (m2 jE (x:=((r>>>1)^^^3988292384)) D _ _)<|Jg<|Tf 0 (Aq tt ((Uj n (j+1) (8*n)).set j ((r>>>1)^^^3988292384))) (Aq tt (Uj n j (8*n))) (congrArg (Aq tt) (by rw[show((r>>>1)^^^3988292384)=At.cz r from by unfold At.cz;rw[if_pos g]];exact dv JY hr))<|K ?_;refine Af (fun _ _ c b=>Yx c (k:=.i64) (p:=((j:Nat):Int)) (q:=1) (r:=((j:Nat):Int) - 1) D D (IntWalk.i64_in _ JY))<|K ?_;exact fun a W c b=>⟨_,JY,j,(r>>>1)^^^3988292384,_,_,D,AY c,b.pick [0],JY,(by rw[show 8*n - j=(8*n - (j+1))+1 by omega,At.aT,←hr];unfold At.cz;rw[if_pos g])⟩
  have g:¬r&&&1=1:=fun q=>o (by rw[q];rfl);refine Jh<|Jd D<|Af (KO 1 D D)<|K ?_;refine Vh jE 0 j fun B C=>Af (Dj uc j j (BZ 0) D D)<|U<|jj 0 j D D D (m2 jE (x:=(r>>>1)) D _ _)<|Jg<|Tf 0 (Aq tt ((Uj n (j+1) (8*n)).set j (r>>>1))) (Aq tt (Uj n j (8*n))) (congrArg (Aq tt) (by rw[show(r>>>1)=At.cz r from by unfold At.cz;rw[if_neg g]];exact dv JY hr))<|K ?_;refine Af (fun _ _ c b=>Yx c (k:=.i64) (p:=((j:Nat):Int)) (q:=1) (r:=((j:Nat):Int) - 1) D D (IntWalk.i64_in _ JY))<|K ?_;exact fun a W c b=>⟨_,JY,j,r>>>1,_,_,D,AY c,b.pick [0],JY,(by rw[show 8*n - j=(8*n - (j+1))+1 by omega,At.aT,←hr];unfold At.cz;rw[if_neg g])⟩
 obtain rfl:k=0:=JY;refine K ?_;refine DL (fun h a W=>∃i d f,h=32 - i∧AH 44 a (Jb (Jb (Jb (Jb Jk 0 (E n)) 2 (I none 0 0)) 3 (I d (8*n+32) f)) 6 (E i))∧Sat C1 w [Ae 105 1 (I d (8*n+32) f) (8*n+32) (Aq tt (Uj n 0 (8*n+i)))] W∧i≤32) (fun a W c b=>⟨0,_,_,D,AY c,b.pick [0],JY⟩) ?_;rintro _ a W ⟨i,d,f,rfl,c,b,V⟩;revert a W;refine K ?_;refine Ej D D<|Jg<|Jf<|Cz D (fun t=>?_) fun t=>?_
 ·
  refine K ?_;refine Af (E3 (p:=8) D D)<|Jd D<|B6 D D<|Jd D<|Af (Gg AF K1 D)<|Af (nY D D)<|Vh jE 0 ((8*n)+i) fun F G=>Af (Dj uc ((8*n)+i) ((8*n)+i) (BZ 0) D D)<|U<|jj 0 ((8*n)+i) D D D (m2 jE (x:=(UInt32.ofNat (2^i))) D _ _)<|Jg<|Tf 0 (Aq tt ((Uj n 0 (8*n+i)).set ((8*n)+i) (UInt32.ofNat (2^i)))) (Aq tt (Uj n 0 (8*n+(i+1)))) (congrArg (Aq tt) (pC JY))<|K ?_;refine B6 (q:=1) D D<|K ?_;exact fun a W c b=>⟨_,JY,i+1,_,_,D,AY c,b.pick [0],JY⟩
 refine A7 ?_;intro W b;obtain rfl:i=32:=JY;exact⟨_,_,D,b.DQ 0,b.A0⟩
