/- Laws and walks on the road to SalvagePlays (part M06). No conditions beyond each law's own. -/
import Derived.Test.YtjdboncaegphmaaGreatDoorM05
set_option linter.unusedVariables false
namespace Go.Proofs.YtjdboncaegphmaaGreatDoor
open Go.RowKit
set_option maxRecDepth 100000
set_option maxHeartbeats 2000000
theorem Gw{w:World}{b off n:Nat}{l:rG}(h:Cells w b off (((bv l).drop (n*1)).take 1))(a:n<l.length:=by omega):w.cell? ⟨b,off,none⟩=some (.int .u8 (l.getD n 0).toNat):=by
 have:=h 0 (.int .u8 (l.getD n 0).toNat) (by simp[bv,List.getElem?_drop,a,List.getD_eq_getElem?_getD]);simpa using this
theorem View.pre{w:World}{q:Option Addr}{n c:Nat}{l:rG}(a:View w (.slice q n c) n 1 (bv l))(m:Nat)(hm:m≤n)(hl:n≤l.length):View w (.slice q m c) m 1 (bv (l.take m)):=by
 have b:=a.cap;have:=(a.hd m c JY (Br _) (by simp[DG];omega)).trim
 rwa[LN,Q6,Q6,aQ JY,Ip]at this
end Go.Proofs.YtjdboncaegphmaaGreatDoor
namespace Go.Proofs.YtjdboncaegphmaaGreatDoor
open Go.RowKit Go.Maps
set_option maxRecDepth 100000
set_option maxHeartbeats 2000000
def IL(l:rG)(n:Nat):Nat→Nat
 |0=>0
 |k+1=>IL l n k|||(l.getD (n+k) 0).toNat*2^(8*k)
theorem WD(l:rG)(n k:Nat)(h:k≤4):IL l n k<2^(8*k):=by
 induction k with
 |zero=>simp[IL]
 |succ k a=>
  have h1:=a JY;have b:=(l.getD (n+k) 0).toNat_lt;have:IL l n (k+1)=IL l n k+(l.getD (n+k) 0).toNat*2^(8*k):=At.MX _ _ _ h1;rw[this,show 8*(k+1)=8*k+8 by omega,ud];have c:(l.getD (n+k) 0).toNat*2^(8*k)≤255*2^(8*k):=Xr _ JY;have d:2^(8*k)*2^8=255*2^(8*k)+2^(8*k):=by rw[RV];omega
  omega
theorem UC(l:rG)(n:Nat):IL l n 4=At.stored l n:=by
 simp[IL,At.stored]
theorem eo(tb Bi n m c:Nat)(q:Option Addr)(l:rG)(cs:Array Value)(T:TypeId)(w:World)(u:w.heap[tb]? =some (.cells cs T (0,0)))(S:TabIs w tb Bi n cs)(h1:1≤n)(U:n≤4096)
 (H:View w (.slice q m c) m 1 (bv l))(hl:l.length=m)(hm:n+4≤m)(V:At.last (At.EG n) (At.C5 l n)=none):
 Calls Tryz.prog 72 #[.pointer (some ⟨tb,Bi,none⟩),.slice q m c,.int .i64 n] w fun e w'=>e=.returned (.tuple #[.nilFunc,.bool false])∧Hm w w' tb Bi n cs T:=by
 have W:tb<w.heap.size:=(SR.1 u).1;have aw:=H.cap;have X:=AX u;have ax:=AX hl;have Y:m≤l.length:=JY;clear u hl;have ay:∀(x:Bool) (w:World),(Op.unary .not (.bool x)).run Tryz.prog w=.ok (.bool (!x)) w:=fun _ _=>rfl
 go_enter Rl,Tryz.ntmps72
 go_wp2_with (with_reducible refine OP 29 ?_)
 refine⟨Ob D 29 (.tmp 1) D (v:=.slice q m c) D ?_⟩;intro a Z f h;simp only[Value.cells]at f;have az:=AX f;have aA:w.heap.size+1≤a.heap.size:=JY;have aa:Hid (a.heap[tb]? =some (.cells cs T (0,0))):=AX ((h.block _ JY).trans X.out);have aB:=IM (j:=0) f D;have I:=H.below h;clear f Z
 go_wp2
 go_loop [8,13] (fun s i=>∃(k x:Nat),k≤4∧i=.int .i64 k∧s=.int .u32 x∧Hid (x=IL l n k)) (fun _ i=>4 - (intOf i).toNat)
 case atStart=>exact⟨0,0,JY,D,D,AX D⟩
 case round=>
  obtain⟨k,x,aC,rfl,rfl,o⟩:=hrel
  by_cases aD:k<4
  ·have A:x<4294967296:=by
    have:=WD l n k JY;have J:2^(8*k)≤2^32:=aI JZ JY;rw[←o.out]at this;omega
   go_wp2_with (first|go_skip|(with_reducible refine HD 29 ?_))
   refine⟨idx A3 D (.tmp 17) (.tmp 20) D (y:=q) (n:=m) (c:=c) D I D (n+k) (by simp) JY ?_⟩;intro ab ad K _;obtain⟨g,B⟩:∃g,g=(l.getD (n+k) 0).toNat:=⟨_,D⟩
   have aE:g<256:=by rw[B];exact(l.getD (n+k) 0).toNat_lt
   have BO:=AX B;clear B;have aF:a.cell? ⟨ab,ad,none⟩=some (.int .u8 g):=by rw[BO.out];exact Gw K
   clear K
   go_wp2_with (first|go_skip|(with_reducible refine FM 105 ?_))
   have ae:g*2^(8*k)<4294967296:=by
    have J:2^(8*k)≤2^24:=aI JZ JY;have r:g*2^(8*k)≤255*2^24:=l2 JY J;omega
   obtain⟨y,L⟩:∃y,y=g*2^(8*k):=⟨_,D⟩
   have M:=AX L;have af:y<4294967296:=JY;clear L;refine⟨WI D D (p:=g) (n:=8*k) (i:=8*(k:Int)) D D (by simp) JY ae y M.out.symm ?_⟩
   go_wp2_with (first|go_skip|(with_reducible refine FM 105 ?_))
   obtain⟨z,C⟩:∃z,z=x|||y:=⟨_,D⟩
   have ag:Hid (z=IL l n (k+1)):=AX (by rw[C,o.out,M.out,BO.out];rfl);have ah:=AX C;clear C;refine⟨W7 D D (p:=x) (q:=y) D D A af z ah.out.symm ?_⟩
   go_wp2
   go_round
   case rel=>exact⟨k+1,z,JY,by go_num,D,ag⟩
   case measure=>simp[intOf];omega
  ·have ai:k=4:=JY;subst ai;have E:x=At.stored l n:=by rw[o.out,UC]
   have A:x<4294967296:=by rw[E];exact At.Ts _ _
   have aj:=AX E;clear E o
   go_wp2_with (first|go_skip|(with_reducible refine GQ ?_))
   refine⟨IB A3 D (.tmp 32) (.tmp 33) D (y:=q) (n:=m) (c:=c) D n D JY ?_⟩
   go_wp2_with (first|go_skip|(go_at_call 102;with_reducible refine C_ ?_))
   refine⟨(I4 q n c (l.take n) a (I.pre n JY Y) (by rw[FX];omega)).mono ?_⟩;rintro e N ⟨rfl,F⟩;obtain⟨s,t⟩:∃s,s=At.sum (l.take n):=⟨_,D⟩
   have s1:s<4294967296:=by rw[t];exact At.G7 _
   rw[←t];obtain⟨d,Ad⟩:∃d,d=s^^^x:=⟨_,D⟩
   have O:Hid (d=At.C5 l n):=AX (by rw[Ad,t,aj.out];rfl);have d1:d<4294967296:=by rw[O.out];exact At.Uo _ _
   have ak:=AX Ad;clear t Ad;have al:Hid (N.heap[tb]? =some (.cells cs T (0,0))):=AX ((F.block _ JY).trans aa.out)
   go_wp2_with (first|go_skip|(with_reducible refine FM 105 ?_))
   refine⟨LW D D (p:=s) (q:=x) D D s1 A d ak.out.symm ?_⟩
   go_wp2_with (first|go_skip|(go_at_call 101;with_reducible refine C_ ?_))
   refine⟨(find_spec tb Bi n d cs T N al.out (S.below (h.trans (F.mono JY))) h1 U d1).mono ?_⟩;rintro e P ⟨rfl,t3⟩;have Q:Mc n d=.tuple #[.int .i64 0,.bool false]:=by unfold Mc;rw[O.out,V]
   rw[Q];have G:Hm w P tb Bi n cs T:=by
    obtain⟨an,EF,Ev⟩:=t3;exact⟨an,I2 (H_ (H_ (NG w (some tb)) h) F) EF,Ev⟩
   clear t3 Q
   go_wp2_with (first|go_skip|(with_reducible refine LX 3 ?_))
   refine⟨KE D 3 D (z:=.int .i64 0) AB ?_⟩;intro aG ao r aq;simp only[Value.cells]at r;have R:=AX r;have t4:=G.below W aq;clear r
   go_wp2_with (first|go_skip|(with_reducible refine HV 3 ?_))
   refine⟨PS D 3 (.tmp 10) (.tmp 39) D (b:=P.heap.size) (off:=0) (v:=.int .i64 0) D R.out D D AB JZ ?_⟩;intro aH ar au av;have t5:=t4.other av (by have:=G.size;omega) (by have:=G.size;omega) ⟨_,_,R.out⟩;clear au ao ar
   go_wp2
   go_ret2
   exact⟨D,t5⟩
def KH(c:Array Value)(o:Nat):List Value→Array Value
 |[]=>c
 |v::CV=>KH (c.setIfInBounds o v) (o+1) CV
theorem R8(CV:List Value):∀(c:Array Value) (o j:Nat),j<o∨o+CV.length≤j→(KH c o CV)[j]? =c[j]? :=by
 induction CV with
 |nil=>intro c o j _;rfl
 |cons v CV a=>
  intro c o j h;simp only[Cw]at h;rw[KH,a _ _ _ JY,bj,if_neg JY]
theorem aW(CV:List Value):∀(c:Array Value) (o j:Nat),j<CV.length→o+CV.length≤c.size→(KH c o CV)[o+j]? =CV[j]? :=by
 induction CV with
 |nil=>intro c o j h _;simp at h
 |cons v CV a=>
  intro c o j h b;simp only[Cw]at h b;cases j with
  |zero=>
   rw[KH,R8 _ _ _ _ JY];have:o<c.size:=JY;simp[this]
  |succ j=>
   rw[KH,show o+(j+1)=o+1+j by omega,a _ _ _ JY (by simp;omega)];rfl
theorem c5(b:Nat)(T:TypeId)(CV:List Value):∀(o:Nat) (w:World) (c:Array Value),w.heap[b]? =some (.cells c T (0,0))→(w.setCells b o CV).heap[b]? =some (.cells (KH c o CV) T (0,0))∧w.grownBy (w.setCells b o CV) (some b):=by
 induction CV with
 |nil=>intro o w c h;exact⟨h,NG _ _⟩
 |cons v CV a=>
  intro o w c h;obtain⟨h1,d⟩:=a (o+1) (w.setCell ⟨b,o,none⟩ v) _ (K' h v);exact⟨h1,I2 (Ka w b o v) d⟩
def f_(q:Option Addr)(n c:Nat):Array Value:=#[.slice q n c,.int .i64 0,.int .i64 0,.int .i64 0,.int .i64 0,.int .i64 0,.int .u32 0,.int .i32 0,.int .u32 0,.map none,.int .u32 0,.int .i32 0,.int .u32 0,.map none]
