/- Laws and walks on the road to SalvagePlays (part M40). No conditions beyond each law's own. -/
import Derived.Test.YtjdboncaegphmaaGreatDoorM39
set_option linter.unusedVariables false
namespace Go.Proofs.YtjdboncaegphmaaGreatDoor.F9
set_option maxRecDepth 1000000 in
theorem Ev:rows T 2147483648 (es.drop 276) 325=true:=by decide+kernel
end Go.Proofs.YtjdboncaegphmaaGreatDoor.F9
namespace Go.Proofs.YtjdboncaegphmaaGreatDoor.F9
set_option maxRecDepth 1000000 in
theorem Kw:rows T 2147483648 (es.drop 601) 424=true:=by decide+kernel
end Go.Proofs.YtjdboncaegphmaaGreatDoor.F9
namespace Go.Proofs.YtjdboncaegphmaaGreatDoor.F9
set_option maxRecDepth 1000000 in
theorem HQ:rows T 2147483648 (es.drop 1025) 1023=true:=by decide+kernel
end Go.Proofs.YtjdboncaegphmaaGreatDoor.F9
namespace Go.Proofs.YtjdboncaegphmaaGreatDoor.F9
open Go.Proofs.YtjdboncaegphmaaGreatDoor
set_option linter.unusedVariables false
def s5(m:Nat):Nat:=At.steps m 2147483648
theorem q9(n:Nat):∀r,r<4294967296→r≠0→At.steps n r≠0:=by
 have one:∀r,r<4294967296→r≠0→At.step r≠0:=by
  intro r h a;unfold At.step;split
  ·intro e;have:=At.az.1 e;unfold At.L5 at this;omega
  ·omega
 induction n with
 |zero=>intro r _ h;exact h
 |succ n b=>intro r h a;exact b _ (At.VP h) (one r h a)
theorem qW(m k:Nat):s5 (m+k)=At.steps m (s5 k):=by
 unfold s5;rw[←At.T',j7]
theorem oJ(m:Nat):s5 m<4294967296:=At.Yz m JZ
theorem o4:∀k,k<32→At.steps (31 - k) 2147483648=2^k:=JZ
theorem nc(n j:Nat)(h:j<8*n+32):At.PD n j=s5 (8*n+31 - j):=by
 unfold At.PD s5;split
 ·rename_i q;unfold At.made;rw[←o4 (j % 8) JY,←At.T']
  congr 1
  omega
 ·rw[←o4 (j - 8*n) JY]
  congr 1
  omega
def Ce(l:rG)(a:List Nat):List UInt8:=a.foldl At.bit l
theorem XZ{d j:Nat}:∀(l:List (Nat×Nat)),At.last l d=some j→(d,j)∈l:=by
 have:∀(l:List (Nat×Nat)) (o:Option Nat),l.foldl (fun o p=>if p.1=d then some p.2 else o) o=some j→o=some j∨(d,j)∈l:=by
  intro l
  induction l with
  |nil=>intro o h;exact .inl h
  |cons p l a=>
   intro o h;rw[j_]at h
   rcases a _ h with q|q
   ·split at q
    ·rename_i e;cases q;exact .inr (by rw[←e];simp)
    ·exact .inl q
   ·exact .inr (by simp[q])
 intro l h;exact(this l none h).resolve_left (by simp)
theorem sh{d j:Nat}:∀(l:List (Nat×Nat)),(d,j)∈l→At.last l d≠none:=by
 have Bn:∀(l:List (Nat×Nat)) (o:Option Nat),o≠none→l.foldl (fun o p=>if p.1=d then some p.2 else o) o≠none:=by
  intro l
  induction l with
  |nil=>intro o h;exact h
  |cons p l a=>
   intro o h;rw[j_];refine a _ ?_;split
   ·simp
   ·exact h
 have:∀(l:List (Nat×Nat)) (o:Option Nat),(d,j)∈l→l.foldl (fun o p=>if p.1=d then some p.2 else o) o≠none:=by
  intro l
  induction l with
  |nil=>intro o h;cases h
  |cons p l a=>
   intro o h;rw[j_]
   rcases tO.1 h with q|q
   ·subst q;refine Bn l _ ?_;simp
   ·exact a _ q
 intro l h;exact this l none h
theorem e_(n:Nat):∀k,k≤n→∀d j,(d,j)∈At.rows n k↔∃c i,c<k∧i<8∧d=At.made c i∧j=8*(n - 1 - c)+i:=by
 intro k
 induction k with
 |zero=>
  intro _ d j;constructor
  ·intro h;have g:(d,j)∈([]:List (Nat×Nat)):=h;cases g
  ·rintro⟨c,i,h,_⟩;omega
 |succ k l=>
  intro m d j;show(d,j)∈At.rows n k++At.rowOf n k 8↔_;rw[GM,l JY d j];unfold At.rowOf;rw[bI];constructor
  ·rintro(⟨c,i,h1,a,b,f⟩|⟨i,V,e⟩)
   ·exact⟨c,i,JY,a,b,f⟩
   ·rw[QZ]at V;cases e;exact⟨k,i,JY,V,D,D⟩
  ·rintro⟨c,i,h1,a,b,f⟩
   rcases s9 c k with q|q
   ·exact .inl ⟨c,i,q,a,b,f⟩
   ·obtain rfl:c=k:=JY;exact .inr ⟨i,QZ.2 a,by rw[b,f]⟩
theorem Yd(n d j:Nat):(d,j)∈At.EG n↔j<8*n+32∧d=At.PD n j:=by
 unfold At.EG;rw[GM,e_ n n (Br _)];unfold At.tail;rw[bI];constructor
 ·rintro(⟨c,i,h1,a,rfl,rfl⟩|⟨i,V,e⟩)
  ·refine⟨JY,?_⟩;unfold At.PD;rw[if_pos JY,show n - 1 - (8*(n - 1 - c)+i)/8=c by omega,show(8*(n - 1 - c)+i) % 8=i by omega]
  ·rw[QZ]at V;cases e;refine⟨JY,?_⟩;unfold At.PD;rw[if_neg JY,show 8*n+i - 8*n=i by omega]
 ·rintro⟨h,rfl⟩;unfold At.PD
  by_cases q:j<8*n
  ·rw[if_pos q];exact .inl ⟨n - 1 - j/8,j % 8,JY,JY,D,JY⟩
  ·rw[if_neg q];exact .inr ⟨j - 8*n,QZ.2 JY,by rw[show 8*n+(j - 8*n)=j by omega]⟩
end Go.Proofs.YtjdboncaegphmaaGreatDoor.F9
namespace Go.Proofs.YtjdboncaegphmaaGreatDoor
open Go.RowKit
set_option maxRecDepth 100000
set_option maxHeartbeats 2000000
variable {X Y:Nat→Prop} {w W B8:World} {v BA u H8 v0 Oi:Value} {b Q k n m:Nat}
end Go.Proofs.YtjdboncaegphmaaGreatDoor
namespace Go.Proofs.YtjdboncaegphmaaGreatDoor
open Go.RowKit
set_option maxRecDepth 100000
set_option maxHeartbeats 2000000
theorem iy(n:Nat):∀(v i:Nat),i<n→(Ref.Dd v n).getD i 0=UInt8.ofNat (v/256^i):=by
 induction n with
 |zero=>intro v i h;omega
 |succ n a=>
  intro v i h;cases i with
  |zero=>
   show UInt8.ofNat (v % 256)=UInt8.ofNat (v/256^0);apply M'.1;simp
  |succ i=>
   have:=a (v/256) i JY;simp only[Ref.Dd,ui];rw[this,tW,fW,RV]
theorem gU{a b:rG}{n i:Nat}(h:a.length=n):(a++b).getD (n+i) 0=b.getD i 0:=by
 subst h;rw[Dm,Dm,UP JY,Zm]
theorem WK{l:rG}{n:Nat}(h:l.length=n):At.C5 (Ref.HM l) n=0:=by
 rw[cQ];intro i V;unfold Ref.HM;rw[gU h,iy 4 _ i V,gb h,Nat.pow_mul]
theorem Fx{Bo:Type}{a b:List Bo}{n k:Nat}(h:a.length=n)(c:n≤k:=by decide):(a++b).drop k=b.drop (k - n):=by
 rw[RZ,tI JY,h];rfl
def Iu(s:Fr.Bu):List UInt8:=[76,68,71,49,UInt8.ofNat s.w,0,0,0]++(Ref.Dd s.g 8++(Ref.Dd s.m 4++(Ref.Dd s.h 4++(Ref.Dd s.p 4++List.replicate 32 0))))
theorem Oe(s:Fr.Bu):(Iu s).length=60:=by simp[Iu,Ref.Fo]
theorem Pj(s:Fr.Bu):Ref.EC s=Ref.HM (Iu s)++List.replicate 192 0:=by
 have e:Ref.fill ([76,68,71,49,UInt8.ofNat s.w,0,0,0]++Ref.Dd s.g 8++Ref.Dd s.m 4++Ref.Dd s.h 4++Ref.Dd s.p 4) 60=Iu s:=by
  unfold Ref.fill Iu;rw[DV (by simp[Ref.Fo])];simp[Ref.Fo]
 unfold Ref.EC;rw[e];unfold Ref.fill;rw[DV (by rw[Ref.Oc,Oe];decide),Ref.Oc,Oe]
theorem N0(s:Fr.Bu):(Ref.EC s).drop 64=List.replicate 192 0:=by
 rw[Pj,List.drop_left' (by rw[Ref.Oc,Oe])]
theorem SH{s:Fr.Bu}(b:Fr.DE s=true):I7 (Ref.EC s) s:=by
 have c:(Ref.EC s).take 64=Ref.HM (Iu s):=by
  rw[Pj];exact gb (by rw[Ref.Oc,Oe])
 have J:=b;simp only[Fr.DE,Kq,decide_eq_true_eq]at J;obtain⟨⟨⟨⟨⟨⟨⟨f,i⟩,j⟩,k⟩,l⟩,n⟩,o⟩,d⟩:=J;have q:s.h<4096:=by
  simp only[hy,Kq,decide_eq_true_eq]at d;omega
 have e:Ref.EC s=[76,68,71,49,UInt8.ofNat s.w,0,0,0]++(Ref.Dd s.g 8++(Ref.Dd s.m 4++(Ref.Dd s.h 4++(Ref.Dd s.p 4++(List.replicate 32 0++(Ref.Dd (At.sum (Iu s)) 4++List.replicate 192 0)))))):=by
  rw[Pj];unfold Ref.HM Iu;simp only[C9]
 have a:([76,68,71,49,UInt8.ofNat s.w,0,0,0]:rG).length=8:=D;refine⟨Ref.b7 s,by rw[c];exact WK (Oe s),by rw[e];rfl,by rw[e];rfl,by rw[e];rfl,by rw[e];rfl,by rw[e];rfl,?_,?_,?_,?_,?_,?_,b⟩
 ·rw[e,Fx a,Fx (Ref.Fo 8 _),Fx (Ref.Fo 4 _),Fx (Ref.Fo 4 _),Fx (Ref.Fo 4 _)];rfl
 ·rw[e];show(UInt8.ofNat s.w).toNat=s.w;simp;omega
 ·rw[e,Fx a,HE,gb (Ref.Fo 8 _),Ref.N9];omega
 ·rw[e,Fx a,Fx (Ref.Fo 8 _),HE,gb (Ref.Fo 4 _),Ref.N9];omega
 ·rw[e,Fx a,Fx (Ref.Fo 8 _),Fx (Ref.Fo 4 _),HE,gb (Ref.Fo 4 _),Ref.N9];omega
 ·rw[e,Fx a,Fx (Ref.Fo 8 _),Fx (Ref.Fo 4 _),Fx (Ref.Fo 4 _),HE,gb (Ref.Fo 4 _),Ref.N9];omega
end Go.Proofs.YtjdboncaegphmaaGreatDoor
namespace Go.Proofs.YtjdboncaegphmaaGreatDoor
open Go.RowKit
open F9 (Ce)
set_option maxRecDepth 100000
set_option maxHeartbeats 2000000
def Dc(l:rG)(p:Nat):List UInt8:=(l.drop (256*p)).take 256
theorem fU(l:rG)(p m:Nat):(Dc l p)[m]? =if m<256 then l[256*p+m]? else none:=by
 unfold Dc;rw[LQ];split
 ·rw[Q1]
 ·rfl
def Ag(l g:rG)(t:Nat):Bool:=((l.getD (t/8) 0).toNat^^^(g.getD (t/8) 0).toNat).testBit (t % 8)
end Go.Proofs.YtjdboncaegphmaaGreatDoor
namespace Go.Proofs.YtjdboncaegphmaaGreatDoor
open Go.RowKit
set_option maxRecDepth 100000
set_option maxHeartbeats 2000000
section
variable {P:Program} {w w':World} {a:Act} {N d:Nat} {f:BW} {A5:Act→World→Prop} {Aa:Exit→Act→World→Prop} {ty:TypeId} {pos:String} {An:Array Edge} {g:Option (Nat×Bool)}
theorem ek{fn:Func}{R:Ending→World→Prop}(c:AH N a f){t u v:Nat}{T:TypeId}(hr:fn.results=#[.tmp u,.tmp v,.cell t T]){b:Nat}{BA e:Value}(j:f t=some (.pointer (some ⟨b,0,none⟩)))(k:f u=some BA)(l:f v=some e){ss:List (List Value)}{tb:TypeId}{fr:Nat×Nat}(J:w.heap[b]? =some (.cells (flat ss) tb fr))
 {BB:TypeDesc}(hu:P.underlying T=some BB)(Ad:BB.isRow=true)(V:(P.info? T).map (·.size)=some ss.flatten.length)(h:R (.returned (.tuple #[BA,e,.agg (flat ss)])) w):bodyPost P fn R .ret a w:=by
 refine⟨c.d,.tuple #[BA,e,.agg (flat ss)],?_,h⟩;have hl:=run_loadAt_mid (P:=P) w b 0 T ss.flatten BB (H4 J) hu Ad V;have he:=c.h t _ j;have g:=c.h u _ k;have i:=c.h v _ l;have m:(loadVar T ⟨b,0,none⟩).run P w=.ok (.agg (flat ss)) w:=by simpa[Instr.loadAt,Instr.sureAddr,flat]using hl
 simp only[M_]at he g i;simp[results,hr,he,g,i,asAddr,m]
end
theorem wrap_u8(n:Nat):IntKind.u8.wrap (n:Int)=((n % 256:Nat):Int):=by rw[H5];simp
end Go.Proofs.YtjdboncaegphmaaGreatDoor
namespace Go.Proofs.YtjdboncaegphmaaGreatDoor
open Go.RowKit Go.Maps
set_option maxRecDepth 100000
set_option maxHeartbeats 2000000
theorem eL{w:World}{b o:Nat}{c:Array Value}{t:TypeId}{fr:Nat×Nat}{v:Value}(J:w.heap[b]? =some (.cells c t fr))(a:w.cell? ⟨b,o,none⟩=some v):o<c.size:=by
 rw[cell_of_row _ _ _ _ _ _ J]at a;exact(SR.1 a).1
theorem iX(x:UInt8)(k:Nat):(x^^^UInt8.ofNat (2^(k % 8))).toNat=x.toNat^^^(1*2^(k % 8)) % 256:=by
 rw[kA,fC];rfl
theorem Yn(Ac s ib off m c j:Nat)(l:rG)(cur:Array Value)(w:World)(f:w.heap[Ac]? =some (.cells #[.slice (some ⟨ib,off,none⟩) m c] 29 (0,0)))(d:w.heap[s]? =some (.cells #[.int .i64 j] 3 (0,0)))
 (V:w.heap[ib]? =some (.cells cur 5 (0,0)))(y:View w (.slice (some ⟨ib,off,none⟩) m c) m 1 (bv l))(hl:l.length=m)(hj:j<8*m)(I:m≤1048576):
 Calls Tryz.prog 103 #[.pointer (some ⟨Ac,0,none⟩),.pointer (some ⟨s,0,none⟩)] w fun e w'=>e=.returned (.tuple #[])∧w.grownBy w' (some ib)∧
  w'.heap[ib]? =some (.cells (cur.setIfInBounds (off+j/8) (.int .u8 (l.getD (j/8) 0^^^UInt8.ofNat (2^(j % 8))).toNat)) 5 (0,0)):=by
 have f:CY w Ac [[Value.slice (some ⟨ib,off,none⟩) m c]] 29:=f;have d:CY w s [[Value.int .i64 ((j:Nat):Int)]] 3:=d;have h:Below w.heap.size w w:=Cn _ _;refine DZ XH D 12 ?_;intro a b;refine Mf 10 ?_;intro K B J;have f:=Bl f J;have d:=Bl d J;have V:=Bl V J;have h:=BG h J;revert a;refine n7 B7 0 f D D<|n7 AF 0 d D D<|n' (q:=8) D D<|?_;have c2:=GH (y.below h) (j/8) (o:=off+(j/8)*1);refine M3 A3 (j/8) (off+(j/8)*1) D D<|H3 BV c2 D<|n7 AF 0 d D D<|mi (q:=8) D D<|?_;obtain⟨i,t⟩:∃g:Nat,g=(1*2^(j % 8)) % 256:=⟨_,D⟩
 have z:i<256:=by rw[t];exact hJ _ JZ
 refine Fs (fun _ b=>Kc b (k:=.u8) (p:=1) (n:=j % 8) (r:=((i:Nat):Int)) D D (by simp only[IntKind.bits];omega) (by rw[t];exact wrap_u8 _))<|?_;obtain⟨u,x⟩:∃g:Nat,g=((l.getD (j/8) 0).toNat)^^^i:=⟨_,D⟩
 have L:u<256:=by rw[x];exact Mx (n:=8) (Cj _) z
 refine Fs (fun _ b=>D6 b (k:=.u8) (p:=(((l.getD (j/8) 0).toNat:Nat):Int)) (q:=((i:Nat):Int)) (r:=((u:Nat):Int)) (.inr (.inr D)) D D (by rw[x];exact u8_xor_nat _ _ (Cj _) z))<|?_;have C:=GH (y.below h) (j/8) (o:=off+(j/8)*1);refine M3 A3 (j/8) (off+(j/8)*1) D D<|?_;intro a b;refine LP ?_;revert a;intro M E;have F:=eL V C;refine Cp D (fun A5 G=>Me E D V (v:=(Value.int .u8 (((u:Nat):Int):Int))) D D AB F D ?_);intro a N b B A H;refine G _ _ ?_;revert a;refine Aw<|?_;intro a b;refine bf ?_;refine Yt b D ?_;rw[Q6]at A;exact⟨D,I2 (H_ (NG w _) h) H,by rw[iX,←t,←x];exact A⟩
def Vb(w0 w:World)(v:Value)(ib off m c j:Nat):Prop:=∃Ac a,v=.func (.func 103) #[] #[.pointer (some ⟨Ac,0,none⟩),.pointer (some ⟨a,0,none⟩)]∧w0.heap.size≤Ac∧w0.heap.size≤a∧CY w Ac [[.slice (some ⟨ib,off,none⟩) m c]] 29∧CY w a [[.int .i64 ((j:Nat):Int)]] 3
theorem bR(tb Bi n m c off ib j:Nat)(l:rG)(cur cs:Array Value)(T:TypeId)(w:World)(J:w.heap[tb]? =some (.cells cs T (0,0)))(ai:TabIs w tb Bi n cs)(h1:1≤n)(aj:n≤4096)
 (V:w.heap[ib]? =some (.cells cur 5 (0,0)))(ak:ib≠tb)
 (K:View w (.slice (some ⟨ib,off,none⟩) m c) m 1 (bv l))(hl:l.length=m)(hm:n+4≤m)(al:At.last (At.EG n) (At.C5 l n)=some j)(hj:j<8*m)(an:m≤1048576):
 Calls Tryz.prog 72 #[.pointer (some ⟨tb,Bi,none⟩),.slice (some ⟨ib,off,none⟩) m c,.int .i64 n] w fun e w'=>∃v U,e=.returned (.tuple #[v,.bool true])∧Hm w U tb Bi n cs T∧U.grownBy w' (some ib)∧
  w'.heap[ib]? =some (.cells (cur.setIfInBounds (off+j/8) (.int .u8 (l.getD (j/8) 0^^^UInt8.ofNat (2^(j % 8))).toNat)) 5 (0,0))∧Vb w w' v ib off m c j:=by
 obtain⟨q,L⟩:∃q:Option Addr,q=some ⟨ib,off,none⟩:=⟨_,D⟩
 rw[←L]at K⊢;have r:=AX L;have ao:=AX V;have li:ib<w.heap.size:=(SR.1 V).1;clear L V;have aq:tb<w.heap.size:=(SR.1 J).1;have aS:=K.cap;have ar:=AX J;have au:=AX hl;have av:m≤l.length:=JY;clear J hl;have aT:∀(fn:Fn) (first cap:Array Value) (w:World),(Instr.makeFunc fn first cap).run Tryz.prog w=.ok (.func fn first cap) w:=fun _ _ _ _=>rfl;have aU:∀(x:Bool) (w:World),(Op.unary .not (.bool x)).run Tryz.prog w=.ok (.bool (!x)) w:=fun _ _=>rfl
 go_enter Rl,Tryz.ntmps72
 go_wp2_with (with_reducible refine OP 29 ?_)
 refine⟨Ob D 29 (.tmp 1) D (v:=.slice q m c) D ?_⟩;intro t aw A u;simp only[Value.cells]at A;have ax:=AX A;have aV:w.heap.size+1≤t.heap.size:=JY;have ay:Hid (t.heap[tb]? =some (.cells cs T (0,0))):=AX ((u.block _ JY).trans ar.out);have az:=IM (j:=0) A D;have M:=K.below u;clear A aw
 go_wp2
 go_loop [8,13] (fun s i=>∃(k x:Nat),k≤4∧i=.int .i64 k∧s=.int .u32 x∧Hid (x=IL l n k)) (fun _ i=>4 - (intOf i).toNat)
 case atStart=>exact⟨0,0,JY,D,D,AX D⟩
 case round=>
  obtain⟨k,x,h,rfl,rfl,B⟩:=hrel
  by_cases aW:k<4
  ·have N:x<4294967296:=by
    have:=WD l n k JY;have W:2^(8*k)≤2^32:=aI JZ JY;rw[←B.out]at this;omega
   go_wp2_with (first|go_skip|(with_reducible refine HD 29 ?_))
   refine⟨idx A3 D (.tmp 17) (.tmp 20) D (y:=q) (n:=m) (c:=c) D M D (n+k) (by simp) JY ?_⟩;intro aA aB X _;obtain⟨g,O⟩:∃g,g=(l.getD (n+k) 0).toNat:=⟨_,D⟩
   have aX:g<256:=by rw[O];exact(l.getD (n+k) 0).toNat_lt
   have BO:=AX O;clear O;have aY:t.cell? ⟨aA,aB,none⟩=some (.int .u8 g):=by rw[BO.out];exact Gw X
   clear X
   go_wp2_with (first|go_skip|(with_reducible refine FM 105 ?_))
   have aC:g*2^(8*k)<4294967296:=by
    have W:2^(8*k)≤2^24:=aI JZ JY;have E:g*2^(8*k)≤255*2^24:=l2 JY W;omega
   obtain⟨y,Y⟩:∃y,y=g*2^(8*k):=⟨_,D⟩
   have Z:=AX Y;have aD:y<4294967296:=JY;clear Y;refine⟨WI D D (p:=g) (n:=8*k) (i:=8*(k:Int)) D D (by simp) JY aC y Z.out.symm ?_⟩
   go_wp2_with (first|go_skip|(with_reducible refine FM 105 ?_))
   obtain⟨z,P⟩:∃z,z=x|||y:=⟨_,D⟩
   have aE:Hid (z=IL l n (k+1)):=AX (by rw[P,B.out,Z.out,BO.out];rfl);have aF:=AX P;clear P;refine⟨W7 D D (p:=x) (q:=y) D D N aD z aF.out.symm ?_⟩
   go_wp2
   go_round
   case rel=>exact⟨k+1,z,JY,by go_num,D,aE⟩
   case measure=>simp[intOf];omega
  ·have aG:k=4:=JY;subst aG;have Q:x=At.stored l n:=by rw[B.out,UC]
   have N:x<4294967296:=by rw[Q];exact At.Ts _ _
   have aH:=AX Q;clear Q B
   go_wp2_with (first|go_skip|(with_reducible refine GQ ?_))
   refine⟨IB A3 D (.tmp 32) (.tmp 33) D (y:=q) (n:=m) (c:=c) D n D JY ?_⟩
   go_wp2_with (first|go_skip|(go_at_call 102;with_reducible refine C_ ?_))
   refine⟨(I4 q n c (l.take n) t (M.pre n JY av) (by rw[FX];omega)).mono ?_⟩;rintro e aa ⟨rfl,f⟩;obtain⟨s,F⟩:∃s,s=At.sum (l.take n):=⟨_,D⟩
   have s1:s<4294967296:=by rw[F];exact At.G7 _
   rw[←F];obtain⟨d,Ad⟩:∃d,d=s^^^x:=⟨_,D⟩
   have ab:Hid (d=At.C5 l n):=AX (by rw[Ad,F,aH.out];rfl);have d1:d<4294967296:=by rw[ab.out];exact At.Uo _ _
   have aJ:=AX Ad;clear F Ad;have aK:Hid (aa.heap[tb]? =some (.cells cs T (0,0))):=AX ((f.block _ JY).trans ay.out)
   go_wp2_with (first|go_skip|(with_reducible refine FM 105 ?_))
   refine⟨LW D D (p:=s) (q:=x) D D s1 N d aJ.out.symm ?_⟩
   go_wp2_with (first|go_skip|(go_at_call 101;with_reducible refine C_ ?_))
   refine⟨(find_spec tb Bi n d cs T aa aK.out (ai.below (u.trans (f.mono JY))) h1 aj d1).mono ?_⟩;rintro e a ⟨rfl,t3⟩;have ad:Mc n d=.tuple #[.int .i64 j,.bool true]:=by unfold Mc;rw[ab.out,al]
   rw[ad];have R:Hm w a tb Bi n cs T:=by
    obtain⟨G,EF,Ev⟩:=t3;exact⟨G,I2 (H_ (H_ (NG w (some tb)) u) f) EF,Ev⟩
   have aL:Hid (a.heap[w.heap.size]? =some (.cells #[.slice q m c] 29 (0,0))):=by
    obtain⟨G,EF,Ev⟩:=t3;exact AX (Bn EF ((f.block _ JY).trans ax.out) JY)
   have aM:Hid (a.heap[ib]? =some (.cells cur 5 (0,0))):=by
    obtain⟨G,EF,Ev⟩:=t3;exact AX (Bn EF ((f.block _ JY).trans ((u.block _ JY).trans ao.out)) ak)
   have aZ:t.heap.size≤a.heap.size:=by have:=f.size;have:=t3.size;omega
   have aN:View a (.slice q m c) m 1 (bv l):=by
    obtain⟨G,EF,Ev⟩:=t3;exact(M.below f).grown EF (fun k h e=>by rw[r.out]at h;simp[Value.ownBlock]at h;simp at e;omega)
   clear t3 ad az
   go_wp2_with (first|go_skip|(with_reducible refine LX 3 ?_))
   refine⟨KE D 3 D (z:=.int .i64 0) AB ?_⟩;intro a0 aO E H;simp only[Value.cells]at E;have ae:=AX E;have t4:=R.below aq H;clear E
   go_wp2_with (first|go_skip|(with_reducible refine HV 3 ?_))
   refine⟨PS D 3 (.tmp 10) (.tmp 39) D (b:=a.heap.size) (off:=0) (v:=.int .i64 j) D ae.out D D AB JZ ?_⟩;intro o aP af I;have t5:=t4.other I (by have:=R.size;omega) (by have:=R.size;omega) ⟨_,_,ae.out⟩;have ag:Hid (o.heap[w.heap.size]? =some (.cells #[.slice q m c] 29 (0,0))):=AX (Bn I ((H.block _ JY).trans aL.out) JY);have aQ:Hid (o.heap[ib]? =some (.cells cur 5 (0,0))):=AX (Bn I ((H.block _ JY).trans aM.out) JY);have aR:View o (.slice q m c) m 1 (bv l):=(aN.below H).grown I (fun k h e=>by rw[r.out]at h;simp[Value.ownBlock]at h;simp at e;omega);have ah:Hid (o.heap[a.heap.size]? =some (.cells #[.int .i64 j] 3 (0,0))):=AX (by simpa using af);clear af aO aP;have C:=Yn w.heap.size a.heap.size ib off m c j l cur o (by rw[←r.out];exact ag.out) ah.out aQ.out (by rw[←r.out];exact aR) au.out hj an
   go_wp2_with (first|go_skip|(go_at_call 103;with_reducible refine C_ ?_))
   refine⟨C.mono ?_⟩;rintro e a1 ⟨rfl,S,i6⟩
   go_wp2
   go_ret2
   exact⟨_,o,D,t5,S,i6,w.heap.size,a.heap.size,D,Br _,JY,by rw[←r.out];exact Bn S ag.out JY,Bn S ah.out JY⟩
end Go.Proofs.YtjdboncaegphmaaGreatDoor
namespace Go.Proofs.YtjdboncaegphmaaGreatDoor
open Go.RowKit
open F9 (Ce)
set_option maxRecDepth 100000
set_option maxHeartbeats 2000000
theorem Vu{l:rG}:Fr.CN l=true↔∀x∈l,x=0:=by
 unfold Fr.CN;rw[XF];simp
theorem I7.DP{l:rG}{s:Fr.Bu}(h:I7 l s):Fr.DP l=some s:=by
 have I:=h.HZ;have e:∀i,i<64→(l.take 64).getD i 0=l.getD i 0:=by
  intro i V;rw[Dm,Dm,LQ,if_pos V]
 have f:∀i k,i+k≤64→((l.take 64).drop i).take k=(l.drop i).take k:=by
  intro i k J;rw[List.drop_take,LN,aQ JY]
 have hlen:=h.len;have u:(l.drop 8).take 8=(l.drop 8).take 7++[l.getD 15 0]:=by
  rw[kn (by simp;omega)]
  congr 1
  simp[List.getD_eq_getElem?_getD,List.getElem?_eq_getElem (show 15<l.length by omega)]
 have v:∀(a:rG) (b:UInt8),Fr.le (a++[b])=Fr.le a+b.toNat*256^a.length:=by
  intro a b
  induction a with
  |nil=>simp[Fr.le]
  |cons x a y=>simp only[HR,Fr.le,y,Cw,fW,jW];rw[Nat.mul_left_comm 256,RV 256,e8,RV 256 (256^a.length)]
 have z:((l.drop 8).take 7).length=7:=by simp;omega
 have j:=h.g;rw[u,v,z]at j;have n:l.getD 15 0=0:=by
  apply M'.1;show(l.getD 15 0).toNat=0;have:(256:Nat)^7=72057594037927936:=JZ;rw[this]at j;omega
 have A:Fr.le ((l.drop 8).take 7)=s.g:=by
  rw[n]at j;simpa using j
 have B:Fr.fields (l.take 64)=s:=by
  unfold Fr.fields;rw[e 4 JY,f 8 7 JY,f 16 4 JY,f 20 4 JY,f 24 4 JY,h.w,A,h.m,h.h,h.p]
 have C:(l.take 64).take 4=[76,68,71,49]:=by
  rw[LN,aQ JY]
  match l,hlen,h.Bz,h.Dt,h.vc,h.vI with
  |a::b::c::d::t,_,Ll,D,E,F=>
   have G:a=76:=M'.1 Ll;have EF:b=68:=M'.1 D;have Ev:c=71:=M'.1 E;have Kw:d=49:=M'.1 F;rw[G,EF,Ev,Kw];rfl
 have H:Fr.Hz (l.take 64)=true:=by
  unfold Fr.Hz;rw[C,f 5 3 JY,f 28 32 JY,f 15 1 JY];have o2:Fr.CN ((l.drop 15).take 1)=true:=by
   rw[Vu];intro x o;have:(l.drop 15).take 1=[l.getD 15 0]:=by
    rw[RS];simp[List.getD_eq_getElem?_getD,List.getElem?_eq_getElem (show 15<l.length by omega)]
   rw[this,n]at o;simpa using o
  have q:Fr.CN ((l.drop 5).take 3)=true:=h.vd;have r:Fr.CN ((l.drop 28).take 32)=true:=h.vJ;rw[q,r,o2];simp
 unfold Fr.DP;rw[if_pos h.C5,if_pos H,B,if_pos h.valid]
