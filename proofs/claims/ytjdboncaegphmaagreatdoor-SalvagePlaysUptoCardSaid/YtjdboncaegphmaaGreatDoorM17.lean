/- Laws and walks on the road to SalvagePlays (part M17). No conditions beyond each law's own. -/
import Derived.Test.YtjdboncaegphmaaGreatDoorM16
import Derived.Test.YtjdboncaegphmaaGreatDoorM14
set_option linter.unusedVariables false
namespace Go.Proofs.YtjdboncaegphmaaGreatDoor
open Go.RowKit
set_option maxRecDepth 100000
set_option maxHeartbeats 2000000
variable {w w0 w':World} {F:Nat→Prop} {n J b:Nat} {v:Value} {ss:List (List Value)} {T:TypeId}
theorem o7(q:Option Addr)(m c n:Nat)(l:rG)(w:World)(a:DA w)(d:m=n+4)(f:n≤100000000)(g:View w (.slice q m c) m 1 (bv l))(hl:l.length=m):
 Calls lp 78 #[.slice q m c] w fun e w'=>∃b,b=decide (At.C5 l n=0)∧e=.returned (.bool b)∧Below w.heap.size w w':=(rC q m c n l w a d f g hl).mono fun _ _ h=>⟨_,D,h.1,h.2⟩
theorem mG(i j:Nat)(q:Option Addr)(n c:Nat)(l:rG)(w:World)(a:View w (.slice q n c) n 1 (bv l))(hl:l.length=n)(d:i≤j)(hj:j≤n)(f:n≤1000000000):
 Calls lp 79 #[.slice q n c,.int .i64 i,.int .i64 j] w fun e w'=>∃b,b=Fr.CN ((l.drop i).take (j - i))∧e=.returned (.bool b)∧w=w':=(l6 i j q n c l w a hl d hj f).mono fun _ _ h=>⟨_,D,h.1,h.2⟩
theorem qh(l:rG)(i:Nat):Hid ((∀k,k<4→Fr.le (((l.drop i).take 4).drop (4 - k))≤35184372088832)∧Fr.le (((l.drop i).take 4).drop 1)≤35184372088832):=by
 have key:∀k,Fr.le (((l.drop i).take 4).drop k)≤35184372088832:=by
  intro k;have h1:=Fr.Lt (((l.drop i).take 4).drop k);have a:(((l.drop i).take 4).drop k).length≤4:=by simp;omega
  have b:256^(((l.drop i).take 4).drop k).length≤256^4:=aI JZ a;omega
 exact AX ⟨fun k _=>key _,key _⟩
theorem fa{P:Program}{a:Act}{N:Nat}{f:BW}{fn:Func}{R:Ending→World→Prop}(b:AH N a f){t u x:Nat}(hr:fn.results=#[.tmp t,.tmp u,.tmp x]){BA c:Value}(i:f t=some v)(hu:f u=some BA)(j:f x=some c)(h:R (.returned (.tuple #[v,BA,c])) w):bodyPost P fn R .ret a w:=by
 refine⟨b.d,.tuple #[v,BA,c],?_,h⟩;have h1:=b.h t v i;have e:=b.h u BA hu;have g:=b.h x c j;simp only[M_]at h1 e g;simp[results,hr,h1,e,g]
theorem b0(p:Nat)(l:rG)(a:2≤p∧p<4096)(h1:1≤(l.getD 0 0).toNat)(b:(l.getD 0 0).toNat≤3)(c:(l.getD 1 0).toNat≤246)(d:Fr.le ((l.drop 2).take 4)=p)(e:At.C5 l 252=0)(f:Fr.CN ((l.drop (6+(l.getD 1 0).toNat)).take (252 - (6+(l.getD 1 0).toNat)))=true):Fr.CZ p l=true:=by
 unfold Fr.CZ;rw[f,decide_eq_true a.1,decide_eq_true a.2,decide_eq_true e,decide_eq_true h1,decide_eq_true b,decide_eq_true c,decide_eq_true d];rfl
theorem b9(p:Nat)(l:rG)(h:¬At.C5 l 252=0):Fr.CZ p l=false:=by unfold Fr.CZ;rw[decide_eq_false h];simp
theorem rM(p:Nat)(l:rG)(h:(l.getD 0 0).toNat<1∨3<(l.getD 0 0).toNat):Fr.CZ p l=false:=by
 unfold Fr.CZ
 rcases h with h|h
 ·rw[decide_eq_false (show¬1≤(l.getD 0 0).toNat by omega)];simp
 ·rw[decide_eq_false (show¬(l.getD 0 0).toNat≤3 by omega)];simp
theorem o6(p:Nat)(l:rG)(h:246<(l.getD 1 0).toNat):Fr.CZ p l=false:=by unfold Fr.CZ;rw[decide_eq_false (show¬(l.getD 1 0).toNat≤246 by omega)];simp
theorem pc(p:Nat)(l:rG)(h:¬Fr.le ((l.drop 2).take 4)=p:=by omega):Fr.CZ p l=false:=by unfold Fr.CZ;rw[decide_eq_false h];simp
theorem p9(p:Nat)(l:rG)(h:Fr.CN ((l.drop (6+(l.getD 1 0).toNat)).take (252 - (6+(l.getD 1 0).toNat)))=false):Fr.CZ p l=false:=by unfold Fr.CZ;rw[h];simp
theorem nA(l:rG)(i n:Nat)(h:((l.drop i).take n).length=n):Ref.fill ((l.drop i).take n) n=(l.drop i).take n:=by
 unfold Ref.fill;rw[h,XT,DV (Mk h)];simp
theorem g1(p:Nat)(q:Option Addr)(c:Nat)(l:rG)(w:World)(t:DA w)(u:2≤p∧p<4096)(f:View w (.slice q 256 c) 256 1 (bv l))(hl:l.length=256):
 Calls lp 47 #[E p,I q 256 c] w fun e w'=>(∃k,∃q:Option Addr,∃c x:Nat,e=.returned (.tuple #[.int .i64 ((k:Nat):Int),.slice q ((l.getD 1 0).toNat) c,.int .i64 ((x:Nat):Int)])∧k=(l.getD 0 0).toNat∧x=0∧Fr.CZ p l=true∧w'.ownsRow w.heap.size 5 1 (.slice q ((l.getD 1 0).toNat) c) ((l.getD 1 0).toNat) (bv ((l.drop 6).take ((l.getD 1 0).toNat))))∧Below w.heap.size w w'∨(∃x:Nat,e=.returned (.tuple #[.int .i64 0,.slice none 0 0,.int .i64 ((x:Nat):Int)])∧x≠0∧Fr.CZ p l=false)∧Below w.heap.size w w':=by
 have d:Below w.heap.size w w:=Cn _ _;refine DZ EV D 53 ?_;refine Ao<|AD<|AV (v:=(E 0)) D<|AV D<|AV (v:=(E 0)) D<|Aw<|Ai<|Ao<|Ao<|AD<|Az D<|?_
 by_cases j:((p:Nat):Int)<((2:Nat):Int)
 ·
  refine Ur j D D<|Az D<|E6 D D D D<|E6 D D D D<|LD D D<|Aw<|Ai<|Gf D<|Ao<|AD<|AV (v:=(E 0)) D<|AV D<|AV (v:=(E 54)) D<|Aw<|Ai<|C0<|DK<|?_;intro a b;refine fa b D D D D ?_
  first
   |exact .inr ⟨⟨54,rfl,JZ,pc p l⟩,d⟩
   |(exfalso;omega)
 ·
  refine Zn j D D<|Az D<|ES D D D<|Az D<|?_
  by_cases m:((4096:Nat):Int)≤((p:Nat):Int)
  ·
   refine ES D D D<|p0 m D D<|I0 D D<|Aw<|Ai<|Gf D<|Ao<|AD<|AV (v:=(E 0)) D<|AV D<|AV (v:=(E 54)) D<|Aw<|Ai<|C0<|DK<|?_;intro a b;refine fa b D D D D ?_
   first
    |exact .inr ⟨⟨54,rfl,JZ,pc p l⟩,d⟩
    |(exfalso;omega)
  ·
   refine ES D D D<|rY m D D<|I0 D D<|Aw<|Ai<|FQ D<|CA<|Ai<|Ao<|Ao<|AD<|Az D<|HT B7 D<|Rq (p:=(256:Nat)) (q:=(256:Nat)) D D<|Aw<|Ai<|OM D (fun y=>?_) fun y=>?_
   ·
    refine Ao<|AD<|AV (v:=(E 0)) D<|AV D<|AV (v:=(E 53)) D<|Aw<|Ai<|C0<|DK<|?_;intro a b;refine fa b D D D D ?_
    first
     |exact .inr ⟨⟨53,rfl,JZ,p9 p l (Eq.symm (by assumption))⟩,d⟩
     |(exfalso;omega)
   ·
    refine CA<|Ai<|Ao<|Ao<|AD<|Az D<|CL SO D (o7 _ 256 _ 252 _ _ t JY JY f hl) ?_;rintro _ z ⟨A,O,rfl,B⟩;refine⟨_,D,?_⟩;have d:=BG d B;cases A with
    |true=>
     refine M5 D<|Aw<|Ai<|FQ D<|CA<|Ai<|Ao<|AD<|Az D<|?_;obtain⟨P,g,rfl⟩:=IW (f.below d);have C:=GH (f.below d) 0 (o:=g+0*1);refine Ou A3 0 (g+0*1) D D<|D8 BV C D<|Cc (fun _ b=>Ex b (p:=((((l.getD 0 0).toNat:Nat):Int):Int)) (r:=(((l.getD 0 0).toNat:Nat):Int)) D BV AF (JG ((l.getD 0 0).toNat) (RE (Cj _) JZ)))<|AV D<|Aw<|Ai<|Ao<|AD<|Az D<|?_;have F:=GH (f.below d) 1 (o:=g+1*1);refine Ou A3 1 (g+1*1) D D<|D8 BV F D<|Cc (fun _ b=>Ex b (p:=((((l.getD 1 0).toNat:Nat):Int):Int)) (r:=(((l.getD 1 0).toNat:Nat):Int)) D BV AF (JG ((l.getD 1 0).toNat) (RE (Cj _) JZ)))<|AV D<|Aw<|Ai<|Ao<|Ao<|AD<|Az D<|?_
     by_cases n:(((l.getD 0 0).toNat:Nat):Int)<((1:Nat):Int)
     ·
      refine Ur n D D<|Az D<|E6 D D D D<|E6 D D D D<|LD D D<|Aw<|Ai<|Gf D<|Ao<|AD<|AV (v:=(E 0)) D<|AV D<|AV (v:=(E 50)) D<|Aw<|Ai<|C0<|DK<|?_;intro a b;refine fa b D D D D ?_
      first
       |exact .inr ⟨⟨50,rfl,JZ,rM p l JY⟩,d⟩
       |(exfalso;omega)
     ·
      refine Zn n D D<|Az D<|ES D D D<|Az D<|?_
      by_cases s:((3:Nat):Int)<(((l.getD 0 0).toNat:Nat):Int)
      ·
       refine ES D D D<|ko s D D<|I0 D D<|Aw<|Ai<|Gf D<|Ao<|AD<|AV (v:=(E 0)) D<|AV D<|AV (v:=(E 50)) D<|Aw<|Ai<|C0<|DK<|?_;intro a b;refine fa b D D D D ?_
       first
        |exact .inr ⟨⟨50,rfl,JZ,rM p l JY⟩,d⟩
        |(exfalso;omega)
      ·
       refine ES D D D<|jX s D D<|I0 D D<|Aw<|Ai<|FQ D<|CA<|Ai<|Ao<|Ao<|AD<|Az D<|h4 (q:=(246:Nat)) D D<|Aw<|Ai<|DU D (fun G=>?_) fun G=>?_
       ·
        refine Ao<|AD<|AV (v:=(E 0)) D<|AV D<|AV (v:=(E 51)) D<|Aw<|Ai<|C0<|DK<|?_;intro a b;refine fa b D D D D ?_
        first
         |exact .inr ⟨⟨51,rfl,JZ,o6 p l JY⟩,d⟩
         |(exfalso;omega)
       ·
        refine CA<|Ai<|Ao<|Ao<|AD<|Az D<|CL Tv D (oP 2 4 _ _ _ _ _ JY JY JY (qh l 2) (f.below d) hl) ?_;rintro _ _ ⟨rfl,rfl⟩;refine⟨_,D,?_⟩;refine Az D<|Rq D D<|Aw<|Ai<|OM D (fun H=>?_) fun H=>?_
        ·
         refine Ao<|AD<|AV (v:=(E 0)) D<|AV D<|AV (v:=(E 54)) D<|Aw<|Ai<|C0<|DK<|?_;intro a b;refine fa b D D D D ?_
         first
          |exact .inr ⟨⟨54,rfl,JZ,pc p l⟩,d⟩
          |(exfalso;omega)
        ·
         refine CA<|Ai<|Ao<|Ao<|AD<|Az D<|Az D<|Dz (p:=6) D D<|CL Lu D (mG (6+((l.getD 1 0).toNat)) 252 _ _ _ _ _ (f.below d) hl JY JY JY) ?_;rintro _ _ ⟨J,Q,rfl,rfl⟩;refine⟨_,D,?_⟩;cases J with
         |true=>
          refine M5 D<|Aw<|Ai<|FQ D<|CA<|Ai<|Ao<|AD<|Az D<|Az D<|Az D<|Dz (p:=6) D D<|?_;obtain⟨R,K,h,S⟩:=ld A3 f 6 (6+((l.getD 1 0).toNat)) JY JY;have h:=h _ f;simp only[Q6,Hk,Ip]at h;have L:((l.drop 6).take ((6+((l.getD 1 0).toNat)) - 6)).length=(6+((l.getD 1 0).toNat)) - 6:=by have:=hl;simp only[FX,J3];omega
          refine Cc (fun _ b=>iw b D 6 (6+((l.getD 1 0).toNat)) (k:=.i64) (k':=.i64) D D K)<|Az D<|CL TN D (Rw _ _ _ ((l.getD 1 0).toNat) _ _ JY JY (h.below d) L) ?_;rintro _ T ⟨U,V,rfl,i,M⟩;refine⟨_,D,?_⟩;have N:w.heap.size≤z.heap.size:=d.size;have d:=BG d M;have i:=Ew i N;refine AV D<|AV D<|AV (v:=(E 0)) D<|Aw<|Ai<|C0<|?_;intro a b;refine fa b D D D D ?_;refine .inl ⟨⟨_,_,_,_,D,D,D,?_,?_⟩,d⟩
          ·exact b0 p l u JY JY JY JY (of_decide_eq_true (Eq.symm (by assumption))) (Eq.symm (by assumption))
          ·have q:=i;rw[show 6+(l.getD 1 0).toNat - 6=(l.getD 1 0).toNat by omega,nA _ _ _ (by rw[FX,J3];omega)]at q;exact q
         |false=>
          refine M5 D<|Aw<|Ai<|Gf D<|Ao<|AD<|AV (v:=(E 0)) D<|AV D<|AV (v:=(E 53)) D<|Aw<|Ai<|C0<|DK<|?_;intro a b;refine fa b D D D D ?_
          first
           |exact .inr ⟨⟨53,rfl,JZ,p9 p l (Eq.symm (by assumption))⟩,d⟩
           |(exfalso;omega)
    |false=>
     refine M5 D<|Aw<|Ai<|Gf D<|Ao<|AD<|AV (v:=(E 0)) D<|AV D<|AV (v:=(E 52)) D<|Aw<|Ai<|C0<|DK<|?_;intro a b;refine fa b D D D D ?_
     first
      |exact .inr ⟨⟨52,rfl,JZ,b9 p l (of_decide_eq_false (Eq.symm (by assumption)))⟩,d⟩
      |(exfalso;omega)
structure CG (w:World):Prop where
 r:∃tb fr,w.heap[4]? =some (.cells (flat [Dx AL.Tj.l]) tb fr)
 b:∃tb fr,w.heap[3]? =some (.cells (flat [Dx AL.IP.l]) tb fr)
def CB(k:Nat):Prop:=k=4∨k=3
theorem CG.sat{H:List Atom}(h:CG w0)(a:Sat F w0 H w)(c:∀k,CB k→¬F k):CG w:=⟨h.r.imp fun _=>Exists.imp fun _ q=>(a.GA.block _ (DC q) (c _ (.inl D))).trans q,h.b.imp fun _=>Exists.imp fun _ q=>(a.GA.block _ (DC q) (c _ (.inr D))).trans q⟩
theorem CG.WL(h:CG w):4<w.heap.size:=by obtain⟨_,_,q⟩:=h.r;exact DC q
theorem CG.blt(h:CG w):3<w.heap.size:=by obtain⟨_,_,q⟩:=h.b;exact DC q
theorem CG.below{B:Nat}(h:CG w)(J:Below B w w')(a:B=w.heap.size):CG w':=by subst a;exact⟨h.r.imp fun _=>Exists.imp fun _ q=>(J.block _ (DC q)).trans q,h.b.imp fun _=>Exists.imp fun _ q=>(J.block _ (DC q)).trans q⟩
theorem FU:∀k,CB k→¬C1 k:=fun _ _ h=>h
theorem iQ(h:n<32):IntKind.bits .u64=64→bits .and .u64 ((18446744073709551584+n:Nat):Int) ((31:Nat):Int)=((n:Nat):Int):=by
 intro _;rw[u64_and_nat _ _ JY JZ,show 31=2^5 - 1 from D,Vy]
 congr 1
 omega
theorem JT(x q:UInt32)(k:Int)(w:World)(c:k=(q.toNat:Int) - 32:=by decide)(d:0<q.toNat:=by decide)(h1:q.toNat<32:=by decide):Calls lp 218 #[Be .u32 x.toNat,Value.int .i64 (k:Int)] w (sM w (Be .u32 ((AL.ID x q).toNat))):=by
 refine Cg w ga D 17<|K ?_;refine Af (fun _ _ a b=>Ex a D AF K1 (r:=((18446744073709551584+q.toNat:Nat):Int)) (by simp only[IntKind.wrap,IntKind.bits,IntKind.signed];simp;omega))<|Af (fun _ _ a b=>D6 a (.inl D) D D (iQ (n:=q.toNat) JY D))<|K ?_;refine Af (PJ q D D D JY)<|Jd D<|Jd D<|?_;refine Af (fun _ _ a b=>Yx a (k:=.u64) (p:=((32:Nat):Int)) (q:=((q.toNat:Nat):Int)) (r:=((32 - q.toNat:Nat):Int)) D D (XR 32 q.toNat JY JY))<|Af (KO (32 - q) D D (by rw[UInt32.toNat_sub_of_le _ _ (by rw[UInt32.le_iff_toNat_le];show q.toNat≤32;omega)];rfl) JY)<|Af (MJ D D)<|A7 ?_;exact fun W b=>⟨D,b.A0⟩
abbrev Fw(J:Nat)(L:Jn 8)(X:Ji 64)(n:Nat)(a:UInt64):Atom:=O J [Dx L.l,bv X.l,[E n],[Be .u64 a.toNat]] 295
abbrev Pu(J:Nat):Nat→Prop:=fun k=>k=J
def LB(J:Nat)(X:Ji 64)(n:Nat)(a:UInt64)(w:World)(v:Value)(l:rG):Prop:=∀(W:World) (L:Jn 8),C7 (Pu J) w W→(Fw J L X n a).holds W→View W v 64 1 (bv l)
theorem KX(hF:A6 [O b ss T]=F){k:Nat}(h:F k):k=b:=by subst hF;exact NA h
theorem C7.SE(hF:A6 [O b ss T]=F){W:World}(h:C7 F w W):C7 (Pu b) w W:=⟨h.os,h.tape,h.output,h.size,fun k a c=>h.block k a (fun q=>c (KX hF q))⟩
theorem LB.at{c:Jn 8}{X:Ji 64}{a:UInt64}{l:rG}(h:LB J X n a w v l)(hF:A6 [Fw J c X n a]=F){H:List Atom}(b:Sat F w H w')(i:Nat){L:Jn 8}(V:H[i]? =some (Fw J L X n a):=by exact rfl):View w' v 64 1 (bv l):=h w' L (C7.SE hF b.GA) (b.Dq i V)
theorem U9(J:Nat)(L:Jn 8)(X:Ji 64)(n:Nat)(m:UInt64)(q:Option Addr)(c:Nat)(l:rG)(w:World)(B:CG w)(x:¬CB J)(C:(Fw J L X n m).holds w)(o:LB J X n m w (.slice q 64 c) l)(hl:l.length=64):Calls lp 215 #[S J,I q 64 c] w fun e W=>e=.returned (.tuple #[])∧Sat (A6 [Fw J L X n m]) w [Fw J (AL.step L l) X n m] W:=by
 have x:∀F,A6 [Fw J L X n m]=F→∀k,CB k→¬F k:=fun F hF k G q=>x (KX hF q▸G);refine Cb (BE.one (A:=Fw J L X n m) C) ox D 231 fun F hF=>Je<|Jh<|U<|Bw [Dx (Jn.zero 64).l] fun u=>K ?_;refine DL (fun s a W=>∃t,s=16 - t∧AH 231 a (Jb (Jb (Jb (Jb Jk 0 (S J)) 1 (I q 64 c)) 4 (S u)) 24 (E t))∧Sat F w [O u [Dx (AL.R_ l t).l] 242,O J [Dx L.l,bv X.l,[E n],[Be .u64 m.toNat]] 295] W∧t≤16) (fun a W j h=>⟨0,D,AY j,h.pick [0,1],JY⟩) ?_;rintro _ a W ⟨t,rfl,j,h,y⟩;revert a W;refine Je<|Jh<|Ej D D<|Jg<|Jf<|Je<|Cz D (fun H=>?_) fun H=>?_
 ·
  refine K ?_;refine DD 35<|zs (AA D)<|zs (AA D)<|zs (AA D)<|zs (E3 (p:=4) D D)<|zs (Dj A3 (4*t) (4*t) (fun w h=>o.at hF h 1) D D)<|zs (Fj BV (4*t) (fun w h=>o.at hF h 1) D)<|zs (Pq BV Wz D)<|zs (PJ 24 D D)<|zs (AA D)<|zs (AA D)<|zs (E3 (p:=4) D D)<|zs (Pc (q:=1) D D)<|zs (Dj A3 ((4*t)+1) ((4*t)+1) (fun w h=>o.at hF h 1) D D)<|zs (Fj BV ((4*t)+1) (fun w h=>o.at hF h 1) D)<|zs (Pq BV Wz D)<|zs (PJ 16 D D)<|zs (MJ D D)<|zs (AA D)<|zs (AA D)<|zs (E3 (p:=4) D D)<|zs (Pc (q:=2) D D)<|zs (Dj A3 ((4*t)+2) ((4*t)+2) (fun w h=>o.at hF h 1) D D)<|zs (Fj BV ((4*t)+2) (fun w h=>o.at hF h 1) D)<|zs (Pq BV Wz D)<|zs (PJ 8 D D)<|zs (MJ D D)<|zs (AA D)<|zs (AA D)<|zs (E3 (p:=4) D D)<|zs (Pc (q:=3) D D)<|zs (Dj A3 ((4*t)+3) ((4*t)+3) (fun w h=>o.at hF h 1) D D)<|zs (Fj BV ((4*t)+3) (fun w h=>o.at hF h 1) D)<|zs (Pq BV Wz D)<|zs (MJ D D)<|zs (D9 DY 1 t t D D)<|CS<|U<|H6 0 0 t D D D D (Jn.Ch _ _ _)<|K ?_;refine B6 (q:=1) D D<|K ?_;exact fun a W j h=>⟨_,JY,t+1,D,AY j,h.pick [0,1],JY⟩
 refine K ?_;obtain rfl:t=16:=JY;refine DL (fun s a W=>∃t,s=48 - t∧AH 231 a (Jb (Jb (Jb Jk 0 (S J)) 4 (S u)) 6 (E (16+t)))∧Sat F w [O u [Dx (AL.DO l t).l] 242,O J [Dx L.l,bv X.l,[E n],[Be .u64 m.toNat]] 295] W∧t≤48) (fun a W j h=>⟨0,D,AY j,h.pick [0,1],JY⟩) ?_;rintro _ a W ⟨t,rfl,j,h,y⟩;revert a W;refine K ?_;refine Ej D D<|Jg<|Jf<|Cz D (fun M=>?_) fun M=>?_
 ·
  refine K ?_;refine GR<|zs (AA D)<|zs (HS (q:=2) D D)<|zs (D9 DY 1 ((16+t) - 2) ((16+t) - 2) D D)<|zs (HA Wz 0 0 ((16+t) - 2) D D D)<|zs (AA D)<|zs (HS (q:=15) D D)<|zs (D9 DY 1 ((16+t) - 15) ((16+t) - 15) D D)<|zs (HA Wz 0 0 ((16+t) - 15) D D D)<|zs (Ck D)<|zs (Ck D)<|CS<|K ?_;refine U<|BP ga D (fun w h=>JT ((AL.DO l t).l.getD ((16+t) - 2) 0) 15 (-17) w)<|Jd D<|U<|BP ga D (fun w h=>JT ((AL.DO l t).l.getD ((16+t) - 2) 0) 13 (-19) w)<|Af (J0 D D)<|Jd D<|Af (KO 10 D D)<|Af (J0 D D)<|K ?_;refine U<|BP ga D (fun w h=>JT ((AL.DO l t).l.getD ((16+t) - 15) 0) 25 (-7) w)<|Jd D<|U<|BP ga D (fun w h=>JT ((AL.DO l t).l.getD ((16+t) - 15) 0) 14 (-18) w)<|Af (J0 D D)<|Jd D<|Af (KO 3 D D)<|Af (J0 D D)<|K ?_;refine DD 15<|zs (AA D)<|zs (AA D)<|zs (AA D)<|zs (HS (q:=7) D D)<|zs (D9 DY 1 ((16+t) - 7) ((16+t) - 7) D D)<|zs (HA Wz 0 0 ((16+t) - 7) D D D)<|zs (II D D)<|zs (AA D)<|zs (II D D)<|zs (AA D)<|zs (HS (q:=16) D D)<|zs (D9 DY 1 ((16+t) - 16) ((16+t) - 16) D D)<|zs (HA Wz 0 0 ((16+t) - 16) D D D)<|zs (II D D)<|zs (D9 DY 1 (16+t) (16+t) D D)<|CS<|U<|H6 0 0 (16+t) D D D D (Jn.Ch _ _ _)<|K ?_;refine B6 (q:=1) D D<|K ?_;exact fun a W j h=>⟨_,JY,t+1,D,AY j,h.pick [0,1],JY⟩
 refine K ?_;refine GR<|zs (AA D)<|zs (Bp D)<|zs (AS N2 0 D)<|zs (D9 Il 1 0 0 D D)<|zs (HA Wz 1 0 0 D D D)<|zs (AA D)<|zs (Bp D)<|zs (AS N2 0 D)<|zs (D9 Il 1 1 1 D D)<|zs (HA Wz 1 0 1 D D D)<|zs (AA D)<|zs (Bp D)<|zs (AS N2 0 D)<|zs (D9 Il 1 2 2 D D)<|zs (HA Wz 1 0 2 D D D)<|zs (AA D)<|zs (Bp D)<|zs (AS N2 0 D)<|zs (D9 Il 1 3 3 D D)<|zs (HA Wz 1 0 3 D D D)<|zs (AA D)<|zs (Bp D)<|zs (AS N2 0 D)<|zs (D9 Il 1 4 4 D D)<|zs (HA Wz 1 0 4 D D D)<|zs (AA D)<|zs (Bp D)<|zs (AS N2 0 D)<|zs (D9 Il 1 5 5 D D)<|zs (HA Wz 1 0 5 D D D)<|zs (AA D)<|zs (Bp D)<|zs (AS N2 0 D)<|zs (D9 Il 1 6 6 D D)<|zs (HA Wz 1 0 6 D D D)<|zs (AA D)<|zs (Bp D)<|zs (AS N2 0 D)<|zs (D9 Il 1 7 7 D D)<|zs (HA Wz 1 0 7 D D D)<|zs (Ck D)<|zs (Ck D)<|zs (Ck D)<|zs (Ck D)<|zs (Ck D)<|zs (Ck D)<|zs (Ck D)<|zs (Ck D)<|CS<|K ?_;obtain rfl:t=48:=JY;refine DL (fun s a W=>∃t,s=64 - t∧AH 231 a (Jb (Jb (Jb (Jb (Jb (Jb (Jb (Jb (Jb (Jb (Jb Jk 0 (S J)) 4 (S u)) 146 (E t)) 11 (Be .u32 ((AL.Eu (AL.DO l 48).l (AL.DR L.l) t).a.toNat))) 12 (Be .u32 ((AL.Eu (AL.DO l 48).l (AL.DR L.l) t).b.toNat))) 13 (Be .u32 ((AL.Eu (AL.DO l 48).l (AL.DR L.l) t).c.toNat))) 14 (Be .u32 ((AL.Eu (AL.DO l 48).l (AL.DR L.l) t).d.toNat))) 15 (Be .u32 ((AL.Eu (AL.DO l 48).l (AL.DR L.l) t).e.toNat))) 16 (Be .u32 ((AL.Eu (AL.DO l 48).l (AL.DR L.l) t).f.toNat))) 17 (Be .u32 ((AL.Eu (AL.DO l 48).l (AL.DR L.l) t).g.toNat))) 18 (Be .u32 ((AL.Eu (AL.DO l 48).l (AL.DR L.l) t).z.toNat)))∧Sat F w [O u [Dx (AL.DO l 48).l] 242,O J [Dx L.l,bv X.l,[E n],[Be .u64 m.toNat]] 295] W∧t≤64) (fun a W j h=>⟨0,D,AY j,h.pick [0,1],JY⟩) ?_;rintro _ a W ⟨t,rfl,j,h,y⟩;revert a W;refine Je<|Jh<|Ej D D<|Jg<|Jf<|Je<|Cz D (fun N=>?_) fun N=>?_
 ·
  refine K ?_;refine G9<|AR (AA D)<|AR (AA D)<|MB ga D (fun w h=>JT ((AL.Eu (AL.DO l 48).l (AL.DR L.l) t).e) 26 (-6) w)<|AR (AA D)<|MB ga D (fun w h=>JT ((AL.Eu (AL.DO l 48).l (AL.DR L.l) t).e) 21 (-11) w)<|AR (J0 D D)<|AR (AA D)<|MB ga D (fun w h=>JT ((AL.Eu (AL.DO l 48).l (AL.DR L.l) t).e) 7 (-25) w)<|AR (J0 D D)<|AR (II D D)<|AR (AA D)<|AR (AA D)<|AR (AA D)<|AR (AA D)<|AR (J0 D D)<|AR (RW D D)<|AR (J0 D D)<|AR (II D D)<|AR (AA D)<|AR (D9 DY 1 t t D D)<|AR (a' Wz t (fun w h=>(B.sat h (x F hF)).r) D)<|AR (II D D)<|AR (AA D)<|AR (D9 DY 1 t t D D)<|AR (HA Wz 0 0 t D D D)<|AR (II D D)<|AR (Ck D)<|Er<|CR 20 D (show _=(Be .u32 ((AL.one (AL.DO l 48).l (AL.Eu (AL.DO l 48).l (AL.DR L.l) t) t).toNat))from D)<|K ?_;refine U<|BP ga D (fun w h=>JT ((AL.Eu (AL.DO l 48).l (AL.DR L.l) t).a) 30 (-2) w)<|Jd D<|U<|BP ga D (fun w h=>JT ((AL.Eu (AL.DO l 48).l (AL.DR L.l) t).a) 19 (-13) w)<|Af (J0 D D)<|Jd D<|U<|BP ga D (fun w h=>JT ((AL.Eu (AL.DO l 48).l (AL.DR L.l) t).a) 10 (-22) w)<|Af (J0 D D)<|Jd D<|Jd D<|Af (RW D D)<|K ?_;refine Af (MJ D D)<|Af (RW D D)<|Af (MJ D D)<|Af (II D D)<|Js D<|Jg<|CR 21 D (show _=(Be .u32 ((AL.two (AL.Eu (AL.DO l 48).l (AL.DR L.l) t)).toNat))from D)<|K ?_;refine Af (II D D)<|K ?_;refine Af (II D D)<|K ?_;refine B6 (q:=1) D D<|K ?_;exact fun a W j h=>⟨_,JY,t+1,D,AY j,h.pick [0,1],JY⟩
 refine K ?_;obtain rfl:t=64:=JY;refine Af (fun _ _ j h=>Cs j (BH:=[(0,(Be .u32 ((AL.Eu (AL.DO l 48).l (AL.DR L.l) 64).a.toNat))),(1,(Be .u32 ((AL.Eu (AL.DO l 48).l (AL.DR L.l) 64).b.toNat))),(2,(Be .u32 ((AL.Eu (AL.DO l 48).l (AL.DR L.l) 64).c.toNat))),(3,(Be .u32 ((AL.Eu (AL.DO l 48).l (AL.DR L.l) 64).d.toNat))),(4,(Be .u32 ((AL.Eu (AL.DO l 48).l (AL.DR L.l) 64).e.toNat))),(5,(Be .u32 ((AL.Eu (AL.DO l 48).l (AL.DR L.l) 64).f.toNat))),(6,(Be .u32 ((AL.Eu (AL.DO l 48).l (AL.DR L.l) 64).g.toNat))),(7,(Be .u32 ((AL.Eu (AL.DO l 48).l (AL.DR L.l) 64).z.toNat)))]) D (v:=(rS [Dx (AL.Ij.l (AL.Eu (AL.DO l 48).l (AL.DR L.l) 64)).l])) (run_build _ _ _ _ AB))<|K ?_;refine DL (fun s a W=>∃i,s=8 - i∧AH 231 a (Jb (Jb (Jb Jk 0 (S J)) 214 (rS [Dx (AL.Ij.l (AL.Eu (AL.DO l 48).l (AL.DR L.l) 64)).l])) 215 (E i))∧Sat F w [O J [Dx (AL.fin L (AL.Ij.l (AL.Eu (AL.DO l 48).l (AL.DR L.l) 64)) i).l,bv X.l,[E n],[Be .u64 m.toNat]] 295] W∧i≤8) (fun a W j h=>⟨0,D,AY j,h.pick [1],JY⟩) ?_;rintro _ a W ⟨i,rfl,j,h,V⟩;revert a W;refine Je<|Jh<|Ej D D<|Jg<|Jf<|Je<|Cz D (fun P=>?_) fun P=>?_
 ·
  refine K ?_;refine Af (KT Il i D D (UF JY) Wz)<|K ?_;refine DD 11<|zs (AA D)<|zs (AA D)<|zs (Bp D)<|zs (AS N2 0 D)<|zs (D9 Il 1 i i D D)<|zs (HA Wz 0 0 i D D D)<|zs (AA D)<|zs (II D D)<|zs (Bp D)<|zs (AS N2 0 D)<|zs (D9 Il 1 i i D D)<|CS<|U<|H6 0 0 i D D D D (Jn.Ch _ _ _)<|K ?_;refine B6 (q:=1) D D<|K ?_;exact fun a W j h=>⟨_,JY,i+1,D,AY j,h.pick [0],JY⟩
 refine K ?_;refine Jt<|Ff fun W h=>?_;obtain rfl:i=8:=JY;exact⟨D,by subst hF;exact h.pick [0]⟩
def G'(J:Nat)(w:World)(v:Value)(n:Nat)(l:rG):Prop:=∀(W:World),C7 (Pu J) w W→View W v n 1 (bv l)
theorem G'.of{l:rG}(h:View w v n 1 (bv l))(c:∀k,v.ownBlock=some k→k≠J):G' J w v n l:=fun W a=>h.Fm a.size (fun k b=>a.block k (h.lt k b) (c k b))
theorem G'.at{l:rG}(h:G' J w v n l)(hF:A6 [O J ss T]=F){H:List Atom}(a:Sat F w H w'):View w' v n 1 (bv l):=h w' (C7.SE hF a.GA)
theorem G'.h{X:Ji 64}{m:Nat}{a:UInt64}{l:rG}(h:G' J w v 64 l)(hw:C7 (Pu J) w w'):LB J X m a w' v l:=fun W L b _=>h W (hw.trans b (fun k q _=>q))
theorem LB.rest{X:Ji 64}{a:UInt64}:LB J X n a w (.slice (some ⟨J,8,none⟩) 64 64) X.l:=fun W L _ h=>by
 have b:Sat (A6 [Fw J L X n a]) W [Fw J L X n a] W:=Sat.begin (BE.one h);have:=MS (F:=A6 [Fw J L X n a]) (w0:=W) (H:=[Fw J L X n a]) (off:=8) 0 1 0 64 64 (l:=X) (l':=X.l) (DV (by rw[HE];exact Mk X.h));exact this W b
theorem G'.sub{c:Nat}{y:Option Addr}{m a:rG}(h:G' J w (.slice y n c) n m)(l k:Nat)(e:(m.drop l).take (k - l)=a)(h1:l≤k)(b:k≤n):G' J w (.slice (sp y l c 1) (k - l) (c - l)) (k - l) a:=fun W d=>
 (Db (F:=C1) (w0:=W) (H:=[]) l k (fun w' f=>(h W d).below f.A0) e h1 b) W (Sat.start _ _)
theorem AL.Z9(a:Jn 8)(b:Ji 64)(c:UInt64)(l:rG)(k:Nat)(d:l.length/64=k):AL.w0 a b c l=⟨AL.GO a l k,b.lay 0 (l.drop (64*k)),(l.drop (64*k)).length,c⟩:=by subst d;rfl
theorem Xb(J:Nat)(L:Jn 8)(X:Ji 64)(n:Nat)(d:UInt64)(q:Option Addr)(m c:Nat)(l:rG)(w:World)(y:CG w)(t:¬CB J)(R:n<64)(B:(Fw J L X n d).holds w)(o:G' J w (.slice q m c) m l)(hl:l.length=m)(hm:m≤1048576):Calls lp 203 #[S J,I q m c] w fun e W=>e=.returned (.tuple #[])∧Sat (A6 [Fw J L X n d]) w [Fw J (AL.wr ⟨L,X,n,d⟩ l).st (AL.wr ⟨L,X,n,d⟩ l).rest (AL.wr ⟨L,X,n,d⟩ l).uE (AL.wr ⟨L,X,n,d⟩ l).uV] W:=by
 have z:∀F,A6 [Fw J L X n d]=F→∀k,CB k→¬F k:=fun F hF k C q=>t (KX hF q▸C);refine Cb (BE.one (A:=Fw J L X n d) B) aN D 73 fun F hF=>K ?_;refine By D<|AG N2 73 D<|AZ kR 0 3 D D D<|Jd D<|Cr B7 D<|Af (aB AF kR D)<|Af (fM D D)<|By D<|AG N2 73 D<|U<|Cq 0 3 D D D<|?_;refine Jg<|Jf<|Gq (fun a W=>∃p:Jn 8,∃DT:Ji 64,∃s u Dt v,∃f:List UInt8,AH 73 a (Jb (Jb Jk 0 (S J)) 1 (I u Dt v))∧Sat F w [O J [Dx p.l,bv DT.l,[E s],[Be .u64 ((d+m.toUInt64).toNat)]] 295] W∧G' J w (.slice u Dt v) Dt f∧f.length=Dt∧Dt≤m∧AL.wr ⟨L,X,n,d⟩ l=AL.w0 p DT (d+m.toUInt64) f) ?_ ?_
 ·
  refine K ?_;refine By D<|AG N2 72 D<|AZ AF 0 2 D D D<|Mp D D<|Jg<|Jf<|Cz D (fun G=>?_) fun G=>?_
  ·
   refine Je<|?_
   by_cases T:n+m<64
   ·
    refine DD 9<|zs (AA D)<|zs (Bp D)<|zs (AS N2 8 D)<|zs (AA D)<|zs (Bp D)<|zs (AS N2 72 D)<|zs (Bb AF 0 2 D D D)<|zs (Fp aH n 64 D (.some D) .none (8+n))<|zs (AA D)<|CS<|U<|HC 0 1 n m (fun w b=>o.at hF b) B7 D D D D (DV (Mk hl)) hl<|K ?_;refine By D<|AG N2 72 D<|AZ AF 0 2 D D D<|Jd D<|B6 D D<|By D<|AG N2 72 D<|U<|Cq 0 2 D D D<|?_;refine K ?_;refine Af (Fi A3 m m (fun w b=>o.at hF b) D (.some D) .none)<|K ?_;refine By D<|AG N2 72 D<|AZ AF 0 2 D D D<|IS JY D D<|K ?_;refine Ff fun W b=>?_;refine⟨D,?_⟩;rw[show AL.wr ⟨L,X,n,d⟩ l=⟨L,X.lay n l,n+m,d+m.toUInt64⟩from by unfold AL.wr;rw[if_pos (show 0<n by omega),if_pos (show n+l.length<64 by omega),hl]];subst hF;exact b.pick [0]
   refine DD 9<|zs (AA D)<|zs (Bp D)<|zs (AS N2 8 D)<|zs (AA D)<|zs (Bp D)<|zs (AS N2 72 D)<|zs (Bb AF 0 2 D D D)<|zs (Fp aH n 64 D (.some D) .none (8+n))<|zs (AA D)<|CS<|U<|HC 0 1 n (64 - n) (fun w b=>o.at hF b) B7 D D D D D (by rw[FX];omega)<|K ?_;refine By D<|AG N2 72 D<|AZ AF 0 2 D D D<|Jd D<|B6 D D<|By D<|AG N2 72 D<|U<|Cq 0 2 D D D<|?_;refine K ?_;refine Af (Fi A3 (64 - n) m (fun w b=>o.at hF b) D (.some D) .none)<|K ?_;refine By D<|AG N2 72 D<|AZ AF 0 2 D D D<|ET JY D D<|K ?_;refine By D<|AG N2 8 D<|Af (Fp aH 0 64 rfl .none .none 8)<|U<|Ba ox D (fun w b=>U9 J L (X.lay n (l.take (64 - n))) (n+(64 - n)) (d+m.toUInt64) _ _ ((X.lay n (l.take (64 - n))).l) w (y.sat b (z F hF)) t (b.Dq 0) LB.rest (X.lay n (l.take (64 - n))).h) fun _ e W b ⟨he,q⟩=>⟨_,_,he,Sat.call (H1:=[_]) (H2:=[]) b q,?_⟩
   refine K ?_;refine By D<|AG N2 72 D<|U<|Cq 0 2 D D D<|?_;refine Jg<|Jf<|?_;exact fun a W j b=>⟨_,_,_,_,_,_,_,AY j,b.pick [0],o.sub (64 - n) m (DV (by rw[J3];omega)) JY JY,by rw[J3];omega,JY,(by unfold AL.wr;rw[if_pos (show 0<n by omega),if_neg (show¬n+l.length<64 by omega),hl])⟩
  refine Jy<|Jf<|?_;exact fun a W j b=>⟨_,_,_,_,_,_,_,AY j,b.pick [0],o,hl,JY,(by unfold AL.wr;rw[if_neg (show¬0<n by omega),hl])⟩
 rintro a W ⟨p,DT,s,u,Dt,v,f,j,b,H,Y,Z,M⟩;revert a W;refine Je<|JD<|DL (fun N a W=>∃i g x c2,N=Dt - 64*i∧AH 73 a (Jb (Jb Jk 0 (S J)) 1 (I x g c2))∧Sat F w [O J [Dx (AL.GO p f i).l,bv DT.l,[E s],[Be .u64 ((d+m.toUInt64).toNat)]] 295] W∧g+64*i=Dt∧G' J w (.slice x g c2) g (f.drop (64*i))) (fun a W j b=>⟨0,Dt,_,_,D,AY j,b.pick [0],JY,H⟩) ?_;rintro _ a W ⟨i,g,x,c2,rfl,j,b,V,r⟩;revert a W;refine K ?_;refine Cr B7 D<|dE D D<|Jg<|Jf<|Cz D (fun P=>?_) fun P=>?_
 ·
  refine K ?_;refine Af (Fi A3 0 64 (fun w b=>r.at hF b) rfl .none (.some D))<|U<|Ba ox D (fun w b=>U9 J (AL.GO p f i) DT s (d+m.toUInt64) _ _ ((f.drop (64*i)).take 64) w (y.sat b (z F hF)) t (b.Dq 0) (G'.h (r.sub 0 64 (by rw[HE]) JY JY) (C7.SE hF b.GA)) (by have:(f.drop (64*i)).length=g:=(by rw[J3];omega);simp only[FX];omega)) fun _ e W b ⟨he,q⟩=>⟨_,_,he,Sat.call (H1:=[_]) (H2:=[]) b q,?_⟩
  refine K ?_;refine Af (Fi A3 64 g (fun w b=>r.at hF b) D (.some D) .none)<|K ?_;exact fun a W j b=>⟨_,JY,i+1,_,_,_,D,AY j,b.pick [0],JY,r.sub 64 g (by rw[tB,DV (by rw[J3];omega)];rfl) JY (Br _)⟩
 refine K ?_;refine By D<|AG Tryz.underlying295 8 D<|Af (Fp Tryz.underlying193 0 64 rfl .none .none 8)<|Jd D<|U<|HC 0 1 0 g (fun w b=>r.at hF b) Tryz.underlying29 D D D D (DV (Mk (by rw[J3];omega))) (by rw[J3];omega)<|By D<|AG Tryz.underlying295 72 D<|U<|Cq 0 2 D D D<|?_;refine Jg<|Jt<|Ff fun W b=>?_;refine⟨D,?_⟩;have Q:(f.drop (64*i)).length=g:=by rw[J3];omega
 rw[M,AL.Z9 p DT _ f i JY,Q];subst hF;exact b.pick [0]
theorem Sat.AU{H:List Atom}(c:Sat F w0 H w)(i j:Nat){a:Nat}{d:List (List Value)}{f:TypeId}(V:H[i]? =some (O b ss T):=by exact rfl)(hj:H[j]? =some (O a d f):=by exact rfl)(g:i≠j:=by decide):b≠a:=fun e=>c.u_ i j _ _ g V hj b D e
theorem Sat.TW{H:List Atom}(c:Sat F w0 H w)(a:CG w0)(d:∀k,CB k→¬F k)(i:Nat)(V:H[i]? =some (O b ss T):=by exact rfl):¬CB b:=fun h=>(c.u4 i _ V b D).elim (d b h) (fun q=>by
 rcases h with h|h
 ·have:=a.WL;omega
 ·have:=a.blt;omega)
theorem Sat.PK{H:List Atom}(a:Sat C1 w0 H w){size:Nat}{xs:List Value}(c:View w0 v n size xs)(i:Nat)(V:H[i]? =some (O b ss T):=by exact rfl):∀k,v.ownBlock=some k→k≠b:=fun k d e=>by
 have h1:=c.lt k d;have f:=(a.u4 i _ V b D).resolve_left id;omega
theorem ez(L:Jn 8)(X:Ji 64)(n:Nat)(a:UInt64):(AL.total ⟨L,X,n,a⟩).l=(AL.out (AL.wr ⟨L,X,n,a⟩ ((AL.FY n (a*8) 8).l.take (AL.pad n+8))).st 8).l:=by simp only[AL.total]
theorem bd(J:Nat)(L:Jn 8)(X:Ji 64)(n:Nat)(b:UInt64)(w:World)(r:CG w)(v:¬CB J)(B:n<64)(x:(Fw J L X n b).holds w):Calls lp 204 #[S J] w fun e W=>e=.returned (rS [bv (AL.total ⟨L,X,n,b⟩).l])∧Sat (A6 [Fw J L X n b]) w [Fw J L X n b] W:=by
 have s:∀F,A6 [Fw J L X n b]=F→∀k,CB k→¬F k:=fun F hF k g q=>v (KX hF q▸g);have C:AL.pad n≤64:=by unfold AL.pad;omega
 refine Cb (BE.one (A:=Fw J L X n b) x) qA D 76 fun F hF=>Je<|Jh<|U<|Bw [Ak 32] fun f=>K ?_;refine By D<|Af (BN N2 1 D D)<|U<|Bw [Dx (Jn.zero 8).l,bv (Ji.zero 64).l,[E 0],[Be .u64 0]] fun m=>U<|Bk 0 0 4 D D D<|?_;refine K ?_;refine AG N2 73 D<|AZ kR 0 3 D D D<|Af (iG (q:=8) D D)<|K ?_;refine U<|Bw [bv (Ji.zero 128).l] fun t=>K ?_;refine Af (D9 n9 1 0 0 D D)<|U<|H6 0 0 0 D D D D (Ji.Ch _ _ 128)<|K ?_;refine AG N2 72 D<|AZ AF 1 2 D D D<|Af (GG (q:=64) D D)<|Es (p:=119) D D<|Af (GG (q:=64) D D)<|B6 (q:=1) D D<|Js D<|Jg<|CR 6 D (show _=(E (AL.pad n))from D)<|K ?_;refine DL (fun o a W=>∃i,o=8 - i∧AH 76 a (Jb (Jb (Jb (Jb (Jb (Jb Jk 2 (S f)) 3 (S m)) 4 (Be .u64 ((b*8).toNat))) 5 (S t)) 6 (E (AL.pad n))) 24 (E i))∧Sat F w [O t [bv (AL.FY n (b*8) i).l] 302,O m [Dx L.l,bv X.l,[E n],[Be .u64 b.toNat]] 295,O f [Ak 32] 136,O J [Dx L.l,bv X.l,[E n],[Be .u64 b.toNat]] 295] W∧i≤8) (fun a W d c=>⟨0,D,AY d,c.pick [0,1,2,3],JY⟩) ?_;rintro _ a W ⟨i,rfl,d,c,V⟩;revert a W;refine Je<|Jh<|Ej D D<|Jg<|Jf<|Je<|Cz D (fun y=>?_) fun y=>?_
 ·
  refine K ?_;refine B6 D D<|Jd D<|Jd D<|Af (E3 (p:=8) D D)<|Es (p:=56) D D<|Af (av D D)<|Af (eD kR BV D)<|Af (D9 n9 1 ((AL.pad n)+i) ((AL.pad n)+i) D D)<|U<|H6 0 0 ((AL.pad n)+i) D D D D (Ji.Ch _ _ (((b*8)>>>(56 - (8*i)).toUInt64).toUInt8))<|K ?_;refine B6 (q:=1) D D<|K ?_;exact fun a W d c=>⟨_,JY,i+1,D,AY d,c.pick [0,1,2,3],JY⟩
 refine K ?_;obtain rfl:i=8:=JY;refine B6 (q:=8) D D<|Af (Fp n9 0 ((AL.pad n)+8) rfl .none (.some D) 0)<|U<|Ba aN D (fun w c=>Xb m L X n b _ ((AL.pad n)+8) _ (((AL.FY n (b*8) 8).l).take ((AL.pad n)+8)) w (r.sat c (s F hF)) (c.TW r (s F hF) 1) JY (c.Dq 1) (G'.of ((MS 0 0 0 ((AL.pad n)+8) 128 (by rw[HE])) w c) (fun k g=>by cases g;exact c.AU 0 1)) (by have:=(AL.FY n (b*8) 8).h;simp only[FX];omega) JY) fun _ e W c ⟨he,q⟩=>⟨_,_,he,c.As [1] [0,2,3] q,?_⟩
 refine K ?_;refine U<|Bw [Ak 32] fun u=>K ?_;refine AG N2 0 D<|Af (DH Il 1 0 1 [Dx (AL.wr ⟨L,X,n,b⟩ (((AL.FY n (b*8) 8).l).take ((AL.pad n)+8))).st.l] D D)<|K ?_;refine DL (fun o a W=>∃j,o=8 - j∧AH 76 a (Jb (Jb (Jb (Jb Jk 2 (S f)) 8 (S u)) 43 (rS [Dx (AL.wr ⟨L,X,n,b⟩ (((AL.FY n (b*8) 8).l).take ((AL.pad n)+8))).st.l])) 44 (E j))∧Sat F w [O u [bv (AL.out (AL.wr ⟨L,X,n,b⟩ ((AL.FY n (b*8) 8).l.take (AL.pad n+8))).st j).l] 136,O f [Ak 32] 136,O J [Dx L.l,bv X.l,[E n],[Be .u64 b.toNat]] 295] W∧j≤8) (fun a W d c=>⟨0,D,AY d,c.pick [0,3,4],JY⟩) ?_;rintro _ a W ⟨j,rfl,d,c,hj⟩;revert a W;refine Je<|Jh<|Ej D D<|Jg<|Jf<|Je<|Cz D (fun z=>?_) fun z=>?_
 ·
  refine K ?_;refine Af (KT Il j D D (UF JY) Wz)<|K ?_;refine Af (E3 (p:=4) D D)<|Jd D<|Af (E3 (p:=4) D D)<|B6 (q:=1) D D<|Jd D<|Af (E3 (p:=4) D D)<|B6 (q:=2) D D<|Jd D<|Af (E3 (p:=4) D D)<|B6 (q:=3) D D<|Jd D<|Af (KO 24 D D)<|Af (Lj Wz BV D)<|Jd D<|Af (KO 16 D D)<|Af (Lj Wz BV D)<|Jd D<|Af (KO 8 D D)<|Af (Lj Wz BV D)<|Jd D<|Af (Lj Wz BV D)<|Af (D9 Nl 1 (4*j) (4*j) D D)<|U<|H6 0 0 (4*j) D D D D (Ji.Ch _ _ ((((AL.wr ⟨L,X,n,b⟩ (((AL.FY n (b*8) 8).l).take ((AL.pad n)+8))).st.l.getD j 0)>>>24).toUInt8))<|Af (D9 Nl 1 ((4*j)+1) ((4*j)+1) D D)<|U<|H6 0 0 ((4*j)+1) D D D D (Ji.Ch _ _ ((((AL.wr ⟨L,X,n,b⟩ (((AL.FY n (b*8) 8).l).take ((AL.pad n)+8))).st.l.getD j 0)>>>16).toUInt8))<|Af (D9 Nl 1 ((4*j)+2) ((4*j)+2) D D)<|U<|H6 0 0 ((4*j)+2) D D D D (Ji.Ch _ _ ((((AL.wr ⟨L,X,n,b⟩ (((AL.FY n (b*8) 8).l).take ((AL.pad n)+8))).st.l.getD j 0)>>>8).toUInt8))<|Af (D9 Nl 1 ((4*j)+3) ((4*j)+3) D D)<|U<|H6 0 0 ((4*j)+3) D D D D (Ji.Ch _ _ (((AL.wr ⟨L,X,n,b⟩ (((AL.FY n (b*8) 8).l).take ((AL.pad n)+8))).st.l.getD j 0).toUInt8))<|K ?_;refine B6 (q:=1) D D<|K ?_;exact fun a W d c=>⟨_,JY,j+1,D,AY d,c.pick [0,1,2],JY⟩
 refine K ?_;refine Af (BN Nl 0 D D)<|U<|Bk 1 0 1 D D D<|?_;refine Jg<|Jf<|Jq<|Fq Nl 1 D D fun W c=>?_;obtain rfl:j=8:=JY;exact⟨by rw[ez];rfl,by subst hF;exact c.pick [2]⟩
theorem AL.Z7(h:AL.Ek)(p:rG)(b:h.uE<64):(AL.wr h p).uE<64:=by
 unfold AL.wr;split
 ·split
  ·assumption
  ·simp only[AL.w0,AL.Ud];omega
 ·simp only[AL.w0,AL.Ud];omega
theorem Sj(q:Option Addr)(m c:Nat)(l:rG)(w:World)(d:CG w)(g:View w (.slice q m c) m 1 (bv l))(hl:l.length=m)(hm:m≤1048576:=by omega):Calls lp 188 #[I q m c] w (sM w (rS [bv (AL.Lz l).l])):=by
 have f:=FU;refine Cg w dP D 9<|Je<|Jh<|U<|Bw [Ak 32] fun j=>K ?_;refine Af (iK Il (fun w a=>(d.sat a f).b) D)<|Af (fun _ _ i a=>Cs i (BH:=[(0,(rS [Dx AL.IP.l]))]) D (v:=(rS [Dx AL.IP.l,bv (Ji.zero 64).l,[E 0],[Be .u64 ((0:UInt64).toNat)]])) (run_build _ _ _ _ AB))<|U<|Bw [Dx (Jn.zero 8).l,bv (Ji.zero 64).l,[E 0],[Be .u64 0]] fun h=>U<|Bk 0 0 4 D D D<|?_;refine K ?_;refine U<|Ba aN D (fun w a=>Xb h AL.IP (Ji.zero 64) 0 (0:UInt64) _ m _ l w (d.sat a f) (a.TW d f 0) JY (a.Dq 0) (G'.of ((Bx g) w a) (a.PK g 0)) hl JY) fun _ e W a ⟨he,q⟩=>⟨_,_,he,a.As [0] [1] q,?_⟩
 refine K ?_;refine U<|Ba qA D (fun w a=>bd h (AL.wr ⟨AL.IP,Ji.zero 64,0,(0:UInt64)⟩ l).st (AL.wr ⟨AL.IP,Ji.zero 64,0,(0:UInt64)⟩ l).rest ((AL.wr ⟨AL.IP,Ji.zero 64,0,(0:UInt64)⟩ l).uE) (AL.wr ⟨AL.IP,Ji.zero 64,0,(0:UInt64)⟩ l).uV w (d.sat a f) (a.TW d f 0) (AL.Z7 ⟨AL.IP,Ji.zero 64,0,0⟩ _ (show 0<64 by decide)) (a.Dq 0)) fun _ e W a ⟨he,q⟩=>⟨_,_,he,a.As [0] [1] q,?_⟩
 refine U<|Bk 1 0 1 D D D<|?_;refine Jg<|Jf<|Jq<|Fq Nl 1 D D fun W a=>?_;exact⟨D,a.A0⟩
theorem S'(d:Jc)(k:Nat)(w:World)(a:k≤32:=by omega):Calls lp 187 #[rS [bv d.l],E k] w (sM w (rS [bv (AL.cut d.l k).l])):=by
 refine Cg w Iz D 15<|Je<|Jh<|U<|Cv D fun c=>U<|Bw [Ak 32] fun e=>K ?_;refine U<|Bw [Ak 32] fun f=>Jg<|FO 0 [bv (Ji.zero 32).l] D D<|K ?_;refine Af (Mn D D ((k:Nat):Int))<|Af (TP D D ((k:Nat):Int))<|K ?_;refine DD 4<|zs (AA D)<|zs (Fp Tryz.underlying136 0 k rfl .none (.some D) 0)<|zs (AA D)<|zs (Fp Tryz.underlying136 0 k rfl .none (.some D) 0)<|CS<|U<|HC 0 0 0 k (QP 2 0 0 k 32 (by rw[HE])) Tryz.underlying29 D D D D (DV (Mk (by have:=d.h;simp only[FX];omega))) (by have:=d.h;simp only[FX];omega)<|K ?_;refine Af (BN Nl 0 D D)<|U<|Bk 1 0 1 D D D<|?_;refine Jg<|Jf<|Jq<|Fq Nl 1 D D fun W b=>?_;exact⟨by rw[AL.UA (by rw[d.h];exact a) a];rfl,b.A0⟩
