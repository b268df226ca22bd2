/- Laws and walks on the road to SalvagePlays (part M21). No conditions beyond each law's own. -/
import Derived.Test.YtjdboncaegphmaaGreatDoorM15
import Derived.Test.YtjdboncaegphmaaGreatDoorM20
set_option linter.unusedVariables false
namespace Go.Proofs.YtjdboncaegphmaaGreatDoor
open Go.RowKit
set_option maxRecDepth 100000
set_option maxHeartbeats 2000000
variable {z:Int}
def Fr.fg(b:rG)(z:Int):Prop:=(z=(Fr.le b:Nat)∧Fr.le b≤9007199254741248)∨(z= -1∧35184372088832<Fr.le b)
theorem rH{l:rG}{i n k x y:Nat}(c:k+1≤n)(d:i+n≤l.length)(a:y=i+(n - (k+1)))(b:x=Fr.le (((l.drop i).take n).drop (n - k))):x*256+(l.getD y 0).toNat=Fr.le (((l.drop i).take n).drop (n - (k+1))):=by
 rw[np _ (n - (k+1)) (by simp;omega),show n - (k+1)+1=n - k by omega,←b,a,r6 l i n (n - (k+1)) JY];omega
theorem qp(l:rG):∀k,Fr.le (l.drop k)≤Fr.le l:=by
 intro k
 induction k with
 |zero=>exact Br _
 |succ k a=>exact Eg (p8 l k) a
theorem ZJ(q:Option Addr)(m c:Nat)(l:rG)(i n:Nat)(w:World)(g:View w (I q m c) m 1 (bv l))(hl:l.length=m)(u:1≤n)(v:i+n≤m∧m≤1000):Calls lp 80 #[I q m c,E i,E n] w fun e W=>∃z:Int,e=.returned (.int .i64 z)∧Fr.fg ((l.drop i).take n) z∧Below w.heap.size w W:=by
 refine Cg w Tv D 28<|K ?_;refine Es (q:=1) D D<|K ?_;refine DL (fun h a W=>∃k x j,h=n - k∧AH 28 a (Jb (Jb (Jb (Jb Jk 0 (I q m c)) 1 (E i)) 7 (E x)) 8 (Value.int .i64 (j:Int)))∧Sat C1 w [] W∧k≤n∧j=(n:Int) - 1 - k∧x=Fr.le (((l.drop i).take n).drop (n - k))∧x≤9007199254741248) (fun a W d b=>⟨0,0,_,D,AY d,b.pick [],F2 _,JY,by rw[tI (by rw[FX];omega)];rfl,JY⟩) ?_;rintro _ a W ⟨k,x,j,rfl,d,b,A,hj,f,B⟩;revert a W;refine K ?_;refine dE D D<|Jg<|Jf<|Cz D (fun o=>?_) fun o=>?_
 ·
  refine K ?_;refine Mp D D<|Jg<|Jf<|Cz D (fun r=>?_) fun r=>?_
  ·
   refine A7 ?_;intro W b;have:=qp ((l.drop i).take n) (n - k);exact⟨_,D,.inr ⟨D,JY⟩,b.A0⟩
  refine K ?_;refine Af (E3 (q:=256) D D)<|K ?_;obtain⟨y,s⟩:∃y:Nat,y=i+(n - (k+1)):=⟨_,D⟩
  have t:IntKind.i64.wrap ((i:Int)+j)=(y:Int):=by rw[IntWalk.i64_in _ JY];omega
  have C:=(l.getD y 0).toNat_lt;refine Af (fun _ _ d b=>HY d (k:=.i64) (p:=((i:Nat):Int)) (q:=j) D D t)<|Af (Dj A3 y y (Bx g) D D)<|Af (Fj BV y (Bx g) D)<|Af (Gg BV AF D)<|B6 D D<|K ?_;refine Af (fun _ _ d b=>Yx d (k:=.i64) (p:=(j:Int)) (q:=((1:Nat):Int)) D D D)<|K ?_;exact fun a W d b=>⟨_,JY,k+1,(x*256)+((l.getD y 0).toNat),_,D,AY d,b.pick [],JY,by rw[IntWalk.i64_in _ JY];omega,rH JY JY s f,JY⟩
 refine A7 ?_;intro W b;obtain rfl:n=k:=JY;rw[XT,HE]at f;exact⟨_,D,.inl ⟨by rw[f],JY⟩,b.A0⟩
def Fr.al(w:Nat)(z:Int)(m h p:Nat):Bool:=if z<0 then false else Fr.DE ⟨w,z.toNat,m,h,p⟩
theorem j1{l:rG}{a k:Nat}(h:a+k≤64:=by omega):((l.take 64).drop a).take k=(l.drop a).take k:=by
 rw[List.drop_take,LN,aQ JY]
theorem lT{l:rG}{a:Nat}(h:a<64):(l.take 64).getD a 0=l.getD a 0:=by
 rw[Dm,Dm,LQ,if_pos h]
theorem rh{l:rG}(hl:16≤l.length):Fr.le ((l.drop 8).take 8)=Fr.le ((l.drop 8).take 7)+(l.getD 15 0).toNat*72057594037927936:=by
 obtain⟨x,i⟩:∃x,x=l.drop 8:=⟨_,D⟩
 have j:l.getD 15 0=x.getD 7 0:=by rw[i,Dm,Dm,Q1]
 have k:8≤x.length:=by rw[i,J3];omega
 rw[j,←i]
 match x,k with
 |a::b::c::d::e::f::g::h::r,_=>simp[Fr.le];omega
theorem o2{l:rG}(hl:16≤l.length):Fr.CN ((l.drop 15).take 1)=true↔l.getD 15 0=0:=by
 rw[RS,To,Dm,F3 JY];simp[Fr.CN]
theorem t4{l:rG}(hl:4≤l.length):l.take 4=[76,68,71,49]↔l.getD 0 0=76∧l.getD 1 0=68∧l.getD 2 0=71∧l.getD 3 0=49:=by
 match l,hl with
 |a::b::c::d::r,_=>simp
structure Fr.ny (l:rG) (z:Int):Prop where
 C5:At.C5 (l.take 64) 60=0
 uQ:(l.getD 0 0).toNat=76
 uJ:(l.getD 1 0).toNat=68
 uH:(l.getD 2 0).toNat=71
 uN:(l.getD 3 0).toNat=49
 vd:Fr.CN ((l.drop 5).take 3)=true
 vJ:Fr.CN ((l.drop 28).take 32)=true
 v:Fr.al (l.getD 4 0).toNat z (Fr.le ((l.drop 16).take 4)) (Fr.le ((l.drop 20).take 4)) (Fr.le ((l.drop 24).take 4))=true
theorem Fr.pA{l:rG}(hl:l.length=256):Fr.Hz (l.take 64)=true↔((l.getD 0 0).toNat=76∧(l.getD 1 0).toNat=68∧(l.getD 2 0).toNat=71∧(l.getD 3 0).toNat=49)∧Fr.CN ((l.drop 5).take 3)=true∧Fr.CN ((l.drop 28).take 32)=true∧l.getD 15 0=0:=by
 have e:∀(a:UInt8) (n:Nat),n<256→(a=UInt8.ofNat n↔a.toNat=n):=fun a n f=>⟨fun h=>by rw[h,ps,s_ f],fun h=>M'.1 (by rw[h,ps,s_ f])⟩
 unfold Fr.Hz;simp only[Kq,decide_eq_true_eq];rw[j1,j1,j1,o2 JY,LN,aQ JY,t4 JY];rw[show(76:UInt8)=UInt8.ofNat 76 from D,show(68:UInt8)=UInt8.ofNat 68 from D,show(71:UInt8)=UInt8.ofNat 71 from D,show(49:UInt8)=UInt8.ofNat 49 from D,e _ _ JY,e _ _ JY,e _ _ JY,e _ _ JY];constructor
 ·rintro⟨⟨⟨h1,b⟩,c⟩,d⟩;exact⟨h1,b,c,d⟩
 ·rintro⟨h1,b,c,d⟩;exact⟨⟨⟨h1,b⟩,c⟩,d⟩
theorem Fr.qc{l:rG}:Fr.fields (l.take 64)=⟨(l.getD 4 0).toNat,Fr.le ((l.drop 8).take 7),Fr.le ((l.drop 16).take 4),Fr.le ((l.drop 20).take 4),Fr.le ((l.drop 24).take 4)⟩:=by
 unfold Fr.fields;rw[lT JY,j1,j1,j1,j1]
theorem Fr.kK{l:rG}(hl:l.length=256)(d:Fr.fg ((l.drop 8).take 8) z)(h:Fr.ny l z):0≤z∧Fr.DP l=some ⟨(l.getD 4 0).toNat,z.toNat,Fr.le ((l.drop 16).take 4),Fr.le ((l.drop 20).take 4),Fr.le ((l.drop 24).take 4)⟩:=by
 have a:=h.v;unfold Fr.al at a
 rcases d with⟨rfl,J⟩|⟨rfl,_⟩
 ·rw[if_neg JY]at a;have b:=rh (l:=l) JY;have c:l.getD 15 0=0:=M'.1 (by show _=0;omega);refine⟨JY,?_⟩;rw[c]at b;simp only[UInt8.toNat_zero,kY,tA]at b;rw[ue,b]at a⊢;unfold Fr.DP;rw[if_pos h.C5,if_pos ((Fr.pA hl).2 ⟨⟨h.uQ,h.uJ,h.uH,h.uN⟩,h.vd,h.vJ,c⟩),Fr.qc,if_pos a]
 ·rw[if_pos JY]at a;cases a
theorem Fr.jF{l:rG}(hl:l.length=256)(h:∀z,Fr.fg ((l.drop 8).take 8) z→¬Fr.ny l z):Fr.DP l=none:=by
 unfold Fr.DP;split
 ·rename_i h1;split
  ·rename_i a;have a:=(Fr.pA hl).1 a;rw[Fr.qc];split
   ·rename_i c;exfalso;have b:=rh (l:=l) JY;rw[a.2.2.2]at b;simp only[UInt8.toNat_zero,kY,tA]at b;have d:=Fr.k7 c;refine h (Fr.le ((l.drop 8).take 8):Nat) (.inl ⟨D,by rw[b];exact Eg d JZ⟩) ⟨h1,a.1.1,a.1.2.1,a.1.2.2.1,a.1.2.2.2,a.2.1,a.2.2.1,?_⟩;unfold Fr.al;rw[if_neg JY,ue,b];exact c
   ·rfl
  ·rfl
 ·rfl
theorem Fr.fg.le{b:rG}(h:Fr.fg b z):z≤9007199254741248:=by rcases h with⟨a,_⟩|⟨a,_⟩<;>omega
theorem Fr.fg.uniq{b:rG}{Lw:Int}(h:Fr.fg b z)(e:Fr.fg b Lw):z=Lw∨(z= -1∧35184372088832<Lw)∨(Lw= -1∧35184372088832<z):=by
 rcases h with⟨a,_⟩|⟨a,c⟩<;>rcases e with⟨b,_⟩|⟨b,d⟩<;>omega
theorem Fr.qZ{b:rG}{Lw:Int}{w m h p:Nat}(a:Fr.fg b z)(c:Fr.fg b Lw):Fr.al w z m h p=Fr.al w Lw m h p:=by
 have Gk:∀y:Int,35184372088832<y→Fr.al w y m h p=false:=fun y d=>by
  unfold Fr.al;rw[if_neg JY];cases e:Fr.DE ⟨w,y.toNat,m,h,p⟩with
  |false=>rfl
  |true=>have:=Fr.k7 e;have f:y.toNat≤1099511627776:=this;omega
 rcases a.uniq c with e|⟨e,k⟩|⟨e,k⟩
 ·rw[e]
 ·rw[Gk _ k,e];rfl
 ·rw[Gk _ k,e];rfl
theorem Fr.jr{l:rG}(hl:l.length=256)(a:Fr.fg ((l.drop 8).take 8) z)(h:¬Fr.al (l.getD 4 0).toNat z (Fr.le ((l.drop 16).take 4)) (Fr.le ((l.drop 20).take 4)) (Fr.le ((l.drop 24).take 4))=true):Fr.DP l=none:=
 Fr.jF hl fun Lw b u=>h ((Fr.qZ a b).trans u.v)
theorem fB(q:Option Addr)(m c:Nat)(l:rG)(i:Nat)(w:World)(a:View w (I q m c) m 1 (bv l))(hl:l.length=m)(b:i+4≤m∧m≤1000:=by omega):Calls lp 80 #[I q m c,E i,E 4] w fun e W=>e=.returned (E (Fr.le ((l.drop i).take 4)))∧Below w.heap.size w W:=
 (ZJ q m c l i 4 w a hl JY b).mono fun e W ⟨z,he,d,J⟩=>by
   have f:=hV (l.drop i)
   rcases d with⟨rfl,_⟩|⟨_,h⟩
   ·exact⟨he,J⟩
   ·omega
theorem re(b:Nat)(z:Int)(m h p:Nat)(w:World)(c:z<0):Calls lp 81 #[rS [[E b],[Value.int .i64 (z:Int)],[E m],[E h],[E p]]] w (sM w (.bool false)):=by
 refine Cg w Sc D 56<|Je<|Jh<|U<|Cv D fun HK=>K ?_;refine AG Bs 0 D<|AZ AF 0 0 D D D<|GV D D (fun d=>?_) fun d=>?_
 ·
  refine A7 ?_;exact fun W a=>⟨D,a.A0⟩
 refine K ?_;refine AG Bs 0 D<|Jj D D D<|AZ AF 0 0 D D D<|Jj D D D<|Kl D D (fun e=>?_) fun e=>?_
 ·
  refine A7 ?_;exact fun W a=>⟨D,a.A0⟩
 refine K ?_;refine AG Bs 1 D<|Jj D D D<|AZ AF 0 1 D D D<|Jj D D D<|GV D D (fun f=>?_) fun f=>?_
 ·
  refine A7 ?_;exact fun W a=>⟨D,a.A0⟩
 exact absurd c JY
theorem jf(b:Nat)(z:Int)(m h p:Nat)(w:World)(c:z≤9007199254741248):Calls lp 81 #[rS [[E b],[Value.int .i64 (z:Int)],[E m],[E h],[E p]]] w (sM w (.bool (Fr.al b z m h p))):=by
 unfold Fr.al
 by_cases a:z<0
 ·rw[if_pos a];exact re b z m h p w a
 ·rw[if_neg a];obtain⟨n,rfl⟩:∃n:Nat,z=n:=⟨z.toNat,JY⟩
  exact qE ⟨b,n,m,h,p⟩ w (by show n≤_;omega)
theorem pD(l:rG)(hl:l.length=256):Fr.CN ((l.drop 0).take 64)=Fr.Sa l:=by
 rw[HE];unfold Fr.Sa;apply tp.2;rw[decide_eq_true_iff,n1];unfold Fr.CN;rw[XF];constructor
 ·intro h;exact⟨by rw[FX];omega,fun b J=>by simpa using h b J⟩
 ·rintro⟨_,h⟩ b J;simpa using h b J
theorem k4(q:Option Addr)(c:Nat)(l:rG)(w:World)(d:View w (I q 256 c) 256 1 (bv l))(hl:l.length=256):Calls lp 77 #[I q 256 c] w (sM w (.bool (Fr.Sa l))):=by
 refine Cg w TM D 10<|K ?_;refine Cr B7 D<|EU JZ D D<|K ?_;refine U<|BP Lu D (fun w a=>(l6 0 64 _ _ _ l w ((Bx d) w a) hl).mono fun e W h=>⟨h.1,h.2▸Cn _ _⟩)<|?_
 rcases Ln (Fr.CN ((l.drop 0).take 64))with b|b
 ·
  refine CR 8 D (congrArg Value.bool b)<|A7 ?_;intro W a;rw[←pD l hl];exact⟨CT (by first|rfl|assumption|(symm;assumption)),a.A0⟩
 refine CR 8 D (congrArg Value.bool b)<|A7 ?_;intro W a;rw[←pD l hl];exact⟨CT (by first|rfl|assumption|(symm;assumption)),a.A0⟩
theorem KD(q:Option Addr)(c:Nat)(l:rG)(w:World)(y:DA w)(d:View w (I q 256 c) 256 1 (bv l))(hl:l.length=256):Calls lp 46 #[I q 256 c] w fun e W=>(∀s,Fr.DP l=some s→e=.returned (.tuple #[rS (Z1 s),E 0]))∧(Fr.DP l=none→∃k,k≠0∧e=.returned (.tuple #[rS SY,E k]))∧Below w.heap.size w W:=by
 refine Cg w V6 D 65<|Je<|Jh<|U<|Bw SY fun v=>K ?_;refine Cr B7 D<|Ci JZ D D<|K ?_;refine Af (Fi A3 0 64 (Bx d) rfl .none (.some D))<|U<|BP SO D (fun w b=>rC _ _ _ 60 (l.take 64) w (y.below b.A0 (Br _)) JY JY ((Db 0 64 (Bx d) (by rw[HE])) w b) (by have:(l).length=256:=hl;simp only[FX];omega))<|Af (Te D)<|Jg<|Jf<|J9 D (fun r=>?_) fun r=>?_
 ·
  refine Je<|Jh<|Af (S8 SY)<|U<|Bk 0 0 5 D D D<|?_;refine K ?_;refine Gl Bs 0 D D D fun W b=>?_;have f:=Fr.jF hl fun z n u=>absurd u.C5 (of_decide_eq_false (by revert r;cases decide (At.C5 (l.take 64) 60=0)<;>simp));exact⟨(fun s h=>by rw[f]at h;cases h),fun _=>⟨52,JZ,rfl⟩,b.A0⟩
 refine K ?_;refine Af (Dj A3 0 0 (Bx d) D D)<|Af (Fj BV 0 (Bx d) D)<|Li D D (fun A=>?_) fun A=>?_
 ·
  refine K ?_;refine Af (Dj A3 1 1 (Bx d) D D)<|Jj D D D<|Af (Fj BV 1 (Bx d) D)<|Jj D D D<|Li D D (fun B=>?_) fun B=>?_
  ·
   refine K ?_;refine Af (Dj A3 2 2 (Bx d) D D)<|Jj D D D<|Af (Fj BV 2 (Bx d) D)<|Jj D D D<|Li D D (fun C=>?_) fun C=>?_
   ·
    refine K ?_;refine Af (Dj A3 3 3 (Bx d) D D)<|Jj D D D<|Af (Fj BV 3 (Bx d) D)<|Jj D D D<|Li D D (fun F=>?_) fun F=>?_
    ·
     refine K ?_;refine U<|BP Lu D (fun w b=>(l6 5 8 _ _ _ l w ((Bx d) w b) hl).mono fun e W h=>⟨h.1,h.2▸Cn _ _⟩)<|?_
     rcases Ln (Fr.CN ((l.drop 5).take 3))with o|o
     ·
      refine CR 38 D (congrArg Value.bool o)<|Jj D D D<|Af (Te D)<|K ?_;refine U<|BP Lu D (fun w b=>(l6 28 60 _ _ _ l w ((Bx d) w b) hl).mono fun e W h=>⟨h.1,h.2▸Cn _ _⟩)<|?_
      rcases Ln (Fr.CN ((l.drop 28).take 32))with p|p
      ·
       refine CR 43 D (congrArg Value.bool p)<|Jj D D D<|Af (Te D)<|K ?_;refine Hj (fun a W=>∃g i,AH 65 a (Jb (Jb (Jb Jk 2 (S v)) 3 (E 0)) 4 (S g))∧Sat C1 w [O g [[E ((l.getD 4 0).toNat)],[Value.int .i64 (i:Int)],[E (Fr.le ((l.drop 16).take 4))],[E (Fr.le ((l.drop 20).take 4))],[E (Fr.le ((l.drop 24).take 4))]] 70,O v SY 70] W∧Fr.fg ((l.drop 8).take 8) i) ?_ ?_
       ·
        refine CQ []<|Ab 0 D (AA D)<|Ab 1 D (Dj A3 4 4 (Bx d) D D)<|Ab 2 D (Fj BV 4 (Bx d) D)<|Ab 3 D (Gg BV AF D)<|Ab 4 D (AA D)<|Ab 6 D (AA D)<|Ab 8 D (AA D)<|Ab 10 D (AA D)<|Gy 5 13 D D ?_ ?_
        ·
         refine Ba Tv D (fun w b=>ZJ _ _ _ l 8 8 w ((Bx d) w b) hl JY JY) fun _ e W b ⟨i,he,m,J⟩=>⟨_,_,he,b.below J,?_⟩
         refine A8 []<|Gy 7 13 D D ?_ ?_
         ·
          refine BP Tv D (fun w b=>fB _ _ _ l 16 w ((Bx d) w b) hl)<|A8 []<|Gy 9 13 D D ?_ ?_
          ·
           refine BP Tv D (fun w b=>fB _ _ _ l 20 w ((Bx d) w b) hl)<|A8 []<|Gy 11 13 D D ?_ ?_
           ·
            refine BP Tv D (fun w b=>fB _ _ _ l 24 w ((Bx d) w b) hl)<|A8 []<|Ab 12 D (S8 [[E ((l.getD 4 0).toNat)],[Value.int .i64 (i:Int)],[E (Fr.le ((l.drop 16).take 4))],[E (Fr.le ((l.drop 20).take 4))],[E (Fr.le ((l.drop 24).take 4))]])<|Bh 13 D<|Bw SY fun g=>A8 []<|Bh 14 D<|Bk 0 0 5 D D D<|?_;refine A8 []<|Cm<|?_;exact fun a W j b=>⟨g,i,AY j,b.pick [0,1],m⟩
           refine Bw SY fun g=>A8 []<|Bh 11 D<|BP Tv D (fun w b=>fB _ _ _ l 24 w ((Bx d) w b) hl)<|A8 []<|Ab 12 D (S8 [[E ((l.getD 4 0).toNat)],[Value.int .i64 (i:Int)],[E (Fr.le ((l.drop 16).take 4))],[E (Fr.le ((l.drop 20).take 4))],[E (Fr.le ((l.drop 24).take 4))]])<|Bh 14 D<|Bk 0 0 5 D D D<|?_;refine A8 []<|Cm<|?_;exact fun a W j b=>⟨g,i,AY j,b.pick [0,1],m⟩
          refine Bw SY fun g=>A8 []<|Bh 9 D<|BP Tv D (fun w b=>fB _ _ _ l 20 w ((Bx d) w b) hl)<|A8 []<|Bh 11 D<|BP Tv D (fun w b=>fB _ _ _ l 24 w ((Bx d) w b) hl)<|A8 []<|Ab 12 D (S8 [[E ((l.getD 4 0).toNat)],[Value.int .i64 (i:Int)],[E (Fr.le ((l.drop 16).take 4))],[E (Fr.le ((l.drop 20).take 4))],[E (Fr.le ((l.drop 24).take 4))]])<|Bh 14 D<|Bk 0 0 5 D D D<|?_;refine A8 []<|Cm<|?_;exact fun a W j b=>⟨g,i,AY j,b.pick [0,1],m⟩
         refine Bw SY fun g=>A8 []<|Bh 7 D<|BP Tv D (fun w b=>fB _ _ _ l 16 w ((Bx d) w b) hl)<|A8 []<|Bh 9 D<|BP Tv D (fun w b=>fB _ _ _ l 20 w ((Bx d) w b) hl)<|A8 []<|Bh 11 D<|BP Tv D (fun w b=>fB _ _ _ l 24 w ((Bx d) w b) hl)<|A8 []<|Ab 12 D (S8 [[E ((l.getD 4 0).toNat)],[Value.int .i64 (i:Int)],[E (Fr.le ((l.drop 16).take 4))],[E (Fr.le ((l.drop 20).take 4))],[E (Fr.le ((l.drop 24).take 4))]])<|Bh 14 D<|Bk 0 0 5 D D D<|?_;refine A8 []<|Cm<|?_;exact fun a W j b=>⟨g,i,AY j,b.pick [0,1],m⟩
        refine Bw SY fun g=>A8 []<|Bh 5 D<|?_;refine Ba Tv D (fun w b=>ZJ _ _ _ l 8 8 w ((Bx d) w b) hl JY JY) fun _ e W b ⟨x,he,G,J⟩=>⟨_,_,he,b.below J,?_⟩
        refine A8 []<|Bh 7 D<|BP Tv D (fun w b=>fB _ _ _ l 16 w ((Bx d) w b) hl)<|A8 []<|Bh 9 D<|BP Tv D (fun w b=>fB _ _ _ l 20 w ((Bx d) w b) hl)<|A8 []<|Bh 11 D<|BP Tv D (fun w b=>fB _ _ _ l 24 w ((Bx d) w b) hl)<|A8 []<|Ab 12 D (S8 [[E ((l.getD 4 0).toNat)],[Value.int .i64 (x:Int)],[E (Fr.le ((l.drop 16).take 4))],[E (Fr.le ((l.drop 20).take 4))],[E (Fr.le ((l.drop 24).take 4))]])<|Bh 14 D<|Bk 0 0 5 D D D<|?_;refine A8 []<|Cm<|?_;exact fun a W j b=>⟨g,x,AY j,b.pick [0,1],G⟩
       rintro a W ⟨g,i,j,b,m⟩;revert a W;refine K ?_;refine Af (BN Bs 0 D D)<|U<|BP Sc D (fun w b=>jf ((l.getD 4 0).toNat) i (Fr.le ((l.drop 16).take 4)) (Fr.le ((l.drop 20).take 4)) (Fr.le ((l.drop 24).take 4)) w m.le)<|Af (Te D)<|Jg<|Jf<|J9 D (fun t=>?_) fun t=>?_
       ·
        refine Je<|Jh<|Af (S8 SY)<|U<|Bk 1 0 5 D D D<|?_;refine K ?_;refine Gl Bs 1 D D D fun W b=>?_;have f:=Fr.jr hl m (by rw[Bool.not_eq_true];revert t;cases Fr.al _ _ _ _ _<;>simp);exact⟨(fun s h=>by rw[f]at h;cases h),fun _=>⟨53,JZ,rfl⟩,b.A0⟩
       refine K ?_;refine Af (BN Bs 0 D D)<|U<|Bk 1 0 5 D D D<|?_;refine K ?_;refine Gl Bs 1 D D D fun W b=>?_;have f:=Fr.kK hl m ⟨of_decide_eq_true (by revert r;cases decide (At.C5 (l.take 64) 60=0)<;>simp),JY,JY,JY,JY,o,p,(by revert t;cases Fr.al _ _ _ _ _<;>simp)⟩;exact⟨(fun s h=>by rw[f.2]at h;cases h;rw[←Int.toNat_of_nonneg f.1];rfl),(fun h=>by rw[f.2]at h;cases h),b.A0⟩
      refine CR 43 D (congrArg Value.bool p)<|Jj D D D<|Af (Te D)<|K ?_;refine Af (S8 SY)<|U<|Bk 0 0 5 D D D<|?_;refine K ?_;refine Gl Bs 0 D D D fun W b=>?_;have f:=Fr.jF hl fun z n u=>(by have h:=u.vJ;rw[p]at h;cases h)
      exact⟨(fun s h=>by rw[f]at h;cases h),fun _=>⟨53,JZ,rfl⟩,b.A0⟩
     refine CR 38 D (congrArg Value.bool o)<|Jj D D D<|Af (Te D)<|K ?_;refine Af (S8 SY)<|U<|Bk 0 0 5 D D D<|?_;refine K ?_;refine Gl Bs 0 D D D fun W b=>?_;have f:=Fr.jF hl fun z n u=>(by have h:=u.vd;rw[o]at h;cases h)
     exact⟨(fun s h=>by rw[f]at h;cases h),fun _=>⟨53,JZ,rfl⟩,b.A0⟩
    refine K ?_;refine Af (S8 SY)<|U<|Bk 0 0 5 D D D<|?_;refine K ?_;refine Gl Bs 0 D D D fun W b=>?_;have f:=Fr.jF hl fun z n u=>absurd u.uN JY;exact⟨(fun s h=>by rw[f]at h;cases h),fun _=>⟨53,JZ,rfl⟩,b.A0⟩
   refine K ?_;refine Af (S8 SY)<|U<|Bk 0 0 5 D D D<|?_;refine K ?_;refine Gl Bs 0 D D D fun W b=>?_;have f:=Fr.jF hl fun z n u=>absurd u.uH JY;exact⟨(fun s h=>by rw[f]at h;cases h),fun _=>⟨53,JZ,rfl⟩,b.A0⟩
  refine K ?_;refine Af (S8 SY)<|U<|Bk 0 0 5 D D D<|?_;refine K ?_;refine Gl Bs 0 D D D fun W b=>?_;have f:=Fr.jF hl fun z n u=>absurd u.uJ JY;exact⟨(fun s h=>by rw[f]at h;cases h),fun _=>⟨53,JZ,rfl⟩,b.A0⟩
 refine K ?_;refine Af (S8 SY)<|U<|Bk 0 0 5 D D D<|?_;refine K ?_;refine Gl Bs 0 D D D fun W b=>?_;have f:=Fr.jF hl fun z n u=>absurd u.uQ JY;exact⟨(fun s h=>by rw[f]at h;cases h),fun _=>⟨53,JZ,rfl⟩,b.A0⟩
theorem ck(x y:Fr.Bu)(w:World)(h1:x.g≤4611686018427387904)(p:y.g≤4611686018427387904):Calls lp 76 #[rS (Z1 x),rS (Z1 y)] w fun e W=>(∀s,Fr.Ed x y=some s→e=.returned (.tuple #[rS (Z1 s),E 0]))∧(Fr.Ed x y=none→e=.returned (.tuple #[rS SY,E 4]))∧Below w.heap.size w W:=by
 refine Cg w YX D 60<|Je<|Jh<|U<|Cv D fun r=>U<|Cv D fun t=>U<|Bw SY fun u=>K ?_;refine AG Bs 1 D<|AZ AF 2 1 D D D<|Af (GG (q:=2) D D)<|Li D D (fun c=>?_) fun c=>?_
 ·
  refine K ?_;refine AG Bs 1 D<|Jj D D D<|AZ AF 1 1 D D D<|Jj D D D<|Af (GG (q:=2) D D)<|Jj D D D<|Li D D (fun d=>?_) fun d=>?_
  ·
   refine K ?_;refine AG Bs 0 D<|Jj D D D<|AZ AF 2 0 D D D<|Jj D D D<|AG Bs 0 D<|Jj D D D<|AZ AF 1 0 D D D<|Jj D D D<|Li D D (fun f=>?_) fun f=>?_
   ·
    refine K ?_;refine AG Bs 4 D<|Jj D D D<|AZ AF 2 4 D D D<|Jj D D D<|AG Bs 4 D<|Jj D D D<|AZ AF 1 4 D D D<|Jj D D D<|Li D D (fun i=>?_) fun i=>?_
    ·
     refine K ?_;refine AG Bs 1 D<|AZ AF 2 1 D D D<|AG Bs 1 D<|AZ AF 1 1 D D D<|B6 (q:=1) D D<|Gx D D (fun j=>?_) fun j=>?_
     ·
      refine K ?_;refine AG Bs 2 D<|Jj D D D<|AZ AF 2 2 D D D<|Jj D D D<|AG Bs 2 D<|Jj D D D<|AZ AF 1 2 D D D<|Jj D D D<|Pm D D (fun k=>?_) fun k=>?_
      ·
       refine K ?_;refine Af (BN Bs 2 D D)<|U<|Bk 0 0 5 D D D<|?_;refine K ?_;refine Gl Bs 0 D D D fun W b=>?_;have a:Fr.Ed x y=some x:=by rcases Fr.fF x y with⟨h,e⟩|⟨h,e⟩|⟨h,e⟩<;>first|exact e|omega
       exact⟨(fun s h=>by rw[a]at h;cases h;rfl),(fun h=>by rw[a]at h;cases h),b.A0⟩
      refine K ?_;refine AG Bs 1 D<|AZ AF 1 1 D D D<|AG Bs 1 D<|AZ AF 2 1 D D D<|B6 (q:=1) D D<|Gx D D (fun l=>?_) fun l=>?_
      ·
       refine K ?_;refine AG Bs 2 D<|Jj D D D<|AZ AF 1 2 D D D<|Jj D D D<|AG Bs 2 D<|Jj D D D<|AZ AF 2 2 D D D<|Jj D D D<|Pm D D (fun m=>?_) fun m=>?_
       ·
        refine K ?_;refine Af (BN Bs 1 D D)<|U<|Bk 0 0 5 D D D<|?_;refine K ?_;refine Gl Bs 0 D D D fun W b=>?_;have a:Fr.Ed x y=some y:=by rcases Fr.fF x y with⟨h,e⟩|⟨h,e⟩|⟨h,e⟩<;>first|exact e|omega
        exact⟨(fun s h=>by rw[a]at h;cases h;rfl),(fun h=>by rw[a]at h;cases h),b.A0⟩
       refine K ?_;refine Af (S8 SY)<|U<|Bk 0 0 5 D D D<|?_;refine K ?_;refine Gl Bs 0 D D D fun W b=>?_;have a:Fr.Ed x y=none:=by rcases Fr.fF x y with⟨h,e⟩|⟨h,e⟩|⟨h,e⟩<;>first|exact e|omega
       exact⟨(fun s h=>by rw[a]at h;cases h),fun _=>rfl,b.A0⟩
      refine K ?_;refine Af (S8 SY)<|U<|Bk 0 0 5 D D D<|?_;refine K ?_;refine Gl Bs 0 D D D fun W b=>?_;have a:Fr.Ed x y=none:=by rcases Fr.fF x y with⟨h,e⟩|⟨h,e⟩|⟨h,e⟩<;>first|exact e|omega
      exact⟨(fun s h=>by rw[a]at h;cases h),fun _=>rfl,b.A0⟩
     refine K ?_;refine AG Bs 1 D<|AZ AF 1 1 D D D<|AG Bs 1 D<|AZ AF 2 1 D D D<|B6 (q:=1) D D<|Gx D D (fun n=>?_) fun n=>?_
     ·
      refine K ?_;refine AG Bs 2 D<|Jj D D D<|AZ AF 1 2 D D D<|Jj D D D<|AG Bs 2 D<|Jj D D D<|AZ AF 2 2 D D D<|Jj D D D<|Pm D D (fun o=>?_) fun o=>?_
      ·
       refine K ?_;refine Af (BN Bs 1 D D)<|U<|Bk 0 0 5 D D D<|?_;refine K ?_;refine Gl Bs 0 D D D fun W b=>?_;have a:Fr.Ed x y=some y:=by rcases Fr.fF x y with⟨h,e⟩|⟨h,e⟩|⟨h,e⟩<;>first|exact e|omega
       exact⟨(fun s h=>by rw[a]at h;cases h;rfl),(fun h=>by rw[a]at h;cases h),b.A0⟩
      refine K ?_;refine Af (S8 SY)<|U<|Bk 0 0 5 D D D<|?_;refine K ?_;refine Gl Bs 0 D D D fun W b=>?_;have a:Fr.Ed x y=none:=by rcases Fr.fF x y with⟨h,e⟩|⟨h,e⟩|⟨h,e⟩<;>first|exact e|omega
      exact⟨(fun s h=>by rw[a]at h;cases h),fun _=>rfl,b.A0⟩
     refine K ?_;refine Af (S8 SY)<|U<|Bk 0 0 5 D D D<|?_;refine K ?_;refine Gl Bs 0 D D D fun W b=>?_;have a:Fr.Ed x y=none:=by rcases Fr.fF x y with⟨h,e⟩|⟨h,e⟩|⟨h,e⟩<;>first|exact e|omega
     exact⟨(fun s h=>by rw[a]at h;cases h),fun _=>rfl,b.A0⟩
    refine K ?_;refine Af (S8 SY)<|U<|Bk 0 0 5 D D D<|?_;refine K ?_;refine Gl Bs 0 D D D fun W b=>?_;have a:Fr.Ed x y=none:=by rcases Fr.fF x y with⟨h,e⟩|⟨h,e⟩|⟨h,e⟩<;>first|exact e|omega
    exact⟨(fun s h=>by rw[a]at h;cases h),fun _=>rfl,b.A0⟩
   refine K ?_;refine Af (S8 SY)<|U<|Bk 0 0 5 D D D<|?_;refine K ?_;refine Gl Bs 0 D D D fun W b=>?_;have a:Fr.Ed x y=none:=by rcases Fr.fF x y with⟨h,e⟩|⟨h,e⟩|⟨h,e⟩<;>first|exact e|omega
   exact⟨(fun s h=>by rw[a]at h;cases h),fun _=>rfl,b.A0⟩
  refine K ?_;refine Af (S8 SY)<|U<|Bk 0 0 5 D D D<|?_;refine K ?_;refine Gl Bs 0 D D D fun W b=>?_;have a:Fr.Ed x y=none:=by rcases Fr.fF x y with⟨h,e⟩|⟨h,e⟩|⟨h,e⟩<;>first|exact e|omega
  exact⟨(fun s h=>by rw[a]at h;cases h),fun _=>rfl,b.A0⟩
 refine K ?_;refine Af (S8 SY)<|U<|Bk 0 0 5 D D D<|?_;refine K ?_;refine Gl Bs 0 D D D fun W b=>?_;have a:Fr.Ed x y=none:=by rcases Fr.fF x y with⟨h,e⟩|⟨h,e⟩|⟨h,e⟩<;>first|exact e|omega
 exact⟨(fun s h=>by rw[a]at h;cases h),fun _=>rfl,b.A0⟩
theorem gR(q G:Option Addr)(c H:Nat)(l d:rG)(w:World)(i:DA w)(j:View w (I q 256 c) 256 1 (bv l))(hl:l.length=256)(m:View w (I G 256 H) 256 1 (bv d))(n:d.length=256):Calls lp 45 #[I q 256 c,I G 256 H] w fun e W=>(∀s,Fr.choose l d=.ok s→e=.returned (.tuple #[rS (Z1 s),E 0]))∧(∀k,Fr.choose l d=.error k→e=.returned (.tuple #[rS SY,E k]))∧Below w.heap.size w W:=by
 refine Cg w Mh D 48<|Je<|Jh<|U<|Bw SY fun O=>K ?_;cases f:Fr.DP l with
 |none=>
  cases g:Fr.DP d with
  |none=>
   refine K ?_;refine U<|Ba V6 D (fun w a=>(KD _ _ l w (i.below a.A0 (Br _)) ((Bx j) w a) hl).mono fun e W q=>(let⟨k,h1,o⟩:=q.2.1 f;⟨k,o,h1,q.2.2⟩:∃k,_∧_∧_)) fun _ e W a ⟨P,he,Q,J⟩=>⟨_,_,he,a.below J,?_⟩
   refine Jd D<|Bc D D<|Bc D D<|U<|Bw SY fun r=>U<|Bk 0 0 5 D D D<|?_;refine K ?_;refine U<|Ba V6 D (fun w a=>(KD _ _ d w (i.below a.A0 (Br _)) ((Bx m) w a) n).mono fun e W q=>(let⟨k,h1,o⟩:=q.2.1 g;⟨k,o,h1,q.2.2⟩:∃k,_∧_∧_)) fun _ e W a ⟨R,he,S,J⟩=>⟨_,_,he,a.below J,?_⟩
   refine Jd D<|Bc D D<|Bc D D<|U<|Bw SY fun t=>U<|Bk 0 0 5 D D D<|?_;refine K ?_;refine Gi JY D D<|K ?_;refine U<|BP TM D (fun w a=>k4 _ _ d w ((Bx m) w a) n)<|?_
   rcases Ln (Fr.Sa d)with u|u
   ·
    refine CR 32 D (congrArg Value.bool u)<|K ?_;refine U<|BP TM D (fun w a=>k4 _ _ l w ((Bx j) w a) hl)<|?_
    rcases Ln (Fr.Sa l)with v|v
    ·
     refine CR 35 D (congrArg Value.bool v)<|K ?_;refine Af (S8 SY)<|U<|Bk 2 0 5 D D D<|?_;refine K ?_;refine Gl Bs 2 D D D fun W a=>?_;have b:Fr.choose l d=.error 55:=by rw[Fr.kI f];first|(simp[*];done)|(simp[*];omega)
     exact⟨(fun s h=>by rw[b]at h;cases h),(fun k h=>by rw[b]at h;cases h;rfl),a.A0⟩
    refine CR 35 D (congrArg Value.bool v)<|K ?_;refine Gi JY D D<|K ?_;refine Af (S8 SY)<|U<|Bk 2 0 5 D D D<|?_;refine K ?_;refine Gl Bs 2 D D D fun W a=>?_;have b:Fr.choose l d=.error 4:=by rw[Fr.kI f];first|(simp[*];done)|(simp[*];omega)
    exact⟨(fun s h=>by rw[b]at h;cases h),(fun k h=>by rw[b]at h;cases h;rfl),a.A0⟩
   refine CR 32 D (congrArg Value.bool u)<|K ?_;refine Af (S8 SY)<|U<|Bk 2 0 5 D D D<|?_;refine K ?_;refine Gl Bs 2 D D D fun W a=>?_;have b:Fr.choose l d=.error 4:=by rw[Fr.kI f];first|(simp[*];done)|(simp[*];omega)
   exact⟨(fun s h=>by rw[b]at h;cases h),(fun k h=>by rw[b]at h;cases h;rfl),a.A0⟩
  |some y=>
   have L:=Fr.k7 (m_ g);refine K ?_;refine U<|Ba V6 D (fun w a=>(KD _ _ l w (i.below a.A0 (Br _)) ((Bx j) w a) hl).mono fun e W q=>(let⟨k,h1,o⟩:=q.2.1 f;⟨k,o,h1,q.2.2⟩:∃k,_∧_∧_)) fun _ e W a ⟨T,he,V,J⟩=>⟨_,_,he,a.below J,?_⟩
   refine Jd D<|Bc D D<|Bc D D<|U<|Bw SY fun r=>U<|Bk 0 0 5 D D D<|?_;refine K ?_;refine U<|Ba V6 D (fun w a=>(KD _ _ d w (i.below a.A0 (Br _)) ((Bx m) w a) n).mono fun e W q=>(⟨q.1 _ g,q.2.2⟩:_∧_)) fun _ e W a ⟨he,J⟩=>⟨_,_,he,a.below J,?_⟩
   refine Jd D<|Bc D D<|Bc D D<|U<|Bw SY fun t=>U<|Bk 0 0 5 D D D<|?_;refine K ?_;refine Gi JY D D<|K ?_;refine U<|BP TM D (fun w a=>k4 _ _ d w ((Bx m) w a) n)<|?_
   rcases Ln (Fr.Sa d)with A|A
   ·
    refine CR 32 D (congrArg Value.bool A)<|K ?_;refine U<|BP TM D (fun w a=>k4 _ _ l w ((Bx j) w a) hl)<|?_
    rcases Ln (Fr.Sa l)with B|B
    ·
     refine CR 35 D (congrArg Value.bool B)<|K ?_;refine Af (S8 SY)<|U<|Bk 2 0 5 D D D<|?_;refine K ?_;refine Gl Bs 2 D D D fun W a=>?_;have b:Fr.choose l d=.error 55:=by rw[Fr.kI f];first|(simp[*];done)|(simp[*];omega)
     exact⟨(fun s h=>by rw[b]at h;cases h),(fun k h=>by rw[b]at h;cases h;rfl),a.A0⟩
    refine CR 35 D (congrArg Value.bool B)<|K ?_;refine Gi JY D D<|K ?_;refine Af (S8 SY)<|U<|Bk 2 0 5 D D D<|?_;refine K ?_;refine Gl Bs 2 D D D fun W a=>?_;have b:Fr.choose l d=.error 4:=by rw[Fr.kI f];first|(simp[*];done)|(simp[*];omega)
    exact⟨(fun s h=>by rw[b]at h;cases h),(fun k h=>by rw[b]at h;cases h;rfl),a.A0⟩
   refine CR 32 D (congrArg Value.bool A)<|K ?_;refine Af (S8 SY)<|U<|Bk 2 0 5 D D D<|?_;refine K ?_;refine Gl Bs 2 D D D fun W a=>?_;have b:Fr.choose l d=.error 4:=by rw[Fr.kI f];first|(simp[*];done)|(simp[*];omega)
   exact⟨(fun s h=>by rw[b]at h;cases h),(fun k h=>by rw[b]at h;cases h;rfl),a.A0⟩
 |some x=>
  cases g:Fr.DP d with
  |none=>
   have M:=Fr.k7 (m_ f);refine K ?_;refine U<|Ba V6 D (fun w a=>(KD _ _ l w (i.below a.A0 (Br _)) ((Bx j) w a) hl).mono fun e W q=>(⟨q.1 _ f,q.2.2⟩:_∧_)) fun _ e W a ⟨he,J⟩=>⟨_,_,he,a.below J,?_⟩
   refine Jd D<|Bc D D<|Bc D D<|U<|Bw SY fun r=>U<|Bk 0 0 5 D D D<|?_;refine K ?_;refine U<|Ba V6 D (fun w a=>(KD _ _ d w (i.below a.A0 (Br _)) ((Bx m) w a) n).mono fun e W q=>(let⟨k,h1,o⟩:=q.2.1 g;⟨k,o,h1,q.2.2⟩:∃k,_∧_∧_)) fun _ e W a ⟨X,he,Y,J⟩=>⟨_,_,he,a.below J,?_⟩
   refine Jd D<|Bc D D<|Bc D D<|U<|Bw SY fun t=>U<|Bk 0 0 5 D D D<|?_;refine K ?_;refine EU JZ D D<|K ?_;refine Gi JY D D<|K ?_;refine U<|BP TM D (fun w a=>k4 _ _ d w ((Bx m) w a) n)<|?_
   rcases Ln (Fr.Sa d)with C|C
   ·
    refine CR 32 D (congrArg Value.bool C)<|K ?_;refine U<|BP TM D (fun w a=>k4 _ _ l w ((Bx j) w a) hl)<|?_
    rcases Ln (Fr.Sa l)with F|F
    ·
     refine CR 35 D (congrArg Value.bool F)<|K ?_;refine Af (S8 SY)<|U<|Bk 2 0 5 D D D<|?_;refine K ?_;refine Gl Bs 2 D D D fun W a=>?_;have b:Fr.choose l d=.error 55:=by rw[Fr.VV f g];first|(simp[*];done)|(simp[*];omega)
     exact⟨(fun s h=>by rw[b]at h;cases h),(fun k h=>by rw[b]at h;cases h;rfl),a.A0⟩
    refine CR 35 D (congrArg Value.bool F)<|K ?_;refine EU JZ D D<|K ?_;refine AG Bs 1 D<|Jj D D D<|AZ AF 1 1 D D D<|Jj D D D<|Gx D D (fun N=>?_) fun N=>?_
    ·
     refine K ?_;refine Af (S8 SY)<|U<|Bk 2 0 5 D D D<|?_;refine K ?_;refine Gl Bs 2 D D D fun W a=>?_;have b:Fr.choose l d=.error 55:=by rw[Fr.VV f g];first|(simp[*];done)|(simp[*];omega)
     exact⟨(fun s h=>by rw[b]at h;cases h),(fun k h=>by rw[b]at h;cases h;rfl),a.A0⟩
    refine K ?_;refine Af (S8 SY)<|U<|Bk 2 0 5 D D D<|?_;refine K ?_;refine Gl Bs 2 D D D fun W a=>?_;have b:Fr.choose l d=.error 4:=by rw[Fr.VV f g];first|(simp[*];done)|(simp[*];omega)
    exact⟨(fun s h=>by rw[b]at h;cases h),(fun k h=>by rw[b]at h;cases h;rfl),a.A0⟩
   refine CR 32 D (congrArg Value.bool C)<|K ?_;refine Af (S8 SY)<|U<|Bk 2 0 5 D D D<|?_;refine K ?_;refine Gl Bs 2 D D D fun W a=>?_;have b:Fr.choose l d=.error 4:=by rw[Fr.VV f g];first|(simp[*];done)|(simp[*];omega)
   exact⟨(fun s h=>by rw[b]at h;cases h),(fun k h=>by rw[b]at h;cases h;rfl),a.A0⟩
  |some y=>
   have M:=Fr.k7 (m_ f);have L:=Fr.k7 (m_ g);refine K ?_;refine U<|Ba V6 D (fun w a=>(KD _ _ l w (i.below a.A0 (Br _)) ((Bx j) w a) hl).mono fun e W q=>(⟨q.1 _ f,q.2.2⟩:_∧_)) fun _ e W a ⟨he,J⟩=>⟨_,_,he,a.below J,?_⟩
   refine Jd D<|Bc D D<|Bc D D<|U<|Bw SY fun r=>U<|Bk 0 0 5 D D D<|?_;refine K ?_;refine U<|Ba V6 D (fun w a=>(KD _ _ d w (i.below a.A0 (Br _)) ((Bx m) w a) n).mono fun e W q=>(⟨q.1 _ g,q.2.2⟩:_∧_)) fun _ e W a ⟨he,J⟩=>⟨_,_,he,a.below J,?_⟩
   refine Jd D<|Bc D D<|Bc D D<|U<|Bw SY fun t=>U<|Bk 0 0 5 D D D<|?_;refine K ?_;refine EU JZ D D<|K ?_;refine EU JZ D D<|K ?_;cases p:Fr.Ed x y with
   |none=>
    refine K ?_;refine Af (BN Bs 1 D D)<|Af (BN Bs 0 D D)<|U<|Ba YX D (fun w a=>(ck x y w JY JY).mono fun e W q=>(⟨q.2.1 p,q.2.2⟩:_∧_)) fun _ e W a ⟨he,J⟩=>⟨_,_,he,a.below J,?_⟩
    refine Bc D D<|Bc D D<|U<|Bk 2 0 5 D D D<|?_;refine K ?_;refine Gl Bs 2 D D D fun W a=>?_;have b:Fr.choose l d=.error 4:=by unfold Fr.choose;rw[f,g];simp only[p]
    exact⟨(fun s h=>by rw[b]at h;cases h),(fun k h=>by rw[b]at h;cases h;rfl),a.A0⟩
   |some z=>
    refine K ?_;refine Af (BN Bs 1 D D)<|Af (BN Bs 0 D D)<|U<|Ba YX D (fun w a=>(ck x y w JY JY).mono fun e W q=>(⟨q.1 _ p,q.2.2⟩:_∧_)) fun _ e W a ⟨he,J⟩=>⟨_,_,he,a.below J,?_⟩
    refine Bc D D<|Bc D D<|U<|Bk 2 0 5 D D D<|?_;refine K ?_;refine Gl Bs 2 D D D fun W a=>?_;have b:Fr.choose l d=.ok z:=by unfold Fr.choose;rw[f,g];simp only[p]
    exact⟨(fun s h=>by rw[b]at h;cases h;rfl),(fun k h=>by rw[b]at h;cases h),a.A0⟩
