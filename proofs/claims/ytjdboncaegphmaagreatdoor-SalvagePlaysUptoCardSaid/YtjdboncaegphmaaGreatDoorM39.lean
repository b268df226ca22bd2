/- Laws and walks on the road to SalvagePlays (part M39). No conditions beyond each law's own. -/
import Derived.Test.YtjdboncaegphmaaGreatDoorM38
set_option linter.unusedVariables false
namespace Go.Proofs.YtjdboncaegphmaaGreatDoor
open Go.RowKit
set_option maxRecDepth 100000
set_option maxHeartbeats 2000000
theorem Q'(v:Nat)(w:World)(b:v≤4611686018427387904:=by omega):
 Calls lp 86 #[E v] w fun e w'=>∃p k,∃L:List UInt8,e=.returned (.slice p 4 k)∧w'.ownsRow w.heap.size 5 1 (.slice p 4 k) 4 (bv L)∧Below w.heap.size w w':=by
 refine Cg w J2 D 19<|K ?_;refine Af (GG (q:=256) D D)<|Af (Iv AF BV D)<|Jd D<|Af (Iy (q:=256) D D)<|Af (GG (q:=256) D D)<|Af (Iv AF BV D)<|Jd D<|Af (Iy (q:=65536) D D)<|Af (GG (q:=256) D D)<|Af (Iv AF BV D)<|Jd D<|Af (Iy (q:=16777216) D D)<|Af (GG (q:=256) D D)<|Af (Iv AF BV D)<|U<|RY 5 [(0,(Be .u8 ((UInt8.ofNat (v % 256)).toNat))),(1,(Be .u8 ((UInt8.ofNat ((v/256) % 256)).toNat))),(2,(Be .u8 ((UInt8.ofNat ((v/65536) % 256)).toNat))),(3,(Be .u8 ((UInt8.ofNat ((v/16777216) % 256)).toNat)))] (bv [UInt8.ofNat (v % 256),UInt8.ofNat ((v/256) % 256),UInt8.ofNat ((v/65536) % 256),UInt8.ofNat ((v/16777216) % 256)]) D fun c=>A7 ?_;exact fun W a=>⟨_,_,_,D,a.DQ 0,a.A0⟩
theorem Ox(Bj:Nat)(g:Option Addr)(b h:Nat)(d:rG)(q:Option Addr)(n c:Nat)(l:rG)(w:World)(x:b+n≤1000000)(t:Bj≤w.heap.size)(own:w.ownsRow Bj 5 1 (.slice g b h) b (bv d))(s:Ls w (.slice g b h) q n c 1 (bv l))(hl:l.length=n):
 Calls lp 85 #[I g b h,I q n c] w fun e w'=>∃p k,e=.returned (.slice p (b+n) k)∧w'.ownsRow Bj 5 1 (.slice p (b+n) k) (b+n) (bv (d++l))∧D0 w w' (.slice g b h) (.slice p (b+n) k):=by
 refine Cb (BE.one (A:=Ae 5 1 (I g b h) b (bv d)) (Ew own (F2 _))) P7 D 20 fun F hF=>K ?_;refine Tf 0 (bv d) (bv (d++l.take 0)) (by simp)<|K ?_;refine DL (fun u a W=>∃i o r,u=n - i∧AH 20 a (Jb (Jb (Jb (Jb Jk 1 (I q n c)) 4 (I none 0 0)) 5 (E i)) 0 (I o (b+i) r))∧Sat F w [Ae 5 1 (I o (b+i) r) (b+i) (bv (d++l.take i))] W∧i≤n) (fun a W j f=>⟨0,_,_,D,AY j,f.pick [0],JY⟩) ?_;rintro _ a W ⟨i,o,r,rfl,j,f,V⟩;revert a W;refine K ?_;refine Cr B7 D<|Ej D D<|Jg<|Jf<|Cz D (fun v=>?_) fun v=>?_
 ·
  refine K ?_;refine Af (Dj A3 i i (s.z hF) D D)<|Af (Fj BV i (s.z hF) D)<|U<|Ey A3 (bv [l.getD i 0]) D D D fun y=>U<|DI (m:=1) A3 1 (bv (d++l.take i++([l.getD i 0]))) D D D (BZ 0) (Eo _) (EL (l':=[l.getD i 0]) D) D fun B C=>Js D<|Jg<|Tf 1 (bv (d++l.take i++([l.getD i 0]))) (bv (d++l.take (i+1))) (by rw[C9,dA l i JY])<|K ?_;refine B6 (q:=1) D D<|K ?_;exact fun a W j f=>⟨_,JY,i+1,_,_,D,AY j,f.pick [1],JY⟩
 obtain rfl:n=i:=JY;refine A7 ?_;intro W f;rw[DV (Mk hl)]at f;subst hF;exact⟨_,_,D,f.Xt own t 0,f.Xm 0⟩
theorem ec(x:Bf)(w:World)(CM:x.s.ok w)(Z:x.s.v.length≤128)(h1:x.l≤4611686018427387904)(aa:x.r≤4611686018427387904)(ab:x.lc≤4611686018427387904)(ad:x.rc≤4611686018427387904):
 Calls lp 54 #[rS (Xz x)] w fun e w'=>∃p k n,∃L:List UInt8,e=.returned (.slice p n k)∧n≤160∧w'.ownsRow w.heap.size 5 1 (.slice p n k) n (bv L)∧Below w.heap.size w w':=by
 have u:View w (.slice x.s.p x.s.v.length x.s.c) x.s.v.length 1 (bv x.s.v):=CM;refine Cg w PF D 68<|Je<|Jh<|U<|Cv D fun o=>K ?_;refine Dr 5 1 (bv [])<|K ?_;refine AG Bv 0 D<|AZ AF 1 0 D D D<|E2 D D<|Jg<|Jf<|Cz D (fun y=>?_) fun y=>?_
 ·
  refine K ?_;refine DL (fun t a W=>∃i f g h,t=32 - i∧AH 68 a (Jb (Jb (Jb (Jb Jk 1 (S o)) 2 (I none 0 0)) 4 (E i)) 3 (I f i g))∧Sat C1 w [Ae 5 1 (I f i g) i (bv h),O o (Xz x) 138] W∧i≤32) (fun a W d b=>⟨0,_,_,_,D,AY d,b.pick [0,1],JY⟩) ?_;rintro _ a W ⟨i,f,g,h,rfl,d,b,V⟩;revert a W;refine K ?_;refine Ej D D<|Jg<|Jf<|Cz D (fun z=>?_) fun z=>?_
  ·
   refine K ?_;refine AG Bv 69 D<|Af (D9 CI 1 i (69+i) D D)<|Af (K3 BV 1 7 i D D D)<|U<|Ey A3 (bv [x.k.l.getD i 0]) D D D fun ae=>U<|DI (m:=1) A3 1 (bv (h++([x.k.l.getD i 0]))) D D D (BZ 0) (Eo _) (EL (l':=[x.k.l.getD i 0]) D) D fun af ag=>K ?_;refine B6 (q:=1) D D<|K ?_;exact fun a W d b=>⟨_,JY,i+1,_,_,_,D,AY d,b.pick [1,2],JY⟩
  obtain rfl:i=32:=JY;refine K ?_;refine AG Bv 101 D<|AZ B7 1 8 D D D<|U<|Ba P7 D (fun w b=>Ox _ _ _ _ _ _ _ _ _ _ JY (F2 _) (b.rw 0) (b.gQ 0 u) D) fun _ e W b q=>?_;obtain⟨ah,ai,rfl,j,A⟩:=q;refine⟨_,_,D,b.IF 0 j A,?_⟩;refine A7 ?_;exact fun W b=>⟨_,_,_,_,D,JY,b.DQ 0,b.A0⟩
 refine K ?_;refine AG Bv 1 D<|AZ AF 1 1 D D D<|U<|Ba J2 D (fun w b=>Q' x.l _) fun _ e W b q=>?_;obtain⟨aj,ak,al,rfl,B,C⟩:=q;refine⟨_,_,D,b.own B C,?_⟩;refine U<|Ba P7 D (fun w b=>Ox _ _ _ _ _ _ _ _ _ _ JY (F2 _) (b.rw 1) (b.Q5 1 0) (De (b.rw 0))) fun _ e W b q=>?_;obtain⟨an,ao,rfl,j,F⟩:=q;refine⟨_,_,D,b.IF 1 j F,?_⟩;refine K ?_;refine AG Bv 2 D<|AZ AF 2 2 D D D<|U<|Ba J2 D (fun w b=>Q' x.r _) fun _ e W b q=>?_;obtain⟨aq,ar,au,rfl,G,H⟩:=q;refine⟨_,_,D,b.own G H,?_⟩;refine U<|Ba P7 D (fun w b=>Ox _ _ _ _ _ _ _ _ _ _ JY (F2 _) (b.rw 2) (b.Q5 2 0) (De (b.rw 0))) fun _ e W b q=>?_;obtain⟨av,aw,rfl,j,J⟩:=q;refine⟨_,_,D,b.IF 2 j J,?_⟩;refine K ?_;refine AG Bv 3 D<|AZ AF 3 3 D D D<|U<|Ba J2 D (fun w b=>Q' x.lc _) fun _ e W b q=>?_;obtain⟨ax,ay,az,rfl,M,N⟩:=q;refine⟨_,_,D,b.own M N,?_⟩;refine U<|Ba P7 D (fun w b=>Ox _ _ _ _ _ _ _ _ _ _ JY (F2 _) (b.rw 3) (b.Q5 3 0) (De (b.rw 0))) fun _ e W b q=>?_;obtain⟨aA,aB,rfl,j,P⟩:=q;refine⟨_,_,D,b.IF 3 j P,?_⟩;refine K ?_;refine AG Bv 4 D<|AZ AF 4 4 D D D<|U<|Ba J2 D (fun w b=>Q' x.rc _) fun _ e W b q=>?_;obtain⟨aC,aD,aE,rfl,Q,R⟩:=q;refine⟨_,_,D,b.own Q R,?_⟩;refine U<|Ba P7 D (fun w b=>Ox _ _ _ _ _ _ _ _ _ _ JY (F2 _) (b.rw 4) (b.Q5 4 0) (De (b.rw 0))) fun _ e W b q=>?_;obtain⟨aF,aG,rfl,j,T⟩:=q;refine⟨_,_,D,b.IF 4 j T,?_⟩;refine K ?_;refine DL (fun t a W=>∃i f g h,t=32 - i∧AH 68 a (Jb (Jb (Jb (Jb Jk 1 (S o)) 2 (I none 0 0)) 5 (E i)) 3 (I f (16+i) g))∧Sat C1 w [Ae 5 1 (I f (16+i) g) (16+i) (bv h),O o (Xz x) 138] W∧i≤32) (fun a W d b=>⟨0,_,_,_,D,AY d,b.pick [4,5],JY⟩) ?_;rintro _ a W ⟨i,f,g,h,rfl,d,b,V⟩;revert a W;refine K ?_;refine Ej D D<|Jg<|Jf<|Cz D (fun X=>?_) fun X=>?_
 ·
  refine K ?_;refine AG Bv 5 D<|Af (D9 Nl 1 i (5+i) D D)<|Af (K3 BV 1 5 i D D D)<|U<|Ey A3 (bv [x.ls.l.getD i 0]) D D D fun aH=>U<|DI (m:=1) A3 1 (bv (h++([x.ls.l.getD i 0]))) D D D (BZ 0) (Eo _) (EL (l':=[x.ls.l.getD i 0]) D) D fun aI aJ=>K ?_;refine B6 (q:=1) D D<|K ?_;exact fun a W d b=>⟨_,JY,i+1,_,_,_,D,AY d,b.pick [1,2],JY⟩
 obtain rfl:i=32:=JY;refine K ?_;refine DL (fun t a W=>∃i f g h,t=32 - i∧AH 68 a (Jb (Jb (Jb (Jb Jk 1 (S o)) 2 (I none 0 0)) 6 (E i)) 3 (I f (48+i) g))∧Sat C1 w [Ae 5 1 (I f (48+i) g) (48+i) (bv h),O o (Xz x) 138] W∧i≤32) (fun a W d b=>⟨0,_,_,_,D,AY d,b.pick [0,1],JY⟩) ?_;rintro _ a W ⟨i,f,g,h,rfl,d,b,V⟩;revert a W;refine K ?_;refine Ej D D<|Jg<|Jf<|Cz D (fun Y=>?_) fun Y=>?_
 ·
  refine K ?_;refine AG Bv 37 D<|Af (D9 Nl 1 i (37+i) D D)<|Af (K3 BV 1 6 i D D D)<|U<|Ey A3 (bv [x.rs.l.getD i 0]) D D D fun aK=>U<|DI (m:=1) A3 1 (bv (h++([x.rs.l.getD i 0]))) D D D (BZ 0) (Eo _) (EL (l':=[x.rs.l.getD i 0]) D) D fun aL aM=>K ?_;refine B6 (q:=1) D D<|K ?_;exact fun a W d b=>⟨_,JY,i+1,_,_,_,D,AY d,b.pick [1,2],JY⟩
 obtain rfl:i=32:=JY;refine A7 ?_;exact fun W b=>⟨_,_,_,_,D,JY,b.DQ 0,b.A0⟩
theorem e4{i p:Nat}(V:1≤i)(h:i %(2*p)=0):2*p≤i:=Nat.le_of_dvd V (mu h)
theorem eI(i:Nat)(w:World)(V:1≤i)(h:i≤1152921504606846976):
 Calls lp 88 #[E i] w fun e w'=>∃r:Nat,r<i∧e=.returned (.int .i64 ((r:Nat):Int))∧Below w.heap.size w w':=by
 refine Cg w Up D 19<|K ?_;refine DL (fun d a W=>∃p,d=i - p∧AH 19 a (Jb (Jb (Jb Jk 0 (E i)) 2 (E 0)) 3 (E p))∧Sat C1 w [] W∧(1≤p∧p≤i)) (fun a W c b=>⟨1,D,AY c,b.pick [],JY⟩) ?_;rintro _ a W ⟨p,rfl,c,b,j⟩;revert a W;refine K ?_;refine Af (E3 (p:=2) D D)<|Af (GG D D)<|Gx D D (fun f=>?_) fun f=>?_
 ·
  refine K ?_;refine GV D D (fun g=>?_) fun g=>?_
  ·
   refine K ?_;refine Af (E3 (p:=2) D D)<|K ?_;exact fun a W c b=>⟨_,JY,2*p,D,AY c,b.pick [],by have:=e4 (p:=p) V JY;omega⟩
  refine K ?_;refine Es D D<|A7 ?_;exact fun W b=>⟨_,JY,D,b.A0⟩
 refine K ?_;refine Es D D<|A7 ?_;exact fun W b=>⟨_,JY,D,b.A0⟩
theorem Nw(Bj:Nat)(b:Option Addr)(a c:Nat)(d:rG)(v:Nat)(w:World)(h:a≤1000000)(i:v≤4611686018427387904)(g:Bj≤w.heap.size)(own:w.ownsRow Bj 5 1 (.slice b a c) a (bv d)):
 Calls lp 89 #[I b a c,E v] w fun e w'=>∃p k,∃L:List UInt8,e=.returned (.slice p (a+4) k)∧w'.ownsRow Bj 5 1 (.slice p (a+4) k) (a+4) (bv L)∧D0 w w' (.slice b a c) (.slice p (a+4) k):=by
 refine Cb (BE.one (A:=Ae 5 1 (I b a c) a (bv d)) (Ew own (F2 _))) WS D 23 fun F hF=>K ?_;refine Af (GG (q:=256) D D)<|Af (Iv AF BV D)<|Jd D<|Af (Iy (q:=256) D D)<|Af (GG (q:=256) D D)<|Af (Iv AF BV D)<|Jd D<|Af (Iy (q:=65536) D D)<|Af (GG (q:=256) D D)<|Af (Iv AF BV D)<|Jd D<|Af (Iy (q:=16777216) D D)<|Af (GG (q:=256) D D)<|Af (Iv AF BV D)<|U<|RY 5 [(0,(Be .u8 ((UInt8.ofNat (v % 256)).toNat))),(1,(Be .u8 ((UInt8.ofNat ((v/256) % 256)).toNat))),(2,(Be .u8 ((UInt8.ofNat ((v/65536) % 256)).toNat))),(3,(Be .u8 ((UInt8.ofNat ((v/16777216) % 256)).toNat)))] (bv [UInt8.ofNat (v % 256),UInt8.ofNat ((v/256) % 256),UInt8.ofNat ((v/65536) % 256),UInt8.ofNat ((v/16777216) % 256)]) D fun j=>U<|DI (m:=4) A3 1 (bv (d++([UInt8.ofNat (v % 256),UInt8.ofNat ((v/256) % 256),UInt8.ofNat ((v/65536) % 256),UInt8.ofNat ((v/16777216) % 256)]))) D D D (BZ 0) (Eo _) (EL (l':=[UInt8.ofNat (v % 256),UInt8.ofNat ((v/256) % 256),UInt8.ofNat ((v/65536) % 256),UInt8.ofNat ((v/16777216) % 256)]) D) D fun l n=>A7 ?_;intro W f;subst hF;exact⟨_,_,_,D,f.Xt own g 1,f.Xm 1⟩
theorem er(x:B9)(w:World)(J:x.v≤4611686018427387904∧x.f≤4611686018427387904∧x.uU≤4611686018427387904∧x.uW≤4611686018427387904∧x.r≤4611686018427387904∧x.c≤4611686018427387904):
 Calls lp 57 #[rS (ab x)] w fun e w'=>∃p k,∃L:List UInt8,e=.returned (.slice p 56 k)∧w'.ownsRow w.heap.size 5 1 (.slice p 56 k) 56 (bv L)∧Below w.heap.size w w':=by
 refine Cg w P_ D 41<|Je<|Jh<|U<|Cv D fun o=>K ?_;refine Dr 5 1 (bv [])<|K ?_;refine AG sP 0 D<|AZ AF 1 0 D D D<|U<|Ba WS D (fun w b=>Nw _ _ _ _ _ x.v _ JY JY (F2 _) (b.rw 0)) fun _ e W b q=>?_;obtain⟨M,N,P,rfl,d,y⟩:=q;refine⟨_,_,D,b.IF 0 d y,?_⟩;refine K ?_;refine AG sP 1 D<|AZ AF 1 1 D D D<|U<|Ba WS D (fun w b=>Nw _ _ _ _ _ x.f _ JY JY (F2 _) (b.rw 0)) fun _ e W b q=>?_;obtain⟨Q,R,T,rfl,d,z⟩:=q;refine⟨_,_,D,b.IF 0 d z,?_⟩;refine K ?_;refine AG sP 2 D<|AZ AF 1 2 D D D<|U<|Ba WS D (fun w b=>Nw _ _ _ _ _ x.uU _ JY JY (F2 _) (b.rw 0)) fun _ e W b q=>?_;obtain⟨X,Y,Z,rfl,d,A⟩:=q;refine⟨_,_,D,b.IF 0 d A,?_⟩;refine K ?_;refine AG sP 3 D<|AZ AF 1 3 D D D<|U<|Ba WS D (fun w b=>Nw _ _ _ _ _ x.uW _ JY JY (F2 _) (b.rw 0)) fun _ e W b q=>?_;obtain⟨aa,ad,ae,rfl,d,B⟩:=q;refine⟨_,_,D,b.IF 0 d B,?_⟩;refine K ?_;refine AG sP 4 D<|AZ AF 1 4 D D D<|U<|Ba WS D (fun w b=>Nw _ _ _ _ _ x.r _ JY JY (F2 _) (b.rw 0)) fun _ e W b q=>?_;obtain⟨af,ag,ah,rfl,d,C⟩:=q;refine⟨_,_,D,b.IF 0 d C,?_⟩;refine K ?_;refine AG sP 5 D<|AZ AF 1 5 D D D<|U<|Ba WS D (fun w b=>Nw _ _ _ _ _ x.c _ JY JY (F2 _) (b.rw 0)) fun _ e W b q=>?_;obtain⟨ai,aj,ak,rfl,d,F⟩:=q;refine⟨_,_,D,b.IF 0 d F,?_⟩;refine K ?_;refine DL (fun G a W=>∃i h j n,G=32 - i∧AH 41 a (Jb (Jb (Jb (Jb Jk 1 (S o)) 2 (I none 0 0)) 4 (E i)) 3 (I h (24+i) j))∧Sat C1 w [Ae 5 1 (I h (24+i) j) (24+i) (bv n),O o (ab x) 142] W∧i≤32) (fun a W g b=>⟨0,_,_,_,D,AY g,b.pick [0,1],JY⟩) ?_;rintro _ a W ⟨i,h,j,n,rfl,g,b,V⟩;revert a W;refine K ?_;refine Ej D D<|Jg<|Jf<|Cz D (fun H=>?_) fun H=>?_
 ·
  refine K ?_;refine AG sP 6 D<|Af (D9 Nl 1 i (6+i) D D)<|Af (K3 BV 1 6 i D D D)<|U<|Ey A3 (bv [x.s.l.getD i 0]) D D D fun al=>U<|DI (m:=1) A3 1 (bv (n++([x.s.l.getD i 0]))) D D D (BZ 0) (Eo _) (EL (l':=[x.s.l.getD i 0]) D) D fun an ao=>K ?_;refine B6 (q:=1) D D<|K ?_;exact fun a W g b=>⟨_,JY,i+1,_,_,_,D,AY g,b.pick [1,2],JY⟩
 obtain rfl:i=32:=JY;refine A7 ?_;exact fun W b=>⟨_,_,_,D,b.DQ 0,b.A0⟩
theorem fh(qr:Option Addr)(n m:Nat)(R:List B9)(o:Option Addr)(p:Nat)(OD:List Nat)(x:B9)(B d:Nat)(w:World)(O:n≤1000000000)(P:B≤1152921504606846976)(Q:d≤1152921504606846976)(t:View w (.slice qr n m) n 38 (Aq Mv R))(F:R.length=n)(g:View w (.slice o n p) n 1 (Aq Bm OD))(u:OD.length=n)(G:∀y∈R,y.v≤B∧y.f≤B)(j:∀y∈OD,y≤d)(S:x.v≤B∧x.f≤B):
 Calls lp 56 #[I qr n m,I o n p,rS (ab x)] w fun e w'=>∃y:B9,e=.returned (rS (ab y))∧y.v≤B+1∧y.f≤B∧y.uU≤d∧y.uW≤d∧y.r=x.r∧y.c=x.c∧Below w.heap.size w w':=by
 refine Cg w pF D 60<|Je<|Jh<|U<|Cv D fun X=>U<|Bw Yc fun Y=>K ?_;refine AG sP 4 D<|AZ AF 1 4 D D D<|AG sP 5 D<|AZ AF 1 5 D D D<|AG sP 6 D<|Af (DH Nl 1 6 1 [bv x.s.l] D D)<|Af (fun _ _ H a=>E_ H (BH:=[(4,(E x.r)),(5,(E x.c)),(6,(rS [bv x.s.l]))]) D (r:=flat [[E 0],[E 0],[E 0],[E 0],[E x.r],[E x.c],bv x.s.l]) (E5 sP (ss:=Yc) AB (places:=[(0,1),(1,1),(2,1),(3,1),(4,1),(5,1),(6,32)]) AB (B3 [[E 0],[E 0],[E 0],[E 0]] [[E 0]] [[E 0],Ak 32] [[E x.r]] D (Ja.one (Ja.one (Ja.one (Ja.one Ja.nil)))) (Ja.one Ja.nil) (Ja.one Ja.nil) D (B3 [[E 0],[E 0],[E 0],[E 0],[E x.r]] [[E 0]] [Ak 32] [[E x.c]] D (Ja.one (Ja.one (Ja.one (Ja.one (Ja.one Ja.nil))))) (Ja.one Ja.nil) (Ja.one Ja.nil) D (B3 [[E 0],[E 0],[E 0],[E 0],[E x.r],[E x.c]] [Ak 32] [] [bv x.s.l] D (Ja.one (Ja.one (Ja.one (Ja.one (Ja.one (Ja.one Ja.nil)))))) (Ja.row (Jl 32) Ja.nil) (Ja.row x.s.row Ja.nil) D D)))))<|U<|Bw Yc fun Z=>U<|Bk 0 0 7 D D D<|K ?_;refine Cr W2 D<|E2 D D<|Jg<|Jf<|Cz D (fun J=>?_) fun J=>?_
 ·
  refine Je<|Jh<|AG sP 0 D<|AZ AF 2 0 D D D<|AG sP 0 D<|U<|Cq 0 0 D D D<|K ?_;refine AG sP 1 D<|AZ AF 2 1 D D D<|AG sP 1 D<|U<|Cq 0 1 D D D<|K ?_;refine Af (BN sP 0 D D)<|U<|Bk 1 0 7 D D D<|K ?_;refine Fq sP 1 D D fun W a=>?_;exact⟨(⟨x.v,x.f,0,0,x.r,x.c,x.s⟩:B9),D,by(try dsimp only);omega,by(try dsimp only);omega,by(try dsimp only);omega,by(try dsimp only);omega,D,D,a.A0⟩
 refine K ?_;refine Cr W2 D<|Es (q:=1) D D<|Kz F (n - 1) fun b z=>Af (Dj TT (n - 1) ((n - 1)*38) (Bx t) D D)<|Af (LH sP Wh (n - 1) 0 7 (ab b) z (Bx t) D D)<|U<|Bw Yc fun aa=>U<|Bk 0 0 7 D D D<|K ?_;refine AG sP 0 D<|AZ AF 0 0 D D D<|?_;have AK:=G b (ta z);refine B6 (q:=1) D D<|AG sP 0 D<|U<|Cq 1 0 D D D<|K ?_;refine AG sP 1 D<|AZ AF 0 1 D D D<|AG sP 1 D<|U<|Cq 1 1 D D D<|K ?_;refine Cr Lc D<|Es (q:=1) D D<|Kz u (n - 1) fun h k=>Af (Dj G0 (n - 1) (n - 1) (Bx g) D D)<|Af (J1 AF Gj (n - 1) k (Bx g) D D)<|AG sP 2 D<|U<|Cq 1 2 D D D<|K ?_;refine Cr W2 D<|B6 (q:=1) D D<|U<|Ba Up D (fun w a=>eI (n+1) _ JY JY) fun _ e W a q=>?_;obtain⟨i,ad,rfl,L⟩:=q;refine⟨_,_,D,a.below L,?_⟩;refine K ?_;refine Mp D D<|Jg<|Jf<|Cz D (fun M=>?_) fun M=>?_
 ·
  refine K ?_;refine Es (q:=1) D D<|Kz u (i - 1) fun A C=>Af (Dj G0 (i - 1) (i - 1) (Bx g) D D)<|Af (J1 AF Gj (i - 1) C (Bx g) D D)<|AG sP 3 D<|U<|Cq 1 3 D D D<|K ?_;refine Af (BN sP 1 D D)<|U<|Bk 2 0 7 D D D<|Jg<|Jf<|Jq<|?_;have N:=j h (ta k);have ae:=j A (ta C);refine Fq sP 2 D D fun W a=>?_;exact⟨(⟨b.v+1,b.f,h,A,x.r,x.c,x.s⟩:B9),D,by(try dsimp only);omega,by(try dsimp only);omega,by(try dsimp only);omega,by(try dsimp only);omega,D,D,a.A0⟩
 refine K ?_;refine Af (BN sP 1 D D)<|U<|Bk 2 0 7 D D D<|Jg<|Jf<|Jq<|?_;have N:=j h (ta k);refine Fq sP 2 D D fun W a=>?_;exact⟨(⟨b.v+1,b.f,h,0,x.r,x.c,x.s⟩:B9),D,by(try dsimp only);omega,by(try dsimp only);omega,by(try dsimp only);omega,by(try dsimp only);omega,D,D,a.A0⟩
structure Cu (X:Nat→Prop) (w w':World):Prop where
 os:w'.os=w.os
 tape:w'.tape=w.tape
 output:w'.output=w.output
 size:w.heap.size≤w'.heap.size
 block:∀k,k<w.heap.size→¬X k→w'.heap[k]? =w.heap[k]?
theorem Cu.refl(X:Nat→Prop)(w:World):Cu X w w:=⟨D,D,D,Br _,fun _ _ _=>rfl⟩
variable {X Y:Nat→Prop} {w W B8:World} {v BA u H8 v0 Oi:Value} {b k n m:Nat}
theorem Cu.trans(h:Cu X w W)(a:Cu Y W B8)(d:∀k,Y k→k<w.heap.size→X k):Cu X w B8:=
 ⟨a.os.trans h.os,a.tape.trans h.tape,a.output.trans h.output,Eg h.size a.size,fun k b c=>(a.block k (Wb b h.size) (fun y=>c (d k y b))).trans (h.block k b c)⟩
theorem Cu.Ot(J:Below w.heap.size w W):Cu X w W:=⟨J.os,J.tape,J.output,J.size,fun k a _=>J.block k a⟩
theorem Cu.below(h:Cu X w W)(J:Below W.heap.size W B8):Cu X w B8:=h.trans (Cu.Ot (X:=fun _=>False) J) (fun _ y=>y.elim)
theorem Cu.grown(h:Cu X w W)(g:W.grownBy B8 (some b))(c:b<w.heap.size→X b):Cu X w B8:=
 h.trans (Y:=fun k=>k=b) ⟨g.os,g.tape,g.output,g.size,fun k a d=>g.block k a (fun e=>d (by cases e;rfl))⟩ (fun k e a=>by subst e;exact c a)
theorem Cu.Bn{o:Obj}(h:Cu X w W)(a:w.heap[k]? =some o)(b:¬X k):W.heap[k]? =some o:=(h.block k (DC a) b).trans a
theorem Cu.toBelow{B:Nat}(h:Cu X w W)(b:B≤w.heap.size)(a:∀k,X k→B≤k):Below B w W:=
 ⟨h.os,h.tape,h.output,h.size,fun k c=>h.block k JY (fun x=>by have:=a k x;omega)⟩
theorem m7{B size:Nat}{e:TypeId}{xs:List Value}(h:W.ownsRow B e size v n xs)(f:Cu X W B8)(ne:∀k,v.ownBlock=some k→¬X k):B8.ownsRow B e size v n xs:=by
 refine⟨h.1,?_⟩
 rcases h.2 with q|⟨g,cap,cur,a,h1,b,c⟩
 ·exact .inl q
 ·exact .inr ⟨g,cap,cur,a,h1,f.Bn b (ne g (by rw[a];rfl)),c⟩
section
variable {B c size:Nat} {q:Option Addr} {xs:List Value} {s:DM}
end
abbrev FZ:=List (List UInt8×List UInt8)
abbrev IE:=List (Nat×Nat×List UInt8)
section
variable {f:Nat} {DB:IE} {Ie m:FZ} {jg:List Eh} {x:Eh} {n next:Nat} {MO s1:IE}
end
theorem Cu.Ia{X:Nat→Prop}{w W B8:World}{b:Nat}(h:Cu X w W)(g:W.grownBy B8 (some b))(a:b<w.heap.size→X b:=by first|exact fun _=>Or.inl rfl|exact fun _=>Or.inr rfl|exact fun _=>Or.inr (Or.inl rfl)|exact fun h=>absurd h (by omega)):Cu X w B8:=h.grown g a
section
variable {P:Program} {w w':World} {ops:Array Oper} {rest:List Oper} {Aa:Exit→Act→World→Prop} {N:Nat} {f:BW} {d:Nat} {ty:TypeId} {pos:String} {An:Array Edge} {dst:Option Tmp} {BK:World→Prop} {fuel Cy:Nat} {listed:Array Bool}
end
structure Hd where
 p:Option Addr
 L:List Eh
 c:Nat
def Q4(x:Hd):List Value:=[.slice x.p x.L.length x.c]
theorem R9(x:Hd):(Q4 x).length=1:=rfl
theorem OK:CO Tryz.prog 52 51 1 24 (.slice none 0 0):=CO.mk' tY AB D JZ
end Go.Proofs.YtjdboncaegphmaaGreatDoor
namespace Go.Proofs.YtjdboncaegphmaaGreatDoor
open Go.RowKit
set_option maxRecDepth 100000
set_option maxHeartbeats 2000000
variable {X Y:Nat→Prop} {w W B8:World} {v BA u H8 v0 Oi:Value} {b Q k n m:Nat}
section
variable {B x size c:Nat} {q:Option Addr} {xs:List Value} {s:DM}
end
end Go.Proofs.YtjdboncaegphmaaGreatDoor
namespace Go.Proofs.YtjdboncaegphmaaGreatDoor
open Go.RowKit
set_option maxRecDepth 100000
set_option maxHeartbeats 2000000
end Go.Proofs.YtjdboncaegphmaaGreatDoor
namespace Go.Proofs.YtjdboncaegphmaaGreatDoor
open Go.RowKit
set_option maxRecDepth 100000
set_option maxHeartbeats 2000000
variable {X Y:Nat→Prop} {w W B8:World} {v BA u H8 v0 Oi:Value} {b Q k n m:Nat}
section
variable {size c:Nat} {q:Option Addr} {xs:List Value} {s:DM}
end
end Go.Proofs.YtjdboncaegphmaaGreatDoor
namespace Go.Proofs.YtjdboncaegphmaaGreatDoor
open Go.RowKit
set_option maxRecDepth 100000
set_option maxHeartbeats 2000000
end Go.Proofs.YtjdboncaegphmaaGreatDoor
namespace Go.Proofs.YtjdboncaegphmaaGreatDoor
open Go.RowKit
set_option maxRecDepth 100000
set_option maxHeartbeats 2000000
variable {X Y:Nat→Prop} {w W B8:World} {v BA u H8 v0 Oi:Value} {b Q k n m:Nat}
end Go.Proofs.YtjdboncaegphmaaGreatDoor
namespace Go.Proofs.YtjdboncaegphmaaGreatDoor
open Go.RowKit
set_option maxRecDepth 100000
set_option maxHeartbeats 2000000
end Go.Proofs.YtjdboncaegphmaaGreatDoor
namespace Go.Proofs.YtjdboncaegphmaaGreatDoor
open Go.RowKit
set_option maxRecDepth 100000
set_option maxHeartbeats 2000000
variable {X Y:Nat→Prop} {w W B8:World} {v BA u H8 v0 Oi:Value} {b Q k n m:Nat}
end Go.Proofs.YtjdboncaegphmaaGreatDoor
namespace Go.Proofs.YtjdboncaegphmaaGreatDoor
open Go.RowKit
set_option maxRecDepth 100000
set_option maxHeartbeats 2000000
theorem dc(z:Int)(m:Nat)(h:0<m): -(m:Int)<z.tmod m∧z.tmod m<m:=by
 have h1:=Int.natAbs_tmod z (m:Int);have a:z.natAbs % m<m:=hJ _ h;rw[Int.natAbs_natCast]at h1;omega
theorem q0(z:Int)(BU V:Nat)(h:BU≤V)(J:V<4611686018427387904)(a:z.tmod ((V - BU+1:Nat):Int)<0):
 ∃k:Nat,IntKind.i64.wrap (IntKind.i64.wrap (IntKind.i64.wrap (z.tmod ((V - BU+1:Nat):Int)+(V:Int)) - (BU:Int))+((1:Nat):Int))=(k:Int)∧k≤V - BU:=by
 have h1:=dc z (V - BU+1) JY;generalize z.tmod ((V - BU+1:Nat):Int)=t at*;rw[IntWalk.i64_in (t+(V:Int)) JY,IntWalk.i64_in (t+(V:Int) - (BU:Int)) JY,IntWalk.i64_in _ JY];exact⟨(t+(V:Int) - (BU:Int)+1).toNat,JY,JY⟩
theorem mE(z:Int)(BU V:Nat)(h:BU≤V)(a:¬z.tmod ((V - BU+1:Nat):Int)<0):∃k:Nat,z.tmod ((V - BU+1:Nat):Int)=(k:Int)∧k≤V - BU:=by
 have h1:=dc z (V - BU+1) JY;exact⟨(z.tmod ((V - BU+1:Nat):Int)).toNat,JY,JY⟩
section
variable {P:Program} {a:Act} {N:Nat} {f:BW} {ty:TypeId} {pos:String} {An:Array Edge} {dst:Option Tmp} {g:Option (Nat×Bool)}
end
theorem q2(z:Int)(BU V:Nat)(w:World)(h1:BU≤V)(f:V<4611686018427387904):
 Calls lp 10 #[Value.int .i64 (z:Int),E BU,E V] w fun e w'=>∃x:Nat,e=.returned (.int .i64 ((x:Nat):Int))∧(BU≤x∧x≤V)∧w=w':=by
 refine DZ Vx D 24 ?_;refine Ao<|AD<|AV (v:=(E 0)) D<|Aw<|Ai<|Ao<|AD<|Az D<|Az D<|Az D<|Rv D D<|Dz (q:=1) D D<|Cc (fun _ b=>qq b (k:=.i64) (p:=(z:Int)) (q:=(((V - BU)+1:Nat):Int)) D D JY D)<|AV D<|Aw<|Ai<|Ao<|Ao<|AD<|Az D<|D_ (q:=(0:Nat)) D D<|Aw<|Ai<|DU D (fun c=>?_) fun c=>?_
 ·
  obtain⟨k,d,g⟩:=q0 z BU V h1 f (show _<(0:Int)from c);refine AD<|Az D<|Az D<|Cc (fun _ b=>HY b (k:=.i64) (p:=(Int.tmod (z:Int) (((V - BU)+1:Nat):Int):Int)) (q:=((V:Nat):Int)) D D D)<|Az D<|Cc (fun _ b=>Yx b (k:=.i64) (p:=(IntKind.i64.wrap ((Int.tmod (z:Int) (((V - BU)+1:Nat):Int):Int)+((V:Nat):Int)):Int)) (q:=((BU:Nat):Int)) D D D)<|Cc (fun _ b=>HY b (k:=.i64) (p:=(IntKind.i64.wrap ((IntKind.i64.wrap ((Int.tmod (z:Int) (((V - BU)+1:Nat):Int):Int)+((V:Nat):Int)):Int) - ((BU:Nat):Int)):Int)) (q:=((1:Nat):Int)) D D D)<|?_;intro a b;replace b:=b.RF 20 D (show(Value.int .i64 (IntKind.i64.wrap ((IntKind.i64.wrap ((IntKind.i64.wrap ((Int.tmod (z:Int) (((V - BU)+1:Nat):Int):Int)+((V:Nat):Int)):Int) - ((BU:Nat):Int)):Int)+((1:Nat):Int)):Int))=(E k)from congrArg (Value.int .i64) d);revert a;refine AV D<|Aw<|Ai<|Ao<|AD<|Az D<|Az D<|Dz D D<|AV D<|Aw<|Ai<|C0<|EE D<|?_;exact⟨BU+k,D,JY,D⟩
 ·
  obtain⟨k,d,g⟩:=mE z BU V h1 (show¬_<(0:Int)from c);intro a b;replace b:=b.RF 0 D (show(Value.int .i64 (Int.tmod (z:Int) (((V - BU)+1:Nat):Int):Int))=(E k)from congrArg (Value.int .i64) d);revert a;refine CA<|Ai<|Ao<|AD<|Az D<|Az D<|Dz D D<|AV D<|Aw<|Ai<|C0<|EE D<|?_;exact⟨BU+k,D,JY,D⟩
end Go.Proofs.YtjdboncaegphmaaGreatDoor
namespace Go.Proofs.YtjdboncaegphmaaGreatDoor.F9
open Go.Proofs.YtjdboncaegphmaaGreatDoor
set_option linter.unusedVariables false
def RG(B i:Nat):Bool:=Nat.beq (Nat.mod (Nat.shiftRight B i) 2) 0
noncomputable def ZB(x:Nat)(l:List Nat):Bool:=@List.rec Nat (fun _=>Bool) true (fun e _ a=>cond (Nat.beq x e) false a) l
noncomputable def row(T:Nat→Bool)(y:Nat)(l:List Nat):Bool:=@List.rec Nat (fun _=>Bool) true (fun e _ a=>cond (T (Nat.xor y e)) a false) l
noncomputable def rows(T:Nat→Bool)(z:Nat)(l:List Nat)(n:Nat):Bool:=@Nat.rec (fun _=>List Nat→Bool) (fun _=>true) (fun _ a l=>@List.rec Nat (fun _=>Bool) true (fun e t _=>cond (row T (Nat.xor z e) t) (a t) false) l) n l
noncomputable def bh(n:Nat):Nat→List Nat:=@Nat.rec (fun _=>Nat→List Nat) (fun _=>[]) (fun _ a x=>x::a (cond (Nat.beq (Nat.mod x 2) 1) (Nat.xor (Nat.div x 2) 3988292384) (Nat.div x 2))) n
noncomputable def es:List Nat:=bh 2048 2147483648
noncomputable def OO(f:Nat→Nat)(l:List Nat):Nat:=@List.rec Nat (fun _=>Nat) 1 (fun e _ a=>Nat.lor a (Nat.shiftLeft 1 (f e))) l
noncomputable def Bj:Nat:=OO (fun x=>Nat.mod x 65536) es
noncomputable def Di:Nat:=OO (fun x=>Nat.div x 65536) es
noncomputable def K9:Nat:=OO (fun x=>Nat.mod x 65521) es
noncomputable def T(x:Nat):Bool:=cond (RG Bj (Nat.mod x 65536)) true (cond (RG Di (Nat.div x 65536)) true (cond (RG K9 (Nat.mod x 65521)) true (cond (Nat.beq x 0) false (ZB x es))))
end Go.Proofs.YtjdboncaegphmaaGreatDoor.F9
namespace Go.Proofs.YtjdboncaegphmaaGreatDoor.F9
set_option maxRecDepth 1000000 in
theorem EF:rows T 2147483648 (es.drop 1) 275=true:=by decide+kernel
end Go.Proofs.YtjdboncaegphmaaGreatDoor.F9
