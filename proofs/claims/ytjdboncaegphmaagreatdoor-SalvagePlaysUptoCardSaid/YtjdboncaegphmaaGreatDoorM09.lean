/- Laws and walks on the road to SalvagePlays (part M09). No conditions beyond each law's own. -/
import Derived.Test.YtjdboncaegphmaaGreatDoorM08
set_option linter.unusedVariables false
namespace Go.Proofs.YtjdboncaegphmaaGreatDoor
open Go.RowKit
set_option maxRecDepth 100000
set_option maxHeartbeats 2000000
variable {Bo:Type} {n b o size j k:Nat} {x:Operand}
def N':List Nat:=[1779033703,3144134277,1013904242,2773480762,1359893119,2600822924,528734635,1541459225]
def J7:List Nat:=[1116352408,1899447441,3049323471,3921009573,961987163,1508970993,2453635748,2870763221,3624381080,310598401,607225278,1426881987,1925078388,2162078206,2614888103,3248222580,3835390401,4022224774,264347078,604807628,770255983,1249150122,1555081692,1996064986,2554220882,2821834349,2952996808,3210313671,3336571891,3584528711,113926993,338241895,666307205,773529912,1294757372,1396182291,1695183700,1986661051,2177026350,2456956037,2730485921,2820302411,3259730800,3345764771,3516065817,3600352804,4094571909,275423344,430227734,506948616,659060556,883997877,958139571,1322822218,1537002063,1747873779,1955562222,2024104815,2227730452,2361852424,2428436474,2756734187,3204031479,3329325298]
structure DA (w:World):Prop where
 first:Cells w 0 0 (Hr N').toList
 vz:0<w.heap.size
 consts:Cells w 2 0 (Hr J7).toList
 vy:2<w.heap.size
 div:Cells w 1 0 (bv Ref.GL)
 vx:1<w.heap.size
theorem DA.below{w w':World}{B:Nat}(h:DA w)(J:Below B w w')(a:w.heap.size≤B):DA w':=
 ⟨h.first.below (Wb h.vz a) J,Wb h.vz J.size,h.consts.below (Wb h.vy a) J,Wb h.vy J.size,h.div.below (Wb h.vx a) J,Wb h.vx J.size⟩
theorem DA.cg{w:World}(h:DA w)(j:Nat)(hj:j<33)(ho:0+j*1=o):w.cell? ⟨1,o,none⟩=some (.int .u8 ((Ref.GL.getD j 0).toNat:Nat)):=by
 subst ho;have:=h.div j (.int .u8 ((Ref.GL.getD j 0).toNat:Nat)) (by
  have hl:j<Ref.GL.length:=hj;simp[bv,hl,List.getD_eq_getElem?_getD])
 simpa using this
theorem aG{c c':Prop}[Decidable c][Decidable c']{x y:Bo}(h:c↔c'):(if c then x else y)=if c' then x else y:=by
 by_cases q:c
 ·rw[if_pos q,if_pos (h.1 q)]
 ·rw[if_neg q,if_neg (fun r=>q (h.2 r))]
theorem u8_xor(a b:UInt8):UInt8.ofNat (a.toNat^^^b.toNat)=a^^^b:=by rw[←kA,o9]
theorem Wy(l:rG)(j p:Nat)(u:UInt8)(hj:j<l.length):(l.set j u).getD p 0=if p=j then u else l.getD p 0:=by
 simp only[Dm,jz]
 by_cases h:j=p
 ·subst h;simp[hj]
 ·rw[if_neg h,if_neg (fun q=>h q.symm)]
theorem iE(l:rG)(s i:Nat)(L:rG)(n:Nat)(b:l.length=n)(V:i<32)(h:L.length=8*n+32∧∀p,L.getD p 0=if p<i then(Ref.bits l).getD p 0^^^UInt8.ofNat (s/2^p&&&1)else(Ref.bits l++List.replicate 32 0).getD p 0):
 (L.set i (UInt8.ofNat ((L.getD i 0).toNat^^^(UInt8.ofNat (s/2^i&&&1)).toNat))).length=8*n+32∧∀p,(L.set i (UInt8.ofNat ((L.getD i 0).toNat^^^(UInt8.ofNat (s/2^i&&&1)).toNat))).getD p 0=if p<i+1 then(Ref.bits l).getD p 0^^^UInt8.ofNat (s/2^p&&&1)else(Ref.bits l++List.replicate 32 0).getD p 0:=by
 have a:∀p,(Ref.bits l++List.replicate 32 0).getD p 0=(Ref.bits l).getD p 0:=by
  intro p;simp only[Dm]
  rcases s9 p (Ref.bits l).length with q|q
  ·rw[V5 q]
  ·rw[UP q,S6 q,eg];split<;>rfl
 refine⟨by rw[Kh];exact h.1,fun p=>?_⟩;rw[Wy _ _ _ _ JY,u8_xor]
 by_cases e:p=i
 ·subst e;rw[if_pos D,if_pos JY,h.2,if_neg JY,a]
 ·rw[if_neg e,h.2]
  by_cases q:p<i
  ·rw[if_pos q,if_pos JY]
  ·rw[if_neg q,if_neg JY]
theorem fk(l:rG)(s:Nat)(L:rG)(n:Nat)(a:l.length=n)(h:L.length=8*n+32∧∀p,L.getD p 0=if p<32 then(Ref.bits l).getD p 0^^^UInt8.ofNat (s/2^p&&&1)else(Ref.bits l++List.replicate 32 0).getD p 0)(b:s<4294967296):Ref.JV s (Ref.bits l) L 0:=by
 refine⟨by rw[h.1,Ref.ML,a],fun m=>?_⟩;have c:∀p,(Ref.bits l++List.replicate 32 0).getD p 0=(Ref.bits l).getD p 0:=by
  intro p;simp only[Dm]
  rcases s9 p (Ref.bits l).length with q|q
  ·rw[V5 q]
  ·rw[UP q,S6 q,eg];split<;>rfl
 rw[IC,h.2];show _=s/2^m % 2^^^_
 by_cases q:m<32
 ·rw[if_pos q,kA,cA,pg]
  congr 1
  simp;omega
 ·rw[if_neg q,c,Ref.Rd b JY,mx]
theorem cq(L M:rG)(i j n:Nat)(a:L.length=8*n+32)(V:i<8*n)(hj:j<33)(h:M.length=L.length∧∀p,M.getD p 0=if i≤p∧p<i+j then L.getD p 0^^^Ref.GL.getD (p - i) 0 else L.getD p 0):
 (M.set (i+j) (UInt8.ofNat ((M.getD (i+j) 0).toNat^^^(Ref.GL.getD j 0).toNat))).length=L.length∧∀p,(M.set (i+j) (UInt8.ofNat ((M.getD (i+j) 0).toNat^^^(Ref.GL.getD j 0).toNat))).getD p 0=if i≤p∧p<i+(j+1)then L.getD p 0^^^Ref.GL.getD (p - i) 0 else L.getD p 0:=by
 refine⟨by rw[Kh];exact h.1,fun p=>?_⟩;rw[Wy _ _ _ _ JY,u8_xor]
 by_cases e:p=i+j
 ·subst e;rw[if_pos D,if_pos JY,h.2,if_neg JY,show i+j - i=j by omega]
 ·rw[if_neg e,h.2]
  by_cases q:i≤p∧p<i+j
  ·rw[if_pos q,if_pos JY]
  ·rw[if_neg q,if_neg JY]
theorem hi(a i:Nat):a % 2^i|||(a/2^i % 2)*2^i=a % 2^(i+1):=by
 rw[At.MX _ _ i (hJ _ (jn i)),fW,Nat.mod_mul];rw[RV]
theorem bp(l:rG)(s:Nat)(L:rG)(n i r:Nat)(a:l.length=n)(V:i<32)(h:Ref.JV s (Ref.bits l) L (8*n))(hr:r=Ref.Fc s (Ref.bits l) % 2^i):
 r|||((L.getD (8*n+i) 0).toNat*2^i) % 4294967296=Ref.Fc s (Ref.bits l) % 2^(i+1):=by
 have h1:8*n=(Ref.bits l).length:=by rw[Ref.ML,a]
 rw[h1]at h⊢;rw[h.end_,←hi,←hr]
 congr 1
 refine s_ ?_;have c:Ref.Fc s (Ref.bits l)/2^i % 2<2:=hJ _ JZ;have b:2^i≤2^31:=aI JZ JY;have d:Ref.Fc s (Ref.bits l)/2^i % 2*2^i≤1*2^31:=l2 JY b;omega
theorem fV(s:Nat)(q:Option Addr)(n c:Nat)(l:rG)(w:World)(X:DA w)(y:s<4294967296)(aI:n≤100000000)(Y:View w (.slice q n c) n 1 (bv l))(hl:l.length=n):
 Calls lp 126 #[Value.int .u32 (((s:Nat):Int):Int),I q n c] w fun e w'=>e=.returned (.int .u32 ((At.feed s l:Nat):Int))∧Below w.heap.size w w':=by
 have z:l.length=n:=hl;have d:Below w.heap.size w w:=Cn _ _;refine DZ si D 88 ?_;refine Ao<|AD<|AV (v:=(Value.int .u32 (((0:Nat):Int):Int))) D<|Aw<|Ai<|Ao<|AD<|Az D<|?_;intro A h;refine Cp D (fun A5 m=>Ee h #[I q n c] Pa (cy _ _ _ _ _ JY Y hl) ?_);rintro _ aJ ⟨aK,aL,rfl,own,Z⟩;refine⟨_,D,?_⟩;intro a b;have aa:w.heap.size≤w.heap.size:=d.size;have d:=BG d Z;have own:=Ew own aa;refine m _ _ ?_;revert a;refine AV D<|Aw<|Ai<|Ao<|AD<|Az D<|HT B7 D<|AV D<|Aw<|Ai<|Ao<|Ao<|AD<|AV (v:=(E 0)) D<|Aw<|Ai<|B'<|?_;intro a b;refine Ec (fun t a W=>∃i p f,t=32 - i∧AH 88 a (Jb (Jb (Jb (Jb Jk 0 (Value.int .u32 (((s:Nat):Int):Int))) 5 (I p (8*n+i) f)) 6 (E (8*n))) 7 (E i))∧i≤32∧W.ownsRow w.heap.size 5 1 (.slice p (8*n+i) f) (8*n+i) (bv (Ref.bits l++List.replicate i 0))∧Below w.heap.size w W) _ ⟨0,_,_,D,AY b,F2 _,by simpa using own,d⟩ ?_;rintro _ a aM ⟨i,p,f,rfl,b,V,own,d⟩;revert a;refine Ao<|Ao<|AD<|Az D<|D_ (q:=(32:Nat)) D D<|Aw<|Ai<|DU D (fun ab=>?_) fun ab=>?_
 ·
  refine CA<|Ai<|Ao<|B'<|AD<|Az D<|?_;intro A h;refine Cp D (fun A5 m=>IJ h D A3 (v:=(Value.int .u8 (((0:Nat):Int):Int))) D (cs:=#[Value.int .u8 (((0:Nat):Int):Int)]) D D (ZG D) ?_);intro a aN b ad ae J;have own:=EN own J;have d:=BG d J;refine m _ _ ?_;revert a;intro A h;refine Cp D (fun A5 m=>Gn h A3 own ae (by simp[Value.oneCell']) d.size ((8*n+i)+1) (zs:=bv (Ref.bits l++List.replicate i 0++[0])) (by simp[bv]) ?_);intro a aO aP aQ b af ag;have d:=F' d ag own;refine m _ _ ?_;revert a;refine AV D<|Aw<|DN<|Ai<|AD<|Az D<|Dz (q:=1) D D<|AV D<|Aw<|Ai<|?_;intro a b;exact⟨_,JY,i+1,_,_,D,AY b,JY,by rw[hs,←C9];exact af,d⟩
 ·
  obtain rfl:i=32:=JY;refine Dv<|BY<|BY<|Ds<|Ai<|Ao<|Ao<|AD<|AV (v:=(E 0)) D<|Aw<|Ai<|B'<|?_;intro a b;refine Ec (fun t a W=>∃i,∃L:List UInt8,∃p f,t=32 - i∧AH 88 a (Jb (Jb (Jb (Jb Jk 0 (Value.int .u32 (((s:Nat):Int):Int))) 5 (I p (8*n+32) f)) 6 (E (8*n))) 8 (E i))∧i≤32∧Hid (L.length=8*n+32∧∀p,L.getD p 0=if p<i then(Ref.bits l).getD p 0^^^UInt8.ofNat (s/2^p&&&1)else(Ref.bits l++List.replicate 32 0).getD p 0)∧W.ownsRow w.heap.size 5 1 (.slice p (8*n+32) f) (8*n+32) (bv L)∧Below w.heap.size w W) _ ⟨0,_,_,_,D,AY b,F2 _,AX ⟨by simp[Ref.ML];omega,fun p=>by simp⟩,own,d⟩ ?_;rintro _ a aR ⟨i,L,p,f,rfl,b,V,u,own,d⟩;revert a;refine Ao<|Ao<|AD<|Az D<|D_ (q:=(32:Nat)) D D<|Aw<|Ai<|DU D (fun ah=>?_) fun ah=>?_
  ·
   have ai:i<32:=JY;refine CA<|Ai<|Ao<|B'<|AD<|Az D<|Az D<|Az D<|Az D<|?_;obtain⟨aS,rfl⟩:=OA own;have aj:=GH (View.own own) i (o:=i);refine Cc (fun _ b=>Gu b A3 D (i:=((i:Nat):Int)) D i (o:=i))<|D8 BV aj D<|Az D<|Az D<|Cc (fun _ b=>Ex b (p:=((i:Nat):Int)) (r:=((i:Nat):Int)) D AF K1 (JB i))<|?_;obtain⟨B,O⟩:∃g:Nat,g=s/2^i:=⟨_,D⟩
   have ak:B<4294967296:=by rw[O];exact jP (gE _ _) (by first|assumption|omega)
   refine Cc (fun _ b=>IG b (k:=.u32) (p:=s) (n:=i) (r:=B) D D (by simp only[IntKind.bits];omega) O.symm)<|?_;obtain⟨x,P⟩:∃g:Nat,g=B&&&1:=⟨_,D⟩
   have aT:x<4294967296:=by rw[P];exact jP mK JZ
   refine Cc (fun _ b=>D6 b (k:=.u32) (p:=((B:Nat):Int)) (q:=((1:Nat):Int)) (r:=((x:Nat):Int)) (.inl D) D D (by rw[P];exact u32_and_nat _ _ ak JZ))<|Cc (fun _ b=>Ex b (p:=(((x:Nat):Int):Int)) (r:=(((UInt8.ofNat x).toNat:Nat):Int)) D Tryz.underlying105 Tryz.underlying5 (H5 x))<|?_;obtain⟨C,Q⟩:∃g:Nat,g=((L.getD i 0).toNat)^^^((UInt8.ofNat x).toNat):=⟨_,D⟩
   have al:C<256:=by rw[Q];exact Mx (n:=8) (Cj _) (Cj _)
   refine Cc (fun _ b=>D6 b (k:=.u8) (p:=(((L.getD i 0).toNat:Nat):Int)) (q:=(((UInt8.ofNat x).toNat:Nat):Int)) (r:=((C:Nat):Int)) (.inr (.inr D)) D D (by rw[Q];exact u8_xor_nat _ _ (Cj _) (Cj _)))<|?_;refine Cc (fun _ b=>Gu b A3 D (i:=((i:Nat):Int)) D i (o:=i))<|?_;intro A h;refine Cp D (fun A5 m=>YI h (j:=i) (v:=(Value.int .u8 (((C:Nat):Int):Int))) own D JY D D AB (zs:=bv (L.set i (UInt8.ofNat C))) (by rw[Tg _ al];simp[bv,List.map_set]) ?_);intro a aU b an ao;have d:=F' d ao own;refine m _ _ ?_;revert a;refine Aw<|DN<|Ai<|AD<|Az D<|Dz (q:=1) D D<|AV D<|Aw<|Ai<|?_;intro a b;exact⟨_,JY,i+1,_,_,_,D,AY b,JY,AX (by simp only[*];exact iE l s i L n z ai u.out),an,d⟩
  ·
   obtain rfl:i=32:=JY;refine Dv<|BY<|BY<|Ds<|Ai<|Ao<|Ao<|AD<|AV (v:=(E 0)) D<|Aw<|Ai<|B'<|?_;intro a b;refine Ec (fun t a W=>∃i,∃L:List UInt8,∃p f,t=8*n - i∧AH 88 a (Jb (Jb (Jb (Jb Jk 0 (Value.int .u32 (((s:Nat):Int):Int))) 5 (I p (8*n+32) f)) 6 (E (8*n))) 9 (E i))∧i≤8*n∧Hid (Ref.JV s (Ref.bits l) L i)∧W.ownsRow w.heap.size 5 1 (.slice p (8*n+32) f) (8*n+32) (bv L)∧Below w.heap.size w W) _ ⟨0,L,_,_,D,AY b,F2 _,AX (fk l s L n z u.out y),own,d⟩ ?_;rintro _ a aq ⟨i,L,p,f,rfl,b,V,u,own,d⟩;revert a;refine Ao<|Ao<|AD<|Az D<|Az D<|D_ D D<|Aw<|Ai<|DU D (fun ar=>?_) fun ar=>?_
   ·
    have au:i<8*n:=JY;have G4:L.length=8*n+32:=by rw[u.out.len,Ref.ML,z]
    refine CA<|Ai<|Ao<|B'<|Ao<|AD<|Az D<|Az D<|?_;obtain⟨aV,rfl⟩:=OA own;have av:=GH (View.own own) i (o:=i);refine Cc (fun _ b=>Gu b A3 D (i:=((i:Nat):Int)) D i (o:=i))<|D8 BV av D<|XY D D<|Aw<|Ai<|DU D (fun aw=>?_) fun aw=>?_
    ·
     have h1:(L.getD i 0).toNat=1:=JY;refine Ao<|AD<|AV (v:=(E 0)) D<|Aw<|Ai<|B'<|?_;intro a b;refine Ec (fun t a W=>∃j,∃M:List UInt8,∃p f,t=33 - j∧AH 88 a (Jb (Jb (Jb (Jb (Jb Jk 0 (Value.int .u32 (((s:Nat):Int):Int))) 5 (I p (8*n+32) f)) 6 (E (8*n))) 9 (E i)) 10 (E j))∧j≤33∧Hid (M.length=L.length∧∀p,M.getD p 0=if i≤p∧p<i+j then L.getD p 0^^^Ref.GL.getD (p - i) 0 else L.getD p 0)∧W.ownsRow w.heap.size 5 1 (.slice p (8*n+32) f) (8*n+32) (bv M)∧Below w.heap.size w W) _ ⟨0,_,_,_,D,AY b,F2 _,AX ⟨D,fun p=>by rw[if_neg JY]⟩,own,d⟩ ?_;rintro _ a aW ⟨j,M,p,f,rfl,b,hj,H,own,d⟩;revert a;refine Ao<|Ao<|AD<|Az D<|D_ (q:=(33:Nat)) D D<|Aw<|Ai<|DU D (fun ax=>?_) fun ax=>?_
     ·
      have ay:j<33:=JY;refine CA<|Ai<|Ao<|B'<|?_;intro a b;refine Mf 15 ?_;intro aX ad J;have own:=EN own J;have d:=BG d J;revert a;refine D7 D<|D7 D<|D7 D<|OE D D<|D7 D<|D7 D<|D7 D<|OE D D<|?_;obtain⟨aY,rfl⟩:=OA own;have az:=GH (View.own own) (i+j) (o:=i+j);refine Fs (fun _ b=>Gu b A3 D (i:=((i+j:Nat):Int)) D (i+j) (o:=i+j))<|H3 BV az D<|D7 D<|?_;have aA:=(X.below d (Br _)).cg j JY (o:=j*1) (by first|rfl|omega);refine It qi 1 j (j*1) D D<|H3 BV aA D<|?_;obtain⟨F,K⟩:∃g:Nat,g=((M.getD (i+j) 0).toNat)^^^((Ref.GL.getD j 0).toNat):=⟨_,D⟩
      have aB:F<256:=by rw[K];exact Mx (n:=8) (Cj _) (Cj _)
      refine Fs (fun _ b=>D6 b (k:=.u8) (p:=(((M.getD (i+j) 0).toNat:Nat):Int)) (q:=(((Ref.GL.getD j 0).toNat:Nat):Int)) (r:=((F:Nat):Int)) (.inr (.inr D)) D D (by rw[K];exact u8_xor_nat _ _ (Cj _) (Cj _)))<|?_;refine Fs (fun _ b=>Gu b A3 D (i:=((i+j:Nat):Int)) D (i+j) (o:=i+j))<|?_;intro a b;refine LP ?_;revert a;intro A h;refine Cp D (fun A5 m=>YI h (j:=i+j) (v:=(Value.int .u8 (((F:Nat):Int):Int))) own D JY D D AB (zs:=bv (M.set (i+j) (UInt8.ofNat F))) (by rw[Tg _ aB];simp[bv,List.map_set]) ?_);intro a aZ b aC aD;have d:=F' d aD own;refine m _ _ ?_;revert a;refine Aw<|DN<|Ai<|AD<|Az D<|Dz (q:=1) D D<|AV D<|Aw<|Ai<|?_;intro a b;exact⟨_,JY,j+1,_,_,_,D,AY b,JY,AX (by rw[K];exact cq L M i j n G4 au ay H.out),aC,d⟩
     ·
      obtain rfl:j=33:=JY;have N:Hid (Ref.JV s (Ref.bits l) M (i+1)):=AX (u.out.next y (Ref.Yo l) (by rw[Ref.ML];omega) H.out.1 (fun p=>by rw[H.out.2];exact aG ⟨fun q=>⟨h1,q⟩,fun q=>q.2⟩));refine Dv<|BY<|BY<|Ds<|DN<|Ai<|AD<|Az D<|Dz (q:=1) D D<|AV D<|Aw<|Ai<|?_;intro a b;exact⟨_,JY,i+1,_,_,_,D,AY b,JY,N,own,d⟩
    ·
     have h1:¬(L.getD i 0).toNat=1:=JY;have N:Hid (Ref.JV s (Ref.bits l) L (i+1)):=AX (u.out.next y (Ref.Yo l) (by rw[Ref.ML];omega) D (fun p=>by rw[if_neg (fun q=>h1 q.1)]));refine CA<|DN<|Ai<|AD<|Az D<|Dz (q:=1) D D<|AV D<|Aw<|Ai<|?_;intro a b;exact⟨_,JY,i+1,_,_,_,D,AY b,JY,N,own,d⟩
   ·
    obtain rfl:i=8*n:=JY;refine Dv<|BY<|BY<|Ds<|Ai<|Ao<|AD<|AV (v:=(Value.int .u32 (((0:Nat):Int):Int))) D<|Aw<|Ai<|Ao<|Ao<|AD<|AV (v:=(E 0)) D<|Aw<|Ai<|B'<|?_;intro a b;refine Ec (fun t a W=>∃i r,t=32 - i∧W=aq∧AH 88 a (Jb (Jb (Jb (Jb Jk 6 (E (8*n))) 5 (I p (8*n+32) f)) 11 (Value.int .u32 (((r:Nat):Int):Int))) 12 (E i))∧i≤32∧Hid (r=Ref.Fc s (Ref.bits l) % 2^i)∧r<4294967296) _ ⟨0,0,D,D,AY b,F2 _,AX (by simp[Nat.mod_one]),JZ⟩ ?_;rintro _ a _ ⟨i,r,rfl,rfl,b,V,hr,a0⟩;revert a;refine Ao<|Ao<|AD<|Az D<|D_ (q:=(32:Nat)) D D<|Aw<|Ai<|DU D (fun aE=>?_) fun aE=>?_
    ·
     have aF:i<32:=JY;refine CA<|Ai<|Ao<|B'<|AD<|Az D<|Az D<|Az D<|Az D<|Dz D D<|?_;obtain⟨a1,rfl⟩:=OA own;have aH:=GH (View.own own) ((8*n)+i) (o:=(8*n)+i);refine Cc (fun _ b=>Gu b A3 D (i:=(((8*n)+i:Nat):Int)) D ((8*n)+i) (o:=(8*n)+i))<|D8 BV aH D<|Cc (fun _ b=>Ex b (p:=((((L.getD ((8*n)+i) 0).toNat:Nat):Int):Int)) (r:=(((L.getD ((8*n)+i) 0).toNat:Nat):Int)) D BV Wz (JC ((L.getD ((8*n)+i) 0).toNat) (RE (Cj _) JZ)))<|Az D<|Cc (fun _ b=>Ex b (p:=((i:Nat):Int)) (r:=((i:Nat):Int)) D AF K1 (JB i))<|?_;obtain⟨G,R⟩:∃g:Nat,g=(((L.getD ((8*n)+i) 0).toNat)*2^i) % 4294967296:=⟨_,D⟩
     have S:G<4294967296:=by rw[R];exact hJ _ JZ
     refine Cc (fun _ b=>Kc b (k:=.u32) (p:=(L.getD ((8*n)+i) 0).toNat) (n:=i) (r:=((G:Nat):Int)) D D (by simp only[IntKind.bits];omega) (by rw[R];exact wrap_u32 _))<|?_;obtain⟨T,U⟩:∃g:Nat,g=r|||G:=⟨_,D⟩
     have a2:T<4294967296:=by rw[U];exact om (n:=32) (by first|assumption|omega) S
     refine Cc (fun _ b=>D6 b (k:=.u32) (p:=((r:Nat):Int)) (q:=((G:Nat):Int)) (r:=((T:Nat):Int)) (.inr (.inl D)) D D (by rw[U];exact u32_or_nat _ _ (by first|assumption|omega) S))<|AV D<|Aw<|DN<|Ai<|AD<|Az D<|Dz (q:=1) D D<|AV D<|Aw<|Ai<|?_;intro a b;exact⟨_,JY,i+1,_,D,D,AY b,JY,AX (by simp only[*];exact bp l s L n i r z aF u.out hr.out),by assumption⟩
    ·
     obtain rfl:i=32:=JY;refine Dv<|BY<|BY<|Ds<|Ai<|Ao<|AD<|Az D<|AV D<|Aw<|Ai<|C0<|EE D<|?_;exact⟨by rw[hr.out,s_ (Ref.VO _ y),Ref.iM],d⟩
theorem a2(q:Option Addr)(n c:Nat)(l:rG)(w:World)(f:DA w)(k:n≤100000000)(g:View w (.slice q n c) n 1 (bv l))(hl:l.length=n):
 Calls lp 90 #[I q n c] w fun e w'=>e=.returned (.int .u32 ((At.sum l:Nat):Int))∧Below w.heap.size w w':=by
 have b:Below w.heap.size w w:=Cn _ _;refine DZ Wi D 6 ?_;refine Ao<|AD<|AV (v:=(Value.int .u32 (((0:Nat):Int):Int))) D<|Aw<|Ai<|Ao<|AD<|Az D<|?_;intro m h;refine Cp D (fun A5 i=>Ee h #[Value.int .u32 (((4294967295:Nat):Int):Int),I q n c] si (fV _ _ _ _ _ _ f JZ JY g hl) ?_);rintro _ o ⟨rfl,j⟩;refine⟨_,D,?_⟩;intro a d;have b:=BG b j;refine i _ _ ?_;revert a;refine Cc (fun _ d=>Vi d (p:=At.feed 4294967295 l) D (At.OI l JZ))<|AV D<|Aw<|Ai<|C0<|EE D<|?_;exact⟨D,b⟩
theorem iC(n:Nat):∀v k,k<n→(Ref.Dd v n).getD k 0=UInt8.ofNat (v/2^(8*k)):=by
 induction n with
 |zero=>intro v k h;omega
 |succ n a=>
  intro v k h;cases k with
  |zero=>
   simp only[Ref.Dd,List.getD_cons_zero,m',Ry,kB];apply M'.1;simp
  |succ k=>
   simp only[Ref.Dd,ui];rw[a _ _ JY,tW,show 8*(k+1)=8+8*k by omega,ud]
theorem Zx(v n k:Nat)(h:k<n):(Ref.Dd v n).take (k+1)=(Ref.Dd v n).take k++[UInt8.ofNat (v/2^(8*k))]:=by
 rw[OG _ k (by rw[Ref.Fo];exact h),iC n v k h]
theorem W_(q:Option Addr)(n c:Nat)(l:rG)(w:World)(z:DA w)(R:n≤100000000)(t:View w (.slice q n c) n 1 (bv l))(hl:l.length=n):
 Calls lp 61 #[I q n c] w fun e w'=>∃p k,e=.returned (.slice p (n+4) k)∧w'.ownsRow w.heap.size 5 1 (.slice p (n+4) k) (n+4) (bv (Ref.HM l))∧Below w.heap.size w w':=by
 have d:Below w.heap.size w w:=Cn _ _;refine DZ Tu D 36 ?_;refine Ao<|AD<|AV D<|Aw<|Ai<|Ao<|AD<|Az D<|?_;intro s f;refine Cp D (fun A5 h=>Ee f #[I q n c] Wi (a2 _ _ _ _ _ z JY t hl) ?_);rintro _ S ⟨rfl,A⟩;refine⟨_,D,?_⟩;intro a b;have d:=BG d A;refine h _ _ ?_;revert a;refine AV D<|Aw<|Ai<|Ao<|AD<|AV D<|Aw<|Ai<|Ao<|Ao<|AD<|AV (v:=(E 0)) D<|Aw<|Ai<|B'<|?_;intro a b;refine Ec (fun u a W=>∃k p j,u=n - k∧AH 36 a (Jb (Jb (Jb (Jb Jk 0 (I q n c)) 3 (Value.int .u32 ((((At.sum l):Nat):Int):Int))) 4 (I p k j)) 5 (E k))∧k≤n∧W.ownsRow w.heap.size 5 1 (.slice p k j) k (bv (l.take k))∧Below w.heap.size w W) _ ⟨0,none,0,D,AY b,F2 _,World.ownsRow_nil _ _ _ _,d⟩ ?_;rintro _ a T ⟨k,p,j,rfl,b,B,own,d⟩;revert a;refine Ao<|Ao<|AD<|Az D<|Az D<|HT B7 D<|D_ D D<|Aw<|Ai<|DU D (fun C=>?_) fun C=>?_
 ·
  refine CA<|Ai<|Ao<|B'<|AD<|Az D<|Az D<|Az D<|?_;obtain⟨U,y,rfl⟩:=IW (t.below d);have F:=GH (t.below d) k (o:=y+k*1);refine Cc (fun _ b=>Gu b A3 D (i:=((k:Nat):Int)) D k (o:=y+k*1))<|D8 BV F D<|?_;intro s f;refine Cp D (fun A5 h=>IJ f D A3 (v:=(Value.int .u8 ((((l.getD k 0).toNat:Nat):Int):Int))) D (cs:=#[Value.int .u8 ((((l.getD k 0).toNat:Nat):Int):Int)]) D D (ZG D) ?_);intro a V b G H J;have own:=EN own J;have d:=BG d J;refine h _ _ ?_;revert a;intro s f;refine Cp D (fun A5 h=>Gn f A3 own H (by simp[Value.oneCell']) d.size (k+1) (zs:=bv (l.take k++[l.getD k 0])) (by simp[bv]) ?_);intro a X Y Z b K L;have d:=F' d L own;refine h _ _ ?_;revert a;refine AV D<|Aw<|DN<|Ai<|AD<|Az D<|Dz (q:=1) D D<|AV D<|Aw<|Ai<|?_;intro a b;exact⟨_,JY,k+1,_,_,D,AY b,JY,by rw[OG l k];exact K,d⟩
 ·
  obtain rfl:n=k:=JY;refine Dv<|BY<|BY<|Ds<|Ai<|Ao<|Ao<|AD<|AV (v:=(E 0)) D<|Aw<|Ai<|B'<|?_;intro a b;refine Ec (fun u a W=>∃k p j,u=4 - k∧AH 36 a (Jb (Jb (Jb Jk 3 (Value.int .u32 ((((At.sum l):Nat):Int):Int))) 4 (I p (n+k) j)) 6 (E k))∧k≤4∧W.ownsRow w.heap.size 5 1 (.slice p (n+k) j) (n+k) (bv (l++(Ref.Dd (At.sum l) 4).take k))∧Below w.heap.size w W) _ ⟨0,p,j,D,AY b,F2 _,by rw[DV JY]at own;simpa using own,d⟩ ?_;rintro _ a aa ⟨k,p,j,rfl,b,B,own,d⟩;revert a;refine Ao<|Ao<|AD<|Az D<|D_ (q:=(4:Nat)) D D<|Aw<|Ai<|DU D (fun M=>?_) fun M=>?_
  ·
   have N:k<4:=JY;have ab:=At.G7 l;refine CA<|Ai<|Ao<|B'<|AD<|Az D<|Az D<|Az D<|Nv (p:=8) D D<|Cc (fun _ b=>Ex b (p:=((8*k:Nat):Int)) (r:=((8*k:Nat):Int)) D AF K1 (JB (8*k)))<|?_;obtain⟨m,x⟩:∃g:Nat,g=(At.sum l)/2^(8*k):=⟨_,D⟩
   have ad:m<4294967296:=by rw[x];exact jP (gE _ _) (At.G7 _)
   refine Cc (fun _ b=>IG b (k:=.u32) (p:=(At.sum l)) (n:=8*k) (r:=m) D D (by simp only[IntKind.bits];omega) x.symm)<|Cc (fun _ b=>Ex b (p:=(((m:Nat):Int):Int)) (r:=(((UInt8.ofNat m).toNat:Nat):Int)) D Tryz.underlying105 Tryz.underlying5 (H5 m))<|?_;intro s f;refine Cp D (fun A5 h=>IJ f D A3 (v:=(Value.int .u8 ((((UInt8.ofNat m).toNat:Nat):Int):Int))) D (cs:=#[Value.int .u8 ((((UInt8.ofNat m).toNat:Nat):Int):Int)]) D D (ZG D) ?_);intro a ae b G O J;have own:=EN own J;have d:=BG d J;refine h _ _ ?_;revert a;intro s f;refine Cp D (fun A5 h=>Gn f A3 own O (by simp[Value.oneCell']) d.size ((n+k)+1) (zs:=bv (l++(Ref.Dd (At.sum l) 4).take k++[UInt8.ofNat m])) (by simp[bv]) ?_);intro a af ag ah b P Q;have d:=F' d Q own;refine h _ _ ?_;revert a;refine AV D<|Aw<|DN<|Ai<|AD<|Az D<|Dz (q:=1) D D<|AV D<|Aw<|Ai<|?_;intro a b;exact⟨_,JY,k+1,_,_,D,AY b,JY,by rw[Zx (At.sum l) 4 k N,←C9,←x];exact P,d⟩
  ·
   obtain rfl:k=4:=JY;refine Dv<|BY<|BY<|Ds<|Ai<|Ao<|AD<|Az D<|AV D<|Aw<|Ai<|C0<|EE D<|?_;exact⟨_,_,D,by rw[DV (by rw[Ref.Fo];decide)]at own;exact own,d⟩
def Da(l:List Nat):List Value:=l.map fun v:Nat=>Value.int .u32 (v:Int)
structure Jm (n:Nat) (l:List Nat):Prop where
 len:l.length=n
 lt:∀x∈l,x<4294967296
theorem Jm.row{l:List Nat}(h:Jm n l):Row n (Da l):=⟨by simp[Da,h.len],fun u hu=>by
 simp only[Da,bI]at hu;obtain⟨_,_,rfl⟩:=hu;rfl⟩
theorem Jm.zero(n:Nat):Jm n (List.replicate n 0):=⟨by simp,fun x a=>by rw[lu a];decide⟩
theorem XR(a b:Nat)(h:b≤a)(c:a<18446744073709551616):IntKind.u64.wrap ((a:Int) - b)=((a - b:Nat):Int):=by
 rw[IntKind.wrap_u64];omega
theorem wrap_u64(n:Nat):IntKind.u64.wrap (n:Int)=((n % 18446744073709551616:Nat):Int):=by
 rw[IntKind.wrap_u64];omega
theorem Qh{w:World}{l:rG}{T:TypeId}{fr:Nat×Nat}(J:w.heap[b]? =some (.cells (flat [bv l]) T fr))(hl:l.length=n)(j:Nat)(hj:j<n):w.cell? ⟨b,j,none⟩=some (.int .u8 (((l.getD j 0).toNat:Nat):Int)):=by
 have:=H4 J j (.int .u8 (((l.getD j 0).toNat:Nat):Int)) (by
  have hl:j<l.length:=by rw[hl];exact hj
  simp[bv,hl,List.getD_eq_getElem?_getD])
 simpa using this
theorem Jv:Jm 8 N':=⟨D,JZ⟩
section
variable {P:Program} {w w':World} {a:Act} {Aa:Exit→Act→World→Prop} {N:Nat} {f:BW} {d:Nat} {ty:TypeId} {pos:String} {An:Array Edge} {g:Option (Nat×Bool)} {A5:Act→World→Prop}
end
def Aq{Bo:Type}(enc:Bo→List Value)(L:List Bo):List Value:=(L.map enc).flatten
theorem Py(enc:Bo→List Value)(L M:List Bo):Aq enc (L++M)=Aq enc L++Aq enc M:=by simp[Aq]
theorem bO(enc:Bo→List Value)(x:Bo):Aq enc [x]=enc x:=by simp[Aq]
theorem LK{enc:Bo→List Value}(h:∀x,(enc x).length=size)(L:List Bo):(Aq enc L).length=L.length*size:=by
 induction L with
 |nil=>simp[Aq]
 |cons x L a=>
  have:Aq enc (x::L)=enc x++Aq enc L:=D;rw[this,Gd,h,a,Cw,iO,fC,j7]
theorem g7{enc:Bo→List Value}(L:List Bo)(x:Bo){CP:List Value}(a:CP=enc x)(hl:(enc x).length=size):Aq enc L++CP.take (1*size)=Aq enc (L++[x]):=by
 rw[Py,bO,a,fC,DV (Mk hl)]
theorem da{enc:Bo→List Value}(h:∀x,(enc x).length=size):∀(L:List Bo) (k:Nat),(Aq enc L).drop (k*size)=Aq enc (L.drop k):=by
 intro L
 induction L with
 |nil=>intro k;simp[Aq]
 |cons x L a=>
  intro k;cases k with
  |zero=>simp
  |succ k=>
   have:Aq enc (x::L)=enc x++Aq enc L:=D;rw[this,Nat.succ_mul,j7,←tB,t_ (Mk (h x).symm),tI (Mk (h x)),Hg,a];rfl
theorem bl{enc:Bo→List Value}(h:∀x,(enc x).length=size){L:List Bo}{x:Bo}(a:L[j]? =some x):((Aq enc L).drop (j*size)).take size=enc x:=by
 rw[da h];obtain⟨hj,rfl⟩:=EH.1 a;rw[Xy hj];have:Aq enc (L[j]::L.drop (j+1))=enc L[j]++Aq enc (L.drop (j+1)):=D;rw[this,RJ (Mk (h _).symm),DV (Mk (h _))]
theorem QC{enc:Bo→List Value}(h:∀x,(enc x).length=size){w:World}{off c:Nat}{L:List Bo}(d:View w (.slice (some ⟨b,off,none⟩) n c) n size (Aq enc L)){x:Bo}(e:L[j]? =some x)(ho:off+j*size=o):Cells w b o (enc x):=by
 subst ho
 rcases d.2 with⟨a,_⟩|⟨g,i,cap,a,_,_,_,_,f⟩
 ·cases a
 ·simp only[Value.slice.injEq,Option.some.injEq,Addr.mk.injEq]at a;obtain⟨⟨rfl,rfl,_⟩,_,_⟩:=a;intro r v hr;rw[←bl h e]at hr;rw[LQ]at hr;split at hr
  ·exact f.drop (j*size) r v hr
  ·cases hr
theorem getD_some{L:List Bo}(hl:L.length=n)(hj:j<n):∃x,L[j]? =some x:=⟨L[j]'JY,F3 JY⟩
theorem I3{enc:Bo→List Value}(h:∀x,(enc x).length=size)(a:0<size){w:World}{base:Nat}{e:TypeId}{v:Value}{L:List Bo}(ho:w.ownsRow base e size v n (Aq enc L)):L.length=n:=by
 have:=ho.1;rw[LK h]at this;exact Nat.eq_of_mul_eq_mul_right a this
theorem Q0{w:World}(pre mid post:List (List Value))(h:Cells w b o (List.flatten (pre++mid++post))){o':Nat}(a:pre.flatten.length=k)(ho:o+k=o'):Cells w b o' mid.flatten:=by
 subst a;subst ho;intro j v hj;have c:j<mid.flatten.length:=(EH.1 hj).1;have:=h (pre.flatten.length+j) v (by
  simp only[YK];rw[C9,UP JY,Zm,V5 c];exact hj)
 rw[e8];exact this
theorem ei{w:World}(pre:List (List Value))(v:Value)(post:List (List Value))(h:Cells w b o (List.flatten (pre++[[v]]++post))){o':Nat}(a:pre.flatten.length=k)(ho:o+k=o'):w.cell? ⟨b,o',none⟩=some v:=by
 have:=Q0 pre [[v]] post h a ho 0 v D;simpa using this
theorem dS{w:World}(pre:List (List Value))(l:rG)(post:List (List Value))(h:Cells w b o (List.flatten (pre++[bv l]++post))){o':Nat}(a:pre.flatten.length=k)(hl:l.length=n)(hj:j<n)(ho:o+k+j=o'):w.cell? ⟨b,o',none⟩=some (.int .u8 (((l.getD j 0).toNat:Nat):Int)):=by
 subst ho;have h1:=Q0 pre [bv l] post h a D;have:=h1 j (.int .u8 (((l.getD j 0).toNat:Nat):Int)) (by
  have c:j<l.length:=by rw[hl];exact hj
  simp[bv,c,List.getD_eq_getElem?_getD])
 exact this
section
variable {P:Program} {w w':World} {a:Act} {Aa:Exit→Act→World→Prop} {N:Nat} {f:BW} {d:Nat} {ty:TypeId} {pos:String} {An:Array Edge} {dst:Option Tmp} {g:Option (Nat×Bool)} {A5:Act→World→Prop}
theorem Wg(c:AH N a f){T:TypeId}{off:Nat}(d:Aj f x=some (.pointer (some ⟨b,off,none⟩))){BB:TypeDesc}(hu:P.underlying T=some BB)(Ad:BB.isRow=true){mid:List (List Value)}(e:Cells w b off mid.flatten)(V:(P.info? T).map (·.size)=some mid.flatten.length):CD P a w ⟨dst,.load T x,ty,pos,An,g⟩ (.agg (flat mid)) w:=
 RN c d hu Ad e V
theorem hR(e:AH N a f){T:TypeId}{y:Operand}(i:Aj f x=some (.pointer (some ⟨b,o,none⟩)))(pre:List (List Value)){l:rG}(post:List (List Value)){tb:TypeId}(J:w.heap[b]? =some (.cells (flat (pre++[bv l]++post)) tb (0,0)))(m:pre.flatten.length=k)(hl:l.length=n)(hj:j<n)(ho:k+j=o){u:UInt8}(p:Aj f y=some (.int .u8 ((u.toNat:Nat):Int)))(V:(P.info? T).map (·.size)=some 1)
 (h:∀c W,AH N c f→W.heap.size=w.heap.size→W.heap[b]? =some (.cells (flat (pre++[bv (l.set j u)]++post)) tb (0,0))→w.grownBy W (some b)→A5 c W):Dw P ⟨none,.store T x y,ty,pos,An,g⟩ a w A5 Aa:=by
 subst ho;subst m;have d:j<(bv l).length:=by rw[DG,hl];exact hj
 refine Me e i J p D V (by simp[flat];rw[DG]at d⊢;omega) ?_ h;apply bg.1;rw[tX];simp only[flat,YK,W1,fH,Ha,C9];rw[jC _ _ (kc _ _),Zm,nz _ _ d]
 congr 1
 congr 1
 simp[bv,List.map_set]
end
section
variable {P:Program} {w:World} {ops:Array Oper} {rest:List Oper} {o:Oper} {a:Act} {Aa:Exit→Act→World→Prop}
theorem TF(q:Nat)(h:q≤9223372036854775807):IntKind.i64.wrap (q:Int)=q:=IntWalk.i64_in _ JY
theorem iz(a b:Nat)(e:a<9223372036854775808)(J:b<9223372036854775808):bits .or .i64 (a:Int) (b:Int)=((a|||b:Nat):Int):=by
 have f:a|||b<2^63:=om JY JY
 have c:(BitVec.ofInt 64 (a:Int)).toNat=a:=by rw[BitVec.ofInt_natCast,BitVec.toNat_ofNat];exact s_ JY
 have d:(BitVec.ofInt 64 (b:Int)).toNat=b:=by rw[BitVec.ofInt_natCast,BitVec.toNat_ofNat];exact s_ JY
 show IntKind.i64.wrap ((BitVec.ofInt 64 (a:Int)|||BitVec.ofInt 64 (b:Int)).toNat:Int)=_;rw[BitVec.toNat_or,c,d];exact TF _ JY
theorem dF(hw:Region.wanted o (yielded ops a.tmps)=true){t u:TypeId}{y:Operand}(ho:o.op=.binOp .or t x y u){p q:Nat}(b:a.eval x=.int .i64 p)(c:a.eval y=.int .i64 q)(d:p<9223372036854775808)(f:q<9223372036854775808)
 (r:Nat)(hr:p|||q=r)(h:wpList P ops Aa rest (a.put o.dst (.int .i64 r)) w):wpList P ops Aa (o::rest) a w:=by
 subst hr;refine bin hw .or t u x y ho b c (by simp[eqGuard]) ?_ h;have:=iz p q d f;unfold binOp;simp only[ne_eq,not_true_eq_false,if_false];show(Op.intBits .or .i64 p q).run P w=_;simp only[Op.intBits];have e:bits .or .i64 (p:Int) (q:Int)=_:=this;unfold bits at e;simp only at e;rw[Sem.run_pure,e]
theorem hW(hw:Region.wanted o (yielded ops a.tmps)=true){t u:TypeId}{y:Operand}(ho:o.op=.binOp .shl t x y u){p:Nat}{k:IntKind}{i:Int}(b:a.eval x=.int .i64 p)(c:a.eval y=.int k i)(V:i=(n:Int))(d:n≤64)(e:p*2^n<9223372036854775808)
 (r:Nat)(hr:p*2^n=r)(h:wpList P ops Aa rest (a.put o.dst (.int .i64 r)) w):wpList P ops Aa (o::rest) a w:=by
 subst hr;subst V;refine bin hw .shl t u x y ho b c (by simp[eqGuard]) ?_ h;unfold binOp;simp only;rw[shift_shl_any _ _ _ _ JY,Sem.run_pure];have:min (n:Int).toNat IntKind.i64.bits=n:=by simp[IntKind.bits];omega
 rw[this,show((p:Int)*2^n)=((p*2^n:Nat):Int)by simp,TF _ JY]
end
theorem KA(q:Option Addr)(m c n:Nat)(l:rG)(w:World)(t:View w (.slice q m c) m 1 (bv l))(hl:l.length=m)(K:n≤m)(L:n≤7):
 Calls Tryz.prog 100 #[.slice q m c,.int .i64 n] w fun e w'=>e=.returned (.int .i64 (Fr.le (l.take n):Nat))∧w=w':=by
 have M:m≤l.length:=JY;have N:=AX hl;clear hl
 go_enter Z5,Tryz.ntmps100
 go_wp2
 go_loop [5,6] (fun v i=>∃(k x:Nat) (j:Int),k≤n∧i=.int .i64 j∧Hid (j=(n:Int) - 1 - k)∧v=.int .i64 x∧Hid (x=Fr.le ((l.take n).drop (n - k)))) (fun _ i=>(intOf i+1).toNat)
 case atStart=>exact⟨0,0,_,JY,D,AX (by simp),D,AX (by rw[tI (by rw[FX];omega)];rfl)⟩
 case round=>
  obtain⟨k,x,j,O,rfl,hj,rfl,a⟩:=hrel
  by_cases u:k<n
  ·have f:0≤j:=by have:=hj.out;omega
   have P:j≤7:=by have:=hj.out;omega
   have A:x<256^k:=by
    rw[a.out];have:=Fr.Lt ((l.take n).drop (n - k));rw[J3,FX,aQ JY,show n - (n - k)=k by omega]at this;exact this
   have B:256^k≤256^6:=aI JZ JY;have Q:x<281474976710656:=JY;clear A B
   go_wp2_with (first|go_skip|(with_reducible refine Mt .shl ?_))
   obtain⟨y,h⟩:∃y,y=x*2^8:=⟨_,D⟩
   have R:y<72057594037927936:=JY;have o:=AX h;clear h;refine⟨hW D D (p:=x) (n:=8) (i:=8) D D D JZ JY y o.out.symm ?_⟩
   go_wp2_with (first|go_skip|(with_reducible refine HD 29 ?_))
   obtain⟨i,V⟩:∃i:Nat,i=n - (k+1):=⟨_,D⟩
   have r:j=(i:Int):=by have:=hj.out;omega
   have i1:i<m:=JY;have C:=AX V;have E:=AX r;clear V r;refine⟨idx A3 D (.tmp 15) (.tmp 16) D (y:=q) (n:=m) (c:=c) D t D i E.out i1 ?_⟩;intro F G s _;obtain⟨g,b⟩:∃g,g=(l.getD i 0).toNat:=⟨_,D⟩
   have S:g<256:=by rw[b];exact(l.getD i 0).toNat_lt
   have BO:=AX b;clear b;have T:w.cell? ⟨F,G,none⟩=some (.int .u8 g):=by rw[BO.out];exact Gw s
   clear s
   go_wp2_with (first|go_skip|(with_reducible refine Mt .or ?_))
   obtain⟨z,d⟩:∃z,z=y|||g:=⟨_,D⟩
   have H:Hid (z=Fr.le ((l.take n).drop (n - (k+1)))):=AX (by
    rw[d,Nat.or_comm,o.out,At.MX g x 8 JY,Fr.le_step l n k JY u,←a.out,←C.out,←BO.out];omega)
   have I:=AX d;clear d;refine⟨dF D D (p:=y) (q:=g) D D JY JY z I.out.symm ?_⟩
   go_wp2
   go_round
   case rel=>exact⟨k+1,z,j - 1,JY,D,AX (by have:=hj.out;omega),D,H⟩
   case measure=>simp[intOf];omega
  ·have J:k=n:=JY;have f:j<0:=by have:=hj.out;omega
   have U:decide (0≤j)=false:=by simpa using f
   have e:x=Fr.le (l.take n):=by rw[a.out,J,XT,HE]
   clear a hj;subst e
   go_wp2
   go_ret
   exact⟨D,D⟩
theorem g0(l:rG)(k:Nat)(h:k<l.length):Fr.CN (l.drop k)=(decide ((l.getD k 0).toNat=0)&&Fr.CN (l.drop (k+1))):=by
 rw[Xy h];have:l.getD k 0=l[k]:=by rw[Dm,F3 h];rfl
 rw[this];unfold Fr.CN;rw[List.all_cons]
 congr 1
 rw[tp];simp[←UInt8.toNat_inj]
theorem LU(q:Option Addr)(m c:Nat)(l:rG)(w:World)(o:View w (.slice q m c) m 1 (bv l))(hl:l.length=m):
 Calls Tryz.prog 99 #[.slice q m c] w fun e w'=>e=.returned (.bool (Fr.CN l))∧w=w':=by
 have z:=o.max;have A:m≤l.length:=JY;have r:=AX hl;clear hl
 go_enter o1,Tryz.ntmps99
 go_wp2
 go_loop [4,7] (fun _ i=>∃k:Nat,k≤m∧i=.int .i64 k∧Hid (Fr.CN l=Fr.CN (l.drop k))) (fun _ i=>m - (intOf i).toNat)
 case atStart=>exact⟨0,JY,D,AX D⟩
 case round=>
  obtain⟨k,B,rfl,a⟩:=hrel
  by_cases s:k<m
  ·go_wp2_with (first|go_skip|(with_reducible refine HD 29 ?_))
   refine⟨idx A3 D (.tmp 5) (.tmp 7) D (y:=q) (n:=m) (c:=c) D o D k D s ?_⟩;intro t u p _;have d:=g0 l k JY;obtain⟨g,f⟩:∃g,g=(l.getD k 0).toNat:=⟨_,D⟩
   rw[←f]at d;have BO:=AX f;clear f;have C:w.cell? ⟨t,u,none⟩=some (.int .u8 g):=by rw[BO.out];exact Gw p
   clear p
   by_cases h:g=0
   ·have v:Hid (Fr.CN l=Fr.CN (l.drop (k+1))):=AX (by rw[a.out,d,h];simp);clear d a;subst h
    go_wp2
    go_round
    case rel=>exact⟨k+1,JY,by go_num,v⟩
    case measure=>simp[intOf];omega
   ·have e:Fr.CN l=false:=by rw[a.out,d];simp[h]
    have h1:((g:Int) !=0)=true:=by simp;omega
    have j:=AX e;clear d a e
    go_wp2
    go_ret
    exact⟨congrArg (fun b=>Ending.returned (Value.bool b)) j.out.symm,D⟩
  ·have x:k=m:=JY;have e:Fr.CN l=true:=by rw[a.out,x,tI (by rw[r.out];exact Br _)];rfl
   have j:=AX e;clear a e
   go_wp2
   go_ret
   exact⟨congrArg (fun b=>Ending.returned (Value.bool b)) j.out.symm,D⟩
theorem UO(s:Fr.Bu)(w:World)(h1:s.g≤72057594037927936)(a:s.p≤4294967296)(c:s.m≤4294967296)(d:s.h≤4294967296)(f:s.w≤256):
 Calls Tryz.prog 95 #[.agg #[.int .i64 s.w,.int .i64 s.g,.int .i64 s.m,.int .i64 s.h,.int .i64 s.p]] w fun e w'=>e=.returned (.bool (Fr.DE s))∧Below w.heap.size w w':=by
 obtain⟨i,j,k,l,sp⟩:=s;simp only at h1 a c d f⊢
 go_enter gV,Tryz.ntmps95
 go_wp2
 all_goals
  go_ret
  refine⟨?_,(Cn _ _).alloc (Br _) _⟩;refine congrArg (fun b=>Ending.returned (Value.bool b)) ?_;rw[tp];simp[Fr.DE]
  try omega
