/- Laws and walks on the road to SalvageClean (part M09). No conditions beyond each law's own. -/
import Derived.Test.YtaapafoibofbjaaGreatDoorM01
import Derived.Test.YtaapafoibofbjaaGreatDoorM08
import Derived.Test.YtaapafoibofbjaaGreatDoorM04
import Derived.Test.YtaapafoibofbjaaGreatDoorM07
set_option linter.unusedVariables false
namespace Go.Proofs.YtaapafoibofbjaaGreatDoor.Ref
open Go.Proofs.YtaapafoibofbjaaGreatDoor
set_option linter.unusedVariables false
def GL:List UInt8:=[1,0,0,0,0,0,1,0,0,1,1,0,0,0,0,0,1,0,0,0,1,1,1,0,1,1,0,1,1,0,1,1,1]
def Fc(r:Nat)(l:List UInt8):Nat:=l.foldl (fun r b=>At.step (r^^^b.toNat)) r
theorem h0(r:Nat)(l:List UInt8)(b:UInt8):Fc r (l++[b])=At.step (Fc r l^^^b.toNat):=by simp[Fc]
theorem aw(r:Nat)(l m:List UInt8):Fc r (l++m)=Fc (Fc r l) m:=by simp[Fc]
theorem du(m:List UInt8):∀r s,Fc (r^^^s) m=Fc r m^^^At.steps m.length s:=by
 induction m with
 |nil=>intro r s;rfl
 |cons b m a=>
  intro r s
  show Fc (At.step (r^^^s^^^b.toNat)) m=Fc (At.step (r^^^b.toNat)) m^^^At.steps m.length (At.step s)
  rw[At.WO,At.Yl,a]
theorem gG(b:UInt8):Fc 0 (bitsOf b 8)=At.steps 8 b.toNat:=by
 have:∀n:Nat,n<256→Fc 0 (bitsOf (UInt8.ofNat n) 8)=At.steps 8 n:=by decide+kernel
 have h:=this b.toNat b.toNat_lt
 rwa[show UInt8.ofNat b.toNat=b from UInt8.ofNat_toNat]at h
theorem iM(l:List UInt8):∀r,Fc r (bits l)=At.feed r l:=by
 induction l with
 |nil=>intro r;rfl
 |cons b l a=>
  intro r
  have:bits (b::l)=bitsOf b 8++bits l:=by simp[bits]
  rw[this,aw,a,At.MR]
  congr 1
  have h:=du (bitsOf b 8) 0 r
  rw[Nat.zero_xor,gG,VY]at h
  rw[h,At.N1,Nat.xor_comm]
theorem VO(l:List UInt8):∀ {r:Nat},r<4294967296→Fc r l<4294967296:=by
 induction l with
 |nil=>intro r h;exact h
 |cons b l a=>intro r h;exact a (At.VP (Nat.xor_lt_two_pow (n:=32) h (At.Lq b)))
structure JV (s:Nat) (d:List UInt8) (L:List UInt8) (i:Nat):Prop where
 len:L.length=d.length+32
 val:∀m,(L.getD (i+m) 0).toNat=(Fc s (d.take i)/2^m % 2)^^^(d.getD (i+m) 0).toNat
theorem ie(m:Nat)(h:m<32):(GL.getD (m+1) 0).toNat=At.L5/2^m % 2:=by
 have:∀m:Nat,m<32→(GL.getD (m+1) 0).toNat=At.L5/2^m % 2:=by decide+kernel
 exact this m h
theorem UB(a m:Nat):(a/2)/2^m=a/2^(m+1):=by rw[Nat.div_div_eq_div_mul,Nat.pow_succ,Nat.mul_comm]
theorem cK(a b m:Nat):(a^^^b)/2^m % 2=(a/2^m % 2)^^^(b/2^m % 2):=by
 rw[Nat.xor_div_two_pow]
 have h:=Nat.xor_mod_two_pow (a:=a/2^m) (b:=b/2^m) (n:=1)
 rwa[Nat.pow_one]at h
theorem Rd{a m:Nat}(b:a<4294967296)(hm:32≤m):a/2^m % 2=0:=by
 have:2^32≤2^m:=Nat.pow_le_pow_right (by decide) hm
 rw[Nat.div_eq_of_lt (by omega)]
theorem JV.next{s:Nat}{d L e:List UInt8}{i:Nat}(h:JV s d L i)(t:s<4294967296)(Ad:∀p,(d.getD p 0).toNat<2)(k:i<d.length)(hlen:e.length=L.length)
 (u:∀p,e.getD p 0=if(L.getD i 0).toNat=1∧i≤p∧p<i+33 then L.getD p 0^^^GL.getD (p - i) 0 else L.getD p 0):JV s d e (i+1):=by
 refine⟨by rw[hlen,h.len],fun m=>?_⟩
 have hr:Fc s (d.take i)<4294967296:=VO _ t
 have v:d.take (i+1)=d.take i++[d.getD i 0]:=by
  rw[List.take_succ_eq_append_getElem k,List.getD_eq_getElem?_getD,List.getElem?_eq_getElem k];rfl
 rw[v,h0]
 have c:=h.val 0
 simp only[Nat.add_zero,Nat.pow_zero,Nat.div_one]at c
 have V:=h.val (m+1)
 have f:=Ad i
 generalize Df:Fc s (d.take i)=r at*
 generalize J:(d.getD i 0).toNat=b at*
 have l:(r^^^b) % 2=r % 2^^^b:=by
  have h1:=Nat.xor_mod_two_pow (a:=r) (b:=b) (n:=1)
  rw[Nat.pow_one]at h1
  rw[h1,Nat.mod_eq_of_lt f]
 have o:(r^^^b)/2=r/2:=by rw[At.Xu,Nat.div_eq_of_lt f,Nat.xor_zero]
 rw[u,show i+1+m=i+(m+1)by omega]
 by_cases g:(L.getD i 0).toNat=1
 ·have j:At.step (r^^^b)=r/2^^^At.L5:=by
   unfold At.step
   rw[if_pos (by rw[l,←c,g]),o]
  rw[j,cK,UB]
  by_cases hm:m<32
  ·rw[if_pos ⟨g,by omega,by omega⟩,UInt8.toNat_xor,V,show i+(m+1) - i=m+1 by omega,ie m hm]
   rw[At.WO]
  ·rw[if_neg (by omega),V,Rd (a:=At.L5) (by decide) (by omega),Nat.xor_zero]
 ·have w:(L.getD i 0).toNat=0:=by
   have z:r % 2<2:=Nat.mod_lt _ (by decide)
   have:=Nat.xor_lt_two_pow (n:=1) (x:=r % 2) (y:=b) (by simpa using z) (by simpa using f)
   rw[←c]at this
   simp only[Nat.pow_one]at this
   omega
  have j:At.step (r^^^b)=r/2:=by
   unfold At.step
   rw[if_neg (by rw[l,←c,w];decide),o]
  rw[j,UB,if_neg (fun q=>g q.1),V]
theorem JV.end_{s:Nat}{d L:List UInt8}(h:JV s d L d.length)(m:Nat):(L.getD (d.length+m) 0).toNat=Fc s d/2^m % 2:=by
 rw[h.val,List.take_length,List.getD_eq_getElem?_getD,List.getElem?_eq_none (by omega)]
 exact Nat.xor_zero _
theorem Yo(l:List UInt8)(p:Nat):((bits l).getD p 0).toNat<2:=by
 have:∀x∈bits l,x.toNat<2:=by
  intro x a
  simp only[bits,bitsOf,List.mem_flatMap,List.mem_map]at a
  obtain⟨b,_,j,_,rfl⟩:=a
  have h1:b.toNat/2^j&&&1≤1:=Nat.and_le_right
  simp
  omega
 rw[List.getD_eq_getElem?_getD]
 rcases Nat.lt_or_ge p (bits l).length with h|h
 ·rw[List.getElem?_eq_getElem h]
  exact this _ (List.getElem_mem h)
 ·rw[List.getElem?_eq_none h];decide
end Go.Proofs.YtaapafoibofbjaaGreatDoor.Ref
namespace Go.Proofs.YtaapafoibofbjaaGreatDoor
open Go.RowKit
set_option maxHeartbeats 1000000
def N':List Nat:=[1779033703,3144134277,1013904242,2773480762,1359893119,2600822924,528734635,1541459225]
def J7:List Nat:=[1116352408,1899447441,3049323471,3921009573,961987163,1508970993,2453635748,2870763221,3624381080,310598401,607225278,1426881987,1925078388,2162078206,2614888103,3248222580,3835390401,4022224774,264347078,604807628,770255983,1249150122,1555081692,1996064986,2554220882,2821834349,2952996808,3210313671,3336571891,3584528711,113926993,338241895,666307205,773529912,1294757372,1396182291,1695183700,1986661051,2177026350,2456956037,2730485921,2820302411,3259730800,3345764771,3516065817,3600352804,4094571909,275423344,430227734,506948616,659060556,883997877,958139571,1322822218,1537002063,1747873779,1955562222,2024104815,2227730452,2361852424,2428436474,2756734187,3204031479,3329325298]
structure DA (w:World):Prop where
 first:Cells w 20 0 (Hr N').toList
 j3:20<w.heap.size
 consts:Cells w 22 0 (Hr J7).toList
 j5:22<w.heap.size
 div:Cells w 21 0 (bv Ref.GL)
 j4:21<w.heap.size
theorem DA.below{w w':World}{B:Nat}(h:DA w)(J:Below B w w')(a:w.heap.size≤B):DA w':=
 ⟨h.first.below (Nat.lt_of_lt_of_le h.j3 a) J,Nat.lt_of_lt_of_le h.j3 J.size,h.consts.below (Nat.lt_of_lt_of_le h.j5 a) J,Nat.lt_of_lt_of_le h.j5 J.size,h.div.below (Nat.lt_of_lt_of_le h.j4 a) J,Nat.lt_of_lt_of_le h.j4 J.size⟩
theorem DA.cg{w:World}(h:DA w)(j:Nat)(hj:j<33){o:Nat}(ho:0+j*1=o):w.cell? ⟨21,o,none⟩=some (.int .u8 ((Ref.GL.getD j 0).toNat:Nat)):=by
 subst ho
 have:=h.div j (.int .u8 ((Ref.GL.getD j 0).toNat:Nat)) (by
  have hl:j<Ref.GL.length:=hj
  simp[bv,hl,List.getD_eq_getElem?_getD])
 simpa using this
theorem aG{Bo:Type}{c c':Prop}[Decidable c][Decidable c']{x y:Bo}(h:c↔c'):(if c then x else y)=if c' then x else y:=by
 by_cases q:c
 ·rw[if_pos q,if_pos (h.1 q)]
 ·rw[if_neg q,if_neg (fun r=>q (h.2 r))]
theorem u8_xor(a b:UInt8):UInt8.ofNat (a.toNat^^^b.toNat)=a^^^b:=by rw[←UInt8.toNat_xor,UInt8.ofNat_toNat]
theorem Wy(l:List UInt8)(j p:Nat)(u:UInt8)(hj:j<l.length):(l.set j u).getD p 0=if p=j then u else l.getD p 0:=by
 simp only[List.getD_eq_getElem?_getD,List.getElem?_set]
 by_cases h:j=p
 ·subst h;simp[hj]
 ·rw[if_neg h,if_neg (fun q=>h q.symm)]
theorem iE(l:List UInt8)(s i:Nat)(L:List UInt8)(n:Nat)(b:l.length=n)(c:i<32)(h:L.length=8*n+32∧∀p,L.getD p 0=if p<i then(Ref.bits l).getD p 0^^^UInt8.ofNat (s/2^p&&&1)else(Ref.bits l++List.replicate 32 0).getD p 0):
 (L.set i (UInt8.ofNat ((L.getD i 0).toNat^^^(UInt8.ofNat (s/2^i&&&1)).toNat))).length=8*n+32∧∀p,(L.set i (UInt8.ofNat ((L.getD i 0).toNat^^^(UInt8.ofNat (s/2^i&&&1)).toNat))).getD p 0=if p<i+1 then(Ref.bits l).getD p 0^^^UInt8.ofNat (s/2^p&&&1)else(Ref.bits l++List.replicate 32 0).getD p 0:=by
 have a:∀p,(Ref.bits l++List.replicate 32 0).getD p 0=(Ref.bits l).getD p 0:=by
  intro p
  simp only[List.getD_eq_getElem?_getD]
  rcases Nat.lt_or_ge p (Ref.bits l).length with q|q
  ·rw[List.getElem?_append_left q]
  ·rw[List.getElem?_append_right q,List.getElem?_eq_none q,List.getElem?_replicate]
   split<;>rfl
 refine⟨by rw[List.length_set];exact h.1,fun p=>?_⟩
 rw[Wy _ _ _ _ (by omega),u8_xor]
 by_cases e:p=i
 ·subst e
  rw[if_pos D,if_pos (by omega),h.2,if_neg (by omega),a]
 ·rw[if_neg e,h.2]
  by_cases q:p<i
  ·rw[if_pos q,if_pos (by omega)]
  ·rw[if_neg q,if_neg (by omega)]
theorem fk(l:List UInt8)(s:Nat)(L:List UInt8)(n:Nat)(a:l.length=n)(h:L.length=8*n+32∧∀p,L.getD p 0=if p<32 then(Ref.bits l).getD p 0^^^UInt8.ofNat (s/2^p&&&1)else(Ref.bits l++List.replicate 32 0).getD p 0)(b:s<4294967296):Ref.JV s (Ref.bits l) L 0:=by
 refine⟨by rw[h.1,Ref.ML,a],fun m=>?_⟩
 have c:∀p,(Ref.bits l++List.replicate 32 0).getD p 0=(Ref.bits l).getD p 0:=by
  intro p
  simp only[List.getD_eq_getElem?_getD]
  rcases Nat.lt_or_ge p (Ref.bits l).length with q|q
  ·rw[List.getElem?_append_left q]
  ·rw[List.getElem?_append_right q,List.getElem?_eq_none q,List.getElem?_replicate]
   split<;>rfl
 rw[Nat.zero_add,h.2]
 show _=s/2^m % 2^^^_
 by_cases q:m<32
 ·rw[if_pos q,UInt8.toNat_xor,Nat.xor_comm,Nat.and_one_is_mod]
  congr 1
  simp
  omega
 ·rw[if_neg q,c,Ref.Rd b (by omega),Nat.zero_xor]
theorem cq(L a:List UInt8)(i j n:Nat)(b:L.length=8*n+32)(c:i<8*n)(hj:j<33)(h:a.length=L.length∧∀p,a.getD p 0=if i≤p∧p<i+j then L.getD p 0^^^Ref.GL.getD (p - i) 0 else L.getD p 0):
 (a.set (i+j) (UInt8.ofNat ((a.getD (i+j) 0).toNat^^^(Ref.GL.getD j 0).toNat))).length=L.length∧∀p,(a.set (i+j) (UInt8.ofNat ((a.getD (i+j) 0).toNat^^^(Ref.GL.getD j 0).toNat))).getD p 0=if i≤p∧p<i+(j+1)then L.getD p 0^^^Ref.GL.getD (p - i) 0 else L.getD p 0:=by
 refine⟨by rw[List.length_set];exact h.1,fun p=>?_⟩
 rw[Wy _ _ _ _ (by omega),u8_xor]
 by_cases e:p=i+j
 ·subst e
  rw[if_pos D,if_pos (by omega),h.2,if_neg (by omega),show i+j - i=j by omega]
 ·rw[if_neg e,h.2]
  by_cases q:i≤p∧p<i+j
  ·rw[if_pos q,if_pos (by omega)]
  ·rw[if_neg q,if_neg (by omega)]
theorem hi(a i:Nat):a % 2^i|||(a/2^i % 2)*2^i=a % 2^(i+1):=by
 rw[At.MX _ _ i (Nat.mod_lt _ (Nat.two_pow_pos i)),Nat.pow_succ,Nat.mod_mul]
 rw[Nat.mul_comm]
theorem bp(l:List UInt8)(s:Nat)(L:List UInt8)(n i r:Nat)(a:l.length=n)(c:i<32)(h:Ref.JV s (Ref.bits l) L (8*n))(hr:r=Ref.Fc s (Ref.bits l) % 2^i):
 r|||((L.getD (8*n+i) 0).toNat*2^i) % 4294967296=Ref.Fc s (Ref.bits l) % 2^(i+1):=by
 have h1:8*n=(Ref.bits l).length:=by rw[Ref.ML,a]
 rw[h1]at h⊢
 rw[h.end_,←hi,←hr]
 congr 1
 refine Nat.mod_eq_of_lt ?_
 have d:Ref.Fc s (Ref.bits l)/2^i % 2<2:=Nat.mod_lt _ (by decide)
 have b:2^i≤2^31:=Nat.pow_le_pow_right (by decide) (by omega)
 have e:Ref.Fc s (Ref.bits l)/2^i % 2*2^i≤1*2^31:=Nat.mul_le_mul (by omega) b
 omega
theorem fV(s:Nat)(q:Option Addr)(n c:Nat)(l:List UInt8)(w:World)(Z:DA w)(z:s<4294967296)(aJ:n≤100000000)(V:View w (.slice q n c) n 1 (bv l))(hl:l.length=n):
 Calls Tryz.prog 146 #[Value.int .u32 (((s:Nat):Int):Int),I q n c] w fun e w'=>e=.returned (.int .u32 ((At.feed s l:Nat):Int))∧Below w.heap.size w w':=by
 have A:l.length=n:=hl
 have d:Below w.heap.size w w:=Cn _ _
 refine DZ XJ D 88 ?_
 refine Ao<|AD<|AV (v:=(Value.int .u32 (((0:Nat):Int):Int))) D<|Aw<|Ai<|Ao<|AD<|Az D<|?_
 intro B h
 refine Cp D (fun K m=>Ee h #[I q n c] Yq (cy _ _ _ _ _ (by omega) V hl) ?_)
 rintro _ aK ⟨aL,aM,rfl,own,aa⟩
 refine⟨_,D,?_⟩
 intro a b
 have ab:w.heap.size≤w.heap.size:=d.size
 have d:=BG d aa
 have own:=Ew own ab
 refine m _ _ ?_;revert a
 refine AV D<|Aw<|Ai<|Ao<|AD<|Az D<|HT Co D<|AV D<|Aw<|Ai<|Ao<|Ao<|AD<|AV (v:=(E 0)) D<|Aw<|Ai<|B'<|?_
 intro a b
 refine Ec (fun t a W=>∃i p f,t=32 - i∧AH 88 a (Jb (Jb (Jb (Jb Jk 0 (Value.int .u32 (((s:Nat):Int):Int))) 5 (I p (8*n+i) f)) 6 (E (8*n))) 7 (E i))∧i≤32∧W.ownsRow w.heap.size 5 1 (.slice p (8*n+i) f) (8*n+i) (bv (Ref.bits l++List.replicate i 0))∧Below w.heap.size w W) _ ⟨0,_,_,D,AY b,Nat.zero_le _,by simpa using own,d⟩ ?_
 rintro _ a aN ⟨i,p,f,rfl,b,M,own,d⟩
 revert a
 refine Ao<|Ao<|AD<|Az D<|D_ (q:=(32:Nat)) D D<|Aw<|Ai<|DU D (fun ad=>?_) fun ad=>?_
 ·
  refine CA<|Ai<|Ao<|B'<|AD<|Az D<|?_
  intro B h
  refine Cp D (fun K m=>IJ h D A3 (v:=(Value.int .u8 (((0:Nat):Int):Int))) D (cs:=#[Value.int .u8 (((0:Nat):Int):Int)]) D D (Nat.le_of_ble_eq_true D) ?_)
  intro a aO b ae af J
  have own:=EN own J
  have d:=BG d J
  refine m _ _ ?_;revert a
  intro B h
  refine Cp D (fun K m=>Gn h A3 own af (by simp[Value.oneCell']) d.size ((8*n+i)+1) (zs:=bv (Ref.bits l++List.replicate i 0++[0])) (by simp[bv]) ?_)
  intro a aP aQ aR b ag ah
  have d:=F' d ah own
  refine m _ _ ?_;revert a
  refine AV D<|Aw<|DN<|Ai<|AD<|Az D<|Dz (q:=1) D D<|AV D<|Aw<|Ai<|?_
  intro a b
  exact⟨_,by omega,i+1,_,_,D,AY b,by omega,by rw[List.replicate_succ',←List.append_assoc];exact ag,d⟩
 ·
  obtain rfl:i=32:=by omega
  refine Dv<|BY<|BY<|Ds<|Ai<|Ao<|Ao<|AD<|AV (v:=(E 0)) D<|Aw<|Ai<|B'<|?_
  intro a b
  refine Ec (fun t a W=>∃i,∃L:List UInt8,∃p f,t=32 - i∧AH 88 a (Jb (Jb (Jb (Jb Jk 0 (Value.int .u32 (((s:Nat):Int):Int))) 5 (I p (8*n+32) f)) 6 (E (8*n))) 8 (E i))∧i≤32∧Hid (L.length=8*n+32∧∀p,L.getD p 0=if p<i then(Ref.bits l).getD p 0^^^UInt8.ofNat (s/2^p&&&1)else(Ref.bits l++List.replicate 32 0).getD p 0)∧W.ownsRow w.heap.size 5 1 (.slice p (8*n+32) f) (8*n+32) (bv L)∧Below w.heap.size w W) _ ⟨0,_,_,_,D,AY b,Nat.zero_le _,AX ⟨by simp[Ref.ML];omega,fun p=>by simp⟩,own,d⟩ ?_
  rintro _ a aS ⟨i,L,p,f,rfl,b,M,x,own,d⟩
  revert a
  refine Ao<|Ao<|AD<|Az D<|D_ (q:=(32:Nat)) D D<|Aw<|Ai<|DU D (fun ai=>?_) fun ai=>?_
  ·
   have aj:i<32:=by omega
   refine CA<|Ai<|Ao<|B'<|AD<|Az D<|Az D<|Az D<|Az D<|?_
   obtain⟨aT,rfl⟩:=OA own
   have ak:=GH (View.own own) i (o:=i)
   refine Cc (fun _ b=>Gu b A3 D (i:=((i:Nat):Int)) D i (o:=i))<|D8 BV ak D<|Az D<|Az D<|Cc (fun _ b=>Ex b (p:=((i:Nat):Int)) (r:=((i:Nat):Int)) D AF Kp (JB i))<|?_
   obtain⟨C,Q⟩:∃g:Nat,g=s/2^i:=⟨_,D⟩
   have al:C<4294967296:=by rw[Q];exact Nat.lt_of_le_of_lt (Nat.div_le_self _ _) (by first|assumption|omega)
   refine Cc (fun _ b=>IG b (k:=.u32) (p:=s) (n:=i) (r:=C) D D (by simp only[IntKind.bits];omega) Q.symm)<|?_
   obtain⟨y,R⟩:∃g:Nat,g=C&&&1:=⟨_,D⟩
   have aU:y<4294967296:=by rw[R];exact Nat.lt_of_le_of_lt Nat.and_le_right (by decide)
   refine Cc (fun _ b=>D6 b (k:=.u32) (p:=((C:Nat):Int)) (q:=((1:Nat):Int)) (r:=((y:Nat):Int)) (.inl D) D D (by rw[R];exact u32_and_nat _ _ al (by decide)))<|Cc (fun _ b=>Ex b (p:=(((y:Nat):Int):Int)) (r:=(((UInt8.ofNat y).toNat:Nat):Int)) D Tryz.underlying72 Tryz.underlying5 (H5 y))<|?_
   obtain⟨F,S⟩:∃g:Nat,g=((L.getD i 0).toNat)^^^((UInt8.ofNat y).toNat):=⟨_,D⟩
   have an:F<256:=by rw[S];exact Nat.xor_lt_two_pow (n:=8) (UInt8.toNat_lt _) (UInt8.toNat_lt _)
   refine Cc (fun _ b=>D6 b (k:=.u8) (p:=(((L.getD i 0).toNat:Nat):Int)) (q:=(((UInt8.ofNat y).toNat:Nat):Int)) (r:=((F:Nat):Int)) (.inr (.inr D)) D D (by rw[S];exact u8_xor_nat _ _ (UInt8.toNat_lt _) (UInt8.toNat_lt _)))<|?_
   refine Cc (fun _ b=>Gu b A3 D (i:=((i:Nat):Int)) D i (o:=i))<|?_
   intro B h
   refine Cp D (fun K m=>YI h (j:=i) (v:=(Value.int .u8 (((F:Nat):Int):Int))) own D (by omega) D D (by kernel_rfl) (zs:=bv (L.set i (UInt8.ofNat F))) (by rw[Tg _ an];simp[bv,List.map_set]) ?_)
   intro a aV b ao aq
   have d:=F' d aq own
   refine m _ _ ?_;revert a
   refine Aw<|DN<|Ai<|AD<|Az D<|Dz (q:=1) D D<|AV D<|Aw<|Ai<|?_
   intro a b
   exact⟨_,by omega,i+1,_,_,_,D,AY b,by omega,AX (by simp only[*];exact iE l s i L n A aj x.out),ao,d⟩
  ·
   obtain rfl:i=32:=by omega
   refine Dv<|BY<|BY<|Ds<|Ai<|Ao<|Ao<|AD<|AV (v:=(E 0)) D<|Aw<|Ai<|B'<|?_
   intro a b
   refine Ec (fun t a W=>∃i,∃L:List UInt8,∃p f,t=8*n - i∧AH 88 a (Jb (Jb (Jb (Jb Jk 0 (Value.int .u32 (((s:Nat):Int):Int))) 5 (I p (8*n+32) f)) 6 (E (8*n))) 9 (E i))∧i≤8*n∧Hid (Ref.JV s (Ref.bits l) L i)∧W.ownsRow w.heap.size 5 1 (.slice p (8*n+32) f) (8*n+32) (bv L)∧Below w.heap.size w W) _ ⟨0,L,_,_,D,AY b,Nat.zero_le _,AX (fk l s L n A x.out z),own,d⟩ ?_
   rintro _ a ar ⟨i,L,p,f,rfl,b,M,x,own,d⟩
   revert a
   refine Ao<|Ao<|AD<|Az D<|Az D<|D_ D D<|Aw<|Ai<|DU D (fun au=>?_) fun au=>?_
   ·
    have av:i<8*n:=by omega
    have G4:L.length=8*n+32:=by rw[x.out.len,Ref.ML,A]
    refine CA<|Ai<|Ao<|B'<|Ao<|AD<|Az D<|Az D<|?_
    obtain⟨aW,rfl⟩:=OA own
    have aw:=GH (View.own own) i (o:=i)
    refine Cc (fun _ b=>Gu b A3 D (i:=((i:Nat):Int)) D i (o:=i))<|D8 BV aw D<|XY D D<|Aw<|Ai<|DU D (fun ax=>?_) fun ax=>?_
    ·
     have h1:(L.getD i 0).toNat=1:=by omega
     refine Ao<|AD<|AV (v:=(E 0)) D<|Aw<|Ai<|B'<|?_
     intro a b
     refine Ec (fun t a W=>∃j,∃u:List UInt8,∃p f,t=33 - j∧AH 88 a (Jb (Jb (Jb (Jb (Jb Jk 0 (Value.int .u32 (((s:Nat):Int):Int))) 5 (I p (8*n+32) f)) 6 (E (8*n))) 9 (E i)) 10 (E j))∧j≤33∧Hid (u.length=L.length∧∀p,u.getD p 0=if i≤p∧p<i+j then L.getD p 0^^^Ref.GL.getD (p - i) 0 else L.getD p 0)∧W.ownsRow w.heap.size 5 1 (.slice p (8*n+32) f) (8*n+32) (bv u)∧Below w.heap.size w W) _ ⟨0,_,_,_,D,AY b,Nat.zero_le _,AX ⟨D,fun p=>by rw[if_neg (by omega)]⟩,own,d⟩ ?_
     rintro _ a aX ⟨j,u,p,f,rfl,b,hj,N,own,d⟩
     revert a
     refine Ao<|Ao<|AD<|Az D<|D_ (q:=(33:Nat)) D D<|Aw<|Ai<|DU D (fun ay=>?_) fun ay=>?_
     ·
      have az:j<33:=by omega
      refine CA<|Ai<|Ao<|B'<|?_
      intro a b
      refine Mf 15 ?_
      intro aY ae J
      have own:=EN own J
      have d:=BG d J
      revert a
      refine D7 D<|D7 D<|D7 D<|OE D D<|D7 D<|D7 D<|D7 D<|OE D D<|?_
      obtain⟨aZ,rfl⟩:=OA own
      have aA:=GH (View.own own) (i+j) (o:=i+j)
      refine Fs (fun _ b=>Gu b A3 D (i:=((i+j:Nat):Int)) D (i+j) (o:=i+j))<|H3 BV aA D<|D7 D<|?_
      have aB:=(Z.below d (Br _)).cg j (by omega) (o:=j*1) (by first|rfl|omega)
      refine It WC 1 j (j*1) D D<|H3 BV aB D<|?_
      obtain⟨G,O⟩:∃g:Nat,g=((u.getD (i+j) 0).toNat)^^^((Ref.GL.getD j 0).toNat):=⟨_,D⟩
      have aC:G<256:=by rw[O];exact Nat.xor_lt_two_pow (n:=8) (UInt8.toNat_lt _) (UInt8.toNat_lt _)
      refine Fs (fun _ b=>D6 b (k:=.u8) (p:=(((u.getD (i+j) 0).toNat:Nat):Int)) (q:=(((Ref.GL.getD j 0).toNat:Nat):Int)) (r:=((G:Nat):Int)) (.inr (.inr D)) D D (by rw[O];exact u8_xor_nat _ _ (UInt8.toNat_lt _) (UInt8.toNat_lt _)))<|?_
      refine Fs (fun _ b=>Gu b A3 D (i:=((i+j:Nat):Int)) D (i+j) (o:=i+j))<|?_
      intro a b;refine LP ?_;revert a
      intro B h
      refine Cp D (fun K m=>YI h (j:=i+j) (v:=(Value.int .u8 (((G:Nat):Int):Int))) own D (by omega) D D (by kernel_rfl) (zs:=bv (u.set (i+j) (UInt8.ofNat G))) (by rw[Tg _ aC];simp[bv,List.map_set]) ?_)
      intro a a0 b aD aE
      have d:=F' d aE own
      refine m _ _ ?_;revert a
      refine Aw<|DN<|Ai<|AD<|Az D<|Dz (q:=1) D D<|AV D<|Aw<|Ai<|?_
      intro a b
      exact⟨_,by omega,j+1,_,_,_,D,AY b,by omega,AX (by rw[O];exact cq L u i j n G4 av az N.out),aD,d⟩
     ·
      obtain rfl:j=33:=by omega
      have P:Hid (Ref.JV s (Ref.bits l) u (i+1)):=AX (x.out.next z (Ref.Yo l) (by rw[Ref.ML];omega) N.out.1 (fun p=>by rw[N.out.2];exact aG ⟨fun q=>⟨h1,q⟩,fun q=>q.2⟩))
      refine Dv<|BY<|BY<|Ds<|DN<|Ai<|AD<|Az D<|Dz (q:=1) D D<|AV D<|Aw<|Ai<|?_
      intro a b
      exact⟨_,by omega,i+1,_,_,_,D,AY b,by omega,P,own,d⟩
    ·
     have h1:¬(L.getD i 0).toNat=1:=by omega
     have P:Hid (Ref.JV s (Ref.bits l) L (i+1)):=AX (x.out.next z (Ref.Yo l) (by rw[Ref.ML];omega) D (fun p=>by rw[if_neg (fun q=>h1 q.1)]))
     refine CA<|DN<|Ai<|AD<|Az D<|Dz (q:=1) D D<|AV D<|Aw<|Ai<|?_
     intro a b
     exact⟨_,by omega,i+1,_,_,_,D,AY b,by omega,P,own,d⟩
   ·
    obtain rfl:i=8*n:=by omega
    refine Dv<|BY<|BY<|Ds<|Ai<|Ao<|AD<|AV (v:=(Value.int .u32 (((0:Nat):Int):Int))) D<|Aw<|Ai<|Ao<|Ao<|AD<|AV (v:=(E 0)) D<|Aw<|Ai<|B'<|?_
    intro a b
    refine Ec (fun t a W=>∃i r,t=32 - i∧W=ar∧AH 88 a (Jb (Jb (Jb (Jb Jk 6 (E (8*n))) 5 (I p (8*n+32) f)) 11 (Value.int .u32 (((r:Nat):Int):Int))) 12 (E i))∧i≤32∧Hid (r=Ref.Fc s (Ref.bits l) % 2^i)∧r<4294967296) _ ⟨0,0,D,D,AY b,Nat.zero_le _,AX (by simp[Nat.mod_one]),by decide⟩ ?_
    rintro _ a _ ⟨i,r,rfl,rfl,b,M,hr,a1⟩
    revert a
    refine Ao<|Ao<|AD<|Az D<|D_ (q:=(32:Nat)) D D<|Aw<|Ai<|DU D (fun aF=>?_) fun aF=>?_
    ·
     have aH:i<32:=by omega
     refine CA<|Ai<|Ao<|B'<|AD<|Az D<|Az D<|Az D<|Az D<|Dz D D<|?_
     obtain⟨a2,rfl⟩:=OA own
     have aI:=GH (View.own own) ((8*n)+i) (o:=(8*n)+i)
     refine Cc (fun _ b=>Gu b A3 D (i:=(((8*n)+i:Nat):Int)) D ((8*n)+i) (o:=(8*n)+i))<|D8 BV aI D<|Cc (fun _ b=>Ex b (p:=((((L.getD ((8*n)+i) 0).toNat:Nat):Int):Int)) (r:=(((L.getD ((8*n)+i) 0).toNat:Nat):Int)) D BV CI (JC ((L.getD ((8*n)+i) 0).toNat) (Nat.lt_trans (UInt8.toNat_lt _) (by decide))))<|Az D<|Cc (fun _ b=>Ex b (p:=((i:Nat):Int)) (r:=((i:Nat):Int)) D AF Kp (JB i))<|?_
     obtain⟨H,T⟩:∃g:Nat,g=(((L.getD ((8*n)+i) 0).toNat)*2^i) % 4294967296:=⟨_,D⟩
     have U:H<4294967296:=by rw[T];exact Nat.mod_lt _ (by decide)
     refine Cc (fun _ b=>Kc b (k:=.u32) (p:=(L.getD ((8*n)+i) 0).toNat) (n:=i) (r:=((H:Nat):Int)) D D (by simp only[IntKind.bits];omega) (by rw[T];exact wrap_u32 _))<|?_
     obtain⟨X,Y⟩:∃g:Nat,g=r|||H:=⟨_,D⟩
     have a3:X<4294967296:=by rw[Y];exact Nat.or_lt_two_pow (n:=32) (by first|assumption|omega) U
     refine Cc (fun _ b=>D6 b (k:=.u32) (p:=((r:Nat):Int)) (q:=((H:Nat):Int)) (r:=((X:Nat):Int)) (.inr (.inl D)) D D (by rw[Y];exact u32_or_nat _ _ (by first|assumption|omega) U))<|AV D<|Aw<|DN<|Ai<|AD<|Az D<|Dz (q:=1) D D<|AV D<|Aw<|Ai<|?_
     intro a b
     exact⟨_,by omega,i+1,_,D,D,AY b,by omega,AX (by simp only[*];exact bp l s L n i r A aH x.out hr.out),by assumption⟩
    ·
     obtain rfl:i=32:=by omega
     refine Dv<|BY<|BY<|Ds<|Ai<|Ao<|AD<|Az D<|AV D<|Aw<|Ai<|C0<|EE D<|?_
     exact⟨by rw[hr.out,Nat.mod_eq_of_lt (Ref.VO _ z),Ref.iM],d⟩
theorem a2(q:Option Addr)(n c:Nat)(l:List UInt8)(w:World)(f:DA w)(j:n≤100000000)(V:View w (.slice q n c) n 1 (bv l))(hl:l.length=n):
 Calls Tryz.prog 112 #[I q n c] w fun e w'=>e=.returned (.int .u32 ((At.sum l:Nat):Int))∧Below w.heap.size w w':=by
 have b:Below w.heap.size w w:=Cn _ _
 refine DZ Vo D 6 ?_
 refine Ao<|AD<|AV (v:=(Value.int .u32 (((0:Nat):Int):Int))) D<|Aw<|Ai<|Ao<|AD<|Az D<|?_
 intro k g
 refine Cp D (fun K h=>Ee g #[Value.int .u32 (((4294967295:Nat):Int):Int),I q n c] XJ (fV _ _ _ _ _ _ f (by decide) (by omega) V hl) ?_)
 rintro _ m ⟨rfl,i⟩
 refine⟨_,D,?_⟩
 intro a d
 have b:=BG b i
 refine h _ _ ?_;revert a
 refine Cc (fun _ d=>Vi d (p:=At.feed 4294967295 l) D (At.OI l (by decide)))<|AV D<|Aw<|Ai<|C0<|EE D<|?_
 exact⟨D,b⟩
theorem iC(n:Nat):∀v k,k<n→(Ref.Dd v n).getD k 0=UInt8.ofNat (v/2^(8*k)):=by
 induction n with
 |zero=>intro v k h;omega
 |succ n a=>
  intro v k h
  cases k with
  |zero=>
   simp only[Ref.Dd,List.getD_cons_zero,Nat.mul_zero,Nat.pow_zero,Nat.div_one]
   apply UInt8.toNat_inj.1
   simp
  |succ k=>
   simp only[Ref.Dd,List.getD_cons_succ]
   rw[a _ _ (by omega),Nat.div_div_eq_div_mul,show 8*(k+1)=8+8*k by omega,Nat.pow_add]
theorem Zx(v n k:Nat)(h:k<n):(Ref.Dd v n).take (k+1)=(Ref.Dd v n).take k++[UInt8.ofNat (v/2^(8*k))]:=by
 rw[OG _ k (by rw[Ref.Fo];exact h),iC n v k h]
theorem W_(q:Option Addr)(n c:Nat)(l:List UInt8)(w:World)(y:DA w)(R:n≤100000000)(V:View w (.slice q n c) n 1 (bv l))(hl:l.length=n):
 Calls Tryz.prog 70 #[I q n c] w fun e w'=>∃p k,e=.returned (.slice p (n+4) k)∧w'.ownsRow w.heap.size 5 1 (.slice p (n+4) k) (n+4) (bv (Ref.HM l))∧Below w.heap.size w w':=by
 have d:Below w.heap.size w w:=Cn _ _
 refine DZ R4 D 36 ?_
 refine Ao<|AD<|AV D<|Aw<|Ai<|Ao<|AD<|Az D<|?_
 intro s f
 refine Cp D (fun K h=>Ee f #[I q n c] Vo (a2 _ _ _ _ _ y (by omega) V hl) ?_)
 rintro _ S ⟨rfl,z⟩
 refine⟨_,D,?_⟩
 intro a b
 have d:=BG d z
 refine h _ _ ?_;revert a
 refine AV D<|Aw<|Ai<|Ao<|AD<|AV D<|Aw<|Ai<|Ao<|Ao<|AD<|AV (v:=(E 0)) D<|Aw<|Ai<|B'<|?_
 intro a b
 refine Ec (fun t a W=>∃k p j,t=n - k∧AH 36 a (Jb (Jb (Jb (Jb Jk 0 (I q n c)) 3 (Value.int .u32 ((((At.sum l):Nat):Int):Int))) 4 (I p k j)) 5 (E k))∧k≤n∧W.ownsRow w.heap.size 5 1 (.slice p k j) k (bv (l.take k))∧Below w.heap.size w W) _ ⟨0,none,0,D,AY b,Nat.zero_le _,World.ownsRow_nil _ _ _ _,d⟩ ?_
 rintro _ a T ⟨k,p,j,rfl,b,A,own,d⟩
 revert a
 refine Ao<|Ao<|AD<|Az D<|Az D<|HT Co D<|D_ D D<|Aw<|Ai<|DU D (fun B=>?_) fun B=>?_
 ·
  refine CA<|Ai<|Ao<|B'<|AD<|Az D<|Az D<|Az D<|?_
  obtain⟨U,x,rfl⟩:=IW (V.below d)
  have C:=GH (V.below d) k (o:=x+k*1)
  refine Cc (fun _ b=>Gu b A3 D (i:=((k:Nat):Int)) D k (o:=x+k*1))<|D8 BV C D<|?_
  intro s f
  refine Cp D (fun K h=>IJ f D A3 (v:=(Value.int .u8 ((((l.getD k 0).toNat:Nat):Int):Int))) D (cs:=#[Value.int .u8 ((((l.getD k 0).toNat:Nat):Int):Int)]) D D (Nat.le_of_ble_eq_true D) ?_)
  intro a X b F G J
  have own:=EN own J
  have d:=BG d J
  refine h _ _ ?_;revert a
  intro s f
  refine Cp D (fun K h=>Gn f A3 own G (by simp[Value.oneCell']) d.size (k+1) (zs:=bv (l.take k++[l.getD k 0])) (by simp[bv]) ?_)
  intro a Y Z aa b H L
  have d:=F' d L own
  refine h _ _ ?_;revert a
  refine AV D<|Aw<|DN<|Ai<|AD<|Az D<|Dz (q:=1) D D<|AV D<|Aw<|Ai<|?_
  intro a b
  exact⟨_,by omega,k+1,_,_,D,AY b,by omega,by rw[OG l k];exact H,d⟩
 ·
  obtain rfl:n=k:=by omega
  refine Dv<|BY<|BY<|Ds<|Ai<|Ao<|Ao<|AD<|AV (v:=(E 0)) D<|Aw<|Ai<|B'<|?_
  intro a b
  refine Ec (fun t a W=>∃k p j,t=4 - k∧AH 36 a (Jb (Jb (Jb Jk 3 (Value.int .u32 ((((At.sum l):Nat):Int):Int))) 4 (I p (n+k) j)) 6 (E k))∧k≤4∧W.ownsRow w.heap.size 5 1 (.slice p (n+k) j) (n+k) (bv (l++(Ref.Dd (At.sum l) 4).take k))∧Below w.heap.size w W) _ ⟨0,p,j,D,AY b,Nat.zero_le _,by rw[List.take_of_length_le (by omega)]at own;simpa using own,d⟩ ?_
  rintro _ a ab ⟨k,p,j,rfl,b,A,own,d⟩
  revert a
  refine Ao<|Ao<|AD<|Az D<|D_ (q:=(4:Nat)) D D<|Aw<|Ai<|DU D (fun M=>?_) fun M=>?_
  ·
   have N:k<4:=by omega
   have ad:=At.G7 l
   refine CA<|Ai<|Ao<|B'<|AD<|Az D<|Az D<|Az D<|Nv (p:=8) D D<|Cc (fun _ b=>Ex b (p:=((8*k:Nat):Int)) (r:=((8*k:Nat):Int)) D AF Kp (JB (8*k)))<|?_
   obtain⟨m,u⟩:∃g:Nat,g=(At.sum l)/2^(8*k):=⟨_,D⟩
   have ae:m<4294967296:=by rw[u];exact Nat.lt_of_le_of_lt (Nat.div_le_self _ _) (At.G7 _)
   refine Cc (fun _ b=>IG b (k:=.u32) (p:=(At.sum l)) (n:=8*k) (r:=m) D D (by simp only[IntKind.bits];omega) u.symm)<|Cc (fun _ b=>Ex b (p:=(((m:Nat):Int):Int)) (r:=(((UInt8.ofNat m).toNat:Nat):Int)) D Tryz.underlying72 Tryz.underlying5 (H5 m))<|?_
   intro s f
   refine Cp D (fun K h=>IJ f D A3 (v:=(Value.int .u8 ((((UInt8.ofNat m).toNat:Nat):Int):Int))) D (cs:=#[Value.int .u8 ((((UInt8.ofNat m).toNat:Nat):Int):Int)]) D D (Nat.le_of_ble_eq_true D) ?_)
   intro a af b F O J
   have own:=EN own J
   have d:=BG d J
   refine h _ _ ?_;revert a
   intro s f
   refine Cp D (fun K h=>Gn f A3 own O (by simp[Value.oneCell']) d.size ((n+k)+1) (zs:=bv (l++(Ref.Dd (At.sum l) 4).take k++[UInt8.ofNat m])) (by simp[bv]) ?_)
   intro a ag ah ai b P Q
   have d:=F' d Q own
   refine h _ _ ?_;revert a
   refine AV D<|Aw<|DN<|Ai<|AD<|Az D<|Dz (q:=1) D D<|AV D<|Aw<|Ai<|?_
   intro a b
   exact⟨_,by omega,k+1,_,_,D,AY b,by omega,by rw[Zx (At.sum l) 4 k N,←List.append_assoc,←u];exact P,d⟩
  ·
   obtain rfl:k=4:=by omega
   refine Dv<|BY<|BY<|Ds<|Ai<|Ao<|AD<|Az D<|AV D<|Aw<|Ai<|C0<|EE D<|?_
   exact⟨_,_,D,by rw[List.take_of_length_le (by rw[Ref.Fo];decide)]at own;exact own,d⟩
end Go.Proofs.YtaapafoibofbjaaGreatDoor
namespace Go.Proofs.YtaapafoibofbjaaGreatDoor
open Go.RowKit
variable {n b:Nat} {l:List Nat} {T:TypeId}
def Da(l:List Nat):List Value:=l.map fun v:Nat=>Value.int .u32 (v:Int)
structure Jm (n:Nat) (l:List Nat):Prop where
 len:l.length=n
 lt:∀x∈l,x<4294967296
theorem Jm.row(h:Jm n l):Row n (Da l):=⟨by simp[Da,h.len],fun u hu=>by
 simp only[Da,List.mem_map]at hu
 obtain⟨_,_,rfl⟩:=hu
 rfl⟩
theorem Jm.at(h:Jm n l)(j:Nat):l.getD j 0<4294967296:=by
 rw[List.getD_eq_getElem?_getD]
 rcases Nat.lt_or_ge j l.length with q|q
 ·rw[List.getElem?_eq_getElem q];exact h.lt _ (List.getElem_mem q)
 ·rw[List.getElem?_eq_none q];decide
theorem Jm.set(h:Jm n l)(j:Nat){g:Nat}(a:g<4294967296):Jm n (l.set j g):=
 ⟨by rw[List.length_set,h.len],fun x b=>by
   rcases List.mem_or_eq_of_mem_set b with q|q
   ·exact h.lt x q
   ·rw[q];exact a⟩
theorem Jm.zero(n:Nat):Jm n (List.replicate n 0):=⟨by simp,fun x a=>by rw[List.eq_of_mem_replicate a];decide⟩
theorem MU(n:Nat):I8 n=Da (List.replicate n 0):=by simp[I8,Da]
theorem KG(n:Nat):Ak n=bv (List.replicate n 0):=by simp[Ak,bv]
theorem XR(a b:Nat)(h:b≤a)(c:a<18446744073709551616):IntKind.u64.wrap ((a:Int) - b)=((a - b:Nat):Int):=by
 rw[IntKind.wrap_u64]
 omega
theorem wrap_u64(n:Nat):IntKind.u64.wrap (n:Int)=((n % 18446744073709551616:Nat):Int):=by
 rw[IntKind.wrap_u64]
 omega
theorem DV{w:World}{fr:Nat×Nat}(J:w.heap[b]? =some (.cells (flat [Da l]) T fr))(a:Jm n l)(j:Nat)(hj:j<n:=by omega):w.cell? ⟨b,j,none⟩=some (.int .u32 ((l.getD j 0:Nat):Int)):=by
 have:=H4 J j (.int .u32 ((l.getD j 0:Nat):Int)) (by
  have hl:j<l.length:=by rw[a.len];exact hj
  simp[Da,hl,List.getD_eq_getElem?_getD])
 simpa using this
theorem Qh{w:World}{l:List UInt8}{fr:Nat×Nat}(J:w.heap[b]? =some (.cells (flat [bv l]) T fr))(hl:l.length=n)(j:Nat)(hj:j<n:=by omega):w.cell? ⟨b,j,none⟩=some (.int .u8 (((l.getD j 0).toNat:Nat):Int)):=by
 have:=H4 J j (.int .u8 (((l.getD j 0).toNat:Nat):Int)) (by
  have hl:j<l.length:=by rw[hl];exact hj
  simp[bv,hl,List.getD_eq_getElem?_getD])
 simpa using this
theorem DA.Zw{w:World}(h:DA w):Cells w 20 0 (Da N'):=h.first
theorem Jv:Jm 8 N':=⟨D,by decide⟩
theorem DA.af{w:World}(h:DA w)(j:Nat)(hj:j<64){o:Nat}(ho:0+j*1=o):w.cell? ⟨22,o,none⟩=some (.int .u32 ((J7.getD j 0:Nat):Int)):=by
 subst ho
 have:=h.consts j (.int .u32 ((J7.getD j 0:Nat):Int)) (by
  have hl:j<J7.length:=hj
  simp[Hr,hl,List.getD_eq_getElem?_getD])
 simpa using this
section
variable {P:Program} {w w':World} {a:Act} {Aa:Exit→Act→World→Prop} {N:Nat} {f:BW} {d:Nat} {ty:TypeId} {pos:String} {An:Array Edge} {g:Option (Nat×Bool)} {K:Act→World→Prop}
theorem RH(d:AH N a f){x y:Operand}{j:Nat}(e:Aj f x=some (.pointer (some ⟨b,j,none⟩))){tb:TypeId}(J:w.heap[b]? =some (.cells (flat [Da l]) tb (0,0)))(i:Jm n l)(hj:j<n){u:Nat}(k:Aj f y=some (.int .u32 ((u:Nat):Int)))(m:(P.info? T).map (·.size)=some 1)
 (h:∀c W,AH N c f→W.heap.size=w.heap.size→W.heap[b]? =some (.cells (flat [Da (l.set j u)]) tb (0,0))→w.grownBy W (some b)→K c W):Dw P ⟨none,.store T x y,ty,pos,An,g⟩ a w K Aa:=by
 refine Me d e J k D m (by simp[flat,Da,i.len];exact hj) ?_ h
 apply Array.toList_inj.1
 simp[flat,Da,List.map_set]
theorem W6(d:AH N a f){x y:Operand}{j:Nat}(e:Aj f x=some (.pointer (some ⟨b,j,none⟩))){l:List UInt8}{tb:TypeId}(J:w.heap[b]? =some (.cells (flat [bv l]) tb (0,0)))(hl:l.length=n)(hj:j<n){u:UInt8}(i:Aj f y=some (.int .u8 ((u.toNat:Nat):Int)))(k:(P.info? T).map (·.size)=some 1)
 (h:∀c W,AH N c f→W.heap.size=w.heap.size→W.heap[b]? =some (.cells (flat [bv (l.set j u)]) tb (0,0))→w.grownBy W (some b)→K c W):Dw P ⟨none,.store T x y,ty,pos,An,g⟩ a w K Aa:=by
 refine Me d e J i D k (by simp[flat,bv,hl];exact hj) ?_ h
 apply Array.toList_inj.1
 simp[flat,bv,List.map_set]
end
end Go.Proofs.YtaapafoibofbjaaGreatDoor
