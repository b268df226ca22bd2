/- Laws and walks on the road to SalvageClean (part M50). No conditions beyond each law's own. -/
import Derived.Test.YtaapafoibofbjaaGreatDoorM01
import Derived.Test.YtaapafoibofbjaaGreatDoorM49
import Derived.Test.YtaapafoibofbjaaGreatDoorM42
import Derived.Test.YtaapafoibofbjaaGreatDoorM43
import Derived.Test.YtaapafoibofbjaaGreatDoorM31
import Derived.Test.YtaapafoibofbjaaGreatDoorM32
import Derived.Test.YtaapafoibofbjaaGreatDoorM15
import Derived.Test.YtaapafoibofbjaaGreatDoorM16
import Derived.Test.YtaapafoibofbjaaGreatDoorM21
import Derived.Test.YtaapafoibofbjaaGreatDoorM07
import Derived.Test.YtaapafoibofbjaaGreatDoorM12
set_option linter.unusedVariables false
namespace Go.Proofs.YtaapafoibofbjaaGreatDoor
open Go.RowKit
set_option maxRecDepth 100000
set_option maxHeartbeats 4000000
theorem gH(i Q a d Ag Ac Al n r b j h:Nat)(t:Fr.Bu)(Ah:B9)(w:World)(g:BE [O i [[Be .i32 0],[Be .u32 0],[S Q],[E t.w],[E j],[E Ah.v],[E Ah.f],[E Ah.ju],[E Ah.jt],[E Ah.r],[E Ah.c],bv Ah.s.l,[E h]] 117,BF Q a d,Bs a Ag t b,Bd Ag Ac Al n r b] w)(y:n≤1048576):Calls Tryz.prog 14 #[S i] w fun e W=>e=.returned (.tuple #[Value.agg (flat [[E t.w],[E j],[E Ah.v],[E t.m],[E (n/256)],[E Ah.c],bv Ah.s.l]),.nilIface])∧Sat (A6 [O i [[Be .i32 0],[Be .u32 0],[S Q],[E t.w],[E j],[E Ah.v],[E Ah.f],[E Ah.ju],[E Ah.jt],[E Ah.r],[E Ah.c],bv Ah.s.l,[E h]] 117,BF Q a d,Bs a Ag t b,Bd Ag Ac Al n r b]) w [O i [[Be .i32 0],[Be .u32 0],[S Q],[E t.w],[E j],[E Ah.v],[E Ah.f],[E Ah.ju],[E Ah.jt],[E Ah.r],[E Ah.c],bv Ah.s.l,[E h]] 117,BF Q a d,Bs a Ag t b,Bd Ag Ac Al n r b] W:=by
 refine fH g Xv D 63 fun F u=>Je<|Jh<|U<|Bw [[E 0],[E 0],[E 0],[E 0],[E 0],[E 0],Ak 32] fun x=>M ?_
 refine By D<|AG F5 0 D<|U<|?_
 refine Ba YF D (fun w k=>fv w (k.Ad (H1:=[O i [[Be .i32 0],[Be .u32 0],[S Q],[E t.w],[E j],[E Ah.v],[E Ah.f],[E Ah.ju],[E Ah.jt],[E Ah.r],[E Ah.c],bv Ah.s.l,[E h]] 117]) [1])) fun _ e W k ⟨he,q⟩=>⟨_,_,he,Sat.call (H1:=[O i [[Be .i32 0],[Be .u32 0],[S Q],[E t.w],[E j],[E Ah.v],[E Ah.f],[E Ah.ju],[E Ah.jt],[E Ah.r],[E Ah.c],bv Ah.s.l,[E h]] 117]) (H2:=[O x [[E 0],[E 0],[E 0],[E 0],[E 0],[E 0],Ak 32] 53,BF Q a d,Bs a Ag t b,Bd Ag Ac Al n r b]) (k.pick [1,0,2,3,4]) q,?_⟩
 refine M ?_
 refine By D<|AG F5 0 D<|bj D<|?_
 refine O6<|Ph<|Ph<|YU<|Jd D<|By D<|AG F5 2 D<|AZ Om 0 2 D D D<|U<|Cx OQ D [2,3,4] (H1:=[BF Q a d,Bs a Ag t b,Bd Ag Ac Al n r b]) (fun w g=>Q1 Q a d Ag Ac Al n r b t w g)<|Js D<|Jg<|O6<|Ph<|YU<|Jd D<|Ci D D D<|Jg<|O6<|cz D<|c0<|O6<|Ph<|?_
 refine bU [0,2,3,4]<|Ab 0 D (AA D)<|Ab 1 D (Bp D)<|Ab 2 D (AS F5 3 D)<|Ab 3 D (Bb AF 0 3 D D D)<|Ab 4 D (AA D)<|Ab 5 D (Bp D)<|Ab 6 D (AS F5 4 D)<|Ab 7 D (Bb AF 0 4 D D D)<|Ab 8 D (AA D)<|Ab 9 D (Bp D)<|Ab 10 D (AS F5 5 D)<|Ab 11 D (AS Bv 5 D)<|Ab 12 D (Bb AF 0 5 D D D)<|Ab 13 D (AA D)<|Ab 14 D (Bp D)<|Ab 15 D (AS F5 2 D)<|Ab 16 D (Bb Om 0 2 D D D)<|Ab 19 D (AA D)<|Ab 20 D (Bp D)<|Ab 21 D (AS F5 2 D)<|Ab 22 D (Bb Om 0 2 D D D)<|Ab 24 D (AA D)<|Ab 25 D (Bp D)<|Ab 26 D (AS F5 5 D)<|Ab 27 D (AS Bv 10 D)<|Ab 28 D (Bb AF 0 10 D D D)<|Ab 29 D (AA D)<|Ab 30 D (Bp D)<|Ab 31 D (AS F5 5 D)<|Ab 32 D (AS Bv 11 D)<|Ab 33 D (DH B5 0 11 1 [bv Ah.s.l] D D)<|Bh 17 D<|Cx K6 D [2,3] (H1:=[BF Q a d,Bs a Ag t b]) (fun w g=>Lw Q a d Ag t b w g)<|A8 [0,2,3,4]<|Ab 18 D (Io BM 2 D D D AF)<|Bh 23 D<|Cx VL D [2,3,4] (H1:=[BF Q a d,Bs a Ag t b,Bd Ag Ac Al n r b]) (fun w g=>hJ Q a d Ag Ac Al n r b t w g (by omega))<|A8 [0,2,3,4]<|Bh 34 D<|Bk (ts:=[[E 0],[E 0],[E 0],[E 0],[E 0],[E 0],Ak 32]) 1 0 7 D D (show _=some (Value.agg (flat [[E 0],[E 0],[E 0],[E 0],[E 0],[E 0],Ak 32]))from D)<|?_
 refine A8 [0,2,3,4]<|Ab 35 D (AS I9 0 D)<|Bh 36 D<|Cq 1 0 D D D<|?_
 refine A8 [0,2,3,4]<|Ab 37 D (AS I9 1 D)<|Bh 38 D<|Cq 1 1 D D D<|?_
 refine A8 [0,2,3,4]<|Ab 39 D (AS I9 2 D)<|Bh 40 D<|Cq 1 2 D D D<|?_
 refine A8 [0,2,3,4]<|Ab 41 D (AS I9 3 D)<|Bh 42 D<|Cq 1 3 D D D<|?_
 refine A8 [0,2,3,4]<|Ab 43 D (AS I9 4 D)<|Bh 44 D<|Cq 1 4 D D D<|?_
 refine A8 [0,2,3,4]<|Ab 45 D (AS I9 5 D)<|Bh 46 D<|Cq 1 5 D D D<|?_
 refine A8 [0,2,3,4]<|Ab 47 D (AS I9 6 D)<|Bh 48 D<|Bk 1 6 1 D D D<|?_
 refine A8 [0,2,3,4]<|Ab 49 D (Ck D)<|Cm<|O6<|?_
 exact fq I9 0 1 D D D D fun w k=>⟨D,(by subst u;exact k.pick [0,2,3,4])⟩
end Go.Proofs.YtaapafoibofbjaaGreatDoor
namespace Go.Proofs.YtaapafoibofbjaaGreatDoor
open Go.RowKit
set_option maxRecDepth 10000
section
variable {n i:Nat} {s:Fr.Bu} {x:List UInt8}
theorem D5.Tm(h:D5 n s x i):(2≤(BJ s x i).m∧(BJ s x i).m≤(BJ s x i).p)∧(BJ s x i).h≤4096:=by
 have:=OF (W:=s.w) (P:=s.p) (L:=Go.Proofs.YtaapafoibofbjaaGreatDoor.A9 x s.m) (g:=i+1) h.cs.Ir h.LF.2.1.1 h.LF.2.1.2 (by have:=h.le;omega)
 rw[show(BJ s x i).p=s.p from LV _]
 exact this
theorem D5.pp(h:D5 n s x i):n=256*(BJ s x i).p:=by rw[show(BJ s x i).p=s.p from LV _];exact h.p
theorem D5.Da(h:D5 n s x i):(BJ s x i).w≤32:=by rw[show(BJ s x i).w=s.w from MZ _];exact h.LF.1.2
theorem D5.Av(h:D5 n s x i):768≤n∧n≤1048576∧n % 256=0:=by have:=h.p;have:=h.LF.2.1;omega
theorem fp{p:Nat}{l:List UInt8}{r:B9}(h:G.CW p l=.rc r):Fr.CZ p l=true∧(l.getD 0 0).toNat=3∧G.record (G.load l)=some r:=by
 unfold G.CW at h
 split at h
 ·rename_i h1
  split at h
  ·rename_i a
   cases hr:G.record (G.load l)with
   |none=>rw[hr]at h;cases h
   |some c=>rw[hr]at h;cases h;exact⟨h1,a,D⟩
  ·cases b:G.node (l.getD 0 0).toNat (G.load l)<;>rw[b]at h<;>cases h
 ·cases h
theorem e8{B1:List UInt8}{r:B9}(h:G.record B1=some r):1≤r.v∧r.f≤r.v∧r.v≤1073741824:=by
 unfold G.record at h
 split at h
 ·split at h
  ·rename_i h1
   cases h
   unfold G.right at h1
   simp only[Bool.and_eq_true,decide_eq_true_eq]at h1
   omega
  ·cases h
 ·cases h
theorem D5.Ce(h:D5 n s x i):((BJ s x i).h=0∧(BJ s x i).m=2∧G3 (Cl n s x i) (BJ s x i).m (BJ s x i).h=0∧FD (Cl n s x i) (BJ s x i).m (BJ s x i).h=0)∨(2≤(BJ s x i).h∧(BJ s x i).h<(BJ s x i).m∧∃r,Fr.CZ (BJ s x i).h (AI (Cl n s x i) (BJ s x i).h)=true∧((AI (Cl n s x i) (BJ s x i).h).getD 0 0).toNat=3∧G.record (G.load (AI (Cl n s x i) (BJ s x i).h))=some r∧max r.ju (max r.jt r.r)<(BJ s x i).h∧(1≤r.v∧r.f≤r.v∧r.v≤1073741824)∧G3 (Cl n s x i) (BJ s x i).m (BJ s x i).h=r.f∧FD (Cl n s x i) (BJ s x i).m (BJ s x i).h=r.v):=by
 rcases h.head with⟨h1,a⟩|⟨h1,a,r,hr,j,k,l⟩
 ·refine .inl ⟨h1,a,?_,?_⟩
  ·unfold G3 Dy
   rw[if_neg (by omega)]
  ·unfold FD Dy
   rw[if_neg (by omega)]
 ·obtain⟨c,d,b⟩:=fp hr
  refine .inr ⟨h1,a,r,c,d,b,by omega,e8 b,?_,?_⟩
  ·unfold G3 Dy
   rw[if_pos ⟨h1,a⟩,hr]
  ·unfold FD Dy
   rw[if_pos ⟨h1,a⟩,hr]
end
section
variable {n i:Nat} {s:Fr.Bu} {x:List UInt8} (hw:D5 n s x i) {q:Option Addr} {c:Nat} {w:World} (V:View w (I q n c) n 1 (bv (Cl n s x i))) (A5:CG w)
include hw V A5
theorem iu:Calls Tryz.prog 6 #[I q n c] w fun e W=>∃AB,e=.returned (.tuple #[I (some ⟨AB,0,none⟩) n n,E (FD (Cl n s x i) (BJ s x i).m (BJ s x i).h),E 0])∧W.ownsRow w.heap.size 5 1 (I (some ⟨AB,0,none⟩) n n) n (bv (Cl n s x i))∧Below w.heap.size w W:=by
 refine(Wd V GA hw.Av A5).mono ?_
 rintro e W ⟨h|h,J⟩
 ·obtain⟨k,_,b,_⟩:=h
  exact absurd hw.L' (b _)
 ·obtain⟨j,l,o,AB,d,f,he,ho⟩:=h
  obtain⟨rfl,rfl⟩:=f _ hw.L'
  obtain⟨a,g⟩:=hw.self d
  rw[a,g]at he
  rw[a]at ho
  exact⟨AB,he,ho,J⟩
theorem ck:Calls Tryz.prog 9 #[I q n c] w fun e W=>e=.returned (.tuple #[E (G3 (Cl n s x i) (BJ s x i).m (BJ s x i).h),E (FD (Cl n s x i) (BJ s x i).m (BJ s x i).h),E 0])∧Below w.heap.size w W:=by
 refine(dK V GA hw.Av A5 hw.L').mono ?_
 rintro e W ⟨f,a,he,J⟩
 obtain⟨b,d⟩:=hw.self a
 rw[b,d]at he
 exact⟨he,J⟩
theorem ff:Calls Tryz.prog 10 #[I q n c,Value.int .i64 ((-1):Int)] w fun e W=>∃AB,e=.returned (.tuple #[I (some ⟨AB,0,none⟩) n n,E 0])∧W.ownsRow w.heap.size 5 1 (I (some ⟨AB,0,none⟩) n n) n (bv (Cl n s x i))∧Below w.heap.size w W:=by
 refine(hI V GA hw.Av A5 hw.L').mono ?_
 rintro e W ⟨d,AB,a,he,ho,J⟩
 obtain⟨b,f⟩:=hw.self a
 rw[b]at ho
 exact⟨AB,he,ho,J⟩
theorem g4:Calls Tryz.prog 11 #[I q n c] w fun e W=>∃ib ci,e=.returned (.tuple #[I (some ⟨ib,0,none⟩) n ci,I none 0 0,E 0])∧W.ownsRow w.heap.size 5 1 (I (some ⟨ib,0,none⟩) n ci) n (bv (Cl n s x i))∧Below w.heap.size w W:=
 cG V GA hw.Av A5 hw.L'
end
theorem eg{n i:Nat}{s:Fr.Bu}{x:List UInt8}(hw:D5 n s x i){q:Option Addr}{c:Nat}{w:World}(f:BE [Ae 5 1 (I q n c) n (bv (Cl n s x i))] w)(A5:CG w)(j:∀k,CB k→¬A6 [Ae 5 1 (I q n c) n (bv (Cl n s x i))] k):
 Calls Tryz.prog 8 #[I q n c] w fun e W=>∃(Au:BX) (a ER b:Nat),Au.n=0∧e=.returned (.tuple #[.agg (flat [[E (BJ s x i).w],[E (BJ s x i).p],[E (BJ s x i).m],[E (BJ s x i).h],[E (G3 (Cl n s x i) (BJ s x i).m (BJ s x i).h)],[E (FD (Cl n s x i) (BJ s x i).m (BJ s x i).h)],[E a],[E ER],[E b],[I Au.p Au.n Au.c]]),E 0])∧Sat (A6 [Ae 5 1 (I q n c) n (bv (Cl n s x i))]) w [Ae 5 1 (I q n c) n (bv (Cl n s x i))] W:=by
 have d:=hw.Av
 have r:=hw.pp
 refine(TG q n c (Cl n s x i) (BJ s x i).w (BJ s x i).g (BJ s x i).m (BJ s x i).h (BJ s x i).p w f A5 j d.2.2 d.1 d.2.1 (by omega) (e0 (f.at_ 0 _ D)).2 hw.L'.ch hw.Da hw.Tm.1 hw.Tm.2).mono ?_
 rintro e W ⟨Au,a,ER,b,he,l,o⟩
 exact⟨Au,a,ER,b,l.2 (by rw[show(BJ s x i).w=s.w from MZ _];exact hw.Uj),he,o⟩
end Go.Proofs.YtaapafoibofbjaaGreatDoor
namespace Go.Proofs.YtaapafoibofbjaaGreatDoor
open Go.RowKit
set_option maxRecDepth 100000
set_option maxHeartbeats 1000000
variable {w:World} {ss:List (List Value)} {F:Nat→Prop} {b ce Dt c:Nat} {Du D1:Option Addr}
theorem WN(x:Bf):∀u∈GI x,u.oneCell'=true:=OR (.one D (.one D (.one D (.one D (.one D (.row x.ls.row (.row x.rs.row (.row x.k.row (.one rfl .nil)))))))))
theorem Od{m n:Nat}(h:ss.flatten.length=m:=by exact Jp)(e:m=n:=by rfl):(Value.agg (flat ss)).cells.size=n:=by subst e;subst h;simp[Value.cells,flat]
theorem NW{Bo:Type}{a:Bo→List Value}{x:Bo}(h:a x=ss.flatten):(Value.agg (flat ss)).cells.toList=Aq a [x]:=by simp[Value.cells,flat,Aq,h]
def Tb(P:Program)(c:Code)(Aa:Exit→Act→World→Prop)(a:Act)(w:World):Prop:=∀(b:Frame) (k:List Item) (cs:List Frame),∃e d w',Aa e d w'∧Arrives P (lone (b.at a (.code c:: .inLoop c::k)) cs w) b k cs e d w'
theorem R0{P:Program}{N:Nat}{f:BW}{w0:World}{H:List Atom}{Aa:Exit→Act→World→Prop}{c:Code}(h:AT N f F w0 H (Tb P c Aa)):AT N f F w0 H ((Code.loop c).wp P Aa):=fun a w d g b k cs=>let⟨e,i,w',q,r⟩:=h a w d g b k cs;⟨e,i,w',q,.of_steps (.one step_loop) r⟩
theorem Pb{P:Program}{N:Nat}{f:BW}{w0:World}{H:List Atom}{Aa:Exit→Act→World→Prop}{c:Code}(h:AT N f F w0 H (c.wp P (Exit.then (Tb P c Aa) Aa))):AT N f F w0 H (Tb P c Aa):=fun a w m n b k cs=>by
 obtain⟨e,i,j,d,g⟩:=h a w m n b (.inLoop c::k) cs
 cases e with
 |normal=>
  obtain⟨o,p,q,r,s⟩:=d b k cs
  exact⟨o,p,q,r,.of_steps (Steps.trans g (.one step_inLoop)) s⟩
 |exit id=>exact⟨_,i,j,d,.pass (x:=.inLoop c) D (fun _ _=>.inl (by simp)) g⟩
 |goto l=>exact⟨_,i,j,d,.pass (x:=.inLoop c) D (fun _ _=>.inl (by simp)) g⟩
 |ret=>exact⟨_,i,j,d,.pass (x:=.inLoop c) D (fun _ _=>.inl (by simp)) g⟩
 |panic ch=>exact⟨_,i,j,d,.pass (x:=.inLoop c) D (fun _ _=>.inl (by simp)) g⟩
 |outgrown=>exact⟨_,i,j,d,.pass (x:=.inLoop c) D (fun _ _=>.inl (by simp)) g⟩
structure Cd (b:Nat) (w:World) (v:Value) (n size:Nat) (xs:List Value):Prop where
 km:View w v n size xs
 ne:∀k,v.ownBlock=some k→k≠b
theorem Cd.z{T:Nat}{v:Value}{n size:Nat}{xs:List Value}(h:Cd b w v n size xs)(d:A6 [O b ss T]=F){H:List Atom}:∀W,Sat F w H W→View W v n size xs:=fun W a=>h.km.Fm a.jF.size (fun k c=>a.jF.block k (h.km.lt k c) (fun q=>h.ne k c (KX d q)))
def L3(k:Nat):Prop:=k=20∨k=22∨k=21
theorem a6{w0:World}{H:List Atom}(h:DA w0)(a:Sat C1 w0 H w)(i:Nat){T:TypeId}(c:H[i]? =some (O b ss T):=by exact rfl):¬L3 b:=fun q=>by
 have d:=(a.jQ i _ c b D).resolve_left id
 rcases q with q|q|q
 ·have:=h.j3;omega
 ·have:=h.j5;omega
 ·have:=h.j4;omega
theorem Cells.SQ{W:World}{off:Nat}{xs:List Value}(h:Cells w b off xs)(e:W.heap[b]? =w.heap[b]?):Cells W b off xs:=fun j v hj=>(World.cell?_of_block (a:=⟨b,off+j,none⟩) e).trans (h j v hj)
theorem DA.z{T:Nat}(h:DA w)(J:¬L3 b)(d:A6 [O b ss T]=F){H:List Atom}{W:World}(a:Sat F w H W):DA W:=
 ⟨h.first.SQ (a.jF.block _ h.j3 (fun q=>J (.inl (KX d q).symm))),Nat.lt_of_lt_of_le h.j3 a.jF.size,h.consts.SQ (a.jF.block _ h.j5 (fun q=>J (.inr (.inl (KX d q).symm)))),Nat.lt_of_lt_of_le h.j5 a.jF.size,h.div.SQ (a.jF.block _ h.j4 (fun q=>J (.inr (.inr (KX d q).symm)))),Nat.lt_of_lt_of_le h.j4 a.jF.size⟩
theorem SN(z:Int)(n:Nat){j:List Jc}{x:Eh}(h:DA w)(he:View w (I Du 257 ce) 257 32 (Aq EJ j))(q:j.length=257)(V:View w (I D1 Dt c) Dt 33 (Aq J4 [x]))(r:[x].length=Dt)(t:Dt=1)(m:View w (I x.s.p x.s.v.length x.s.c) x.s.v.length 1 (bv x.s.v))(u:x.s.v.length≤128)(y:n≤256:=by omega):Calls Tryz.prog 109 #[Value.int .i64 (z:Int),I Du 257 ce,I D1 Dt c,E n] w fun e W=>∃d:Jc,e=.returned (.agg (flat [bv d.l]))∧Below w.heap.size w W:=by
 have i:[x][0]? =some x:=D
 refine Cg w Re D 67<|Je<|Jh<|U<|Bw [Ak 32] fun o=>M ?_
 refine Cr HE D<|Gi (by omega) D D<|M ?_
 refine Cr HE D<|EU (by omega) D D<|M ?_
 refine Hj (fun a W=>∃f,∃d1:Jc,AH 67 a (Jb (Jb (Jb (Jb (Jb (Jb Jk 0 (Value.int .i64 (z:Int))) 1 (I Du 257 ce)) 2 (I D1 Dt c)) 3 (E n)) 8 (S o)) 9 (S f))∧Sat C1 w [O f [bv d1.l] 51,O o [Ak 32] 51] W) ?_ ?_
 ·
  refine CQ [0]<|Ab 0 D (AA D)<|Ab 1 D (AA D)<|Ab 2 D (Dj MQ 0 0 (Bx V) D D)<|Ab 3 D (Nd O8 0 D)<|Ab 4 D (LH Em Pe 0 0 1 [bv x.k.l] i (Bx V) D D)<|Ab 5 D (AA D)<|Ab 6 D (Dj MQ 0 0 (Bx V) D D)<|Ab 7 D (Nd O8 32 D)<|Ab 8 D (Q8 Co Pe 0 1 i (Bx V) D D D)<|Gy 9 10 D D ?_ ?_
  ·
   refine Ba TE D (fun w b=>Y8 (z:Int) x.k _ _ _ _ w (h.below b.A0 (Br _)) (by omega) ((Bx m) w b) D) fun _ e W b ⟨d1,he,J⟩=>⟨_,_,he,b.below J,?_⟩
   refine A8 [0]<|Bh 10 D<|Bw [Ak 32] fun f=>A8 [1]<|Bh 11 D<|Bk 0 0 1 D D D<|?_
   refine A8 [1]<|Cm<|?_
   exact fun a W g b=>⟨f,d1,AY g,b.pick [0,1]⟩
  refine Bw [Ak 32] fun f=>A8 [1]<|Bh 9 D<|?_
  refine Ba TE D (fun w b=>Y8 (z:Int) x.k _ _ _ _ w (h.below b.A0 (Br _)) (by omega) ((Bx m) w b) D) fun _ e W b ⟨d2,he,J⟩=>⟨_,_,he,b.below J,?_⟩
  refine A8 [1]<|Bh 11 D<|Bk 0 0 1 D D D<|?_
  refine A8 [1]<|Cm<|?_
  exact fun a W g b=>⟨f,d2,AY g,b.pick [0,1]⟩
 rintro a W ⟨f,d1,g,b⟩;revert a W
 refine Jf<|Je<|DD 9<|zs (AA D)<|zs (AA D)<|zs (AA D)<|zs (Dj MQ 0 0 (Bx V) D D)<|zs (Nd O8 0 D)<|zs (LH Em Pe 0 0 1 [bv x.k.l] i (Bx V) D D)<|zs (BN B5 0 D D)<|zs (AA D)<|zs (HS (p:=256) D D)<|CS<|U<|?_
 refine Ba Vq D (fun w b=>c1 _ _ _ (z:Int) x.k ((0:Nat):Int) d1 ((256 - n:Nat):Int) w (h.below b.A0 (Br _)) ((Bx he) w b) q) fun _ e W b ⟨d3,he,J⟩=>⟨_,_,he,b.below J,?_⟩
 refine U<|Bk 1 0 1 D D D<|?_
 refine M ?_
 refine Fq B5 1 D D fun W b=>?_
 exact⟨_,D,b.A0⟩
theorem ao(D1:Option Addr)(Dt c:Nat)(w:World)(b:Dt=1):Calls Tryz.prog 136 #[I none 0 0,I D1 Dt c] w fun e W=>e=.returned (.bool false)∧Below w.heap.size w W:=by
 refine Cg w XQ D 42<|M ?_
 refine Cr HE D<|Jd D<|Cr HE D<|Ix (by omega) D D<|A7 ?_
 exact fun W a=>⟨D,a.A0⟩
theorem jb(k:Jc)(w:World):Calls Tryz.prog 139 #[I none 0 0,Value.agg (flat [bv k.l])] w fun e W=>e=.returned (.tuple #[I none 0 0,.bool false])∧Below w.heap.size w W:=by
 refine Cg w YZ D 38<|Je<|Jh<|U<|Cv D fun c=>M ?_
 refine Cr HE D<|M ?_
 refine DL (fun f a W=>f=0+0∧AH 38 a (Jb (Jb (Jb (Jb Jk 0 (I none 0 0)) 3 (S c)) 6 (E 0)) 7 (E 0))∧Sat C1 w [O c [bv k.l] 57] W) (fun a W d b=>⟨D,AY d,b.pick [0]⟩) ?_
 rintro _ a W ⟨rfl,d,b⟩;revert a W
 refine M ?_
 refine ET (by omega) D D<|A7 ?_
 exact fun W b=>⟨D,b.A0⟩
theorem en(b:Nat)(Du:Option Addr)(ce:Nat)(nd:Bf)(w:World)(j:BE [O b [[E 3],[E 2],[I Du 257 ce],[E 0],[I none 0 0],[I none 0 0],[I none 0 0],[I none 0 0]] 219] w):Calls Tryz.prog 143 #[S b,Value.agg (flat [[E nd.kd],[E nd.l],[E nd.r],[E nd.lc],[E nd.rc],bv nd.ls.l,bv nd.rs.l,bv nd.k.l,[I nd.s.p nd.s.v.length nd.s.c]])] w fun e W=>∃AW i,e=.returned (E 2)∧Sat (A6 [O b [[E 3],[E 2],[I Du 257 ce],[E 0],[I none 0 0],[I none 0 0],[I none 0 0],[I none 0 0]] 219]) w [O b [[E 3],[E 3],[I Du 257 ce],[E 0],[I none 0 0],[I none 0 0],[I AW 1 i],[I none 0 0]] 219,Ae 99 102 (I AW 1 i) 1 (Aq GI ([nd]))] W:=by
 refine Cb j YT D 27 fun F n=>Je<|Jh<|U<|Cv D fun u=>M ?_
 refine Hj (fun a W=>∃g h,AH 27 a (Jb (Jb Jk 0 (S b)) 4 (E 0))∧Sat F w [Ae 99 102 (I g 1 h) 1 (Aq GI ([nd])),O b [[E 3],[E 2],[I Du 257 ce],[E 0],[I none 0 0],[I none 0 0],[I g 1 h],[I none 0 0]] 219] W) ?_ ?_
 ·
  refine CQ [0]<|Ab 0 D (AA D)<|Ab 1 D (AA D)<|Ab 2 D (Bp D)<|Ab 3 D (AS Hg 6 D)<|Ab 5 D (BN B7 0 D D)<|Gy 4 6 D D ?_ ?_
  ·
   refine IK (Bb L7 1 6 D D D)<|A8 [0]<|Bh 6 D<|Ey MF (Aq GI [nd]) D (NW D) Od fun x=>A8 [1]<|Bh 7 D<|Dr 99 102 (Aq GI [])<|DI (m:=1) MF 0 (Aq GI ([nd])) D D D (BZ 1) (HJ WN _) (H0 QR D) D fun g h=>A8 [2]<|Ab 8 D (Bp D)<|Ab 9 D (AS Hg 6 D)<|Bh 10 D<|Cq 3 6 D D D<|?_
   refine A8 [2]<|Cm<|?_
   exact fun a W d f=>⟨g,h,AY d,f.pick [0,3]⟩
  refine Ey MF (Aq GI [nd]) D (NW D) Od fun y=>A8 [1]<|Bh 4 D<|IK (Bb L7 2 6 D D D)<|A8 [1]<|Bh 7 D<|Dr 99 102 (Aq GI [])<|DI (m:=1) MF 0 (Aq GI ([nd])) D D D (BZ 1) (HJ WN _) (H0 QR D) D fun o t=>A8 [2]<|Ab 8 D (Bp D)<|Ab 9 D (AS Hg 6 D)<|Bh 10 D<|Cq 3 6 D D D<|?_
  refine A8 [2]<|Cm<|?_
  exact fun a W d f=>⟨o,t,AY d,f.pick [0,3]⟩
 rintro a W ⟨g,h,d,f⟩;revert a W
 refine M ?_
 refine By D<|AG Hg 1 D<|AZ AF 1 1 D D D<|Af (fun _ _ d f=>Hb d (p:=2) (q:=1) (r:=3) D D D)<|By D<|AG Hg 1 D<|U<|Cq 1 1 D D D<|?_
 refine M ?_
 refine By D<|AG Hg 1 D<|AZ AF 1 1 D D D<|Af (fun _ _ d f=>Km d (p:=3) (q:=1) (r:=2) D D)<|A7 ?_
 intro W f
 subst n
 exact⟨_,_,D,f.pick [1,0]⟩
theorem eN(b:Nat){A:List Jc}{x:Eh}(w:World)(P:BE [O b [[E 3],[E 2],[I Du 257 ce],[E 0],[I none 0 0],[I none 0 0],[I none 0 0],[I none 0 0]] 219] w)(B:DA w)(C:¬L3 b)(he:Cd b w (I Du 257 ce) 257 32 (Aq EJ A))(G:A.length=257)(V:Cd b w (I D1 Dt c) Dt 33 (Aq J4 [x]))(H:[x].length=Dt)(y:Dt=1)(K:Cd b w (I x.s.p x.s.v.length x.s.c) x.s.v.length 1 (bv x.s.v))(L:x.s.v.length≤128):Calls Tryz.prog 106 #[S b,I none 0 0,I D1 Dt c,E 0] w fun e W=>∃d:Jc,∃AW j Q cs,e=.returned (.tuple #[E 2,Value.agg (flat [bv d.l])])∧Sat (A6 [O b [[E 3],[E 2],[I Du 257 ce],[E 0],[I none 0 0],[I none 0 0],[I none 0 0],[I none 0 0]] 219]) w [O b [[E 3],[E 3],[I Du 257 ce],[E 0],[I none 0 0],[I none 0 0],[I AW 1 j],[I Q 1 cs]] 219,Ae 99 102 (I AW 1 j) 1 (Aq GI ([⟨1,0,0,0,0,CU,CU,x.k,x.s⟩]))] W:=by
 have N:[x][0]? =some x:=D
 refine Cb P Xn D 217 fun F g=>M ?_
 refine U<|Bw [Ak 32] fun n=>M ?_
 refine Cr HE D<|Gi (by omega) D D<|M ?_
 refine Af (Dj MQ 0 0 (V.z g) D D)<|Af (Nd O8 0 D)<|Af (LH Em Pe 0 0 1 [bv x.k.l] N (V.z g) D D)<|U<|Bw [Ak 32] fun o=>U<|Bk 0 0 1 D D D<|?_
 refine M ?_
 refine U<|BP XQ D (fun w f=>ao D1 Dt c w y)<|M ?_
 refine Cr HE D<|EU (by omega) D D<|M ?_
 refine Hj (fun a W=>∃i,∃d1:Jc,AH 217 a (Jb (Jb (Jb (Jb (Jb (Jb (Jb (Jb Jk 0 (S b)) 1 (I none 0 0)) 2 (I D1 Dt c)) 3 (E 0)) 8 (E 0)) 9 (S n)) 10 (S o)) 13 (S i))∧Sat F w [O i [bv d1.l] 51,O o [bv x.k.l] 57,O n [Ak 32] 51,O b [[E 3],[E 2],[I Du 257 ce],[E 0],[I none 0 0],[I none 0 0],[I none 0 0],[I none 0 0]] 219] W) ?_ ?_
 ·
  refine CQ [0,1,2]<|Ab 0 D (AA D)<|Ab 1 D (Bp D)<|Ab 2 D (AS Hg 0 D)<|Ab 3 D (Bb AF 2 0 D D D)<|Ab 4 D (AA D)<|Ab 5 D (Bp D)<|Ab 6 D (AS Hg 2 D)<|Ab 7 D (Bb IA 2 2 D D D)<|Ab 8 D (AA D)<|Ab 9 D (AA D)<|Gy 10 11 D D ?_ ?_
  ·
   refine Ba Re D (fun w f=>SN ((3:Nat):Int) 0 (B.z C g f) ((he.z g) w f) G ((V.z g) w f) H y (K.z g w f) L) fun _ e W f ⟨d1,he,J⟩=>⟨_,_,he,f.below J,?_⟩
   refine A8 [0,1,2]<|Bh 11 D<|Bw [Ak 32] fun i=>A8 [1,2,3]<|Bh 12 D<|Bk 0 0 1 D D D<|?_
   refine A8 [1,2,3]<|Cm<|?_
   exact fun a W h f=>⟨i,d1,AY h,f.pick [0,1,2,3]⟩
  refine Bw [Ak 32] fun i=>A8 [1,2,3]<|Bh 10 D<|?_
  refine Ba Re D (fun w f=>SN ((3:Nat):Int) 0 (B.z C g f) ((he.z g) w f) G ((V.z g) w f) H y (K.z g w f) L) fun _ e W f ⟨d2,he,J⟩=>⟨_,_,he,f.below J,?_⟩
  refine A8 [1,2,3]<|Bh 12 D<|Bk 0 0 1 D D D<|?_
  refine A8 [1,2,3]<|Cm<|?_
  exact fun a W h f=>⟨i,d2,AY h,f.pick [0,1,2,3]⟩
 rintro a W ⟨i,d1,h,f⟩;revert a W
 refine Jf<|Je<|G9<|AR (AA D)<|AR (Bp D)<|AR (AS Hg 3 D)<|AR (AS LS 4 D)<|AR (Bb HE 3 4 D D D)<|AR (BN Em 1 D D)<|MB YZ D (fun w f=>jb x.k w)<|AR (AA D)<|AR (El D D)<|AR (El D D)<|AR (Ck D)<|AR (Ck D)<|Er<|M ?_
 refine DD 7<|zs (AA D)<|zs (BN Em 1 D D)<|zs (AA D)<|zs (Dj MQ 0 0 (V.z g) D D)<|zs (Nd O8 32 D)<|zs (Q8 Co Pe 0 1 N (V.z g) D D D)<|zs (fun _ _ h f=>E_ h (BH:=[(0,(E 1)),(7,(Value.agg (flat [bv x.k.l]))),(8,(I x.s.p x.s.v.length x.s.c))]) D (r:=flat [[E 1],[E 0],[E 0],[E 0],[E 0],Ak 32,Ak 32,bv x.k.l,[I x.s.p x.s.v.length x.s.c]]) (E5 B7 (ss:=[[E 0],[E 0],[E 0],[E 0],[E 0],Ak 32,Ak 32,Ak 32,[I none 0 0]]) (by kernel_rfl) (places:=[(0,1),(1,1),(2,1),(3,1),(4,1),(5,32),(37,32),(69,32),(101,1)]) (by kernel_rfl) (B3 [] [[E 0]] [[E 0],[E 0],[E 0],[E 0],Ak 32,Ak 32,Ak 32,[I none 0 0]] [[E 1]] D Ja.nil (Ja.one Ja.nil) (Ja.one Ja.nil) D (B3 [[E 1],[E 0],[E 0],[E 0],[E 0],Ak 32,Ak 32] [Ak 32] [[I none 0 0]] [bv x.k.l] D (Ja.one (Ja.one (Ja.one (Ja.one (Ja.one (Ja.row (Jl 32) (Ja.row (Jl 32) Ja.nil))))))) (Ja.row (Jl 32) Ja.nil) (Ja.row x.k.row Ja.nil) D (B3 [[E 1],[E 0],[E 0],[E 0],[E 0],Ak 32,Ak 32,bv x.k.l] [[I none 0 0]] [] [[I x.s.p x.s.v.length x.s.c]] D (Ja.one (Ja.one (Ja.one (Ja.one (Ja.one (Ja.row (Jl 32) (Ja.row (Jl 32) (Ja.row x.k.row Ja.nil)))))))) (Ja.one Ja.nil) (Ja.one Ja.nil) D D)))))<|CS<|U<|?_
 refine Ba YT D (fun w f=>en b Du ce (⟨1,0,0,0,0,CU,CU,x.k,x.s⟩:Bf) w (f.Ad (H1:=[O b [[E 3],[E 2],[I Du 257 ce],[E 0],[I none 0 0],[I none 0 0],[I none 0 0],[I none 0 0]] 219]) [3])) fun _ e W f ⟨AW,j,he,q⟩=>⟨_,_,he,Sat.call (H1:=[O b [[E 3],[E 2],[I Du 257 ce],[E 0],[I none 0 0],[I none 0 0],[I none 0 0],[I none 0 0]] 219]) (H2:=[O i [bv d1.l] 51,O o [bv x.k.l] 57,O n [Ak 32] 51]) (f.pick [3,0,1,2]) q,?_⟩
 refine M ?_
 refine Hj (fun a W=>∃t u,AH 217 a (Jb (Jb (Jb (Jb (Jb (Jb (Jb (Jb (Jb Jk 0 (S b)) 1 (I none 0 0)) 2 (I D1 Dt c)) 3 (E 0)) 8 (E 0)) 9 (S n)) 10 (S o)) 13 (S i)) 16 (E 2))∧Sat F w [Ae 271 66 (I t 1 u) 1 (Aq I6 ([(⟨0,2,x.k,d1⟩:IU)])),O b [[E 3],[E 3],[I Du 257 ce],[E 0],[I none 0 0],[I none 0 0],[I AW 1 j],[I t 1 u]] 219,Ae 99 102 (I AW 1 j) 1 (Aq GI ([(⟨1,0,0,0,0,CU,CU,x.k,x.s⟩:Bf)])),O i [bv d1.l] 51,O o [bv x.k.l] 57,O n [Ak 32] 51] W) ?_ ?_
 ·
  refine CQ [2,3,4]<|Ab 0 D (AA D)<|Ab 1 D (AA D)<|Ab 2 D (Bp D)<|Ab 3 D (AS Hg 7 D)<|Ab 5 D (AA D)<|Ab 6 D (AA D)<|Ab 7 D (BN Em 1 D D)<|Ab 8 D (BN B5 0 D D)<|Ab 9 D (fun _ _ h f=>E_ h (BH:=[(0,(E 0)),(1,(E 2)),(2,(Value.agg (flat [bv x.k.l]))),(3,(Value.agg (flat [bv d1.l])))]) D (r:=flat [[E 0],[E 2],bv x.k.l,bv d1.l]) (E5 ZY (ss:=[[E 0],[E 0],Ak 32,Ak 32]) (by kernel_rfl) (places:=[(0,1),(1,1),(2,32),(34,32)]) (by kernel_rfl) (B3 [] [[E 0]] [[E 0],Ak 32,Ak 32] [[E 0]] D Ja.nil (Ja.one Ja.nil) (Ja.one Ja.nil) D (B3 [[E 0]] [[E 0]] [Ak 32,Ak 32] [[E 2]] D (Ja.one Ja.nil) (Ja.one Ja.nil) (Ja.one Ja.nil) D (B3 [[E 0],[E 2]] [Ak 32] [Ak 32] [bv x.k.l] D (Ja.one (Ja.one Ja.nil)) (Ja.row (Jl 32) Ja.nil) (Ja.row x.k.row Ja.nil) D (B3 [[E 0],[E 2],bv x.k.l] [Ak 32] [] [bv d1.l] D (Ja.one (Ja.one (Ja.row x.k.row Ja.nil))) (Ja.row (Jl 32) Ja.nil) (Ja.row d1.row Ja.nil) D D))))))<|Gy 4 10 D D ?_ ?_
  ·
   refine IK (Bb QS 0 7 D D D)<|A8 [2,3,4]<|Bh 10 D<|Ey PN (Aq I6 [(⟨0,2,x.k,d1⟩:IU)]) D (NW D) Od fun X=>A8 [3,4,5]<|Bh 11 D<|Dr 271 66 (Aq I6 [])<|DI (m:=1) PN 0 (Aq I6 ([(⟨0,2,x.k,d1⟩:IU)])) D D D (BZ 1) (HJ VQ _) (H0 YR D) D fun t u=>A8 [4,5,6]<|Ab 12 D (Bp D)<|Ab 13 D (AS Hg 7 D)<|Bh 14 D<|Cq 2 7 D D D<|?_
   refine A8 [4,5,6]<|Cm<|?_
   exact fun a W h f=>⟨t,u,AY h,f.pick [0,2,3,4,5,6]⟩
  refine Ey PN (Aq I6 [(⟨0,2,x.k,d1⟩:IU)]) D (NW D) Od fun Y=>A8 [3,4,5]<|Bh 4 D<|IK (Bb QS 1 7 D D D)<|A8 [3,4,5]<|Bh 11 D<|Dr 271 66 (Aq I6 [])<|DI (m:=1) PN 0 (Aq I6 ([(⟨0,2,x.k,d1⟩:IU)])) D D D (BZ 1) (HJ VQ _) (H0 YR D) D fun R T=>A8 [4,5,6]<|Ab 12 D (Bp D)<|Ab 13 D (AS Hg 7 D)<|Bh 14 D<|Cq 2 7 D D D<|?_
  refine A8 [4,5,6]<|Cm<|?_
  exact fun a W h f=>⟨R,T,AY h,f.pick [0,2,3,4,5,6]⟩
 rintro a W ⟨t,u,h,f⟩;revert a W
 refine Jf<|Je<|DD 3<|zs (AA D)<|zs (BN B5 3 D D)<|zs (Ck D)<|CS<|U<|Bk 5 0 1 D D D<|?_
 refine M ?_
 refine h3 B5 5 D D D fun W f=>?_
 subst g
 exact⟨_,_,_,_,_,D,f.pick [1,2]⟩
theorem U7{h:List Jc}{x:Eh}(i:DA w)(j:View w (I Du 257 ce) 257 32 (Aq EJ h))(m:h.length=257)(V:View w (I D1 Dt c) Dt 33 (Aq J4 [x]))(n:[x].length=Dt)(o:Dt=1)(l:View w (I x.s.p x.s.v.length x.s.c) x.s.v.length 1 (bv x.s.v))(t:x.s.v.length≤128):Calls Tryz.prog 61 #[E 3,I Du 257 ce,Value.agg (flat [[E 0],[I none 0 0],[I none 0 0]]),E 2,I D1 Dt c] w fun e W=>∃d cs AW f,e=.returned (.tuple #[Value.agg (flat [[E 2],[I D1 Dt c],[I d 1 cs]]),I AW 1 f])∧W.ownsRow w.heap.size 99 102 (I AW 1 f) 1 (Aq GI [⟨1,0,0,0,0,CU,CU,x.k,x.s⟩])∧Below w.heap.size w W:=by
 have z:[x][0]? =some x:=D
 refine Cg w Tu D 40<|Je<|Jh<|U<|Cv D fun u=>U<|Bw [[E 0],[I none 0 0],[I none 0 0]] fun y=>M ?_
 refine Af (BN LS 1 D D)<|Af (fun _ _ g a=>E_ g (BH:=[(0,(E 3)),(1,(E 2)),(2,(I Du 257 ce)),(3,(Value.agg (flat [[E 0],[I none 0 0],[I none 0 0]])))]) D (r:=flat [[E 3],[E 2],[I Du 257 ce],[E 0],[I none 0 0],[I none 0 0],[I none 0 0],[I none 0 0]]) (E5 Hg (ss:=[[E 0],[E 0],[I none 0 0],[E 0],[I none 0 0],[I none 0 0],[I none 0 0],[I none 0 0]]) (by kernel_rfl) (places:=[(0,1),(1,1),(2,1),(3,3),(6,1),(7,1)]) (by kernel_rfl) (B3 [] [[E 0]] [[E 0],[I none 0 0],[E 0],[I none 0 0],[I none 0 0],[I none 0 0],[I none 0 0]] [[E 3]] D Ja.nil (Ja.one Ja.nil) (Ja.one Ja.nil) D (B3 [[E 3]] [[E 0]] [[I none 0 0],[E 0],[I none 0 0],[I none 0 0],[I none 0 0],[I none 0 0]] [[E 2]] D (Ja.one Ja.nil) (Ja.one Ja.nil) (Ja.one Ja.nil) D (B3 [[E 3],[E 2]] [[I none 0 0]] [[E 0],[I none 0 0],[I none 0 0],[I none 0 0],[I none 0 0]] [[I Du 257 ce]] D (Ja.one (Ja.one Ja.nil)) (Ja.one Ja.nil) (Ja.one Ja.nil) D (B3 [[E 3],[E 2],[I Du 257 ce]] [[E 0],[I none 0 0],[I none 0 0]] [[I none 0 0],[I none 0 0]] [[E 0],[I none 0 0],[I none 0 0]] D (Ja.one (Ja.one (Ja.one Ja.nil))) (Ja.one (Ja.one (Ja.one Ja.nil))) (Ja.one (Ja.one (Ja.one Ja.nil))) D D))))))<|U<|Cv D fun b=>M ?_
 refine AG LS 1 D<|AZ HE 2 1 D D D<|Jd D<|U<|?_
 refine Ba Xn D (fun w a=>eN b w (a.Ad (H1:=[O b [[E 3],[E 2],[I Du 257 ce],[E 0],[I none 0 0],[I none 0 0],[I none 0 0],[I none 0 0]] 219]) [0]) (i.below a.A0 (Br _)) (a6 i a 0) ⟨j.below a.A0,a.PK j 0⟩ m ⟨V.below a.A0,a.PK V 0⟩ n o ⟨l.below a.A0,a.PK l 0⟩ t) fun _ e W a ⟨Hw,AW,f,d,cs,he,q⟩=>⟨_,_,he,Sat.call (H1:=[O b [[E 3],[E 2],[I Du 257 ce],[E 0],[I none 0 0],[I none 0 0],[I none 0 0],[I none 0 0]] 219]) (H2:=[O y [[E 0],[I none 0 0],[I none 0 0]] 167,O u [[E 0],[I none 0 0],[I none 0 0]] 167]) (a.pick [0,1,2]) q,?_⟩
 refine Jd D<|Bc D D<|Bc D D<|U<|Bw [Ak 32] fun A=>Js D<|U<|Bk 0 0 1 D D D<|?_
 refine Jg<|Jf<|Je<|?_
 refine CQ [0,1,2,4]<|Ab 0 D (AA D)<|Ab 1 D (AA D)<|Ab 2 D (AA D)<|Ab 3 D (Bp D)<|Ab 4 D (AS Hg 7 D)<|Ab 5 D (Bb QS 1 7 D D D)<|Ab 6 D (fun _ _ g a=>Cs g (BH:=[(0,(E 2)),(1,(I D1 Dt c)),(2,(I d 1 cs))]) D (v:=Value.agg (flat [[E 2],[I D1 Dt c],[I d 1 cs]])) (run_build _ _ _ _ (by kernel_rfl)))<|Ab 7 D (AA D)<|Ab 8 D (Bp D)<|Ab 9 D (AS Hg 6 D)<|Ab 10 D (Bb L7 1 6 D D D)<|Bh 11 D<|Bk 3 0 3 D D D<|?_
 refine A8 [0,1,2,4]<|Ab 12 D (Ck D)<|Cm<|Jf<|Jq<|Gl LS 3 D D D fun W a=>?_
 exact⟨_,_,_,_,D,a.DQ 2,a.A0⟩
theorem YS(z:Int){b:List Jc}{x:Eh}(f:DA w)(he:View w (I Du 257 ce) 257 32 (Aq EJ b))(g:b.length=257)(V:View w (I D1 Dt c) Dt 33 (Aq J4 [x]))(h:[x].length=Dt)(i:Dt=1)(j:View w (I x.s.p x.s.v.length x.s.c) x.s.v.length 1 (bv x.s.v))(k:x.s.v.length≤128):Calls Tryz.prog 64 #[Value.int .i64 (z:Int),I Du 257 ce,I D1 Dt c] w fun e W=>∃d:Jc,e=.returned (.agg (flat [bv d.l]))∧Below w.heap.size w W:=by
 have m:[x][0]? =some x:=D
 refine Cg w Sn D 11<|Je<|Jh<|U<|Bw [Ak 32] fun n=>M ?_
 refine U<|?_
 refine Ba Re D (fun w a=>SN (z:Int) 0 (f.below a.A0 (Br _)) ((Bx he) w a) g ((Bx V) w a) h i (j.below a.A0) k) fun _ e W a ⟨d1,he,J⟩=>⟨_,_,he,a.below J,?_⟩
 refine U<|Bk 0 0 1 D D D<|?_
 refine Jg<|Jf<|Jq<|Fq B5 0 D D fun W a=>?_
 exact⟨_,D,a.A0⟩
end Go.Proofs.YtaapafoibofbjaaGreatDoor
