/- Laws and walks on the road to SalvageClean (part M33). No conditions beyond each law's own. -/
import Derived.Test.YtaapafoibofbjaaGreatDoorM01
import Derived.Test.YtaapafoibofbjaaGreatDoorM32
import Derived.Test.YtaapafoibofbjaaGreatDoorM07
import Derived.Test.YtaapafoibofbjaaGreatDoorM29
import Derived.Test.YtaapafoibofbjaaGreatDoorM12
import Derived.Test.YtaapafoibofbjaaGreatDoorM04
set_option linter.unusedVariables false
namespace Go.Proofs.YtaapafoibofbjaaGreatDoor
open Go.RowKit
variable {X Y:Nat→Prop} {w W B8:World} {v BA u H8 v0 Oi:Value} {b Q k n m:Nat}
structure GF (B x:Nat) (w W:World):Prop where
 os:W.os=w.os
 tape:W.tape=w.tape
 output:W.output=w.output
 size:w.heap.size≤W.heap.size
 block:∀k,k<B→k≠x→W.heap[k]? =w.heap[k]?
section
variable {B x size c:Nat} {q:Option Addr} {xs:List Value} {s:DM}
theorem GF.refl(B x:Nat)(w:World):GF B x w w:=⟨D,D,D,Br _,fun _ _ _=>rfl⟩
theorem GF.trans(h:GF B x w W)(k:Below B W B8):GF B x w B8:=⟨k.os.trans h.os,k.tape.trans h.tape,k.output.trans h.output,Eg h.size k.size,fun i a b=>(k.block i a).trans (h.block i a b)⟩
theorem GF.grown{row:Option Nat}(h:GF B x w W)(a:W.grownBy B8 row)(d:B≤W.heap.size)(hr:∀k,row=some k→B≤k∨k=x):GF B x w B8:=
 ⟨a.os.trans h.os,a.tape.trans h.tape,a.output.trans h.output,Eg h.size a.size,fun i c b=>(a.block i (by omega) (fun e=>(hr i e.symm).elim (fun q=>by omega) (fun q=>b q))).trans (h.block i c b)⟩
theorem GF.of(h:Below B w W):GF B x w W:=⟨h.os,h.tape,h.output,h.size,fun i a _=>h.block i a⟩
structure HH (B x:Nat) (w:World) (q:Option Addr) (n c size:Nat) (xs:List Value):Prop where
 v:View w (.slice q n c) n size xs
 lt:∀a,q=some a→a.block<B∧a.block≠x
theorem HH.below(h:HH B x w q n c size xs)(d:GF B x w W):View W (.slice q n c) n size xs:=by
 refine⟨h.v.1,?_⟩
 rcases h.v.2 with z|⟨b,off,cap,a,h1,e,f,J,g⟩
 ·exact .inl z
 ·simp only[Value.slice.injEq]at a
  exact .inr ⟨b,off,cap,by simp[a],h1,e,f,Nat.lt_of_lt_of_le J d.size,g.Fm (d.block b (h.lt _ a.1).1 (h.lt _ a.1).2)⟩
theorem HH.move(h:HH B x w q n c size xs)(a:GF B x w W):HH B x W q n c size xs:=⟨h.below a,h.lt⟩
theorem HH.of{f:Option Addr}{g c' i:Nat}(h:View w (.slice q n c) n size xs)(d:B=w.heap.size)(e:∀a,q=some a→a.block≠x):HH B x w q n c size xs:=⟨h,fun a b=>⟨by rw[d];exact(GS.of h).lt a b,e a b⟩⟩
structure KV (B x:Nat) (w:World) (s:DM):Prop where
 ok:s.ok w
 lt:∀a,s.p=some a→a.block<B∧a.block≠x
theorem KV.FG(h:KV B x w s):HH B x w s.p s.v.length s.c 1 (bv s.v):=⟨h.ok,h.lt⟩
theorem KV.below(h:KV B x w s)(a:GF B x w W):s.ok W:=h.FG.below a
theorem KV.move(h:KV B x w s)(a:GF B x w W):KV B x W s:=⟨h.below a,h.lt⟩
end
structure Ly (B x:Nat) (w:World):Prop where
 g:DA w
 jH:20<B∧20≠x
 jK:22<B∧22≠x
 jX:21<B∧21≠x
theorem Ly.below{B x:Nat}(h:Ly B x w)(a:GF B x w W):DA W:=
 ⟨h.g.first.Fm (a.block _ h.jH.1 h.jH.2),Nat.lt_of_lt_of_le h.g.j3 a.size,h.g.consts.Fm (a.block _ h.jK.1 h.jK.2),Nat.lt_of_lt_of_le h.g.j5 a.size,h.g.div.Fm (a.block _ h.jX.1 h.jX.2),Nat.lt_of_lt_of_le h.g.j4 a.size⟩
theorem Ly.move{B x:Nat}(h:Ly B x w)(a:GF B x w W):Ly B x W:=⟨h.below a,h.jH,h.jK,h.jX⟩
theorem L8.at(h:L8 v u)(a:AtR n BA v)(hu:∀k,u.ownBlock=some k→k<n):L8 BA u:=
 fun k b e=>(a k b).elim (fun q=>h k q e) (fun q=>by have:=hu k e;omega)
structure Xj where
 p:Option Addr
 L:List IU
 c:Nat
def cx(x:Xj):List Value:=[.slice x.p x.L.length x.c]
structure Ul where
 wd:Nat
 ge:Nat
 kc:Nat
 Ad:Nat
 Ar:Nat
 kt:Option Addr
 kr:Nat
 ki:List Nat
 j8:Option Addr
 jI:Nat
 jS:List Bf
 qr:Option Addr
 jO:Nat
 jY:List B9
 ks:Option Addr
 j2:Nat
 j0:List Nat
 kq:Option Addr
 ko:Nat
 kl:List Xj
 Du:Option Addr
 ce:Nat
 kn:List Jc
structure NZ (x:Bf):Prop where
 z:x.kd≠2→x.l=0∧x.r=0
 b:x.l<4294967296∧x.r<4294967296∧x.lc<4294967296∧x.rc<4294967296
 n:x.s.v.length≤128
structure Sp (B x:Nat) (w:World) (z:Ul):Prop where
 k:HH B x w z.kt z.ki.length z.kr 1 (Aq Bm z.ki)
 n:HH B x w z.j8 z.jS.length z.jI 102 (Aq GI z.jS)
 r:HH B x w z.qr z.jY.length z.jO 38 (Aq Mv z.jY)
 a:HH B x w z.ks z.j0.length z.j2 1 (Aq Bm z.j0)
 t:HH B x w z.kq z.kl.length z.ko 1 (Aq cx z.kl)
 e:HH B x w z.Du 257 z.ce 32 (Aq EJ z.kn)
 el:z.kn.length=257
 GB:z.ki.length=z.kc
 nl:z.jS.length=z.kc
 kv:z.jY.length=z.kc
 KE:∀p∈z.j0,p<z.kc
 m:z.kc≤4096
 Bt:∀y∈z.jS,NZ y
 j1:∀y∈z.jS,KV B x w y.s
 Ah:∀y∈z.jY,y.v<4294967296∧y.f<4294967296∧y.ju<4294967296∧y.jt<4294967296∧y.r<4294967296∧y.c<4294967296
theorem Sp.move{B x:Nat}{z:Ul}(h:Sp B x w z)(b:GF B x w W):Sp B x W z:=
 ⟨h.k.move b,h.n.move b,h.r.move b,h.a.move b,h.t.move b,h.e.move b,h.el,h.GB,h.nl,h.kv,h.KE,h.m,h.Bt,fun y c=>(h.j1 y c).move b,h.Ah⟩
end Go.Proofs.YtaapafoibofbjaaGreatDoor
namespace Go.Proofs.YtaapafoibofbjaaGreatDoor
open Go.RowKit
end Go.Proofs.YtaapafoibofbjaaGreatDoor
namespace Go.Proofs.YtaapafoibofbjaaGreatDoor
open Go.RowKit
variable {X Y:Nat→Prop} {w W B8:World} {v BA u H8 v0 Oi:Value} {b Q k n m:Nat}
section
variable {size c:Nat} {q:Option Addr} {xs:List Value} {s:DM}
structure Iq (X:Nat→Prop) (w:World) (q:Option Addr) (n c size:Nat) (xs:List Value):Prop where
 v:View w (.slice q n c) n size xs
 ne:∀a,q=some a→¬X a.block
theorem Iq.lt(h:Iq X w q n c size xs):∀a,q=some a→a.block<w.heap.size:=(GS.of h.v).lt
theorem Iq.BC(h:Iq X w q n c size xs)(f:Cu X w W):View W (.slice q n c) n size xs:=by
 refine⟨h.v.1,?_⟩
 rcases h.v.2 with z|⟨b,off,cap,a,h1,d,e,J,g⟩
 ·exact .inl z
 ·simp only[Value.slice.injEq]at a
  exact .inr ⟨b,off,cap,by simp[a],h1,d,e,Nat.lt_of_lt_of_le J f.size,g.Fm (f.block b J (h.ne _ a.1))⟩
theorem Iq.next(h:Iq X w q n c size xs)(f:Cu X w W)(d:∀k,k<w.heap.size→Y k→X k):Iq Y W q n c size xs:=⟨h.BC f,fun a b y=>h.ne a b (d _ (h.lt a b) y)⟩
theorem Iq.mono(h:Iq X w q n c size xs)(d:∀k,k<w.heap.size→Y k→X k):Iq Y w q n c size xs:=⟨h.v,fun a b y=>h.ne a b (d _ (h.lt a b) y)⟩
structure IZ (X:Nat→Prop) (w:World) (s:DM):Prop where
 ok:s.ok w
 ne:∀a,s.p=some a→¬X a.block
theorem IZ.Zd(h:IZ X w s):Iq X w s.p s.v.length s.c 1 (bv s.v):=⟨h.ok,h.ne⟩
theorem IZ.next(h:IZ X w s)(f:Cu X w W)(a:∀k,k<w.heap.size→Y k→X k):IZ Y W s:=⟨(h.Zd.next f a).v,(h.Zd.next f a).ne⟩
theorem IZ.nil(X:Nat→Prop)(w:World):IZ X w NP:=⟨NP.isOk _,fun a b=>by cases b⟩
end
structure KN (X:Nat→Prop) (W:World) (jS:List Bf) (jY:List B9) (j0:List Nat) (p:Nat):Prop where
 n:∀y∈jS,NZ y
 s:∀y∈jS,IZ X W y.s
 r:∀y∈jY,y.v<4294967296∧y.f<4294967296∧y.ju<4294967296∧y.jt<4294967296∧y.r<4294967296∧y.c<4294967296
 a:∀y∈j0,y<p
theorem KN.next{c:List Bf}{d:List B9}{e:List Nat}{p g:Nat}(h:KN X w c d e p)(f:Cu X w W)(i:∀k,k<w.heap.size→Y k→X k)(j:p≤g):KN Y W c d e g:=
 ⟨h.n,fun y b=>(h.s y b).next f i,h.r,fun y b=>Nat.lt_of_lt_of_le (h.a y b) j⟩
theorem KN.add{b:List Bf}{d:List B9}{e:List Nat}{p:Nat}{x:Bf}{r:B9}(h:KN X w b d e p)(g:NZ x)(i:IZ X w x.s)(hr:r.v<4294967296∧r.f<4294967296∧r.ju<4294967296∧r.jt<4294967296∧r.r<4294967296∧r.c<4294967296):KN X w (b++[x]) (d++[r]) e p:=
 ⟨TD h.n g,TD h.s i,TD h.r hr,h.a⟩
theorem KN.succ{b:List Bf}{c:List B9}{d:List Nat}{p:Nat}(h:KN X w b c d p):KN X w b c d (p+1):=⟨h.n,h.s,h.r,fun y e=>Nat.lt_succ_of_lt (h.a y e)⟩
theorem NZ.zero:NZ ⟨0,0,0,0,0,CU,CU,CU,NP⟩:=⟨fun _=>⟨D,D⟩,by dsimp only;omega,Nat.zero_le _⟩
end Go.Proofs.YtaapafoibofbjaaGreatDoor
namespace Go.Proofs.YtaapafoibofbjaaGreatDoor
open Go.RowKit
end Go.Proofs.YtaapafoibofbjaaGreatDoor
namespace Go.Proofs.YtaapafoibofbjaaGreatDoor
open Go.RowKit
variable {X Y:Nat→Prop} {w W B8:World} {v BA u H8 v0 Oi:Value} {b Q k n m:Nat}
end Go.Proofs.YtaapafoibofbjaaGreatDoor
namespace Go.Proofs.YtaapafoibofbjaaGreatDoor
open Go.RowKit
def S6(x y u:Fr.Bu):Prop:=(x.g=y.g+1∧y.m≤x.m∧u=x)∨(y.g=x.g+1∧x.m≤y.m∧u=y)
end Go.Proofs.YtaapafoibofbjaaGreatDoor
namespace Go.Proofs.YtaapafoibofbjaaGreatDoor
open Go.RowKit
variable {X Y:Nat→Prop} {w W B8:World} {v BA u H8 v0 Oi:Value} {b Q k n m:Nat}
theorem Ly.of(h:DA w)(a:Below w.heap.size w W)(J:w.heap.size≤Q):Ly W.heap.size Q W:=
 ⟨h.below a (Br _),⟨Nat.lt_of_lt_of_le h.j3 a.size,by have:=h.j3;omega⟩,⟨Nat.lt_of_lt_of_le h.j5 a.size,by have:=h.j5;omega⟩,⟨Nat.lt_of_lt_of_le h.j4 a.size,by have:=h.j4;omega⟩⟩
end Go.Proofs.YtaapafoibofbjaaGreatDoor
namespace Go.Proofs.YtaapafoibofbjaaGreatDoor
open Go.RowKit
section
variable {P:Program} {a:Act} {N:Nat} {f:BW} {ty:TypeId} {pos:String} {An:Array Edge} {dst:Option Tmp} {g:Option (Nat×Bool)}
end
end Go.Proofs.YtaapafoibofbjaaGreatDoor
namespace Go.Proofs.YtaapafoibofbjaaGreatDoor
open Go.RowKit
set_option maxRecDepth 100000
set_option maxHeartbeats 1000000
end Go.Proofs.YtaapafoibofbjaaGreatDoor
namespace Go.Proofs.YtaapafoibofbjaaGreatDoor.F9
open Go.Proofs.YtaapafoibofbjaaGreatDoor
set_option linter.unusedVariables false
def RG(B i:Nat):Bool:=Nat.beq (Nat.mod (Nat.shiftRight B i) 2) 0
noncomputable def ZB(x:Nat)(l:List Nat):Bool:=@List.rec Nat (fun _=>Bool) true (fun e _ a=>cond (Nat.beq x e) false a) l
noncomputable def row(T:Nat→Bool)(y:Nat)(l:List Nat):Bool:=@List.rec Nat (fun _=>Bool) true (fun e _ a=>cond (T (Nat.xor y e)) a false) l
noncomputable def rows(T:Nat→Bool)(z:Nat)(l:List Nat)(n:Nat):Bool:=@Nat.rec (fun _=>List Nat→Bool) (fun _=>true) (fun _ a l=>@List.rec Nat (fun _=>Bool) true (fun e t _=>cond (row T (Nat.xor z e) t) (a t) false) l) n l
noncomputable def bh(n:Nat):Nat→List Nat:=@Nat.rec (fun _=>Nat→List Nat) (fun _=>[]) (fun _ a x=>x::a (cond (Nat.beq (Nat.mod x 2) 1) (Nat.xor (Nat.div x 2) 3988292384) (Nat.div x 2))) n
noncomputable def es:List Nat:=bh 2048 2147483648
noncomputable def OO(f:Nat→Nat)(l:List Nat):Nat:=@List.rec Nat (fun _=>Nat) 1 (fun e _ a=>Nat.lor a (Nat.shiftLeft 1 (f e))) l
noncomputable def Bj:Nat:=OO (fun x=>Nat.mod x 65536) es
noncomputable def Di:Nat:=OO (fun x=>Nat.div x 65536) es
noncomputable def K9:Nat:=OO (fun x=>Nat.mod x 65521) es
noncomputable def T(x:Nat):Bool:=cond (RG Bj (Nat.mod x 65536)) true (cond (RG Di (Nat.div x 65536)) true (cond (RG K9 (Nat.mod x 65521)) true (cond (Nat.beq x 0) false (ZB x es))))
end Go.Proofs.YtaapafoibofbjaaGreatDoor.F9
namespace Go.Proofs.YtaapafoibofbjaaGreatDoor.F9
set_option maxRecDepth 1000000 in
theorem EF:rows T 2147483648 (es.drop 1) 275=true:=by decide+kernel
end Go.Proofs.YtaapafoibofbjaaGreatDoor.F9
namespace Go.Proofs.YtaapafoibofbjaaGreatDoor.F9
set_option maxRecDepth 1000000 in
theorem Ev:rows T 2147483648 (es.drop 276) 325=true:=by decide+kernel
end Go.Proofs.YtaapafoibofbjaaGreatDoor.F9
namespace Go.Proofs.YtaapafoibofbjaaGreatDoor.F9
set_option maxRecDepth 1000000 in
theorem Kw:rows T 2147483648 (es.drop 601) 424=true:=by decide+kernel
end Go.Proofs.YtaapafoibofbjaaGreatDoor.F9
namespace Go.Proofs.YtaapafoibofbjaaGreatDoor.F9
set_option maxRecDepth 1000000 in
theorem HQ:rows T 2147483648 (es.drop 1025) 1023=true:=by decide+kernel
end Go.Proofs.YtaapafoibofbjaaGreatDoor.F9
namespace Go.Proofs.YtaapafoibofbjaaGreatDoor.F9
open Go.Proofs.YtaapafoibofbjaaGreatDoor
set_option linter.unusedVariables false
def Ce(l:List UInt8)(a:List Nat):List UInt8:=a.foldl At.bit l
theorem hh(l:List UInt8):Ce l []=l:=rfl
theorem hp(l:List UInt8)(j:Nat)(a:List Nat):Ce l (j::a)=Ce (At.bit l j) a:=rfl
theorem hZ(l:List UInt8)(j:Nat)(a:List Nat):Ce l (a++[j])=At.bit (Ce l a) j:=by unfold Ce;rw[List.foldl_append];rfl
theorem XZ{d j:Nat}:∀(l:List (Nat×Nat)),At.last l d=some j→(d,j)∈l:=by
 have:∀(l:List (Nat×Nat)) (o:Option Nat),l.foldl (fun o p=>if p.1=d then some p.2 else o) o=some j→o=some j∨(d,j)∈l:=by
  intro l
  induction l with
  |nil=>intro o h;exact .inl h
  |cons p l a=>
   intro o h
   rw[List.foldl_cons]at h
   rcases a _ h with q|q
   ·split at q
    ·rename_i e
     cases q
     exact .inr (by rw[←e];simp)
    ·exact .inl q
   ·exact .inr (by simp[q])
 intro l h
 exact(this l none h).resolve_left (by simp)
theorem e_(n:Nat):∀k,k≤n→∀d j,(d,j)∈At.rows n k↔∃c i,c<k∧i<8∧d=At.made c i∧j=8*(n - 1 - c)+i:=by
 intro k
 induction k with
 |zero=>
  intro _ d j
  constructor
  ·intro h
   have l:(d,j)∈([]:List (Nat×Nat)):=h
   cases l
  ·rintro⟨c,i,h,_⟩
   omega
 |succ k m=>
  intro o d j
  show(d,j)∈At.rows n k++At.rowOf n k 8↔_
  rw[List.mem_append,m (by omega) d j]
  unfold At.rowOf
  rw[List.mem_map]
  constructor
  ·rintro(⟨c,i,h1,a,b,f⟩|⟨i,g,e⟩)
   ·exact⟨c,i,by omega,a,b,f⟩
   ·rw[List.mem_range]at g
    cases e
    exact⟨k,i,by omega,g,D,D⟩
  ·rintro⟨c,i,h1,a,b,f⟩
   rcases Nat.lt_or_ge c k with q|q
   ·exact .inl ⟨c,i,q,a,b,f⟩
   ·obtain rfl:c=k:=by omega
    exact .inr ⟨i,List.mem_range.2 a,by rw[b,f]⟩
theorem Yd(n d j:Nat):(d,j)∈At.EG n↔j<8*n+32∧d=At.PD n j:=by
 unfold At.EG
 rw[List.mem_append,e_ n n (Br _)]
 unfold At.tail
 rw[List.mem_map]
 constructor
 ·rintro(⟨c,i,h1,b,rfl,rfl⟩|⟨i,a,e⟩)
  ·refine⟨by omega,?_⟩
   unfold At.PD
   rw[if_pos (by omega),show n - 1 - (8*(n - 1 - c)+i)/8=c by omega,show(8*(n - 1 - c)+i) % 8=i by omega]
  ·rw[List.mem_range]at a
   cases e
   refine⟨by omega,?_⟩
   unfold At.PD
   rw[if_neg (by omega),show 8*n+i - 8*n=i by omega]
 ·rintro⟨h,rfl⟩
  unfold At.PD
  by_cases q:j<8*n
  ·rw[if_pos q]
   exact .inl ⟨n - 1 - j/8,j % 8,by omega,by omega,D,by omega⟩
  ·rw[if_neg q]
   exact .inr ⟨j - 8*n,List.mem_range.2 (by omega),by rw[show 8*n+(j - 8*n)=j by omega]⟩
end Go.Proofs.YtaapafoibofbjaaGreatDoor.F9
namespace Go.Proofs.YtaapafoibofbjaaGreatDoor
open Go.RowKit
variable {X Y:Nat→Prop} {w W B8:World} {v BA u H8 v0 Oi:Value} {b Q k n m:Nat}
structure Ql where
 p:Option Addr
 L:List MN
 c:Nat
structure Ql.ok (W:World) (x:Ql):Prop where
 v:x.L.length≠0→View W (.slice x.p x.L.length x.c) x.L.length 34 (Aq g6 x.L)
 s:∀e∈x.L,DM.OS W e.s
theorem Ql.ok.below{x:Ql}(h:x.ok W)(a:Below W.heap.size W B8):x.ok B8:=⟨fun q=>(h.v q).below a,fun e he=>(h.s e he).below a D⟩
structure im (m EW:FZ) (c:Nat):Prop where
 o:EW.Pairwise (fun x y=>FT x.1 y.1<0)
 l:∀e∈EW,e.1.length=32
 n:EW.length≤m.length+c
 ke:∃ke:List (List UInt8),ke.length=c∧(∀e∈EW,e∈m∨e.1∈ke)∧(∀e∈m,e∈EW∨e.1∈ke)
 z:c=0→EW=m
inductive N8:List FZ→FZ→Nat→Prop
 |nil:N8 [] [] 0
 |snoc {ms:List FZ} {m EW:FZ} {t c:Nat} (h:N8 ms m t) (s:im m EW c):N8 (ms++[EW]) EW (t+c)
theorem N8.len{ms:List FZ}{m:FZ}{t:Nat}(h:N8 ms m t):m.length≤t:=by
 induction h with
 |nil=>exact Br _
 |snoc h s a=>have:=s.n;omega
structure LL (X:Nat→Prop) (W:World) (x:Hd):Prop where
 v:Iq X W x.p x.L.length x.c 33 (Aq J4 x.L)
 s:∀e∈x.L,IZ X W e.s
 o:x.L.Pairwise LZ
 n:∀e∈x.L,e.s.v.length≤128
theorem LL.next{x:Hd}(h:LL X w x)(f:Cu X w W)(a:∀k,k<w.heap.size→Y k→X k):LL Y W x:=⟨h.v.next f a,fun e he=>(h.s e he).next f a,h.o,h.n⟩
theorem LL.nil(X:Nat→Prop)(W:World):LL X W ⟨none,[],0⟩:=⟨⟨⟨Br _,.inl ⟨D,D,D⟩⟩,fun a b=>by cases b⟩,(fun e he=>by cases he),.nil,(fun e he=>by cases he)⟩
theorem LL.ok{x:Hd}(h:LL X W x):Hd.ok W x:=⟨h.v.v,fun e he=>(h.s e he).ok,h.o,h.n⟩
end Go.Proofs.YtaapafoibofbjaaGreatDoor
namespace Go.Proofs.YtaapafoibofbjaaGreatDoor
open Go.RowKit
theorem iy(n:Nat):∀(v i:Nat),i<n→(Ref.Dd v n).getD i 0=UInt8.ofNat (v/256^i):=by
 induction n with
 |zero=>intro v i h;omega
 |succ n a=>
  intro v i h
  cases i with
  |zero=>
   show UInt8.ofNat (v % 256)=UInt8.ofNat (v/256^0)
   apply UInt8.toNat_inj.1
   simp
  |succ i=>
   have:=a (v/256) i (by omega)
   simp only[Ref.Dd,List.getD_cons_succ]
   rw[this,Nat.div_div_eq_div_mul,Nat.pow_succ,Nat.mul_comm]
theorem gU{a b:List UInt8}{n i:Nat}(h:a.length=n):(a++b).getD (n+i) 0=b.getD i 0:=by
 subst h
 rw[List.getD_eq_getElem?_getD,List.getD_eq_getElem?_getD,List.getElem?_append_right (by omega),Nat.add_sub_cancel_left]
theorem WK{l:List UInt8}{n:Nat}(h:l.length=n):At.C5 (Ref.HM l) n=0:=by
 rw[cQ]
 intro i a
 unfold Ref.HM
 rw[gU h,iy 4 _ i a,List.take_left' h,Nat.pow_mul]
theorem Fx{Bo:Type}{a b:List Bo}{n k:Nat}(h:a.length=n)(c:n≤k:=by decide):(a++b).drop k=b.drop (k - n):=by
 rw[List.drop_append,List.drop_of_length_le (by omega),h];rfl
def Iu(s:Fr.Bu):List UInt8:=[76,68,71,49,UInt8.ofNat s.w,0,0,0]++(Ref.Dd s.g 8++(Ref.Dd s.m 4++(Ref.Dd s.h 4++(Ref.Dd s.p 4++List.replicate 32 0))))
theorem Oe(s:Fr.Bu):(Iu s).length=60:=by simp[Iu,Ref.Fo]
theorem Pj(s:Fr.Bu):Ref.EC s=Ref.HM (Iu s)++List.replicate 192 0:=by
 have e:Ref.fill ([76,68,71,49,UInt8.ofNat s.w,0,0,0]++Ref.Dd s.g 8++Ref.Dd s.m 4++Ref.Dd s.h 4++Ref.Dd s.p 4) 60=Iu s:=by
  unfold Ref.fill Iu
  rw[List.take_of_length_le (by simp[Ref.Fo])]
  simp[Ref.Fo]
 unfold Ref.EC
 rw[e]
 unfold Ref.fill
 rw[List.take_of_length_le (by rw[Ref.Oc,Oe];decide),Ref.Oc,Oe]
theorem N0(s:Fr.Bu):(Ref.EC s).drop 64=List.replicate 192 0:=by
 rw[Pj,List.drop_left' (by rw[Ref.Oc,Oe])]
theorem SH{s:Fr.Bu}(V:Fr.DE s=true):I7 (Ref.EC s) s:=by
 have b:(Ref.EC s).take 64=Ref.HM (Iu s):=by
  rw[Pj]
  exact List.take_left' (by rw[Ref.Oc,Oe])
 have J:=V
 simp only[Fr.DE,Bool.and_eq_true,decide_eq_true_eq]at J
 obtain⟨⟨⟨⟨⟨⟨⟨d,f⟩,i⟩,j⟩,k⟩,l⟩,n⟩,c⟩:=J
 have o:s.h<4096:=by
  simp only[Bool.or_eq_true,Bool.and_eq_true,decide_eq_true_eq]at c
  omega
 have e:Ref.EC s=[76,68,71,49,UInt8.ofNat s.w,0,0,0]++(Ref.Dd s.g 8++(Ref.Dd s.m 4++(Ref.Dd s.h 4++(Ref.Dd s.p 4++(List.replicate 32 0++(Ref.Dd (At.sum (Iu s)) 4++List.replicate 192 0)))))):=by
  rw[Pj]
  unfold Ref.HM Iu
  simp only[List.append_assoc]
 have a:([76,68,71,49,UInt8.ofNat s.w,0,0,0]:List UInt8).length=8:=D
 refine⟨Ref.b7 s,by rw[b];exact WK (Oe s),by rw[e];rfl,by rw[e];rfl,by rw[e];rfl,by rw[e];rfl,by rw[e];rfl,?_,?_,?_,?_,?_,?_,V⟩
 ·rw[e,Fx a,Fx (Ref.Fo 8 _),Fx (Ref.Fo 4 _),Fx (Ref.Fo 4 _),Fx (Ref.Fo 4 _)]
  rfl
 ·rw[e]
  show(UInt8.ofNat s.w).toNat=s.w
  simp;omega
 ·rw[e,Fx a,List.drop_zero,List.take_left' (Ref.Fo 8 _),Ref.N9]
  omega
 ·rw[e,Fx a,Fx (Ref.Fo 8 _),List.drop_zero,List.take_left' (Ref.Fo 4 _),Ref.N9]
  omega
 ·rw[e,Fx a,Fx (Ref.Fo 8 _),Fx (Ref.Fo 4 _),List.drop_zero,List.take_left' (Ref.Fo 4 _),Ref.N9]
  omega
 ·rw[e,Fx a,Fx (Ref.Fo 8 _),Fx (Ref.Fo 4 _),Fx (Ref.Fo 4 _),List.drop_zero,List.take_left' (Ref.Fo 4 _),Ref.N9]
  omega
theorem aN{kd p:Nat}{l:List UInt8}(a:2≤p∧p<4096)(f:1≤kd)(g:kd≤3)(hl:l.length≤246):Fr.CZ p (Ref.Gc kd p l)=true:=by
 have b:([UInt8.ofNat kd,UInt8.ofNat l.length]++Ref.Dd p 4++l).length=6+l.length:=by simp[Ref.Fo];omega
 have c:Ref.fill ([UInt8.ofNat kd,UInt8.ofNat l.length]++Ref.Dd p 4++l) 252=([UInt8.ofNat kd,UInt8.ofNat l.length]++Ref.Dd p 4++l)++List.replicate (252 - (6+l.length)) 0:=by
  unfold Ref.fill
  rw[List.take_of_length_le (by omega),b]
 have e:Ref.Gc kd p l=[UInt8.ofNat kd,UInt8.ofNat l.length]++(Ref.Dd p 4++(l++(List.replicate (252 - (6+l.length)) 0++Ref.Dd (At.sum (Ref.fill ([UInt8.ofNat kd,UInt8.ofNat l.length]++Ref.Dd p 4++l) 252)) 4))):=by
  unfold Ref.Gc Ref.HM
  conv=>lhs;arg 1;rw[c]
  simp only[List.append_assoc]
 have h:((Ref.Gc kd p l).getD 0 0).toNat=kd:=by rw[e];show(UInt8.ofNat kd).toNat=kd;simp;omega
 have d:((Ref.Gc kd p l).getD 1 0).toNat=l.length:=by rw[e];show(UInt8.ofNat l.length).toNat=l.length;simp;omega
 refine b0 p _ a (by omega) (by omega) (by omega) ?_ ?_ ?_
 ·rw[e,Fx (n:=2) D,List.drop_zero,List.take_left' (Ref.Fo 4 _),Ref.N9]
  omega
 ·exact WK (Ref.Nn _ _)
 ·rw[d,e,Fx (n:=2) D (by omega),Fx (Ref.Fo 4 _) (by omega),Fx D (by omega)]
  rw[show 6+l.length - 2 - 4 - l.length=0 by omega,List.drop_zero,List.take_left' (by simp)]
  simp[Fr.CN]
structure PZ (l:List UInt8) (n mk:Nat):Prop where
 kp:∀j,j<2→((l.drop (256*j)).take 256).drop 64=List.replicate 192 0
 j':∃x y u:Fr.Bu,n=256*u.p∧(3≤u.p∧u.p≤4096)∧(2≤u.m∧u.m≤u.p)∧u.m=mk∧I7 ((l.drop (256*0)).take 256) x∧I7 ((l.drop (256*1)).take 256) y∧x.g % 2=0∧y.g % 2=1∧x.w=y.w∧x.p=y.p∧S6 x y u
 len:l.length=n
 Ar:∀j,2≤j→j<mk→∃kd B1,(l.drop (256*j)).take 256=Ref.Gc kd j B1∧1≤kd∧kd≤3∧B1.length≤246
theorem Vg{w g m p:Nat}(hw:1≤w∧w≤32)(b:g≤1099511627776)(hm:2≤m)(c:m≤p)(a:3≤p∧p≤4096):Fr.DE ⟨w,g,m,JX m,p⟩=true:=by
 have h:JX m=0∨(2≤JX m∧JX m<m):=by unfold JX;split<;>omega
 simp only[Fr.DE,Bool.and_eq_true,Bool.or_eq_true,decide_eq_true_eq]
 exact⟨⟨⟨⟨⟨⟨⟨hw.1,hw.2⟩,b⟩,a.1⟩,a.2⟩,hm⟩,c⟩,h⟩
theorem iU{wd g mark Kh Ar:Nat}{L:List UInt8}(hw:1≤wd∧wd≤32)(r:1≤g∧g≤1099511627776)(J:2≤Kh∧Kh≤mark)(hm:mark≤Ar∧3≤Ar∧Ar≤4096)(c:Lo L mark):PZ (LN wd g mark Kh Ar L++List.replicate (256*(Ar - mark)) 0) (256*Ar) mark:=by
 have v1:=SH (Vg (m:=Kh) (p:=Ar) (g:=g - 1) hw (by omega) J.1 (by omega) hm.2)
 have v2:=SH (Vg (m:=mark) (p:=Ar) (g:=g) hw r.2 (by omega) hm.1 hm.2)
 obtain⟨AE,a,x,y,u,s,t,EF,i,k,v,z,A,B,C,l,d⟩:∃AE a:List UInt8,∃x y u:Fr.Bu,LN wd g mark Kh Ar L=AE++a++L∧AE.drop 64=List.replicate 192 0∧a.drop 64=List.replicate 192 0∧I7 AE x∧I7 a y∧x.g % 2=0∧y.g % 2=1∧x.w=y.w∧x.p=y.p∧S6 x y u∧u.m=mark∧u.p=Ar:=by
  unfold LN
  by_cases h:g % 2=1
  ·rw[if_pos h]
   exact⟨_,_,_,_,_,D,N0 _,N0 _,v1,v2,by dsimp only;omega,h,D,D,.inr ⟨by dsimp only;omega,J.2,D⟩,D,D⟩
  ·rw[if_neg h]
   exact⟨_,_,_,_,_,D,N0 _,N0 _,v2,v1,by dsimp only;omega,by dsimp only;omega,D,D,.inl ⟨by dsimp only;omega,J.2,D⟩,D,D⟩
 have b:=i.len
 have f:=k.len
 have e:LN wd g mark Kh Ar L++List.replicate (256*(Ar - mark)) 0=AE++(a++(L++List.replicate (256*(Ar - mark)) 0)):=by
  rw[s];simp only[List.append_assoc]
 have o:((LN wd g mark Kh Ar L++List.replicate (256*(Ar - mark)) 0).drop (256*0)).take 256=AE:=by
  rw[e,Nat.mul_zero,List.drop_zero,List.take_left' b]
 have q:((LN wd g mark Kh Ar L++List.replicate (256*(Ar - mark)) 0).drop (256*1)).take 256=a:=by
  rw[e,Fx b (by omega),show 256*1 - 256=0 from D,List.drop_zero,List.take_left' f]
 refine⟨?_,⟨x,y,u,by rw[d],by rw[d];exact hm.2,by rw[l,d];omega,l,by rw[o];exact i,by rw[q];exact k,v,z,A,B,C⟩,?_,?_⟩
 ·intro j hj
  match j,hj with
  |0,_=>rw[o];exact t
  |1,_=>rw[q];exact EF
 ·rw[e]
  simp only[List.length_append,List.length_replicate,b,f,c.n]
  omega
 ·intro j E hj
  obtain⟨kd,B1,h,F⟩:=c.p j E hj
  refine⟨kd,B1,?_,F⟩
  have G:=c.n
  rw[e,Fx b (by omega),Fx f (by omega),List.drop_append_of_le_length (by omega),List.take_append_of_le_length (by rw[List.length_drop];omega),show 256*j - 256 - 256=256*(j - 2)by omega]
  exact h
end Go.Proofs.YtaapafoibofbjaaGreatDoor
