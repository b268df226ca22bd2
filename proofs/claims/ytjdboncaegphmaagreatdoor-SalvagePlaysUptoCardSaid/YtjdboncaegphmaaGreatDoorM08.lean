/- Laws and walks on the road to SalvagePlays (part M08). No conditions beyond each law's own. -/
import Derived.Test.YtjdboncaegphmaaGreatDoorM07
set_option linter.unusedVariables false
namespace Go.Proofs.YtjdboncaegphmaaGreatDoor
open Go.RowKit
set_option maxRecDepth 100000
set_option maxHeartbeats 2000000
variable {v BA:Value} {size n e:Nat} {xs:List Value} {W:World}
structure Atom where
 u1:Nat→Prop
 holds:World→Prop
 lt:∀w,holds w→∀k,u1 k→k<w.heap.size
 loc:∀w w',holds w→w.heap.size≤w'.heap.size→(∀k,u1 k→w'.heap[k]? =w.heap[k]?)→holds w'
def O(b:Nat)(ss:List (List Value))(T:TypeId):Atom:=⟨fun k=>k=b,fun w=>w.heap[b]? =some (.cells (flat ss) T (0,0)),fun w h k e=>by subst e;exact DC h,fun w w' h _ e=>(e b D).trans h⟩
def Ae(e:TypeId)(size:Nat)(v:Value)(n:Nat)(xs:List Value):Atom:=
 ⟨fun k=>v.ownBlock=some k,fun w=>w.ownsRow 0 e size v n xs,fun w h k q=>(h.lt k q).2,fun w w' h _ q=>⟨h.1,by
   rcases h.2 with z|⟨g,cap,cur,h1,J,a,r⟩
   ·exact .inl z
   ·exact .inr ⟨g,cap,cur,h1,J,(q g (by rw[h1];rfl)).trans a,r⟩⟩⟩
structure C7 (F:Nat→Prop) (w0 w:World):Prop where
 os:w.os=w0.os
 tape:w.tape=w0.tape
 output:w.output=w0.output
 size:w0.heap.size≤w.heap.size
 block:∀k,k<w0.heap.size→¬F k→w.heap[k]? =w0.heap[k]?
theorem C7.refl(F:Nat→Prop)(w:World):C7 F w w:=⟨D,D,D,Br _,fun _ _ _=>rfl⟩
theorem C7.trans{F BO:Nat→Prop}{a b c:World}(h:C7 F a b)(d:C7 BO b c)(g:∀k,BO k→k<a.heap.size→F k):C7 F a c:=
 ⟨d.os.trans h.os,d.tape.trans h.tape,d.output.trans h.output,Eg h.size d.size,fun k e f=>(d.block k (Wb e h.size) (fun y=>f (g k y e))).trans (h.block k e f)⟩
theorem C7.Ot{F:Nat→Prop}{w:World}(J:Below w.heap.size w W):C7 F w W:=⟨J.os,J.tape,J.output,J.size,fun k a _=>J.block k a⟩
theorem C7.below{w:World}(h:C7 (fun _=>False) w W):Below w.heap.size w W:=⟨h.os,h.tape,h.output,h.size,fun k a=>h.block k a id⟩
theorem C7.grown{w:World}{b:Nat}(g:w.grownBy W (some b)):C7 (fun k=>k=b) w W:=⟨g.os,g.tape,g.output,g.size,fun k a c=>g.block k a (fun e=>c (by cases e;rfl))⟩
theorem C7.Ny{w:World}(BO:D0 w W v BA):C7 (fun k=>v.ownBlock=some k) w W:=⟨BO.Bg.os,BO.Bg.tape,BO.Bg.output,BO.Bg.size,fun k a b=>BO.Bg.block k a (fun e=>b e.symm)⟩
structure Sat (F:Nat→Prop) (w0:World) (H:List Atom) (w:World):Prop where
 GA:C7 F w0 w
 at_:∀(i:Nat) (A:Atom),H[i]? =some A→A.holds w
 u4:∀(i:Nat) (A:Atom),H[i]? =some A→∀k,A.u1 k→F k∨w0.heap.size≤k
 u_:∀(i j:Nat) (A A':Atom),i≠j→H[i]? =some A→H[j]? =some A'→∀k,A.u1 k→¬A'.u1 k
abbrev C1:Nat→Prop:=fun _=>False
def A6(H:List Atom):Nat→Prop:=fun k=>∃(i:Nat) (A:Atom),H[i]? =some A∧A.u1 k
variable {F BO:Nat→Prop} {w0 w w':World} {H H':List Atom}
theorem Sat.start(F:Nat→Prop)(w:World):Sat F w [] w:=⟨C7.refl _ _,fun i A h=>by simp at h,fun i A h=>by simp at h,fun i j A A' _ h=>by simp at h⟩
structure BE (H:List Atom) (w:World):Prop where
 at_:∀(i:Nat) (A:Atom),H[i]? =some A→A.holds w
 u_:∀(i j:Nat) (A A':Atom),i≠j→H[i]? =some A→H[j]? =some A'→∀k,A.u1 k→¬A'.u1 k
theorem Sat.begin(h:BE H w):Sat (A6 H) w H w:=⟨C7.refl _ _,h.at_,fun i A q k a=>.inl ⟨i,A,q,a⟩,h.u_⟩
theorem Sat.hold(h:Sat F w0 H w):BE H w:=⟨h.at_,h.u_⟩
theorem Sat.Dq{b T:Nat}{ss:List (List Value)}(h:Sat F w0 H w)(i:Nat)(V:H[i]? =some (O b ss T):=by exact rfl):w.heap[b]? =some (.cells (flat ss) T (0,0)):=h.at_ i _ V
theorem Sat.rw(h:Sat F w0 H w)(i:Nat)(V:H[i]? =some (Ae e size v n xs):=by exact rfl):w.ownsRow 0 e size v n xs:=h.at_ i _ V
theorem Sat.pick(h:Sat F w0 H w)(BI:List Nat)(e:BI.map (fun i=>H[i]?)=H'.map some:=by exact rfl)(c:BI.Nodup:=by decide):Sat F w0 H' w:=by
 have key:∀(p:Nat) (A:Atom),H'[p]? =some A→∃i,BI[p]? =some i∧H[i]? =some A:=by
  intro p A a;have:=congrArg (fun l=>l[p]?) e;simp only[ti,a,Ph]at this;cases b:BI[p]? with
  |none=>rw[b]at this;cases this
  |some i=>
   rw[b]at this;exact⟨i,D,by simpa using this⟩
 refine⟨h.GA,fun p A a=>?_,fun p A a=>?_,fun p q A A' m a b=>?_⟩
 ·obtain⟨i,_,V⟩:=key p A a;exact h.at_ i A V
 ·obtain⟨i,_,V⟩:=key p A a;exact h.u4 i A V
 ·obtain⟨i,h1,V⟩:=key p A a;obtain⟨j,n,hj⟩:=key q A' b;refine h.u_ i j A A' (fun e=>?_) V hj;subst e;obtain⟨d,f⟩:=EH.1 h1;obtain⟨g,k⟩:=EH.1 n
  rcases od p q with z|z|z
  ·exact(n6.1 (List.nodup_iff_pairwise_ne.1 c) p q d g z) (f.trans k.symm)
  ·exact m z
  ·exact(n6.1 (List.nodup_iff_pairwise_ne.1 c) q p g d z) (k.trans f.symm)
theorem Sat.call{H1 H2 Gm:List Atom}(h:Sat F w0 (H1++H2) w)(c:Sat (A6 H1) w Gm w'):Sat F w0 (Gm++H2) w':=by
 have hr:∀(j:Nat) (A:Atom),H2[j]? =some A→(H1++H2)[H1.length+j]? =some A:=fun j A q=>by rw[UP JY,Zm];exact q
 have hl:∀(j:Nat) (A:Atom),H1[j]? =some A→(H1++H2)[j]? =some A:=fun j A q=>by rw[V5 (EH.1 q).1];exact q
 have tJ:∀(j:Nat) (A:Atom),H2[j]? =some A→∀k,A.u1 k→¬A6 H1 k:=by
  rintro j A q k a ⟨i,A',V,b⟩;exact h.u_ i (H1.length+j) A' A (by have:=(EH.1 V).1;omega) (hl i A' V) (hr j A q) k b a
 have cs:∀(i:Nat) (A:Atom),(Gm++H2)[i]? =some A→Gm[i]? =some A∨(Gm.length≤i∧H2[i - Gm.length]? =some A):=by
  intro i A q
  rcases s9 i Gm.length with l|l
  ·rw[V5 l]at q;exact .inl q
  ·rw[UP l]at q;exact .inr ⟨l,q⟩
 have DB:∀(j:Nat) (A:Atom),H2[j]? =some A→A.holds w':=fun j A q=>A.loc w w' (h.at_ _ A (hr j A q)) c.GA.size (fun k a=>c.GA.block k (A.lt w (h.at_ _ A (hr j A q)) k a) (tJ j A q k a));have new:∀(i:Nat) (A:Atom),Gm[i]? =some A→∀k,A.u1 k→A6 H1 k∨w.heap.size≤k:=c.u4;have apart:∀(i j:Nat) (A A':Atom),Gm[i]? =some A→H2[j]? =some A'→∀k,A.u1 k→¬A'.u1 k:=by
  intro i j A A' V hj k a b
  rcases new i A V k a with q|q
  ·exact tJ j A' hj k b q
  ·have:=A'.lt w (h.at_ _ A' (hr j A' hj)) k b;omega
 refine⟨h.GA.trans c.GA (fun k ⟨i,A,V,a⟩ r=>(h.u4 i A (hl i A V) k a).resolve_right JY),fun i A q=>?_,fun i A q k a=>?_,fun i j A A' m V hj k a=>?_⟩
 ·rcases cs i A q with q|⟨_,q⟩
  ·exact c.at_ i A q
  ·exact DB _ A q
 ·rcases cs i A q with q|⟨_,q⟩
  ·rcases new i A q k a with⟨g,A',n,b⟩|z
   ·exact h.u4 g A' (hl g A' n) k b
   ·have:=h.GA.size;exact .inr JY
  ·exact h.u4 _ A (hr _ A q) k a
 ·rcases cs i A V with p|⟨s,p⟩
  ·rcases cs j A' hj with q|⟨o,q⟩
   ·exact c.u_ i j A A' m p q k a
   ·exact apart _ _ A A' p q k a
  ·rcases cs j A' hj with q|⟨o,q⟩
   ·exact fun b=>apart _ _ A' A q p k b a
   ·exact h.u_ _ _ A A' JY (hr _ A p) (hr _ A' q) k a
theorem Sat.mono(h:Sat F w0 H w)(hF:∀k,F k→BO k):Sat BO w0 H w:=⟨⟨h.GA.os,h.GA.tape,h.GA.output,h.GA.size,fun k a b=>h.GA.block k a (fun q=>b (hF k q))⟩,h.at_,fun i A q k a=>(h.u4 i A q k a).imp (hF k) id,h.u_⟩
theorem Sat.Nk{Gm:List Atom}(h:Sat F w0 H w)(c:Sat C1 w Gm w'):Sat F w0 (Gm++H) w':=Sat.call (H1:=[]) h (c.mono (fun _ q=>q.elim))
theorem Sat.set{A A':Atom}(h:Sat F w0 H w)(i:Nat)(V:H[i]? =some A)(g:C7 A.u1 w w')(s:A'.holds w')(m:∀k,A'.u1 k→A.u1 k∨w.heap.size≤k):Sat F w0 (H.set i A') w':=by
 have hl:i<H.length:=(EH.1 V).1;have cs:∀(j:Nat) (X:Atom),(H.set i A')[j]? =some X→(j=i∧X=A')∨(j≠i∧H[j]? =some X):=by
  intro j X q;rw[jz]at q
  by_cases e:i=j
  ·subst e;rw[if_pos D,if_pos hl]at q;cases q;exact .inl ⟨D,D⟩
  ·rw[if_neg e]at q;exact .inr ⟨fun z=>e z.symm,q⟩
 have tJ:∀(j:Nat) (X:Atom),j≠i→H[j]? =some X→∀k,X.u1 k→¬A.u1 k:=fun j X c q k a=>h.u_ j i X A c q V k a;have apart:∀(j:Nat) (X:Atom),j≠i→H[j]? =some X→∀k,X.u1 k→¬A'.u1 k:=by
  intro j X c q k a u
  rcases m k u with z|z
  ·exact tJ j X c q k a z
  ·have:=X.lt w (h.at_ j X q) k a;omega
 refine⟨h.GA.trans g (fun k q B=>(h.u4 i A V k q).resolve_right JY),fun j X q=>?_,fun j X q k a=>?_,fun j d X f v p q k a=>?_⟩
 ·rcases cs j X q with⟨_,rfl⟩|⟨c,q⟩
  ·exact s
  ·exact X.loc w w' (h.at_ j X q) g.size (fun k a=>g.block k (X.lt w (h.at_ j X q) k a) (tJ j X c q k a))
 ·rcases cs j X q with⟨_,rfl⟩|⟨c,q⟩
  ·rcases m k a with z|z
   ·exact h.u4 i A V k z
   ·have:=h.GA.size;exact .inr JY
  ·exact h.u4 j X q k a
 ·rcases cs j X p with⟨C,e⟩|⟨x,o⟩
  ·rcases cs d f q with⟨y,_⟩|⟨r,l⟩
   ·omega
   ·exact fun z=>apart d f r l k z (e▸a)
  ·rcases cs d f q with⟨y,e⟩|⟨r,l⟩
   ·exact fun z=>apart j X x o k a (e▸z)
   ·exact h.u_ j d X f v o l k a
theorem Sat.new{A:Atom}(h:Sat F w0 H w)(J:Below w.heap.size w w')(a:A.holds w')(b:∀k,A.u1 k→w.heap.size≤k):Sat F w0 (A::H) w':=
 h.Nk (Gm:=[A]) ⟨C7.Ot J,fun i X q=>by
    cases i with
    |zero=>cases q;exact a
    |succ i=>simp at q,fun i X q k c=>by
    cases i with
    |zero=>cases q;exact .inr (b k c)
    |succ i=>simp at q,fun i j X f d p q=>by
    cases i with
    |zero=>
     cases j with
     |zero=>exact absurd D d
     |succ j=>simp at q
    |succ i=>simp at p⟩
theorem Sat.below(h:Sat F w0 H w)(J:Below w.heap.size w w'):Sat F w0 H w':=h.Nk (Gm:=[]) ⟨C7.Ot J,fun i X q=>by simp at q,fun i X q=>by simp at q,fun i j X a _ p=>by simp at p⟩
theorem Sat.nil(h:Sat F w0 H w)(e size:Nat):Sat F w0 (Ae e size (.slice none 0 0) 0 []::H) w:=h.new (Cn _ _) (World.ownsRow_nil _ _ _ _) (fun k a=>by cases a)
theorem Sat.A0(h:Sat C1 w0 H w):Below w0.heap.size w0 w:=h.GA.below
theorem Sat.own(h:Sat F w0 H w)(o:w'.ownsRow w.heap.size e size v n xs)(J:Below w.heap.size w w'):Sat F w0 (Ae e size v n xs::H) w':=
 h.new J (Ew o (F2 _)) (fun k a=>(o.lt k a).1)
theorem Ws(a:View w0 v n size xs)(h:Sat C1 w0 H w):View w v n size xs:=a.below h.A0
theorem Sat.DQ(h:Sat C1 w0 H w)(i:Nat)(V:H[i]? =some (Ae e size v n xs):=by exact rfl):w.ownsRow w0.heap.size e size v n xs:=by
 have a:=h.rw i V;refine⟨a.1,?_⟩
 rcases a.2 with z|⟨g,cap,cur,h1,J,r⟩
 ·exact .inl z
 ·exact .inr ⟨g,cap,cur,h1,(h.u4 i _ V g (by rw[h1];rfl)).resolve_left id,r⟩
theorem BE.one{A:Atom}(h:A.holds w):BE [A] w:=⟨fun i X q=>by
 cases i with
 |zero=>cases q;exact h
 |succ i=>simp at q,fun i j X b a p q=>by
 cases i with
 |zero=>
  cases j with
  |zero=>exact absurd D a
  |succ j=>simp at q
 |succ i=>simp at p⟩
theorem NA{A:Atom}{k:Nat}(h:A6 [A] k):A.u1 k:=by
 obtain⟨i,X,q,a⟩:=h;cases i with
 |zero=>cases q;exact a
 |succ i=>simp at q
theorem Sat.Xm{b c d:Nat}{CP:List Value}(h:Sat (A6 [Ae e size v n xs]) w0 H w)(i:Nat)(V:H[i]? =some (Ae b c BA d CP):=by exact rfl):D0 w0 w v BA:=
 ⟨⟨h.GA.os,h.GA.tape,h.GA.output,h.GA.size,fun k a f=>h.GA.block k a (fun q=>f (NA q).symm)⟩,fun k a=>(h.u4 i _ V k a).imp NA id⟩
theorem Sat.Xt{B a b c:Nat}{CP:List Value}(h:Sat (A6 [Ae e size v n xs]) w0 H w)(o:w0.ownsRow B e size v n xs)(f:B≤w0.heap.size)(i:Nat)(V:H[i]? =some (Ae a b BA c CP):=by exact rfl):w.ownsRow B a b BA c CP:=by
 have d:=h.rw i V;refine⟨d.1,?_⟩
 rcases d.2 with z|⟨g,cap,cur,h1,J,r⟩
 ·exact .inl z
 ·refine .inr ⟨g,cap,cur,h1,?_,r⟩
  rcases h.u4 i _ V g (by rw[h1];rfl)with q|q
  ·exact(o.lt g (NA q)).1
  ·exact Eg f q
theorem Sat.IF{B a:Nat}{CP:List Value}(h:Sat F w0 H w)(i:Nat)(o:w'.ownsRow B e size BA a CP)(BO:D0 w w' v BA)(V:H[i]? =some (Ae e size v n xs):=by exact rfl):Sat F w0 (H.set i (Ae e size BA a CP)) w':=
 h.set i V (C7.Ny BO) (Ew o (F2 _)) (fun k e=>BO.at_ k e)
end Go.Proofs.YtjdboncaegphmaaGreatDoor
namespace Go.Proofs.YtjdboncaegphmaaGreatDoor.Fr
open Go.Proofs.YtjdboncaegphmaaGreatDoor
set_option linter.unusedVariables false
def le:List UInt8→Nat
 |[]=>0
 |b::r=>b.toNat+256*le r
abbrev _root_.Go.Proofs.YtjdboncaegphmaaGreatDoor.bT:=fun(a:rG)=>([[E (Fr.le (a.take 4))],[E (Fr.le ((a.drop 8).take 4))],Ak 32,[E (Fr.le ((a.drop 4).take 4))],[E (Fr.le ((a.drop 12).take 4))],Ak 32]:List (List Value))
theorem Lt:∀l:List UInt8,le l<256^l.length
 |[]=>by simp[le]
 |b::r=>by
  have h:=Lt r;have J:=b.toNat_lt;simp only[le,Cw,fW];omega
theorem le_step(l:rG)(n k:Nat)(b:n≤l.length)(c:k<n):le ((l.take n).drop (n - (k+1)))=(l.getD (n - (k+1)) 0).toNat+256*le ((l.take n).drop (n - k)):=by
 have a:n - (k+1)<(l.take n).length:=by rw[FX];omega
 rw[Xy a,show n - (k+1)+1=n - k by omega];have:(l.take n)[n - (k+1)]=l.getD (n - (k+1)) 0:=by
  rw[List.getElem_take,Dm,F3 JY];rfl
 rw[this];rfl
def CN(l:rG):Bool:=l.all (·==0)
structure Bu where
 w:Nat
 g:Nat
 m:Nat
 h:Nat
 p:Nat
deriving DecidableEq
abbrev _root_.Go.Proofs.YtjdboncaegphmaaGreatDoor.ZK:=fun b c d (a:Fr.Bu) e f i j k l n o=>([[I (some ⟨b,0,none⟩) c d],[E a.w],[E a.g],[E a.m],[E a.h],[E a.p],[e],[f],[i],[j],[k],[l],[n],[o]]:List (List Value))
abbrev _root_.Go.Proofs.YtjdboncaegphmaaGreatDoor.Z1:=fun(a:Fr.Bu)=>([[E a.w],[E a.g],[E a.m],[E a.h],[E a.p]]:List (List Value))
def DE(s:Bu):Bool:=decide (1≤s.w)&&decide (s.w≤32)&&decide (s.g≤1099511627776)&&decide (3≤s.p)&&decide (s.p≤4096)&&decide (2≤s.m)&&decide (s.m≤s.p)&&(decide (s.h=0)||(decide (2≤s.h)&&decide (s.h<s.m)))
def fields(l:rG):Bu:=⟨(l.getD 4 0).toNat,le ((l.drop 8).take 7),le ((l.drop 16).take 4),le ((l.drop 20).take 4),le ((l.drop 24).take 4)⟩
def Hz(l:rG):Bool:=decide (l.take 4=[76,68,71,49])&&CN ((l.drop 5).take 3)&&CN ((l.drop 28).take 32)&&CN ((l.drop 15).take 1)
def DP(l:rG):Option Bu:=if At.C5 (l.take 64) 60=0 then(if Hz (l.take 64)=true then(if DE (fields (l.take 64))=true then some (fields (l.take 64))else none)else none)else none
def Ed(a b:Bu):Option Bu:=
 if a.g % 2≠0∨b.g % 2≠1 then none
 else if a.g<b.g then(if b={a with g:=a.g+1,m:=b.m,h:=b.h}∧a.m≤b.m then some b else none)
 else(if a={b with g:=b.g+1,m:=a.m,h:=a.h}∧b.m≤a.m then some a else none)
def Sa(l:rG):Bool:=decide (l.take 64=List.replicate 64 0)
def choose(l m:rG):Except Nat Bu:=
 match DP l,DP m with
 |some a,some b=>(match Ed a b with|some s=>.ok s|none=>.error 4)
 |x,_=>if Sa m=false then .error 4 else if(match x with|some s=>decide (s.g=0)|none=>false)=true then .error 55 else if Sa l=true then .error 55 else .error 4
def CZ(p:Nat)(l:rG):Bool:=
 decide (2≤p)&&decide (p<4096)&&decide (At.C5 l 252=0)&&(decide (1≤(l.getD 0 0).toNat)&&decide ((l.getD 0 0).toNat≤3))&&decide ((l.getD 1 0).toNat≤246)&&decide (le ((l.drop 2).take 4)=p)&&CN ((l.drop (6+(l.getD 1 0).toNat)).take (252 - (6+(l.getD 1 0).toNat)))
end Go.Proofs.YtjdboncaegphmaaGreatDoor.Fr
namespace Go.Proofs.YtjdboncaegphmaaGreatDoor.Ref
open Go.Proofs.YtjdboncaegphmaaGreatDoor
set_option linter.unusedVariables false
def bitsOf(b:UInt8)(j:Nat):List UInt8:=(List.range j).map fun j=>UInt8.ofNat (b.toNat/2^j&&&1)
def bits(l:rG):List UInt8:=l.flatMap fun b=>bitsOf b 8
theorem VY(b:UInt8)(j:Nat):(bitsOf b j).length=j:=by simp[bitsOf]
theorem jd(b:UInt8)(j:Nat):bitsOf b (j+1)=bitsOf b j++[UInt8.ofNat (b.toNat/2^j&&&1)]:=by
 simp[bitsOf,List.range_succ]
theorem ML(l:rG):(bits l).length=8*l.length:=by
 induction l with
 |nil=>rfl
 |cons b r a=>simp only[bits,List.flatMap_cons,Gd,VY,Cw]at*;omega
theorem di(l:rG)(b:UInt8):bits (l++[b])=bits l++bitsOf b 8:=by simp[bits]
def Dd:Nat→Nat→List UInt8
 |_,0=>[]
 |v,n+1=>UInt8.ofNat (v % 256)::Dd (v/256) n
theorem Fo(n:Nat):∀v,(Dd v n).length=n:=by
 induction n with
 |zero=>intro v;rfl
 |succ n a=>intro v;simp[Dd,a]
theorem N9(n:Nat):∀v,Fr.le (Dd v n)=v % 256^n:=by
 induction n with
 |zero=>intro v;simp[Dd,Fr.le,Nat.mod_one]
 |succ n a=>
  intro v;simp only[Dd,Fr.le,a];rw[fW,RV (256^n) 256,Nat.mod_mul];simp
def fill(l:rG)(n:Nat):List UInt8:=l.take n++List.replicate (n - l.length) 0
theorem Nn(l:rG)(n:Nat):(fill l n).length=n:=by simp[fill];omega
theorem Z6(l:rG)(n k:Nat)(a:k<n):(fill l n).getD k 0=if k<l.length then l.getD k 0 else 0:=by
 unfold fill;simp only[Dm]
 by_cases h:k<l.length
 ·rw[if_pos h,V5 (by simp;omega),LQ,if_pos a]
 ·rw[if_neg h,UP (by simp;omega),eg];split<;>rfl
theorem B3(l:rG)(n k:Nat)(a:k<n):(fill l n).take (k+1)=(fill l n).take k++[if k<l.length then l.getD k 0 else 0]:=by
 rw[←Z6 l n k a,kn (by rw[Nn];exact a),Dm,F3 (by rw[Nn];exact a)];rfl
def HM(l:rG):List UInt8:=l++Dd (At.sum l) 4
theorem Oc(l:rG):(HM l).length=l.length+4:=by simp[HM,Fo]
def Gc(kind CW:Nat)(B1:rG):List UInt8:=HM (fill ([UInt8.ofNat kind,UInt8.ofNat B1.length]++Dd CW 4++B1) 252)
def EC(s:Fr.Bu):List UInt8:=fill (HM (fill ([76,68,71,49,UInt8.ofNat s.w,0,0,0]++Dd s.g 8++Dd s.m 4++Dd s.h 4++Dd s.p 4) 60)) 256
theorem b7(s:Fr.Bu):(EC s).length=256:=by simp[EC,Nn]
end Go.Proofs.YtjdboncaegphmaaGreatDoor.Ref
namespace Go.Proofs.YtjdboncaegphmaaGreatDoor
open Go.RowKit
set_option maxRecDepth 100000
set_option maxHeartbeats 2000000
theorem OG(l:rG)(k:Nat)(h:k<l.length:=by omega):l.take (k+1)=l.take k++[l.getD k 0]:=by
 rw[kn h,Dm,F3 h];rfl
theorem MP(q r:Option Addr)(n f c c':Nat)(g h:rG)(w:World)(Q:n+f≤1000000000)(u:View w (.slice q n c) n 1 (bv g))(hl:g.length=n)(x:View w (.slice r f c') f 1 (bv h))(R:h.length=f):
 Calls lp 58 #[I q n c,I r f c'] w fun e w'=>∃p k,e=.returned (.slice p (n+f) k)∧w'.ownsRow w.heap.size 5 1 (.slice p (n+f) k) (n+f) (bv (g++h))∧Below w.heap.size w w':=by
 refine DZ XI D 35 ?_;refine Ao<|AD<|AV D<|Aw<|Ai<|Ao<|AD<|AV D<|Aw<|Ai<|Ao<|Ao<|AD<|AV (v:=(E 0)) D<|Aw<|Ai<|B'<|?_;intro a d;refine Ec (fun s a W=>∃k p j,s=n - k∧AH 35 a (Jb (Jb (Jb (Jb Jk 0 (I q n c)) 1 (I r f c')) 5 (I p k j)) 6 (E k))∧k≤n∧W.ownsRow w.heap.size 5 1 (.slice p k j) k (bv (g.take k))∧Below w.heap.size w W) _ ⟨0,none,0,D,AY d,F2 _,World.ownsRow_nil _ _ _ _,Cn _ _⟩ ?_;rintro _ a S ⟨k,p,j,rfl,d,A,own,b⟩;revert a;refine Ao<|Ao<|AD<|Az D<|Az D<|HT B7 D<|D_ D D<|Aw<|Ai<|DU D (fun B=>?_) fun B=>?_
 ·
  refine CA<|Ai<|Ao<|B'<|AD<|Az D<|Az D<|Az D<|?_;obtain⟨T,y,rfl⟩:=IW (u.below b);have C:=GH (u.below b) k (o:=y+k*1);refine Cc (fun _ d=>Gu d A3 D (i:=((k:Nat):Int)) D k (o:=y+k*1))<|D8 BV C D<|?_;intro t l;refine Cp D (fun A5 m=>IJ l D A3 (v:=(Value.int .u8 ((((g.getD k 0).toNat:Nat):Int):Int))) D (cs:=#[Value.int .u8 ((((g.getD k 0).toNat:Nat):Int):Int)]) D D (ZG D) ?_);intro a U d F G J;have own:=EN own J;have b:=BG b J;refine m _ _ ?_;revert a;intro t l;refine Cp D (fun A5 m=>Gn l A3 own G (by simp[Value.oneCell']) b.size (k+1) (zs:=bv (g.take k++[g.getD k 0])) (by simp[bv]) ?_);intro a V X Y d H K;have b:=F' b K own;refine m _ _ ?_;revert a;refine AV D<|Aw<|DN<|Ai<|AD<|Az D<|Dz (q:=1) D D<|AV D<|Aw<|Ai<|?_;intro a d;exact⟨_,JY,k+1,_,_,D,AY d,JY,by rw[OG g k];exact H,b⟩
 ·
  obtain rfl:n=k:=JY;refine Dv<|BY<|BY<|Ds<|Ai<|Ao<|Ao<|AD<|AV (v:=(E 0)) D<|Aw<|Ai<|B'<|?_;intro a d;refine Ec (fun s a W=>∃k p j,s=f - k∧AH 35 a (Jb (Jb (Jb Jk 1 (I r f c')) 5 (I p (n+k) j)) 7 (E k))∧k≤f∧W.ownsRow w.heap.size 5 1 (.slice p (n+k) j) (n+k) (bv (g++h.take k))∧Below w.heap.size w W) _ ⟨0,p,j,D,AY d,F2 _,by rw[DV JY]at own;simpa using own,b⟩ ?_;rintro _ a Z ⟨k,p,j,rfl,d,A,own,b⟩;revert a;refine Ao<|Ao<|AD<|Az D<|Az D<|HT B7 D<|D_ D D<|Aw<|Ai<|DU D (fun L=>?_) fun L=>?_
  ·
   refine CA<|Ai<|Ao<|B'<|AD<|Az D<|Az D<|Az D<|?_;obtain⟨aa,z,rfl⟩:=IW (x.below b);have M:=GH (x.below b) k (o:=z+k*1);refine Cc (fun _ d=>Gu d A3 D (i:=((k:Nat):Int)) D k (o:=z+k*1))<|D8 BV M D<|?_;intro t l;refine Cp D (fun A5 m=>IJ l D A3 (v:=(Value.int .u8 ((((h.getD k 0).toNat:Nat):Int):Int))) D (cs:=#[Value.int .u8 ((((h.getD k 0).toNat:Nat):Int):Int)]) D D (ZG D) ?_);intro a ab d F N J;have own:=EN own J;have b:=BG b J;refine m _ _ ?_;revert a;intro t l;refine Cp D (fun A5 m=>Gn l A3 own N (by simp[Value.oneCell']) b.size ((n+k)+1) (zs:=bv (g++h.take k++[h.getD k 0])) (by simp[bv]) ?_);intro a ad ae af d O P;have b:=F' b P own;refine m _ _ ?_;revert a;refine AV D<|Aw<|DN<|Ai<|AD<|Az D<|Dz (q:=1) D D<|AV D<|Aw<|Ai<|?_;intro a d;exact⟨_,JY,k+1,_,_,D,AY d,JY,by rw[OG h k,←C9];exact O,b⟩
  ·
   obtain rfl:f=k:=JY;refine Dv<|BY<|BY<|Ds<|Ai<|Ao<|AD<|Az D<|AV D<|Aw<|Ai<|C0<|EE D<|?_;exact⟨_,_,D,by rw[DV JY]at own;exact own,b⟩
theorem OH(v n:Nat)(w:World)(t:v≤9223372036854775807:=by omega)(u:n≤1000:=by omega):
 Calls lp 59 #[E v,E n] w fun e w'=>∃p k,e=.returned (.slice p n k)∧w'.ownsRow w.heap.size 5 1 (.slice p n k) n (bv (Ref.Dd v n))∧Below w.heap.size w w':=by
 refine DZ SC D 21 ?_;refine Ao<|AD<|AV D<|Aw<|Ai<|Ao<|AD<|AV D<|Aw<|Ai<|Ao<|Ao<|AD<|AV (v:=(E 0)) D<|Aw<|Ai<|B'<|?_;intro a b;refine Ec (fun h a W=>∃k x l p d,h=n - k∧AH 21 a (Jb (Jb (Jb (Jb Jk 0 (E x)) 1 (E n)) 5 (I p k d)) 6 (E k))∧k≤n∧x≤v∧Hid (Ref.Dd v n=l++Ref.Dd x (n - k))∧W.ownsRow w.heap.size 5 1 (.slice p k d) k (bv l)∧Below w.heap.size w W) _ ⟨0,v,[],none,0,D,AY b,F2 _,Br _,AX (by simp),World.ownsRow_nil _ _ _ _,Cn _ _⟩ ?_;rintro _ a y ⟨k,x,l,p,d,rfl,b,z,i,hl,own,c⟩;revert a;refine Ao<|Ao<|AD<|Az D<|Az D<|D_ D D<|Aw<|Ai<|DU D (fun j=>?_) fun j=>?_
 ·
  refine CA<|Ai<|Ao<|B'<|Ao<|AD<|Az D<|Az D<|Mz (q:=256) D D<|Cc (fun _ b=>Ex b (p:=((x % 256:Nat):Int)) (r:=(((UInt8.ofNat (x % 256)).toNat:Nat):Int)) D AF BV (H5 (x % 256)))<|?_;intro m f;refine Cp D (fun A5 g=>IJ f D A3 (v:=(Value.int .u8 ((((UInt8.ofNat (x % 256)).toNat:Nat):Int):Int))) D (cs:=#[Value.int .u8 ((((UInt8.ofNat (x % 256)).toNat:Nat):Int):Int)]) D D (ZG D) ?_);intro a A b B v4 J;have own:=EN own J;have c:=BG c J;refine g _ _ ?_;revert a;intro m f;refine Cp D (fun A5 g=>Gn f A3 own v4 (by simp[Value.oneCell']) c.size (k+1) (zs:=bv (l++[UInt8.ofNat (x % 256)])) (by simp[bv]) ?_);intro a C F G b o s;have c:=F' c s own;refine g _ _ ?_;revert a;refine AV D<|Aw<|Ai<|AD<|Az D<|Qe (q:=256) D D<|AV D<|Aw<|DN<|Ai<|AD<|Az D<|Dz (q:=1) D D<|AV D<|Aw<|Ai<|?_;intro a b;exact⟨_,JY,k+1,_,_,_,_,D,AY b,JY,Eg (gE _ _) i,AX (by rw[hl.out,show n - k=(n - (k+1))+1 by omega];simp[Ref.Dd]),o,c⟩
 ·
  obtain rfl:n=k:=JY;refine Dv<|BY<|BY<|Ds<|Ai<|Ao<|AD<|Az D<|AV D<|Aw<|Ai<|C0<|EE D<|?_;exact⟨_,_,D,by rw[hl.out,XT];simpa[Ref.Dd]using own,c⟩
theorem Rw(q:Option Addr)(m c n:Nat)(l:rG)(w:World)(K:n≤1000000000)(hm:m≤1000000000)(r:View w (.slice q m c) m 1 (bv l))(hl:l.length=m):
 Calls lp 60 #[I q m c,E n] w fun e w'=>∃p k,e=.returned (.slice p n k)∧w'.ownsRow w.heap.size 5 1 (.slice p n k) n (bv (Ref.fill l n))∧Below w.heap.size w w':=by
 refine DZ TN D 27 ?_;refine Ao<|AD<|AV D<|Aw<|Ai<|Ao<|AD<|AV D<|Aw<|Ai<|Ao<|Ao<|AD<|AV (v:=(E 0)) D<|Aw<|Ai<|B'<|?_;intro a d;refine Ec (fun x a W=>∃k p h,x=n - k∧AH 27 a (Jb (Jb (Jb (Jb Jk 0 (I q m c)) 1 (E n)) 5 (I p k h)) 6 (E k))∧k≤n∧W.ownsRow w.heap.size 5 1 (.slice p k h) k (bv ((Ref.fill l n).take k))∧Below w.heap.size w W) _ ⟨0,none,0,D,AY d,F2 _,World.ownsRow_nil _ _ _ _,Cn _ _⟩ ?_;rintro _ a L ⟨k,p,h,rfl,d,M,own,b⟩;revert a;refine Ao<|Ao<|AD<|Az D<|Az D<|D_ D D<|Aw<|Ai<|DU D (fun y=>?_) fun y=>?_
 ·
  refine CA<|Ai<|Ao<|B'<|Ao<|AD<|Az D<|Az D<|HT B7 D<|D_ D D<|Aw<|Ai<|DU D (fun z=>?_) fun z=>?_
  ·
   refine AD<|Az D<|Az D<|Az D<|?_;obtain⟨N,s,rfl⟩:=IW (r.below b);have A:=GH (r.below b) k (o:=s+k*1);refine Cc (fun _ d=>Gu d A3 D (i:=((k:Nat):Int)) D k (o:=s+k*1))<|D8 BV A D<|?_;intro j f;refine Cp D (fun A5 g=>IJ f D A3 (v:=(Value.int .u8 ((((l.getD k 0).toNat:Nat):Int):Int))) D (cs:=#[Value.int .u8 ((((l.getD k 0).toNat:Nat):Int):Int)]) D D (ZG D) ?_);intro a O d B C J;have own:=EN own J;have b:=BG b J;refine g _ _ ?_;revert a;intro j f;refine Cp D (fun A5 g=>Gn f A3 own C (by simp[Value.oneCell']) b.size (k+1) (zs:=bv ((Ref.fill l n).take k++[l.getD k 0])) (by simp[bv]) ?_);intro a P Q R d t F;have b:=F' b F own;refine g _ _ ?_;revert a;refine AV D<|Aw<|DN<|Ai<|AD<|Az D<|Dz (q:=1) D D<|AV D<|Aw<|Ai<|?_;intro a d;exact⟨_,JY,k+1,_,_,D,AY d,JY,by rw[Ref.B3 l n k JY];first|(rw[if_pos JY];exact t)|(rw[if_neg JY];exact t),b⟩
  ·
   refine AD<|Az D<|?_;intro j f;refine Cp D (fun A5 g=>IJ f D A3 (v:=(Value.int .u8 (((0:Nat):Int):Int))) D (cs:=#[Value.int .u8 (((0:Nat):Int):Int)]) D D (ZG D) ?_);intro a S d B G J;have own:=EN own J;have b:=BG b J;refine g _ _ ?_;revert a;intro j f;refine Cp D (fun A5 g=>Gn f A3 own G (by simp[Value.oneCell']) b.size (k+1) (zs:=bv ((Ref.fill l n).take k++[0])) (by simp[bv]) ?_);intro a T U V d u H;have b:=F' b H own;refine g _ _ ?_;revert a;refine AV D<|Aw<|DN<|Ai<|AD<|Az D<|Dz (q:=1) D D<|AV D<|Aw<|Ai<|?_;intro a d;exact⟨_,JY,k+1,_,_,D,AY d,JY,by rw[Ref.B3 l n k JY];first|(rw[if_pos JY];exact u)|(rw[if_neg JY];exact u),b⟩
 ·
  obtain rfl:n=k:=JY;refine Dv<|BY<|BY<|Ds<|Ai<|Ao<|AD<|Az D<|AV D<|Aw<|Ai<|C0<|EE D<|?_;exact⟨_,_,D,by rw[DV (by rw[Ref.Nn];omega)]at own;exact own,b⟩
theorem cy(q:Option Addr)(n c:Nat)(l:rG)(w:World)(N:n≤1000000000)(x:View w (.slice q n c) n 1 (bv l))(hl:l.length=n):
 Calls lp 154 #[I q n c] w fun e w'=>∃p k,e=.returned (.slice p (8*n) k)∧w'.ownsRow w.heap.size 5 1 (.slice p (8*n) k) (8*n) (bv (Ref.bits l))∧Below w.heap.size w w':=by
 refine DZ Pa D 28 ?_;refine Ao<|AD<|AV D<|Aw<|Ai<|Ao<|AD<|AV D<|Aw<|Ai<|Ao<|Ao<|AD<|AV (v:=(E 0)) D<|Aw<|Ai<|B'<|?_;intro a b;refine Ec (fun s a W=>∃k p f,s=n - k∧AH 28 a (Jb (Jb (Jb Jk 0 (I q n c)) 3 (I p (8*k) f)) 4 (E k))∧k≤n∧W.ownsRow w.heap.size 5 1 (.slice p (8*k) f) (8*k) (bv (Ref.bits (l.take k)))∧Below w.heap.size w W) _ ⟨0,none,0,D,AY b,F2 _,World.ownsRow_nil _ _ _ _,Cn _ _⟩ ?_;rintro _ a O ⟨k,p,f,rfl,b,P,own,d⟩;revert a;refine Ao<|Ao<|AD<|Az D<|Az D<|HT B7 D<|D_ D D<|Aw<|Ai<|DU D (fun B=>?_) fun B=>?_
 ·
  refine CA<|Ai<|Ao<|B'<|Ao<|AD<|AV (v:=(E 0)) D<|Aw<|Ai<|B'<|?_;intro a b;refine Ec (fun s a W=>∃j p f,s=8 - j∧AH 28 a (Jb (Jb (Jb (Jb Jk 0 (I q n c)) 3 (I p (8*k+j) f)) 4 (E k)) 5 (E j))∧j≤8∧W.ownsRow w.heap.size 5 1 (.slice p (8*k+j) f) (8*k+j) (bv (Ref.bits (l.take k)++Ref.bitsOf (l.getD k 0) j))∧Below w.heap.size w W) _ ⟨0,_,_,D,AY b,F2 _,by simpa[Ref.bitsOf]using own,d⟩ ?_;rintro _ a Q ⟨j,p,f,rfl,b,hj,own,d⟩;revert a;refine Ao<|Ao<|AD<|Az D<|D_ (q:=(8:Nat)) D D<|Aw<|Ai<|DU D (fun C=>?_) fun C=>?_
  ·
   refine CA<|Ai<|Ao<|B'<|AD<|Az D<|Az D<|Az D<|?_;obtain⟨R,y,rfl⟩:=IW (x.below d);have F:=GH (x.below d) k (o:=y+k*1);refine Cc (fun _ b=>Gu b A3 D (i:=((k:Nat):Int)) D k (o:=y+k*1))<|D8 BV F D<|Az D<|Cc (fun _ b=>Ex b (p:=((j:Nat):Int)) (r:=((j:Nat):Int)) D AF K1 (JB j))<|?_;obtain⟨m,z⟩:∃g:Nat,g=((l.getD k 0).toNat)/2^j:=⟨_,D⟩
   have G:m<256:=by rw[z];exact jP (gE _ _) (Cj _)
   refine Cc (fun _ b=>IG b (k:=.u8) (p:=(l.getD k 0).toNat) (n:=j) (r:=m) D D (by simp only[IntKind.bits];omega) z.symm)<|?_;obtain⟨h,A⟩:∃g:Nat,g=m&&&1:=⟨_,D⟩
   have H:h<256:=by rw[A];exact jP mK JZ
   refine Cc (fun _ b=>D6 b (k:=.u8) (p:=((m:Nat):Int)) (q:=((1:Nat):Int)) (r:=((h:Nat):Int)) (.inl D) D D (by rw[A];exact u8_and_nat _ _ G JZ))<|?_;intro K t;refine Cp D (fun A5 u=>IJ t D A3 (v:=(Value.int .u8 (((h:Nat):Int):Int))) D (cs:=#[Value.int .u8 (((h:Nat):Int):Int)]) D D (ZG D) ?_);intro a S b T v11 J;have own:=EN own J;have d:=BG d J;refine u _ _ ?_;revert a;intro K t;refine Cp D (fun A5 u=>Gn t A3 own v11 (by simp[Value.oneCell']) d.size ((8*k+j)+1) (zs:=bv (Ref.bits (l.take k)++Ref.bitsOf (l.getD k 0) j++[UInt8.ofNat h])) (by rw[Tg _ H];simp[bv]) ?_);intro a U V X b L M;have d:=F' d M own;refine u _ _ ?_;revert a;refine AV D<|Aw<|DN<|Ai<|AD<|Az D<|Dz (q:=1) D D<|AV D<|Aw<|Ai<|?_;intro a b;exact⟨_,JY,j+1,_,_,D,AY b,JY,by rw[Ref.jd,←C9];show World.ownsRow _ _ _ _ (.slice _ (8*k+j+1) _) (8*k+j+1) _;simp only[pg]at*;simpa[*]using L,d⟩
  ·
   obtain rfl:j=8:=JY;refine Dv<|BY<|BY<|Ds<|DN<|Ai<|AD<|Az D<|Dz (q:=1) D D<|AV D<|Aw<|Ai<|?_;intro a b;exact⟨_,JY,k+1,_,_,D,AY b,JY,by rw[OG l k,Ref.di];exact own,d⟩
 ·
  obtain rfl:n=k:=JY;refine Dv<|BY<|BY<|Ds<|Ai<|Ao<|AD<|Az D<|AV D<|Aw<|Ai<|C0<|EE D<|?_;exact⟨_,_,D,by rw[DV JY]at own;exact own,d⟩
end Go.Proofs.YtjdboncaegphmaaGreatDoor
namespace Go.Proofs.YtjdboncaegphmaaGreatDoor.Ref
open Go.Proofs.YtjdboncaegphmaaGreatDoor
set_option linter.unusedVariables false
def GL:List UInt8:=[1,0,0,0,0,0,1,0,0,1,1,0,0,0,0,0,1,0,0,0,1,1,1,0,1,1,0,1,1,0,1,1,1]
def Fc(r:Nat)(l:rG):Nat:=l.foldl (fun r b=>At.step (r^^^b.toNat)) r
theorem h0(r:Nat)(l:rG)(b:UInt8):Fc r (l++[b])=At.step (Fc r l^^^b.toNat):=by simp[Fc]
theorem aw(r:Nat)(l m:rG):Fc r (l++m)=Fc (Fc r l) m:=by simp[Fc]
theorem du(m:rG):∀r s,Fc (r^^^s) m=Fc r m^^^At.steps m.length s:=by
 induction m with
 |nil=>intro r s;rfl
 |cons b m a=>
  intro r s;show Fc (At.step (r^^^s^^^b.toNat)) m=Fc (At.step (r^^^b.toNat)) m^^^At.steps m.length (At.step s);rw[At.WO,At.Yl,a]
theorem gG(b:UInt8):Fc 0 (bitsOf b 8)=At.steps 8 b.toNat:=by
 have:∀n:Nat,n<256→Fc 0 (bitsOf (UInt8.ofNat n) 8)=At.steps 8 n:=by decide+kernel
 have h:=this b.toNat b.toNat_lt
 rwa[show UInt8.ofNat b.toNat=b from o9]at h
theorem iM(l:rG):∀r,Fc r (bits l)=At.feed r l:=by
 induction l with
 |nil=>intro r;rfl
 |cons b l a=>
  intro r;have:bits (b::l)=bitsOf b 8++bits l:=by simp[bits]
  rw[this,aw,a,At.MR]
  congr 1
  have h:=du (bitsOf b 8) 0 r;rw[mx,gG,VY]at h;rw[h,At.N1,cA]
theorem VO(l:rG):∀ {r:Nat},r<4294967296→Fc r l<4294967296:=by
 induction l with
 |nil=>intro r h;exact h
 |cons b l a=>intro r h;exact a (At.VP (Mx (n:=32) h (At.Lq b)))
structure JV (s:Nat) (d:rG) (L:rG) (i:Nat):Prop where
 len:L.length=d.length+32
 val:∀m,(L.getD (i+m) 0).toNat=(Fc s (d.take i)/2^m % 2)^^^(d.getD (i+m) 0).toNat
theorem ie(m:Nat)(h:m<32):(GL.getD (m+1) 0).toNat=At.L5/2^m % 2:=by
 have:∀m:Nat,m<32→(GL.getD (m+1) 0).toNat=At.L5/2^m % 2:=by decide+kernel
 exact this m h
theorem UB(a m:Nat):(a/2)/2^m=a/2^(m+1):=by rw[tW,fW,RV]
theorem cK(a b m:Nat):(a^^^b)/2^m % 2=(a/2^m % 2)^^^(b/2^m % 2):=by
 rw[mL];have h:=la (a:=a/2^m) (b:=b/2^m) (n:=1)
 rwa[lN]at h
theorem Rd{a m:Nat}(b:a<4294967296)(hm:32≤m):a/2^m % 2=0:=by
 have:2^32≤2^m:=aI JZ hm;rw[QA JY]
theorem JV.next{s:Nat}{d L M:rG}{i:Nat}(h:JV s d L i)(o:s<4294967296)(Ad:∀p,(d.getD p 0).toNat<2)(V:i<d.length)(hlen:M.length=L.length)
 (t:∀p,M.getD p 0=if(L.getD i 0).toNat=1∧i≤p∧p<i+33 then L.getD p 0^^^GL.getD (p - i) 0 else L.getD p 0):JV s d M (i+1):=by
 refine⟨by rw[hlen,h.len],fun m=>?_⟩;have hr:Fc s (d.take i)<4294967296:=VO _ o;have u:d.take (i+1)=d.take i++[d.getD i 0]:=by
  rw[kn V,Dm,F3 V];rfl
 rw[u,h0];have c:=h.val 0;simp only[tA,Ry,kB]at c;have e:=h.val (m+1);have f:=Ad i;generalize Df:Fc s (d.take i)=r at*;generalize J:(d.getD i 0).toNat=b at*;have k:(r^^^b) % 2=r % 2^^^b:=by
  have h1:=la (a:=r) (b:=b) (n:=1);rw[lN]at h1;rw[h1,s_ f]
 have l:(r^^^b)/2=r/2:=by rw[At.Xu,QA f,b']
 rw[t,show i+1+m=i+(m+1)by omega]
 by_cases g:(L.getD i 0).toNat=1
 ·have j:At.step (r^^^b)=r/2^^^At.L5:=by
   unfold At.step;rw[if_pos (by rw[k,←c,g]),l]
  rw[j,cK,UB]
  by_cases hm:m<32
  ·rw[if_pos ⟨g,JY,JY⟩,kA,e,show i+(m+1) - i=m+1 by omega,ie m hm];rw[At.WO]
  ·rw[if_neg JY,e,Rd (a:=At.L5) JZ JY,b']
 ·have v:(L.getD i 0).toNat=0:=by
   have w:r % 2<2:=hJ _ JZ;have:=Mx (n:=1) (x:=r % 2) (y:=b) (by simpa using w) (by simpa using f);rw[←c]at this;simp only[lN]at this;omega
  have j:At.step (r^^^b)=r/2:=by
   unfold At.step;rw[if_neg (by rw[k,←c,v];decide),l]
  rw[j,UB,if_neg (fun q=>g q.1),e]
theorem JV.end_{s:Nat}{d L:rG}(h:JV s d L d.length)(m:Nat):(L.getD (d.length+m) 0).toNat=Fc s d/2^m % 2:=by
 rw[h.val,List.take_length,Dm,S6 JY];exact b' _
theorem Yo(l:rG)(p:Nat):((bits l).getD p 0).toNat<2:=by
 have:∀x∈bits l,x.toNat<2:=by
  intro x a;simp only[bits,bitsOf,List.mem_flatMap,bI]at a;obtain⟨b,_,j,_,rfl⟩:=a;have h1:b.toNat/2^j&&&1≤1:=mK;simp;omega
 rw[Dm]
 rcases s9 p (bits l).length with h|h
 ·rw[F3 h];exact this _ (PV h)
 ·rw[S6 h];decide
end Go.Proofs.YtjdboncaegphmaaGreatDoor.Ref
