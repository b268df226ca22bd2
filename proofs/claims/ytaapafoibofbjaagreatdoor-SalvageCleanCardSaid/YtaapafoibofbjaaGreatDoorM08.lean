/- Laws and walks on the road to SalvageClean (part M08). No conditions beyond each law's own. -/
import Derived.Test.YtaapafoibofbjaaGreatDoorM01
import Derived.Test.YtaapafoibofbjaaGreatDoorM07
import Derived.Test.YtaapafoibofbjaaGreatDoorM04
import Derived.Test.YtaapafoibofbjaaGreatDoorM03
import Derived.Test.YtaapafoibofbjaaGreatDoorM05
set_option linter.unusedVariables false
namespace Go.Proofs.YtaapafoibofbjaaGreatDoor
open Go.RowKit
variable {v BA:Value} {size n e:Nat} {xs:List Value} {W:World}
structure Atom where
 jM:Nat→Prop
 holds:World→Prop
 lt:∀w,holds w→∀k,jM k→k<w.heap.size
 loc:∀w w',holds w→w.heap.size≤w'.heap.size→(∀k,jM k→w'.heap[k]? =w.heap[k]?)→holds w'
def O(b:Nat)(ss:List (List Value))(T:TypeId):Atom:=⟨fun k=>k=b,fun w=>w.heap[b]? =some (.cells (flat ss) T (0,0)),fun w h k e=>by subst e;exact DC h,fun w w' h _ e=>(e b D).trans h⟩
def Ae(e:TypeId)(size:Nat)(v:Value)(n:Nat)(xs:List Value):Atom:=
 ⟨fun k=>v.ownBlock=some k,fun w=>w.ownsRow 0 e size v n xs,fun w h k q=>(h.lt k q).2,fun w w' h _ q=>⟨h.1,by
   rcases h.2 with z|⟨g,cap,cur,h1,J,a,r⟩
   ·exact .inl z
   ·exact .inr ⟨g,cap,cur,h1,J,(q g (by rw[h1];rfl)).trans a,r⟩⟩⟩
structure C7 (F:Nat→Prop) (w0 w:World):Prop where
 os:w.os=w0.os
 tape:w.tape=w0.tape
 output:w.output=w0.output
 size:w0.heap.size≤w.heap.size
 block:∀k,k<w0.heap.size→¬F k→w.heap[k]? =w0.heap[k]?
theorem C7.refl(F:Nat→Prop)(w:World):C7 F w w:=⟨D,D,D,Br _,fun _ _ _=>rfl⟩
theorem C7.trans{F BO:Nat→Prop}{a b c:World}(h:C7 F a b)(d:C7 BO b c)(g:∀k,BO k→k<a.heap.size→F k):C7 F a c:=
 ⟨d.os.trans h.os,d.tape.trans h.tape,d.output.trans h.output,Eg h.size d.size,fun k e f=>(d.block k (Nat.lt_of_lt_of_le e h.size) (fun y=>f (g k y e))).trans (h.block k e f)⟩
theorem C7.Ot{F:Nat→Prop}{w:World}(J:Below w.heap.size w W):C7 F w W:=⟨J.os,J.tape,J.output,J.size,fun k a _=>J.block k a⟩
theorem C7.below{w:World}(h:C7 (fun _=>False) w W):Below w.heap.size w W:=⟨h.os,h.tape,h.output,h.size,fun k a=>h.block k a id⟩
theorem C7.grown{w:World}{b:Nat}(g:w.grownBy W (some b)):C7 (fun k=>k=b) w W:=⟨g.os,g.tape,g.output,g.size,fun k a c=>g.block k a (fun e=>c (by cases e;rfl))⟩
theorem C7.Ny{w:World}(BO:D0 w W v BA):C7 (fun k=>v.ownBlock=some k) w W:=⟨BO.Bg.os,BO.Bg.tape,BO.Bg.output,BO.Bg.size,fun k a b=>BO.Bg.block k a (fun e=>b e.symm)⟩
structure Sat (F:Nat→Prop) (w0:World) (H:List Atom) (w:World):Prop where
 jF:C7 F w0 w
 at_:∀(i:Nat) (A:Atom),H[i]? =some A→A.holds w
 jQ:∀(i:Nat) (A:Atom),H[i]? =some A→∀k,A.jM k→F k∨w0.heap.size≤k
 jZ:∀(i j:Nat) (A A':Atom),i≠j→H[i]? =some A→H[j]? =some A'→∀k,A.jM k→¬A'.jM k
abbrev C1:Nat→Prop:=fun _=>False
def A6(H:List Atom):Nat→Prop:=fun k=>∃(i:Nat) (A:Atom),H[i]? =some A∧A.jM k
variable {F BO:Nat→Prop} {w0 w w':World} {H H':List Atom}
theorem Sat.start(F:Nat→Prop)(w:World):Sat F w [] w:=⟨C7.refl _ _,fun i A h=>by simp at h,fun i A h=>by simp at h,fun i j A A' _ h=>by simp at h⟩
structure BE (H:List Atom) (w:World):Prop where
 at_:∀(i:Nat) (A:Atom),H[i]? =some A→A.holds w
 jZ:∀(i j:Nat) (A A':Atom),i≠j→H[i]? =some A→H[j]? =some A'→∀k,A.jM k→¬A'.jM k
theorem Sat.begin(h:BE H w):Sat (A6 H) w H w:=⟨C7.refl _ _,h.at_,fun i A q k a=>.inl ⟨i,A,q,a⟩,h.jZ⟩
theorem Sat.hold(h:Sat F w0 H w):BE H w:=⟨h.at_,h.jZ⟩
theorem BE.Dq{i b T:Nat}{ss:List (List Value)}(h:BE H w)(a:H[i]? =some (O b ss T)):w.heap[b]? =some (.cells (flat ss) T (0,0)):=h.at_ i _ a
theorem Sat.Dq{b T:Nat}{ss:List (List Value)}(h:Sat F w0 H w)(i:Nat)(a:H[i]? =some (O b ss T):=by exact rfl):w.heap[b]? =some (.cells (flat ss) T (0,0)):=h.at_ i _ a
theorem Sat.rw(h:Sat F w0 H w)(i:Nat)(a:H[i]? =some (Ae e size v n xs):=by exact rfl):w.ownsRow 0 e size v n xs:=h.at_ i _ a
theorem Sat.lt(h:Sat F w0 H w){i:Nat}{A:Atom}(a:H[i]? =some A):∀k,A.jM k→k<w.heap.size:=fun k b=>A.lt w (h.at_ i A a) k b
theorem Sat.pick(h:Sat F w0 H w)(BI:List Nat)(e:BI.map (fun i=>H[i]?)=H'.map some:=by exact rfl)(d:BI.Nodup:=by decide):Sat F w0 H' w:=by
 have key:∀(p:Nat) (A:Atom),H'[p]? =some A→∃i,BI[p]? =some i∧H[i]? =some A:=by
  intro p A a
  have:=congrArg (fun l=>l[p]?) e
  simp only[List.getElem?_map,a,Option.map_some]at this
  cases c:BI[p]? with
  |none=>rw[c]at this;cases this
  |some i=>
   rw[c]at this
   exact⟨i,D,by simpa using this⟩
 refine⟨h.jF,fun p A a=>?_,fun p A a=>?_,fun p q A A' n a c=>?_⟩
 ·obtain⟨i,_,b⟩:=key p A a
  exact h.at_ i A b
 ·obtain⟨i,_,b⟩:=key p A a
  exact h.jQ i A b
 ·obtain⟨i,h1,b⟩:=key p A a
  obtain⟨j,o,hj⟩:=key q A' c
  refine h.jZ i j A A' (fun e=>?_) b hj
  subst e
  obtain⟨f,g⟩:=List.getElem?_eq_some_iff.1 h1
  obtain⟨k,m⟩:=List.getElem?_eq_some_iff.1 o
  rcases Nat.lt_trichotomy p q with z|z|z
  ·exact(List.pairwise_iff_getElem.1 (List.nodup_iff_pairwise_ne.1 d) p q f k z) (g.trans m.symm)
  ·exact n z
  ·exact(List.pairwise_iff_getElem.1 (List.nodup_iff_pairwise_ne.1 d) q p k f z) (m.trans g.symm)
theorem Sat.call{H1 H2 Gm:List Atom}(h:Sat F w0 (H1++H2) w)(c:Sat (A6 H1) w Gm w'):Sat F w0 (Gm++H2) w':=by
 have hr:∀(j:Nat) (A:Atom),H2[j]? =some A→(H1++H2)[H1.length+j]? =some A:=fun j A q=>by rw[List.getElem?_append_right (by omega),Nat.add_sub_cancel_left];exact q
 have hl:∀(j:Nat) (A:Atom),H1[j]? =some A→(H1++H2)[j]? =some A:=fun j A q=>by rw[List.getElem?_append_left (List.getElem?_eq_some_iff.1 q).1];exact q
 have m:∀(j:Nat) (A:Atom),H2[j]? =some A→∀k,A.jM k→¬A6 H1 k:=by
  rintro j A q k a ⟨i,A',b,d⟩
  exact h.jZ i (H1.length+j) A' A (by have:=(List.getElem?_eq_some_iff.1 b).1;omega) (hl i A' b) (hr j A q) k d a
 have cs:∀(i:Nat) (A:Atom),(Gm++H2)[i]? =some A→Gm[i]? =some A∨(Gm.length≤i∧H2[i - Gm.length]? =some A):=by
  intro i A q
  rcases Nat.lt_or_ge i Gm.length with l|l
  ·rw[List.getElem?_append_left l]at q;exact .inl q
  ·rw[List.getElem?_append_right l]at q;exact .inr ⟨l,q⟩
 have DB:∀(j:Nat) (A:Atom),H2[j]? =some A→A.holds w':=fun j A q=>A.loc w w' (h.at_ _ A (hr j A q)) c.jF.size (fun k a=>c.jF.block k (A.lt w (h.at_ _ A (hr j A q)) k a) (m j A q k a))
 have new:∀(i:Nat) (A:Atom),Gm[i]? =some A→∀k,A.jM k→A6 H1 k∨w.heap.size≤k:=c.jQ
 have apart:∀(i j:Nat) (A A':Atom),Gm[i]? =some A→H2[j]? =some A'→∀k,A.jM k→¬A'.jM k:=by
  intro i j A A' b hj k a d
  rcases new i A b k a with q|q
  ·exact m j A' hj k d q
  ·have:=A'.lt w (h.at_ _ A' (hr j A' hj)) k d
   omega
 refine⟨h.jF.trans c.jF (fun k ⟨i,A,b,a⟩ u=>(h.jQ i A (hl i A b) k a).resolve_right (by omega)),fun i A q=>?_,fun i A q k a=>?_,fun i j A A' r b hj k a=>?_⟩
 ·rcases cs i A q with q|⟨_,q⟩
  ·exact c.at_ i A q
  ·exact DB _ A q
 ·rcases cs i A q with q|⟨_,q⟩
  ·rcases new i A q k a with⟨o,A',s,d⟩|z
   ·exact h.jQ o A' (hl o A' s) k d
   ·have:=h.jF.size
    exact .inr (by omega)
  ·exact h.jQ _ A (hr _ A q) k a
 ·rcases cs i A b with p|⟨v,p⟩
  ·rcases cs j A' hj with q|⟨t,q⟩
   ·exact c.jZ i j A A' r p q k a
   ·exact apart _ _ A A' p q k a
  ·rcases cs j A' hj with q|⟨t,q⟩
   ·exact fun d=>apart _ _ A' A q p k d a
   ·exact h.jZ _ _ A A' (by omega) (hr _ A p) (hr _ A' q) k a
theorem Sat.mono(h:Sat F w0 H w)(c:∀k,F k→BO k):Sat BO w0 H w:=⟨⟨h.jF.os,h.jF.tape,h.jF.output,h.jF.size,fun k b d=>h.jF.block k b (fun q=>d (c k q))⟩,h.at_,fun i A q k b=>(h.jQ i A q k b).imp (c k) id,h.jZ⟩
theorem Sat.Nk{Gm:List Atom}(h:Sat F w0 H w)(c:Sat C1 w Gm w'):Sat F w0 (Gm++H) w':=Sat.call (H1:=[]) h (c.mono (fun _ q=>q.elim))
theorem Sat.set{A A':Atom}(h:Sat F w0 H w)(i:Nat)(d:H[i]? =some A)(l:C7 A.jM w w')(u:A'.holds w')(n:∀k,A'.jM k→A.jM k∨w.heap.size≤k):Sat F w0 (H.set i A') w':=by
 have hl:i<H.length:=(List.getElem?_eq_some_iff.1 d).1
 have cs:∀(j:Nat) (X:Atom),(H.set i A')[j]? =some X→(j=i∧X=A')∨(j≠i∧H[j]? =some X):=by
  intro j X q
  rw[List.getElem?_set]at q
  by_cases e:i=j
  ·subst e;rw[if_pos D,if_pos hl]at q;cases q;exact .inl ⟨D,D⟩
  ·rw[if_neg e]at q;exact .inr ⟨fun z=>e z.symm,q⟩
 have o:∀(j:Nat) (X:Atom),j≠i→H[j]? =some X→∀k,X.jM k→¬A.jM k:=fun j X c q k a=>h.jZ j i X A c q d k a
 have apart:∀(j:Nat) (X:Atom),j≠i→H[j]? =some X→∀k,X.jM k→¬A'.jM k:=by
  intro j X c q k a x
  rcases n k x with z|z
  ·exact o j X c q k a z
  ·have:=X.lt w (h.at_ j X q) k a
   omega
 refine⟨h.jF.trans l (fun k q G=>(h.jQ i A d k q).resolve_right (by omega)),fun j X q=>?_,fun j X q k a=>?_,fun j f X g B p q k a=>?_⟩
 ·rcases cs j X q with⟨_,rfl⟩|⟨c,q⟩
  ·exact u
  ·exact X.loc w w' (h.at_ j X q) l.size (fun k a=>l.block k (X.lt w (h.at_ j X q) k a) (o j X c q k a))
 ·rcases cs j X q with⟨_,rfl⟩|⟨c,q⟩
  ·rcases n k a with z|z
   ·exact h.jQ i A d k z
   ·have:=h.jF.size
    exact .inr (by omega)
  ·exact h.jQ j X q k a
 ·rcases cs j X p with⟨I,e⟩|⟨C,s⟩
  ·rcases cs f g q with⟨E,_⟩|⟨t,m⟩
   ·omega
   ·exact fun z=>apart f g t m k z (e▸a)
  ·rcases cs f g q with⟨E,e⟩|⟨t,m⟩
   ·exact fun z=>apart j X C s k a (e▸z)
   ·exact h.jZ j f X g B s m k a
theorem Sat.new{A:Atom}(h:Sat F w0 H w)(J:Below w.heap.size w w')(a:A.holds w')(b:∀k,A.jM k→w.heap.size≤k):Sat F w0 (A::H) w':=
 h.Nk (Gm:=[A]) ⟨C7.Ot J,fun i X q=>by
    cases i with
    |zero=>cases q;exact a
    |succ i=>simp at q,fun i X q k c=>by
    cases i with
    |zero=>cases q;exact .inr (b k c)
    |succ i=>simp at q,fun i j X f d p q=>by
    cases i with
    |zero=>
     cases j with
     |zero=>exact absurd D d
     |succ j=>simp at q
    |succ i=>simp at p⟩
theorem Sat.below(h:Sat F w0 H w)(J:Below w.heap.size w w'):Sat F w0 H w':=h.Nk (Gm:=[]) ⟨C7.Ot J,fun i X q=>by simp at q,fun i X q=>by simp at q,fun i j X a _ p=>by simp at p⟩
theorem Sat.nil(h:Sat F w0 H w)(e size:Nat):Sat F w0 (Ae e size (.slice none 0 0) 0 []::H) w:=h.new (Cn _ _) (World.ownsRow_nil _ _ _ _) (fun k a=>by cases a)
theorem Sat.A0(h:Sat C1 w0 H w):Below w0.heap.size w0 w:=h.jF.below
theorem Sat.own(h:Sat F w0 H w)(o:w'.ownsRow w.heap.size e size v n xs)(J:Below w.heap.size w w'):Sat F w0 (Ae e size v n xs::H) w':=
 h.new J (Ew o (Nat.zero_le _)) (fun k a=>(o.lt k a).1)
theorem Ws(V:View w0 v n size xs)(h:Sat C1 w0 H w):View w v n size xs:=V.below h.A0
theorem Sat.DQ(h:Sat C1 w0 H w)(i:Nat)(a:H[i]? =some (Ae e size v n xs):=by exact rfl):w.ownsRow w0.heap.size e size v n xs:=by
 have b:=h.rw i a
 refine⟨b.1,?_⟩
 rcases b.2 with z|⟨g,cap,cur,h1,J,r⟩
 ·exact .inl z
 ·exact .inr ⟨g,cap,cur,h1,(h.jQ i _ a g (by rw[h1];rfl)).resolve_left id,r⟩
theorem BE.one{A:Atom}(h:A.holds w):BE [A] w:=⟨fun i X q=>by
 cases i with
 |zero=>cases q;exact h
 |succ i=>simp at q,fun i j X b a p q=>by
 cases i with
 |zero=>
  cases j with
  |zero=>exact absurd D a
  |succ j=>simp at q
 |succ i=>simp at p⟩
theorem NA{A:Atom}{k:Nat}(h:A6 [A] k):A.jM k:=by
 obtain⟨i,X,q,a⟩:=h
 cases i with
 |zero=>cases q;exact a
 |succ i=>simp at q
theorem Sat.Xm{c d f:Nat}{CP:List Value}(h:Sat (A6 [Ae e size v n xs]) w0 H w)(i:Nat)(g:H[i]? =some (Ae c d BA f CP):=by exact rfl):D0 w0 w v BA:=
 ⟨⟨h.jF.os,h.jF.tape,h.jF.output,h.jF.size,fun k b j=>h.jF.block k b (fun q=>j (NA q).symm)⟩,fun k b=>(h.jQ i _ g k b).imp NA id⟩
theorem Sat.Xt{B a b c:Nat}{CP:List Value}(h:Sat (A6 [Ae e size v n xs]) w0 H w)(o:w0.ownsRow B e size v n xs)(j:B≤w0.heap.size)(i:Nat)(d:H[i]? =some (Ae a b BA c CP):=by exact rfl):w.ownsRow B a b BA c CP:=by
 have f:=h.rw i d
 refine⟨f.1,?_⟩
 rcases f.2 with z|⟨g,cap,cur,h1,J,r⟩
 ·exact .inl z
 ·refine .inr ⟨g,cap,cur,h1,?_,r⟩
  rcases h.jQ i _ d g (by rw[h1];rfl)with q|q
  ·exact(o.lt g (NA q)).1
  ·exact Eg j q
theorem Sat.IF{B a:Nat}{CP:List Value}(h:Sat F w0 H w)(i:Nat)(o:w'.ownsRow B e size BA a CP)(BO:D0 w w' v BA)(b:H[i]? =some (Ae e size v n xs):=by exact rfl):Sat F w0 (H.set i (Ae e size BA a CP)) w':=
 h.set i b (C7.Ny BO) (Ew o (Nat.zero_le _)) (fun k e=>BO.at_ k e)
end Go.Proofs.YtaapafoibofbjaaGreatDoor
namespace Go.Proofs.YtaapafoibofbjaaGreatDoor.Fr
open Go.Proofs.YtaapafoibofbjaaGreatDoor
set_option linter.unusedVariables false
def le:List UInt8→Nat
 |[]=>0
 |b::r=>b.toNat+256*le r
theorem Lt:∀l:List UInt8,le l<256^l.length
 |[]=>by simp[le]
 |b::r=>by
  have h:=Lt r
  have J:=b.toNat_lt
  simp only[le,List.length_cons,Nat.pow_succ]
  omega
theorem le_step(l:List UInt8)(n k:Nat)(b:n≤l.length)(c:k<n):le ((l.take n).drop (n - (k+1)))=(l.getD (n - (k+1)) 0).toNat+256*le ((l.take n).drop (n - k)):=by
 have a:n - (k+1)<(l.take n).length:=by rw[List.length_take];omega
 rw[List.drop_eq_getElem_cons a,show n - (k+1)+1=n - k by omega]
 have:(l.take n)[n - (k+1)]=l.getD (n - (k+1)) 0:=by
  rw[List.getElem_take,List.getD_eq_getElem?_getD,List.getElem?_eq_getElem (by omega)]
  rfl
 rw[this]
 rfl
def CN(l:List UInt8):Bool:=l.all (·==0)
structure Bu where
 w:Nat
 g:Nat
 m:Nat
 h:Nat
 p:Nat
deriving DecidableEq
def DE(s:Bu):Bool:=decide (1≤s.w)&&decide (s.w≤32)&&decide (s.g≤1099511627776)&&decide (3≤s.p)&&decide (s.p≤4096)&&decide (2≤s.m)&&decide (s.m≤s.p)&&(decide (s.h=0)||(decide (2≤s.h)&&decide (s.h<s.m)))
def fields(l:List UInt8):Bu:=⟨(l.getD 4 0).toNat,le ((l.drop 8).take 7),le ((l.drop 16).take 4),le ((l.drop 20).take 4),le ((l.drop 24).take 4)⟩
def Hz(l:List UInt8):Bool:=decide (l.take 4=[76,68,71,49])&&CN ((l.drop 5).take 3)&&CN ((l.drop 28).take 32)&&CN ((l.drop 15).take 1)
def DP(l:List UInt8):Option Bu:=if At.C5 (l.take 64) 60=0 then(if Hz (l.take 64)=true then(if DE (fields (l.take 64))=true then some (fields (l.take 64))else none)else none)else none
def Ed(a b:Bu):Option Bu:=
 if a.g % 2≠0∨b.g % 2≠1 then none
 else if a.g<b.g then(if b={a with g:=a.g+1,m:=b.m,h:=b.h}∧a.m≤b.m then some b else none)
 else(if a={b with g:=b.g+1,m:=a.m,h:=a.h}∧b.m≤a.m then some a else none)
def Sa(l:List UInt8):Bool:=decide (l.take 64=List.replicate 64 0)
def choose(l m:List UInt8):Except Nat Bu:=
 match DP l,DP m with
 |some a,some b=>(match Ed a b with|some s=>.ok s|none=>.error 4)
 |x,_=>if Sa m=false then .error 4 else if(match x with|some s=>decide (s.g=0)|none=>false)=true then .error 55 else if Sa l=true then .error 55 else .error 4
def CZ(p:Nat)(l:List UInt8):Bool:=
 decide (2≤p)&&decide (p<4096)&&decide (At.C5 l 252=0)&&(decide (1≤(l.getD 0 0).toNat)&&decide ((l.getD 0 0).toNat≤3))&&decide ((l.getD 1 0).toNat≤246)&&decide (le ((l.drop 2).take 4)=p)&&CN ((l.drop (6+(l.getD 1 0).toNat)).take (252 - (6+(l.getD 1 0).toNat)))
end Go.Proofs.YtaapafoibofbjaaGreatDoor.Fr
namespace Go.Proofs.YtaapafoibofbjaaGreatDoor.Ref
open Go.Proofs.YtaapafoibofbjaaGreatDoor
set_option linter.unusedVariables false
def bitsOf(b:UInt8)(j:Nat):List UInt8:=(List.range j).map fun j=>UInt8.ofNat (b.toNat/2^j&&&1)
def bits(l:List UInt8):List UInt8:=l.flatMap fun b=>bitsOf b 8
theorem VY(b:UInt8)(j:Nat):(bitsOf b j).length=j:=by simp[bitsOf]
theorem jd(b:UInt8)(j:Nat):bitsOf b (j+1)=bitsOf b j++[UInt8.ofNat (b.toNat/2^j&&&1)]:=by
 simp[bitsOf,List.range_succ]
theorem ML(l:List UInt8):(bits l).length=8*l.length:=by
 induction l with
 |nil=>rfl
 |cons b r a=>simp only[bits,List.flatMap_cons,List.length_append,VY,List.length_cons]at*;omega
theorem di(l:List UInt8)(b:UInt8):bits (l++[b])=bits l++bitsOf b 8:=by simp[bits]
def Dd:Nat→Nat→List UInt8
 |_,0=>[]
 |v,n+1=>UInt8.ofNat (v % 256)::Dd (v/256) n
theorem Fo(n:Nat):∀v,(Dd v n).length=n:=by
 induction n with
 |zero=>intro v;rfl
 |succ n a=>intro v;simp[Dd,a]
theorem N9(n:Nat):∀v,Fr.le (Dd v n)=v % 256^n:=by
 induction n with
 |zero=>intro v;simp[Dd,Fr.le,Nat.mod_one]
 |succ n a=>
  intro v
  simp only[Dd,Fr.le,a]
  rw[Nat.pow_succ,Nat.mul_comm (256^n) 256,Nat.mod_mul]
  simp
def fill(l:List UInt8)(n:Nat):List UInt8:=l.take n++List.replicate (n - l.length) 0
theorem Nn(l:List UInt8)(n:Nat):(fill l n).length=n:=by simp[fill];omega
theorem Z6(l:List UInt8)(n k:Nat)(a:k<n):(fill l n).getD k 0=if k<l.length then l.getD k 0 else 0:=by
 unfold fill
 simp only[List.getD_eq_getElem?_getD]
 by_cases h:k<l.length
 ·rw[if_pos h,List.getElem?_append_left (by simp;omega),List.getElem?_take,if_pos a]
 ·rw[if_neg h,List.getElem?_append_right (by simp;omega),List.getElem?_replicate]
  split<;>rfl
theorem B3(l:List UInt8)(n k:Nat)(a:k<n):(fill l n).take (k+1)=(fill l n).take k++[if k<l.length then l.getD k 0 else 0]:=by
 rw[←Z6 l n k a,List.take_succ_eq_append_getElem (by rw[Nn];exact a),List.getD_eq_getElem?_getD,List.getElem?_eq_getElem (by rw[Nn];exact a)]
 rfl
def HM(l:List UInt8):List UInt8:=l++Dd (At.sum l) 4
theorem Oc(l:List UInt8):(HM l).length=l.length+4:=by simp[HM,Fo]
def Gc(kind CW:Nat)(B1:List UInt8):List UInt8:=HM (fill ([UInt8.ofNat kind,UInt8.ofNat B1.length]++Dd CW 4++B1) 252)
theorem hD(kind CW:Nat)(B1:List UInt8):(Gc kind CW B1).length=256:=by simp[Gc,Oc,Nn]
def EC(s:Fr.Bu):List UInt8:=fill (HM (fill ([76,68,71,49,UInt8.ofNat s.w,0,0,0]++Dd s.g 8++Dd s.m 4++Dd s.h 4++Dd s.p 4) 60)) 256
theorem b7(s:Fr.Bu):(EC s).length=256:=by simp[EC,Nn]
end Go.Proofs.YtaapafoibofbjaaGreatDoor.Ref
namespace Go.Proofs.YtaapafoibofbjaaGreatDoor
open Go.RowKit
set_option maxHeartbeats 1000000
theorem OG(l:List UInt8)(k:Nat)(h:k<l.length:=by omega):l.take (k+1)=l.take k++[l.getD k 0]:=by
 rw[List.take_succ_eq_append_getElem h,List.getD_eq_getElem?_getD,List.getElem?_eq_getElem h]
 rfl
theorem MP(q r:Option Addr)(n f c c':Nat)(g h:List UInt8)(w:World)(Q:n+f≤1000000000)(V:View w (.slice q n c) n 1 (bv g))(hl:g.length=n)(u:View w (.slice r f c') f 1 (bv h))(R:h.length=f):
 Calls Tryz.prog 67 #[I q n c,I r f c'] w fun e w'=>∃p k,e=.returned (.slice p (n+f) k)∧w'.ownsRow w.heap.size 5 1 (.slice p (n+f) k) (n+f) (bv (g++h))∧Below w.heap.size w w':=by
 refine DZ My D 35 ?_
 refine Ao<|AD<|AV D<|Aw<|Ai<|Ao<|AD<|AV D<|Aw<|Ai<|Ao<|Ao<|AD<|AV (v:=(E 0)) D<|Aw<|Ai<|B'<|?_
 intro a d
 refine Ec (fun s a W=>∃k p j,s=n - k∧AH 35 a (Jb (Jb (Jb (Jb Jk 0 (I q n c)) 1 (I r f c')) 5 (I p k j)) 6 (E k))∧k≤n∧W.ownsRow w.heap.size 5 1 (.slice p k j) k (bv (g.take k))∧Below w.heap.size w W) _ ⟨0,none,0,D,AY d,Nat.zero_le _,World.ownsRow_nil _ _ _ _,Cn _ _⟩ ?_
 rintro _ a S ⟨k,p,j,rfl,d,z,own,b⟩
 revert a
 refine Ao<|Ao<|AD<|Az D<|Az D<|HT Co D<|D_ D D<|Aw<|Ai<|DU D (fun A=>?_) fun A=>?_
 ·
  refine CA<|Ai<|Ao<|B'<|AD<|Az D<|Az D<|Az D<|?_
  obtain⟨T,x,rfl⟩:=IW (V.below b)
  have B:=GH (V.below b) k (o:=x+k*1)
  refine Cc (fun _ d=>Gu d A3 D (i:=((k:Nat):Int)) D k (o:=x+k*1))<|D8 BV B D<|?_
  intro t l
  refine Cp D (fun K m=>IJ l D A3 (v:=(Value.int .u8 ((((g.getD k 0).toNat:Nat):Int):Int))) D (cs:=#[Value.int .u8 ((((g.getD k 0).toNat:Nat):Int):Int)]) D D (Nat.le_of_ble_eq_true D) ?_)
  intro a U d C F J
  have own:=EN own J
  have b:=BG b J
  refine m _ _ ?_;revert a
  intro t l
  refine Cp D (fun K m=>Gn l A3 own F (by simp[Value.oneCell']) b.size (k+1) (zs:=bv (g.take k++[g.getD k 0])) (by simp[bv]) ?_)
  intro a X Y Z d G H
  have b:=F' b H own
  refine m _ _ ?_;revert a
  refine AV D<|Aw<|DN<|Ai<|AD<|Az D<|Dz (q:=1) D D<|AV D<|Aw<|Ai<|?_
  intro a d
  exact⟨_,by omega,k+1,_,_,D,AY d,by omega,by rw[OG g k];exact G,b⟩
 ·
  obtain rfl:n=k:=by omega
  refine Dv<|BY<|BY<|Ds<|Ai<|Ao<|Ao<|AD<|AV (v:=(E 0)) D<|Aw<|Ai<|B'<|?_
  intro a d
  refine Ec (fun s a W=>∃k p j,s=f - k∧AH 35 a (Jb (Jb (Jb Jk 1 (I r f c')) 5 (I p (n+k) j)) 7 (E k))∧k≤f∧W.ownsRow w.heap.size 5 1 (.slice p (n+k) j) (n+k) (bv (g++h.take k))∧Below w.heap.size w W) _ ⟨0,p,j,D,AY d,Nat.zero_le _,by rw[List.take_of_length_le (by omega)]at own;simpa using own,b⟩ ?_
  rintro _ a aa ⟨k,p,j,rfl,d,z,own,b⟩
  revert a
  refine Ao<|Ao<|AD<|Az D<|Az D<|HT Co D<|D_ D D<|Aw<|Ai<|DU D (fun L=>?_) fun L=>?_
  ·
   refine CA<|Ai<|Ao<|B'<|AD<|Az D<|Az D<|Az D<|?_
   obtain⟨ab,y,rfl⟩:=IW (u.below b)
   have M:=GH (u.below b) k (o:=y+k*1)
   refine Cc (fun _ d=>Gu d A3 D (i:=((k:Nat):Int)) D k (o:=y+k*1))<|D8 BV M D<|?_
   intro t l
   refine Cp D (fun K m=>IJ l D A3 (v:=(Value.int .u8 ((((h.getD k 0).toNat:Nat):Int):Int))) D (cs:=#[Value.int .u8 ((((h.getD k 0).toNat:Nat):Int):Int)]) D D (Nat.le_of_ble_eq_true D) ?_)
   intro a ad d C N J
   have own:=EN own J
   have b:=BG b J
   refine m _ _ ?_;revert a
   intro t l
   refine Cp D (fun K m=>Gn l A3 own N (by simp[Value.oneCell']) b.size ((n+k)+1) (zs:=bv (g++h.take k++[h.getD k 0])) (by simp[bv]) ?_)
   intro a ae af ag d O P
   have b:=F' b P own
   refine m _ _ ?_;revert a
   refine AV D<|Aw<|DN<|Ai<|AD<|Az D<|Dz (q:=1) D D<|AV D<|Aw<|Ai<|?_
   intro a d
   exact⟨_,by omega,k+1,_,_,D,AY d,by omega,by rw[OG h k,←List.append_assoc];exact O,b⟩
  ·
   obtain rfl:f=k:=by omega
   refine Dv<|BY<|BY<|Ds<|Ai<|Ao<|AD<|Az D<|AV D<|Aw<|Ai<|C0<|EE D<|?_
   exact⟨_,_,D,by rw[List.take_of_length_le (by omega)]at own;exact own,b⟩
theorem OH(v n:Nat)(w:World)(t:v≤9223372036854775807:=by omega)(u:n≤1000:=by omega):
 Calls Tryz.prog 68 #[E v,E n] w fun e w'=>∃p k,e=.returned (.slice p n k)∧w'.ownsRow w.heap.size 5 1 (.slice p n k) n (bv (Ref.Dd v n))∧Below w.heap.size w w':=by
 refine DZ Nx D 21 ?_
 refine Ao<|AD<|AV D<|Aw<|Ai<|Ao<|AD<|AV D<|Aw<|Ai<|Ao<|Ao<|AD<|AV (v:=(E 0)) D<|Aw<|Ai<|B'<|?_
 intro a b
 refine Ec (fun h a W=>∃k x l p d,h=n - k∧AH 21 a (Jb (Jb (Jb (Jb Jk 0 (E x)) 1 (E n)) 5 (I p k d)) 6 (E k))∧k≤n∧x≤v∧Hid (Ref.Dd v n=l++Ref.Dd x (n - k))∧W.ownsRow w.heap.size 5 1 (.slice p k d) k (bv l)∧Below w.heap.size w W) _ ⟨0,v,[],none,0,D,AY b,Nat.zero_le _,Br _,AX (by simp),World.ownsRow_nil _ _ _ _,Cn _ _⟩ ?_
 rintro _ a y ⟨k,x,l,p,d,rfl,b,z,i,hl,own,c⟩
 revert a
 refine Ao<|Ao<|AD<|Az D<|Az D<|D_ D D<|Aw<|Ai<|DU D (fun j=>?_) fun j=>?_
 ·
  refine CA<|Ai<|Ao<|B'<|Ao<|AD<|Az D<|Az D<|Mz (q:=256) D D<|Cc (fun _ b=>Ex b (p:=((x % 256:Nat):Int)) (r:=(((UInt8.ofNat (x % 256)).toNat:Nat):Int)) D AF BV (H5 (x % 256)))<|?_
  intro m f
  refine Cp D (fun K g=>IJ f D A3 (v:=(Value.int .u8 ((((UInt8.ofNat (x % 256)).toNat:Nat):Int):Int))) D (cs:=#[Value.int .u8 ((((UInt8.ofNat (x % 256)).toNat:Nat):Int):Int)]) D D (Nat.le_of_ble_eq_true D) ?_)
  intro a A b B v4 J
  have own:=EN own J
  have c:=BG c J
  refine g _ _ ?_;revert a
  intro m f
  refine Cp D (fun K g=>Gn f A3 own v4 (by simp[Value.oneCell']) c.size (k+1) (zs:=bv (l++[UInt8.ofNat (x % 256)])) (by simp[bv]) ?_)
  intro a C F G b o s
  have c:=F' c s own
  refine g _ _ ?_;revert a
  refine AV D<|Aw<|Ai<|AD<|Az D<|Qe (q:=256) D D<|AV D<|Aw<|DN<|Ai<|AD<|Az D<|Dz (q:=1) D D<|AV D<|Aw<|Ai<|?_
  intro a b
  exact⟨_,by omega,k+1,_,_,_,_,D,AY b,by omega,Eg (Nat.div_le_self _ _) i,AX (by rw[hl.out,show n - k=(n - (k+1))+1 by omega];simp[Ref.Dd]),o,c⟩
 ·
  obtain rfl:n=k:=by omega
  refine Dv<|BY<|BY<|Ds<|Ai<|Ao<|AD<|Az D<|AV D<|Aw<|Ai<|C0<|EE D<|?_
  exact⟨_,_,D,by rw[hl.out,Nat.sub_self];simpa[Ref.Dd]using own,c⟩
theorem Rw(q:Option Addr)(m c n:Nat)(l:List UInt8)(w:World)(H:n≤1000000000)(hm:m≤1000000000)(V:View w (.slice q m c) m 1 (bv l))(hl:l.length=m):
 Calls Tryz.prog 69 #[I q m c,E n] w fun e w'=>∃p k,e=.returned (.slice p n k)∧w'.ownsRow w.heap.size 5 1 (.slice p n k) n (bv (Ref.fill l n))∧Below w.heap.size w w':=by
 refine DZ PY D 27 ?_
 refine Ao<|AD<|AV D<|Aw<|Ai<|Ao<|AD<|AV D<|Aw<|Ai<|Ao<|Ao<|AD<|AV (v:=(E 0)) D<|Aw<|Ai<|B'<|?_
 intro a d
 refine Ec (fun u a W=>∃k p h,u=n - k∧AH 27 a (Jb (Jb (Jb (Jb Jk 0 (I q m c)) 1 (E n)) 5 (I p k h)) 6 (E k))∧k≤n∧W.ownsRow w.heap.size 5 1 (.slice p k h) k (bv ((Ref.fill l n).take k))∧Below w.heap.size w W) _ ⟨0,none,0,D,AY d,Nat.zero_le _,World.ownsRow_nil _ _ _ _,Cn _ _⟩ ?_
 rintro _ a L ⟨k,p,h,rfl,d,M,own,b⟩
 revert a
 refine Ao<|Ao<|AD<|Az D<|Az D<|D_ D D<|Aw<|Ai<|DU D (fun x=>?_) fun x=>?_
 ·
  refine CA<|Ai<|Ao<|B'<|Ao<|AD<|Az D<|Az D<|HT Co D<|D_ D D<|Aw<|Ai<|DU D (fun y=>?_) fun y=>?_
  ·
   refine AD<|Az D<|Az D<|Az D<|?_
   obtain⟨N,r,rfl⟩:=IW (V.below b)
   have z:=GH (V.below b) k (o:=r+k*1)
   refine Cc (fun _ d=>Gu d A3 D (i:=((k:Nat):Int)) D k (o:=r+k*1))<|D8 BV z D<|?_
   intro j f
   refine Cp D (fun K g=>IJ f D A3 (v:=(Value.int .u8 ((((l.getD k 0).toNat:Nat):Int):Int))) D (cs:=#[Value.int .u8 ((((l.getD k 0).toNat:Nat):Int):Int)]) D D (Nat.le_of_ble_eq_true D) ?_)
   intro a O d A B J
   have own:=EN own J
   have b:=BG b J
   refine g _ _ ?_;revert a
   intro j f
   refine Cp D (fun K g=>Gn f A3 own B (by simp[Value.oneCell']) b.size (k+1) (zs:=bv ((Ref.fill l n).take k++[l.getD k 0])) (by simp[bv]) ?_)
   intro a P Q R d s C
   have b:=F' b C own
   refine g _ _ ?_;revert a
   refine AV D<|Aw<|DN<|Ai<|AD<|Az D<|Dz (q:=1) D D<|AV D<|Aw<|Ai<|?_
   intro a d
   exact⟨_,by omega,k+1,_,_,D,AY d,by omega,by rw[Ref.B3 l n k (by omega)];first|(rw[if_pos (by omega)];exact s)|(rw[if_neg (by omega)];exact s),b⟩
  ·
   refine AD<|Az D<|?_
   intro j f
   refine Cp D (fun K g=>IJ f D A3 (v:=(Value.int .u8 (((0:Nat):Int):Int))) D (cs:=#[Value.int .u8 (((0:Nat):Int):Int)]) D D (Nat.le_of_ble_eq_true D) ?_)
   intro a S d A F J
   have own:=EN own J
   have b:=BG b J
   refine g _ _ ?_;revert a
   intro j f
   refine Cp D (fun K g=>Gn f A3 own F (by simp[Value.oneCell']) b.size (k+1) (zs:=bv ((Ref.fill l n).take k++[0])) (by simp[bv]) ?_)
   intro a T U X d t G
   have b:=F' b G own
   refine g _ _ ?_;revert a
   refine AV D<|Aw<|DN<|Ai<|AD<|Az D<|Dz (q:=1) D D<|AV D<|Aw<|Ai<|?_
   intro a d
   exact⟨_,by omega,k+1,_,_,D,AY d,by omega,by rw[Ref.B3 l n k (by omega)];first|(rw[if_pos (by omega)];exact t)|(rw[if_neg (by omega)];exact t),b⟩
 ·
  obtain rfl:n=k:=by omega
  refine Dv<|BY<|BY<|Ds<|Ai<|Ao<|AD<|Az D<|AV D<|Aw<|Ai<|C0<|EE D<|?_
  exact⟨_,_,D,by rw[List.take_of_length_le (by rw[Ref.Nn];omega)]at own;exact own,b⟩
theorem cy(q:Option Addr)(n c:Nat)(l:List UInt8)(w:World)(N:n≤1000000000)(V:View w (.slice q n c) n 1 (bv l))(hl:l.length=n):
 Calls Tryz.prog 173 #[I q n c] w fun e w'=>∃p k,e=.returned (.slice p (8*n) k)∧w'.ownsRow w.heap.size 5 1 (.slice p (8*n) k) (8*n) (bv (Ref.bits l))∧Below w.heap.size w w':=by
 refine DZ Yq D 28 ?_
 refine Ao<|AD<|AV D<|Aw<|Ai<|Ao<|AD<|AV D<|Aw<|Ai<|Ao<|Ao<|AD<|AV (v:=(E 0)) D<|Aw<|Ai<|B'<|?_
 intro a b
 refine Ec (fun s a W=>∃k p f,s=n - k∧AH 28 a (Jb (Jb (Jb Jk 0 (I q n c)) 3 (I p (8*k) f)) 4 (E k))∧k≤n∧W.ownsRow w.heap.size 5 1 (.slice p (8*k) f) (8*k) (bv (Ref.bits (l.take k)))∧Below w.heap.size w W) _ ⟨0,none,0,D,AY b,Nat.zero_le _,World.ownsRow_nil _ _ _ _,Cn _ _⟩ ?_
 rintro _ a O ⟨k,p,f,rfl,b,P,own,d⟩
 revert a
 refine Ao<|Ao<|AD<|Az D<|Az D<|HT Co D<|D_ D D<|Aw<|Ai<|DU D (fun A=>?_) fun A=>?_
 ·
  refine CA<|Ai<|Ao<|B'<|Ao<|AD<|AV (v:=(E 0)) D<|Aw<|Ai<|B'<|?_
  intro a b
  refine Ec (fun s a W=>∃j p f,s=8 - j∧AH 28 a (Jb (Jb (Jb (Jb Jk 0 (I q n c)) 3 (I p (8*k+j) f)) 4 (E k)) 5 (E j))∧j≤8∧W.ownsRow w.heap.size 5 1 (.slice p (8*k+j) f) (8*k+j) (bv (Ref.bits (l.take k)++Ref.bitsOf (l.getD k 0) j))∧Below w.heap.size w W) _ ⟨0,_,_,D,AY b,Nat.zero_le _,by simpa[Ref.bitsOf]using own,d⟩ ?_
  rintro _ a Q ⟨j,p,f,rfl,b,hj,own,d⟩
  revert a
  refine Ao<|Ao<|AD<|Az D<|D_ (q:=(8:Nat)) D D<|Aw<|Ai<|DU D (fun B=>?_) fun B=>?_
  ·
   refine CA<|Ai<|Ao<|B'<|AD<|Az D<|Az D<|Az D<|?_
   obtain⟨R,x,rfl⟩:=IW (V.below d)
   have C:=GH (V.below d) k (o:=x+k*1)
   refine Cc (fun _ b=>Gu b A3 D (i:=((k:Nat):Int)) D k (o:=x+k*1))<|D8 BV C D<|Az D<|Cc (fun _ b=>Ex b (p:=((j:Nat):Int)) (r:=((j:Nat):Int)) D AF Kp (JB j))<|?_
   obtain⟨m,y⟩:∃g:Nat,g=((l.getD k 0).toNat)/2^j:=⟨_,D⟩
   have F:m<256:=by rw[y];exact Nat.lt_of_le_of_lt (Nat.div_le_self _ _) (UInt8.toNat_lt _)
   refine Cc (fun _ b=>IG b (k:=.u8) (p:=(l.getD k 0).toNat) (n:=j) (r:=m) D D (by simp only[IntKind.bits];omega) y.symm)<|?_
   obtain⟨h,z⟩:∃g:Nat,g=m&&&1:=⟨_,D⟩
   have G:h<256:=by rw[z];exact Nat.lt_of_le_of_lt Nat.and_le_right (by decide)
   refine Cc (fun _ b=>D6 b (k:=.u8) (p:=((m:Nat):Int)) (q:=((1:Nat):Int)) (r:=((h:Nat):Int)) (.inl D) D D (by rw[z];exact u8_and_nat _ _ F (by decide)))<|?_
   intro H t
   refine Cp D (fun K u=>IJ t D A3 (v:=(Value.int .u8 (((h:Nat):Int):Int))) D (cs:=#[Value.int .u8 (((h:Nat):Int):Int)]) D D (Nat.le_of_ble_eq_true D) ?_)
   intro a S b T v11 J
   have own:=EN own J
   have d:=BG d J
   refine u _ _ ?_;revert a
   intro H t
   refine Cp D (fun K u=>Gn t A3 own v11 (by simp[Value.oneCell']) d.size ((8*k+j)+1) (zs:=bv (Ref.bits (l.take k)++Ref.bitsOf (l.getD k 0) j++[UInt8.ofNat h])) (by rw[Tg _ G];simp[bv]) ?_)
   intro a U X Y b L M
   have d:=F' d M own
   refine u _ _ ?_;revert a
   refine AV D<|Aw<|DN<|Ai<|AD<|Az D<|Dz (q:=1) D D<|AV D<|Aw<|Ai<|?_
   intro a b
   exact⟨_,by omega,j+1,_,_,D,AY b,by omega,by rw[Ref.jd,←List.append_assoc];show World.ownsRow _ _ _ _ (.slice _ (8*k+j+1) _) (8*k+j+1) _;simp only[Nat.and_one_is_mod]at*;simpa[*]using L,d⟩
  ·
   obtain rfl:j=8:=by omega
   refine Dv<|BY<|BY<|Ds<|DN<|Ai<|AD<|Az D<|Dz (q:=1) D D<|AV D<|Aw<|Ai<|?_
   intro a b
   exact⟨_,by omega,k+1,_,_,D,AY b,by omega,by rw[OG l k,Ref.di];exact own,d⟩
 ·
  obtain rfl:n=k:=by omega
  refine Dv<|BY<|BY<|Ds<|Ai<|Ao<|AD<|Az D<|AV D<|Aw<|Ai<|C0<|EE D<|?_
  exact⟨_,_,D,by rw[List.take_of_length_le (by omega)]at own;exact own,d⟩
end Go.Proofs.YtaapafoibofbjaaGreatDoor
