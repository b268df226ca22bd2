/- Laws and walks on the road to SalvagePlays (part M41). No conditions beyond each law's own. -/
import Derived.Test.YtjdboncaegphmaaGreatDoorM40
set_option linter.unusedVariables false
namespace Go.Proofs.YtjdboncaegphmaaGreatDoor
open Go.RowKit Go.Maps
set_option maxRecDepth 100000
set_option maxHeartbeats 2000000
variable {m Bi:Nat}
def Of(W:World)(n:Nat)(a b d:Value):Prop:=(a=.int .u32 0∧b=.int .i32 0)∨∃Al,a=.int .u32 1∧d=.map (some Al)∧W.ownsMap Tryz.prog 105 (plainElem (H:=Unit) Tryz.prog 3) Al (8*n+32) (At.Fa (At.EG n) (.map []))
theorem Of.kept{w W:World}{n:Nat}{a b d:Value}(h:Of w n a b d)(J:∀k,k<w.heap.size→(∃es c,w.heap[k]? =some (.map es c))→W.heap[k]? =w.heap[k]?):Of W n a b d:=by
 rcases h with h1|⟨Al,h1,f,e⟩
 ·exact .inl h1
 ·have hl:=e.lt;have g:=e;obtain⟨es,c,q,_⟩:=g;exact .inr ⟨Al,h1,f,Kb e (J Al hl ⟨es,c,q⟩)⟩
def Oo(ib n c:Nat)(u:Fr.Bu)(a b d e f i j k:Value):Array Value:=flat [[.slice (some ⟨ib,0,none⟩) n c],[.int .i64 ((u.w:Nat):Int)],[.int .i64 ((u.g:Nat):Int)],[.int .i64 ((u.m:Nat):Int)],[.int .i64 ((u.h:Nat):Int)],[.int .i64 ((u.p:Nat):Int)],[a],[b],[d],[e],[f],[i],[j],[k]]
structure MK (Bj AK ib n c:Nat) (W:World) (l:rG) (u:Fr.Bu) (uK uR uS uT uQ uJ uH uN:Value):Prop where
 H:W.heap[AK]? =some (.cells (Oo ib n c u uK uR uS uT uQ uJ uH uN) 118 (0,0))
 o:W.ownsRow Bj 5 1 (.slice (some ⟨ib,0,none⟩) n c) n (bv l)
 A:Of W 252 uK uR uT
 B:Of W 60 uQ uJ uN
 vC:Bj≤AK
 ne:ib≠AK
def BS(Bj AK ib n c:Nat)(W:World)(l:rG)(u:Fr.Bu):Prop:=∃a b d e f g h i,MK Bj AK ib n c W l u a b d e f g h i
def EM(AK ib k:Nat):Prop:=k=AK∨k=ib
section
variable {Bj AK ib n c p k:Nat} {w W:World} {l:rG} {u:Fr.Bu}
theorem HL{Bj ib n c:Nat}{w:World}{e:TypeId}{xs:List Value}(h:w.ownsRow Bj e 1 (.slice (some ⟨ib,0,none⟩) n c) n xs):Bj≤ib∧∃cur,w.heap[ib]? =some (.cells cur e (0,0))∧cur.size=c∧n≤c∧c≤maxLen∧cur.toList.take n=xs:=by
 rcases h.2 with⟨q,_⟩|⟨g,cap,cur,h1,J,a,b,d,f,i⟩
 ·cases q
 ·simp only[Value.slice.injEq,Option.some.injEq,Addr.mk.injEq]at h1;obtain⟨⟨rfl,_⟩,_,rfl⟩:=h1;exact⟨J,cur,a,by simpa using f,b,d,by simpa using i⟩
theorem P3{Bj ib n c:Nat}{w:World}{e:TypeId}{xs:List Value}{cur:Array Value}(b:Bj≤ib)(h:w.heap[ib]? =some (.cells cur e (0,0)))(d:cur.size=c)(f:n≤c)(g:c≤maxLen)(a:cur.toList.take n=xs):w.ownsRow Bj e 1 (.slice (some ⟨ib,0,none⟩) n c) n xs:=by
 refine⟨?_,.inr ⟨ib,c,cur,D,b,h,f,g,by simpa using d,by simpa using a⟩⟩;rw[←a,FX];simp;omega
theorem BS.Hi(h:BS Bj AK ib n c w l u):ib<w.heap.size:=by
 obtain⟨_,_,_,_,_,_,_,_,h⟩:=h;obtain⟨_,cur,a,_⟩:=HL h.o;exact DC a
theorem BS.G2(h:BS Bj AK ib n c w l u):AK<w.heap.size:=by
 obtain⟨_,_,_,_,_,_,_,_,h⟩:=h;exact DC h.H
theorem BS.len(h:BS Bj AK ib n c w l u):l.length=n:=by
 obtain⟨_,_,_,_,_,_,_,_,h⟩:=h;exact De h.o
theorem BS.low(h:BS Bj AK ib n c w l u):Bj≤AK∧Bj≤ib:=by
 obtain⟨_,_,_,_,_,_,_,_,h⟩:=h;exact⟨h.vC,(HL h.o).1⟩
theorem BS.Bn(h:BS Bj AK ib n c w l u)(a:W.heap[AK]? =w.heap[AK]?)(b:W.heap[ib]? =w.heap[ib]?)(hm:∀k,k<w.heap.size→(∃es c,w.heap[k]? =some (.map es c))→W.heap[k]? =w.heap[k]?):BS Bj AK ib n c W l u:=by
 obtain⟨d,e,f,g,i,j,m,p,h⟩:=h;obtain⟨q,cur,r,s,t,v,x⟩:=HL h.o;exact⟨d,e,f,g,i,j,m,p,a.trans h.H,P3 q (b.trans r) s t v x,h.A.kept hm,h.B.kept hm,h.vC,h.ne⟩
theorem BS.below(h:BS Bj AK ib n c w l u)(a:Below w.heap.size w W):BS Bj AK ib n c W l u:=h.Bn (a.block _ h.G2) (a.block _ h.Hi) (fun k b _=>a.block k b)
theorem BS.grown(h:BS Bj AK ib n c w l u)(g:w.grownBy W (some k))(h1:k≠AK)(a:k≠ib)(hr:∃c t,w.heap[k]? =some (.cells c t (0,0))):BS Bj AK ib n c W l u:=by
 obtain⟨c',b,hr⟩:=hr;exact h.Bn (g.block _ h.G2 (fun e=>h1 (by cases e;rfl))) (g.block _ h.Hi (fun e=>a (by cases e;rfl))) (fun j hj ⟨es,As,hm⟩=>g.block j hj (by
  intro e;cases e;rw[hr]at hm;cases hm))
theorem BS.Ny{v BA:Value}{B size:Nat}{e:TypeId}{xs:List Value}(h:BS Bj AK ib n c w l u)(BO:D0 w W v BA)(ho:w.ownsRow B e size v m xs)(h1:∀k,v.ownBlock=some k→k≠AK)(a:∀k,v.ownBlock=some k→k≠ib):BS Bj AK ib n c W l u:=by
 have g:=BO.Bg;refine h.Bn (g.block _ h.G2 (fun e=>h1 _ e.symm D)) (g.block _ h.Hi (fun e=>a _ e.symm D)) (fun j hj ⟨es,As,hm⟩=>g.block j hj ?_);intro e
 rcases ho.2 with⟨q,_⟩|⟨HZ,cap,cur,b,_,d,_⟩
 ·rw[q]at e;cases e
 ·rw[b]at e;simp only[Value.ownBlock,Option.some.injEq]at e;subst e;rw[d]at hm;cases hm
theorem F0{l:rG}{n p:Nat}(h:l.length=n)(a:256*(p+1)≤n:=by omega):(Dc l p).length=256:=by unfold Dc;rw[FX,J3];omega
theorem BS.view(h:BS Bj AK ib n c w l u)(off m:Nat)(hm:off+m≤n):View w (.slice (some ⟨ib,off,none⟩) m (c - off)) m 1 (bv ((l.drop off).take m)):=by
 obtain⟨d,f,g,i,k,p,q,r,h⟩:=h;obtain⟨s,cur,a,t,x,y,b⟩:=HL h.o;have hl:=De h.o;have e:(bv ((l.drop off).take m))=((bv l).drop off).take m:=by simp[bv,List.map_drop,List.map_take]
 refine⟨by rw[DG,FX,J3];omega,.inr ⟨ib,off,c - off,D,by rw[DG,FX,J3];omega,JY,JY,DC a,fun j v hj=>?_⟩⟩;rw[cell_of_row _ _ _ _ _ _ a];rw[e,LQ]at hj;split at hj
 ·rw[Q1,←b,LQ]at hj;split at hj
  ·simpa using hj
  ·cases hj
 ·cases hj
theorem BS.CW(h:BS Bj AK ib n c w l u)(a:256*(p+1)≤n):View w (.slice (some ⟨ib,256*p,none⟩) 256 (c - 256*p)) 256 1 (bv (Dc l p)):=h.view (256*p) 256 JY
theorem BS.cell(h:BS Bj AK ib n c w l u){i:Nat}(V:i<n):w.cell? ⟨ib,i,none⟩=some (.int .u8 (((l.getD i 0).toNat:Nat):Int)):=by
 obtain⟨d,e,f,g,j,k,m,p,h⟩:=h;obtain⟨q,cur,a,r,s,t,b⟩:=HL h.o;have hl:=De h.o;rw[cell_of_row _ _ _ _ _ _ a];have:(bv l)[i]? =some (.int .u8 (((l.getD i 0).toNat:Nat):Int)):=by
  unfold bv;rw[ti,F3 JY,Dm,F3 JY];rfl
 rw[←b,LQ,if_pos V]at this;simpa using this
theorem BS.set(h:BS Bj AK ib n c w l u){i:Nat}{x:UInt8}(V:i<n){cur:Array Value}(a:w.heap[ib]? =some (.cells cur 5 (0,0)))(d:W.heap[ib]? =some (.cells (cur.setIfInBounds i (.int .u8 ((x.toNat:Nat):Int))) 5 (0,0)))(g:w.grownBy W (some ib)):BS Bj AK ib n c W (l.set i x) u:=by
 have f:=h.G2;obtain⟨k,m,p,q,r,s,t,v,h⟩:=h;obtain⟨y,F,b,z,C,D,E⟩:=HL h.o;rw[a]at b;cases b;have hm:∀j,j<w.heap.size→(∃es c,w.heap[j]? =some (.map es c))→W.heap[j]? =w.heap[j]? :=fun j hj ⟨es,As,hm⟩=>g.block j hj (by
  intro e;cases e;rw[a]at hm;cases hm)
 refine⟨k,m,p,q,r,s,t,v,(g.block _ f (fun e=>h.ne (by cases e;rfl))).trans h.H,P3 y d (by simpa using z) C D ?_,h.A.kept hm,h.B.kept hm,h.vC,h.ne⟩;rw[tX,List.take_set,E];simp[bv,List.map_set]
theorem bq{cs:Array Value}{t v x y z A B C:Value}(D:cs.size=14)(h:∀j,j<6→cs[j]? =(Oo ib n c u t v x y z A B C)[j]?):∃a b d e s6 f i k,cs=Oo ib n c u a b d e s6 f i k:=by
 have l:=h 0 JZ;have h1:=h 1 JZ;have o:=h 2 JZ;have q:=h 3 JZ;have r:=h 4 JZ;have s:=h 5 JZ;obtain⟨L⟩:=cs
 match L,D,l,h1,o,q,r,s with
 |[E,F,G,H,I,J,a,b,d,e,s6,f,i,k],_,l,h1,o,q,r,s=>
  have K:E=Value.slice (some ⟨ib,0,none⟩) n c:=Option.some.inj l;have M:F=Value.int .i64 ((u.w:Nat):Int):=Option.some.inj h1;have N:G=Value.int .i64 ((u.g:Nat):Int):=Option.some.inj o;have O:H=Value.int .i64 ((u.m:Nat):Int):=Option.some.inj q;have P:I=Value.int .i64 ((u.h:Nat):Int):=Option.some.inj r;have Q:J=Value.int .i64 ((u.p:Nat):Int):=Option.some.inj s;exact⟨a,b,d,e,s6,f,i,k,by rw[K,M,N,O,P,Q];rfl⟩
theorem BS.Yy{k:Nat}{a b y d f i z r:Value}(h:MK Bj AK ib n c w l u a b y d f i z r)(C:(Bi=6∧k=252)∨(Bi=10∧k=60))(t:Hm w W AK Bi k (Oo ib n c u a b y d f i z r) 118):BS Bj AK ib n c W l u∧w.grownBy W (some AK):=by
 obtain⟨L,g,EF,Ev,Kw,HQ⟩:=t;have hm:∀j,j<w.heap.size→(∃es c,w.heap[j]? =some (.map es c))→W.heap[j]? =w.heap[j]? :=fun j hj ⟨es,As,D⟩=>g.block j hj (by
  intro e;cases e;rw[h.H]at D;cases D)
 obtain⟨M,cur,E,N,O,P,Q⟩:=HL h.o;have R:W.heap[ib]? =some (.cells cur 5 (0,0)):=(g.block _ (DC E) (fun e=>h.ne (by cases e;rfl))).trans E;obtain⟨F,G,S,I,s6,J,T,K,e⟩:=bq (cs:=L) (by rw[Kw];rfl) (fun j hj=>HQ j JY);subst e;refine⟨⟨F,G,S,I,s6,J,T,K,EF,P3 M R N O P Q,?_,?_,h.vC,h.ne⟩,g⟩
 ·rcases C with⟨rfl,rfl⟩|⟨rfl,rfl⟩
  ·rcases Ev.2 with⟨p,q⟩|⟨Al,p,q,m⟩
   ·exact .inl ⟨Option.some.inj p,Option.some.inj q⟩
   ·exact .inr ⟨Al,Option.some.inj p,Option.some.inj q,m⟩
  ·have s:F=a:=Option.some.inj (HQ 6 JY);have v:G=b:=Option.some.inj (HQ 7 JY);have x:I=d:=Option.some.inj (HQ 9 JY);rw[s,v,x];exact h.A.kept hm
 ·rcases C with⟨rfl,rfl⟩|⟨rfl,rfl⟩
  ·have s:s6=f:=Option.some.inj (HQ 10 JY);have v:J=i:=Option.some.inj (HQ 11 JY);have x:K=r:=Option.some.inj (HQ 13 JY);rw[s,v,x];exact h.B.kept hm
  ·rcases Ev.2 with⟨p,q⟩|⟨Al,p,q,m⟩
   ·exact .inl ⟨Option.some.inj p,Option.some.inj q⟩
   ·exact .inr ⟨Al,Option.some.inj p,Option.some.inj q,m⟩
theorem MK.Uq{a b d e f g i j:Value}(h:MK Bj AK ib n c w l u a b d e f g i j){k:Nat}(o:(Bi=6∧k=252)∨(Bi=10∧k=60)):TabIs w AK Bi k (Oo ib n c u a b d e f g i j):=by
 rcases o with⟨rfl,rfl⟩|⟨rfl,rfl⟩
 ·refine⟨by show 6+3<14;decide,?_⟩
  rcases h.A with⟨p,q⟩|⟨Al,p,q,m⟩
  ·exact .inl ⟨congrArg some p,congrArg some q⟩
  ·exact .inr ⟨Al,congrArg some p,congrArg some q,m⟩
 ·refine⟨by show 10+3<14;decide,?_⟩
  rcases h.B with⟨p,q⟩|⟨Al,p,q,m⟩
  ·exact .inl ⟨congrArg some p,congrArg some q⟩
  ·exact .inr ⟨Al,congrArg some p,congrArg some q,m⟩
theorem Cu.PC{X:Nat→Prop}{b:Nat}(g:w.grownBy W (some b))(J:X b):Cu X w W:=⟨g.os,g.tape,g.output,g.size,fun k a c=>g.block k a (fun e=>c (by cases e;exact J))⟩
theorem X1{k:Nat}(h:BS Bj AK ib n c w l u)(d:(Bi=6∧k=252∧m=256)∨(Bi=10∧k=60∧m=64))(f:256*(p+1)≤n)(a:At.last (At.EG k) (At.C5 ((Dc l p).take m) k)=none):
 Calls Tryz.prog 72 #[.pointer (some ⟨AK,Bi,none⟩),.slice (some ⟨ib,256*p,none⟩) m (c - 256*p),.int .i64 ((k:Nat):Int)] w fun e w'=>e=.returned (.tuple #[.nilFunc,.bool false])∧BS Bj AK ib n c w' l u∧Cu (EM AK ib) w w':=by
 have hl:=h.len;have b:=h.view (256*p) m JY;obtain⟨i,j,o,r,s,v,x,y,h⟩:=h;have e:(Dc l p).take m=(l.drop (256*p)).take m:=by unfold Dc;rw[LN,aQ JY]
 rw[e]at a;refine(eo AK Bi k m (c - 256*p) (some ⟨ib,256*p,none⟩) _ _ _ w h.H (h.Uq JY) JY JY b (by rw[FX,J3];omega) JY a).mono ?_;rintro e w' ⟨rfl,t⟩;obtain⟨q,g⟩:=BS.Yy h JY t;exact⟨D,q,Cu.PC g (.inl D)⟩
theorem Qq{k j:Nat}(h:BS Bj AK ib n c w l u)(A:(Bi=6∧k=252∧m=256)∨(Bi=10∧k=60∧m=64))(B:256*(p+1)≤n)(b:At.last (At.EG k) (At.C5 ((Dc l p).take m) k)=some j)(hj:j<8*m:=by omega):
 Calls Tryz.prog 72 #[.pointer (some ⟨AK,Bi,none⟩),.slice (some ⟨ib,256*p,none⟩) m (c - 256*p),.int .i64 ((k:Nat):Int)] w fun e w'=>∃v,e=.returned (.tuple #[v,.bool true])∧BS Bj AK ib n c w' (At.bit l (2048*p+j)) u∧Cu (EM AK ib) w w'∧Vb w w' v ib (256*p) m (c - 256*p) j:=by
 have hl:=h.len;have f:=h.view (256*p) m JY;obtain⟨C,E,F,G,I,J,K,L,h⟩:=h;have e:(Dc l p).take m=(l.drop (256*p)).take m:=by unfold Dc;rw[LN,aQ JY]
 rw[e]at b;obtain⟨M,cur,a,N,O,P,Q⟩:=HL h.o;refine(bR AK Bi k m (c - 256*p) (256*p) ib j _ cur _ _ w h.H (h.Uq JY) JY JY a h.ne f (by rw[FX,J3];omega) JY b hj JY).mono ?_;rintro e w' ⟨v,i,rfl,t,g,hw,r⟩;obtain⟨q,d⟩:=BS.Yy h JY t;have x:i.heap[ib]? =some (.cells cur 5 (0,0)):=(d.block _ (DC a) (fun e=>h.ne (by cases e;rfl))).trans a;have y:((l.drop (256*p)).take m).getD (j/8) 0=l.getD (256*p+j/8) 0:=by
  rw[Dm,Dm,LQ,if_pos JY,Q1]
 rw[y]at hw;have s:=q.set JY x hw g;refine⟨v,D,?_,(Cu.PC (X:=EM AK ib) d (.inl D)).trans (Cu.PC (X:=EM AK ib) g (.inr D)) (fun _ h _=>h),r⟩;have z:At.bit l (2048*p+j)=l.set (256*p+j/8) (l.getD (256*p+j/8) 0^^^UInt8.ofNat (2^(j % 8))):=by
  unfold At.bit At.Im;rw[show(2048*p+j)/8=256*p+j/8 by omega,show(2048*p+j) % 8=j % 8 by omega]
 rw[z];exact s
theorem Us{G5 Ac a j:Nat}(h:BS Bj AK ib n c w l u)(v:256*(p+1)≤n)(hm:m≤256)(d:G5=c - 256*p)(x:n≤1048576)(hj:j<8*m)(f:w.heap[Ac]? =some (.cells (flat [[.slice (some ⟨ib,256*p,none⟩) m G5]]) 29 (0,0)))(i:w.heap[a]? =some (.cells (flat [[.int .i64 ((j:Nat):Int)]]) 3 (0,0))):
 Calls Tryz.prog 103 #[.pointer (some ⟨Ac,0,none⟩),.pointer (some ⟨a,0,none⟩)] w fun e w'=>e=.returned (.tuple #[])∧BS Bj AK ib n c w' (At.bit l (2048*p+j)) u∧Cu (EM AK ib) w w':=by
 subst d;have hl:=h.len;have k:=h.view (256*p) m JY;obtain⟨y,z,A,B,C,E,F,G,q⟩:=id h;obtain⟨H,cur,b,I,J,K,L⟩:=HL q.o;refine(Yn Ac a ib (256*p) m (c - 256*p) j _ cur w f i b k (by rw[FX,J3];omega) hj JY).mono ?_;rintro e w' ⟨rfl,g,hw⟩;have r:((l.drop (256*p)).take m).getD (j/8) 0=l.getD (256*p+j/8) 0:=by
  rw[Dm,Dm,LQ,if_pos JY,Q1]
 rw[r]at hw;have s:=h.set JY b hw g;refine⟨D,?_,Cu.PC (X:=EM AK ib) g (.inr D)⟩;have t:At.bit l (2048*p+j)=l.set (256*p+j/8) (l.getD (256*p+j/8) 0^^^UInt8.ofNat (2^(j % 8))):=by
  unfold At.bit At.Im;rw[show(2048*p+j)/8=256*p+j/8 by omega,show(2048*p+j) % 8=j % 8 by omega]
 rw[t];exact s
end
