/- Laws and walks on the road to SalvagePlays (part M38). No conditions beyond each law's own. -/
import Derived.Test.YtjdboncaegphmaaGreatDoorM37
set_option linter.unusedVariables false
namespace Go.Proofs.YtjdboncaegphmaaGreatDoor
open Go.RowKit
set_option maxRecDepth 100000
set_option maxHeartbeats 2000000
variable {n k size c m bytes:Nat} {xs CP zs:List Value} {v z:Value} {x y:Operand} {e t:TypeId} {p:Option Addr}
def tt(x:UInt32):List Value:=[Be .u32 x.toNat]
theorem jE(x:UInt32):(tt x).length=1:=rfl
theorem uc:CO Tryz.prog 124 105 1 4 (.int .u32 0):=CO.mk' rT AB D JZ
theorem sI(n:Nat):(madeCells (Value.int .u32 0).cells (n*1)).toList=Aq tt (List.replicate n 0):=by
 rw[Q6,show(Value.int .u32 0).cells=#[.int .u32 0]from D,toList_madeCells_one]
 induction n with
 |zero=>rfl
 |succ n a=>rw[nf,nf,a];rfl
theorem m2{Bo:Type}{enc:Bo→List Value}(hl:∀x,(enc x).length=1){x:Bo}(a:enc x=[v]):∀(L:List Bo) (j:Nat),(Aq enc L).set j v=Aq enc (L.set j x):=by
 intro L
 induction L with
 |nil=>intro j;rfl
 |cons y L b=>
  intro j;obtain⟨u,hu⟩:∃u,enc y=[u]:=by
   have:=hl y
   match h:enc y,this with
   |[u],_=>exact⟨u,D⟩
  have e:Aq enc (y::L)=u::Aq enc L:=by unfold Aq;rw[Zv,W1,hu];rfl
  cases j with
  |zero=>
   rw[e,RI,RI];unfold Aq;rw[Zv,W1,a];rfl
  |succ j=>
   rw[e,JX,JX,b];unfold Aq;rw[Zv,W1,hu];rfl
theorem jV(l:rG)(j:Nat)(b:UInt8):(bv l).set j (Be .u8 b.toNat)=bv (l.set j b):=by simp[bv,List.map_set]
theorem r8{y:Option Addr}{g l:Nat}(a:y=some ⟨g,0,none⟩)(h:l<c):sp y l c 1=some ⟨g,l,none⟩:=by
 subst a;unfold sp;rw[if_neg JY,Q6];show some (Addr.add ⟨g,0,none⟩ l)=_;unfold Addr.add;rw[IC];split
 ·rename_i b;rw[b]
 ·rfl
section
variable {P:Program} {Aa:Exit→Act→World→Prop} {N:Nat} {f:BW} {d:Nat} {ty:TypeId} {pos:String} {An:Array Edge} {g:Option (Nat×Bool)} {F:Nat→Prop} {w0:World} {H:List Atom} {A5:Act→World→Prop}
theorem jj(i j:Nat){T:TypeId}(V:H[i]? =some (Ae e 1 (.slice p n c) m xs))(d:Aj f x=some (Hn p j))(l:Aj f y=some v)(o:xs.set j v=CP)(h:AT N f F w0 (H.set i (Ae e 1 (.slice p n c) m CP)) A5)
 (hj:j<m:=by omega)(r:v.oneCell'=true:=by exact rfl)(s:(P.info? T).map (·.size)=some 1:=by kernel_rfl):D3 P ⟨none,.store T x y,ty,pos,An,g⟩ Aa N f F w0 H A5:=fun a w t b=>by
 have ho:=b.rw i V;obtain⟨HZ,rfl⟩:=OA ho;refine YI t ho (j:=j) (by rw[d];show some (Value.pointer (some ⟨HZ,0+j,none⟩))=_;rw[IC]) hj l r s o (fun u W z h1 BO=>h u W z (b.set i V (C7.Ny BO) h1 (fun k q=>.inl q)))
theorem hg(i j l:Nat){T:TypeId}{c':Nat}(V:H[i]? =some (Ae e 1 (.slice p n c) m xs))(b:Aj f x=some (Hn (sp p l c' 1) k))(o:Aj f y=some v)(r:xs.set j v=CP)(h:AT N f F w0 (H.set i (Ae e 1 (.slice p n c) m CP)) A5)
 (s:l<c':=by omega)(t:l+k=j:=by omega)(hj:j<m:=by omega)(u:v.oneCell'=true:=by exact rfl)(z:(P.info? T).map (·.size)=some 1:=by kernel_rfl):D3 P ⟨none,.store T x y,ty,pos,An,g⟩ Aa N f F w0 H A5:=fun a w A d=>by
 have ho:=d.rw i V;obtain⟨HZ,rfl⟩:=OA ho;subst t;rw[r8 D s]at b;exact YI A ho (j:=l+k) b hj o u z r (fun B W C h1 BO=>h B W C (d.set i V (C7.Ny BO) h1 (fun k q=>.inl q)))
theorem pJ{u:TypeId}{k:IntKind}(b:Aj f x=some (Be .u8 1))(c:Aj f y=some (.int k n))(h:n≤8:=by omega):BR P N f F w0 H ⟨some d,.binOp .shl t x y u,ty,pos,An,g⟩ (Be .u8 (UInt8.ofNat (2^n)).toNat):=fun a w e i=>Kc (p:=1) e b c (by simp only[IntKind.bits];omega) (by rw[fC];exact H5 _)
theorem nY{u:TypeId}{k:IntKind}(b:Aj f x=some (Be .u32 1))(c:Aj f y=some (.int k n))(h:n<32:=by omega):BR P N f F w0 H ⟨some d,.binOp .shl t x y u,ty,pos,An,g⟩ (Be .u32 (UInt32.ofNat (2^n)).toNat):=fun a w e i=>Kc (p:=1) e b c (by simp only[IntKind.bits];omega) (by rw[fC,wrap_u32,oK])
end
theorem nO{w w':World}(h:View w v n size xs)(c:w.heap.size≤w'.heap.size)(he:∀k,v.ownBlock=some k→w'.heap[k]? =w.heap[k]?):View w' v n size xs:=by
 refine⟨h.1,?_⟩
 rcases h.2 with q|⟨b,off,cap,a,h1,d,e,J,f⟩
 ·exact .inl q
 ·exact .inr ⟨b,off,cap,a,h1,d,e,Wb J c,f.Fm (he b (by rw[a];rfl))⟩
theorem oc{P:Program}(w:World){ty:TypeId}(b:CO P t e size bytes z)(base:Nat)
 (v:Value)(n:Nat)(xs:List Value)(d:w.ownsRow base e size v n xs)
 (a:Addr)(m c:Nat)(news:List Value)(hl:news.length=m*size)(f:∀j u,news[j]? =some u→w.cell? (a.add j)=some u)(h1:∀u∈news,u.oneCell'=true)
 (l:n+m≤maxLen)(o:(n+m)*bytes≤140737488355328)(q:base≤w.heap.size):
 ∃BA w',(Builtin.append_ #[t,t] ty #[v,.slice (some a) m c]).run P w=.ok BA w'∧w'.ownsRow base e size BA (n+m) (xs++news)∧D0 w w' v BA∧(BA.ownBlock=v.ownBlock∨Below w.heap.size w w'):=by
 obtain⟨BA,w',hr,ho,BO⟩:=VZ (P:=P) (ty:=ty) w b base v n xs d a m c news hl f h1 l o q;refine⟨BA,w',hr,ho,BO,?_⟩;obtain⟨i,V,r,rfl,rfl⟩:=b.V;have B:n+m≤9223372036854775807:=by simp only[maxLen]at l;omega
 rcases d.2 with⟨rfl,rfl⟩|⟨g,cap,cur,rfl,C,s,E,F,x,G⟩
 ·exact .inr ⟨BO.Bg.os,BO.Bg.tape,BO.Bg.output,BO.Bg.size,fun k b=>BO.Bg.block k b (fun e=>by cases e)⟩
 ·by_cases p:n+m≤cap
  ·have y:n*i.size+news.length≤cur.size:=by rw[hl,x,←iO];exact Xr _ p
   have h:=run_append_room (P:=P) w t ty e i b.uG V g n cap cur s a m c news hl f h1 p y;rw[h]at hr;obtain⟨rfl,rfl⟩:=(by simpa using hr:_∧_)
   exact .inl D
  ·have holds:∀j u,xs[j]? =some u→w.cell? ((⟨g,0,none⟩:Addr).add j)=some u:=d.cells (g:=g) D;have h:=run_append_grow (P:=P) w t ty e i z b.uG V r ⟨g,0,none⟩ n cap xs d.1 holds a m c news hl f JY JY (growslice_fits JY o);rw[h]at hr;obtain⟨rfl,rfl⟩:=(by simpa using hr:_∧_)
   exact .inr ⟨BO.Bg.os,BO.Bg.tape,BO.Bg.output,BO.Bg.size,fun k b=>Below.heap_alloc _ _ k b⟩
section
variable {P:Program} {w w':World} {ops:Array Oper} {rest:List Oper} {a:Act} {Aa:Exit→Act→World→Prop} {N:Nat} {f:BW} {d:Nat} {ty:TypeId} {pos:String} {An:Array Edge} {dst:Option Tmp} {g:Option (Nat×Bool)} {A5:Act→World→Prop}
theorem su(l:AH N a f)(Ad:Nat.blt d N=true)(A:CO P t e size bytes z){s:Operand}
 (base:Nat){y:Value}(C:Aj f s=some v)(E:Aj f x=some y)
 (r:w.ownsRow base e size v n xs)(F:View w y m size CP)(h1:∀u∈CP,u.oneCell'=true)
 (J:n+m≤maxLen)(K:(n+m)*bytes≤140737488355328)(L:base≤w.heap.size)(M:n+m=k)(G:xs++CP.take (m*size)=zs)
 (h:∀o p c W,AH N o (Jb f d (.slice p k c))→W.ownsRow base e size (.slice p k c) k zs→D0 w W v (.slice p k c)→((Value.slice p k c).ownBlock=v.ownBlock∨Below w.heap.size w W)→A5 o W):
 Dw P ⟨some d,.call {callee:=.builtin .append,args:=#[s,x],argTypes:=#[t,t]},ty,pos,An,g⟩ a w A5 Aa:=by
 subst M;subst G;obtain⟨i,V,G,S,T⟩:=A.V;have form:∀w' BA k H,World.ownsRow w' base e size BA k H→∃p c,BA=.slice p k c:=by
  intro w' BA k H q
  rcases q.2 with⟨rfl,rfl⟩|⟨g,cap,cur,rfl,_⟩<;>exact⟨_,_,D⟩
 rcases F.2 with⟨rfl,rfl,rfl⟩|⟨b,off,cap,rfl,U,X,Y,Z,O⟩
 ·obtain⟨p,c,rfl⟩:=form w v n xs r;refine F8 (v:=.slice p n c) (w':=w) l Ad ?_ (fun o B=>h o p c w B (by simpa using r) (D0.refl _ _) (.inl D));have hr:=run_append_owned_none (P:=P) (w:=w) base t ty e i size A.uG V (.slice p n c) n xs r;simp only[execOp,resolve,invoke,builtin,Sem.run_bind,Sem.run_pure,Result.andThen_ok,kz,Zv,kV,l.A_ C,l.A_ E,hr]
 ·obtain⟨BA,W,hr,I,Q,R⟩:=oc (P:=P) (ty:=ty) w A base v n xs r ⟨b,off,none⟩ m cap (CP.take (m*size)) F.take (fun j u hj=>by
   rw[LQ]at hj;split at hj
   ·rw[F6];exact O j u hj
   ·cases hj) (fun u hu=>h1 u (Xs hu)) J K L
  obtain⟨p,c,rfl⟩:=form W BA _ _ I;refine F8 (v:=.slice p (n+m) c) (w':=W) l Ad ?_ (fun o B=>h o p c W B I Q R);simp only[execOp,resolve,invoke,builtin,Sem.run_bind,Sem.run_pure,Result.andThen_ok,kz,Zv,kV,l.A_ C,l.A_ E,hr]
end
def XU(v:Value)(n c:Nat):Prop:=v=.slice none 0 0∨∃g,v=.slice (some ⟨g,0,none⟩) n c
theorem nZ{w:World}{G5:Nat}{g:Nat}(ho:w.ownsRow 0 e size (.slice p k c) k zs)(J:(Value.slice p k c).ownBlock=some g)(d:xs=zs.take (n*size))(hl:xs.length=n*size)(h1:n≤G5)(f:G5≤maxLen):View w (.slice (some ⟨g,0,none⟩) n G5) n size xs:=by
 refine⟨Mk hl.symm,.inr ⟨g,0,G5,D,by rw[hl];exact Xr _ h1,h1,f,(ho.lt g J).2,?_⟩⟩
 rcases(View.own ho).2 with⟨q,_⟩|⟨b,off,cap,q,_,_,_,_,h⟩
 ·rw[q]at J;cases J
 ·have i:b=g∧off=0:=by
   rcases ho.2 with⟨a,_⟩|⟨l,m,cur,a,_⟩
   ·rw[a]at J;cases J
   ·rw[a]at q J;cases J;cases q;exact⟨D,D⟩
  obtain⟨rfl,rfl⟩:=i;intro j u hj;refine h j u ?_;rw[d,LQ]at hj;split at hj
  ·exact hj
  ·cases hj
def j6(e size:Nat)(v:Value)(n:Nat)(xs:List Value)(BA:Value)(k:Nat)(zs:List Value):Atom:=
 ⟨fun j=>v.ownBlock=some j∨BA.ownBlock=some j,fun w=>(∃c,XU v n c∧n≤c∧c≤maxLen)∧xs=zs.take (n*size)∧xs.length=n*size∧View w v n size xs∧w.ownsRow 0 e size BA k zs,
 fun w h j q=>q.elim (fun q=>k_ h.2.2.2.1 q) (fun q=>(h.2.2.2.2.lt j q).2),
 fun w w' h a q=>⟨h.1,h.2.1,h.2.2.1,nO h.2.2.2.1 a (fun j hj=>q j (.inl hj)),(Ae e size BA k zs).loc w w' h.2.2.2.2 a (fun j hj=>q j (.inr hj))⟩⟩
section
variable {P:Program} {Aa:Exit→Act→World→Prop} {N:Nat} {f:BW} {d:Nat} {ty:TypeId} {pos:String} {An:Array Edge} {g:Option (Nat×Bool)} {F:Nat→Prop} {w0:World} {H:List Atom} {A5:Act→World→Prop}
theorem r2{w W:World}{e:Nat}{v1:Value}(hF:∃c,XU v n c∧n≤c∧c≤maxLen)(f:xs=zs.take (n*size))(hl:xs.length=n*size)(a:View w v n size xs)(ho:W.ownsRow 0 e size (.slice p k c) k zs)(BO:D0 w W v1 (.slice p k c))(J:(Value.slice p k c).ownBlock=v1.ownBlock∨Below w.heap.size w W):View W v n size xs:=by
 rcases J with J|J
 ·obtain⟨G5,q|⟨g,rfl⟩,h1,h⟩:=hF
  ·subst q
   rcases a.2 with⟨_,d,i⟩|⟨b,off,cap,d,_⟩
   ·exact⟨a.1,.inl ⟨D,d,i⟩⟩
   ·cases d
  ·by_cases he:v1.ownBlock=some g
   ·exact nZ ho (J.trans he) f hl h1 h
   ·exact nO a BO.Bg.size (fun j hj=>BO.Bg.block j (k_ a hj) (fun q=>he (by cases hj;exact q.symm)))
 ·exact a.below J
theorem q3(A:CO P t e size bytes z)(i:Nat){s:Operand}{y:Value}(zs:List Value)(V:H[i]? =some (Ae e size v n xs))(B:Aj f s=some v)(C:Aj f x=some y)(D:∀w,Sat F w0 H w→View w y m size CP)(h1:∀u∈CP,u.oneCell'=true)(l:xs++CP.take (m*size)=zs)(E:n+m=k)
 (h:∀p c,AT N (Jb f d (I p k c)) F w0 (H.set i (j6 e size v n xs (I p k c) k zs)) A5)(G:n+m≤maxLen:=by unfold maxLen;omega)(K:(n+m)*bytes≤140737488355328:=by omega)(Ad:Nat.blt d N=true:=by exact rfl):D3 P ⟨some d,.call {callee:=.builtin .append,args:=#[s,x],argTypes:=#[t,t]},ty,pos,An,g⟩ Aa N f F w0 H A5:=
 fun a w L b=>su L Ad A 0 B C (b.rw i V) (D w b) h1 G K (F2 _) E l (fun M p c W O o BO J=>by
  have ho:=b.rw i V;have hF:∃c,XU v n c∧n≤c∧c≤maxLen:=by
   rcases ho.2 with⟨q,S⟩|⟨HZ,cap,cur,q,_,_,Q,R,_⟩
   ·exact⟨n,.inl q,Br _,JY⟩
   ·exact⟨cap,.inr ⟨HZ,q⟩,Q,R⟩
  have r:xs=zs.take (n*size):=by rw[←l,←ho.1];exact List.take_left.symm
  refine h p c M W O (b.set i V (C7.Ny BO) ⟨hF,r,ho.1,r2 hF r ho.1 (View.own ho) o BO J,o⟩ (fun j q=>q.elim .inl (fun q=>BO.at_ j q))))
theorem sx(D:CO P t e size bytes z)(i:Nat){s:Operand}{v1 y:Value}{b:Nat}{l:List Value}(zs:List Value)(V:H[i]? =some (j6 e size v n xs v1 b l))(E:Aj f s=some v1)(G:Aj f x=some y)(K:∀w,Sat F w0 H w→View w y m size CP)(h1:∀u∈CP,u.oneCell'=true)(A:l++CP.take (m*size)=zs)(L:b+m=k)
 (h:∀p c,AT N (Jb f d (I p k c)) F w0 (H.set i (j6 e size v n xs (I p k c) k zs)) A5)(M:b+m≤maxLen:=by unfold maxLen;omega)(O:(b+m)*bytes≤140737488355328:=by omega)(o:n≤b:=by omega)(Ad:Nat.blt d N=true:=by exact rfl):D3 P ⟨some d,.call {callee:=.builtin .append,args:=#[s,x],argTypes:=#[t,t]},ty,pos,An,g⟩ Aa N f F w0 H A5:=
 fun a w Q r=>by
  obtain⟨hF,R,hl,S,ho⟩:=(show j6 e size v n xs v1 b l|>.holds w from r.at_ i _ V)
  refine su Q Ad D 0 E G ho (K w r) h1 M O (F2 _) L A (fun T p c W U B BO J=>?_);have C:xs=zs.take (n*size):=by rw[←A,RJ (by rw[ho.1];exact Xr _ o)];exact R
  refine h p c T W U (r.set i V ⟨BO.Bg.os,BO.Bg.tape,BO.Bg.output,BO.Bg.size,fun j hj o=>BO.Bg.block j hj (fun e=>o (.inr e.symm))⟩ ⟨hF,C,hl,r2 hF C hl S B BO J,B⟩ (fun j q=>q.elim (fun q=>.inl (.inl q)) (fun q=>(BO.at_ j q).imp .inr id)))
end
structure Tl where
 p:Option Addr
 n:Nat
 c:Nat
 v:List Value
def tl(x:Tl):List Value:=List.flatten [[I x.p x.n x.c]]
theorem tR(x:Tl):(tl x).length=1:=rfl
theorem qO(x:Tl):∀u∈tl x,u.oneCell'=true:=OR (.one rfl .nil)
def Q3(L:List Tl):Atom:=⟨fun k=>∃x∈L,(I x.p x.n x.c).ownBlock=some k,fun w=>∀x∈L,View w (I x.p x.n x.c) x.n 1 x.v,fun w h k ⟨x,a,q⟩=>k_ (h x a) q,fun w w' h b q x a=>nO (h x a) b (fun k d=>q k ⟨x,a,d⟩)⟩
abbrev G1:=fun(a:BX) d (b:BX) e=>([Ae 29 1 (I a.p a.n a.c) a.n (Aq tl d),Ae 38 1 (I b.p b.n b.c) b.n (Aq tl e),Q3 d,Q3 e]:List Atom)
theorem Q3.nil{F:Nat→Prop}{w0 w:World}{H:List Atom}(h:Sat F w0 H w):Sat F w0 (Q3 []::H) w:=h.new (Cn _ _) (fun x a=>by cases a) (fun k ⟨x,a,_⟩=>by cases a)
theorem Q3.add{F:Nat→Prop}{w0 w:World}{H:List Atom}{e c':Nat}{q:Option Addr}{L:List Tl}(h:Sat F w0 (j6 e 1 (I p n c) n xs (I q k c') k zs::Q3 L::H) w):Sat F w0 (Q3 (L++[⟨p,n,c,xs⟩,⟨q,k,c',zs⟩])::H) w:=
 h.uh.conv (fun j ⟨x,a,e⟩=>by
   rcases GM.1 a with z|z
   ·exact .inr ⟨x,z,e⟩
   ·rcases tO.1 z with rfl|z
    ·exact .inl (.inl e)
    ·rw[YU.1 z]at e;exact .inl (.inr e)) (fun⟨⟨_,_,_,b,ho⟩,d⟩ x a=>by
   rcases GM.1 a with z|z
   ·exact d x z
   ·rcases tO.1 z with rfl|z
    ·exact b
    ·rw[YU.1 z];exact View.own ho)
theorem p1{F:Nat→Prop}{w0:World}{H:List Atom}(i:Nat){L:List Tl}{x:Tl}{j:Nat}(a:L[j]? =some x)(V:H[i]? =some (Q3 L):=by exact rfl):∀w,Sat F w0 H w→View w (I x.p x.n x.c) x.n 1 x.v:=fun w h=>h.at_ i _ V x (ta a)
theorem oN:CO lp 24 29 1 24 (.slice none 0 0):=CO.mk' tV AB D JZ
theorem Sd:CO lp 25 38 1 24 (.slice none 0 0):=CO.mk' jy AB D JZ
def s'(x:Int):List Value:=[.int .i64 x]
theorem pr(x:Int):(s' x).length=1:=rfl
theorem uv(x:Int):∀u∈s' x,u.oneCell'=true:=by intro u hu;simp[s']at hu;subst hu;rfl
theorem kH(L:List Nat):Aq Bm L=Aq s' (L.map Int.ofNat):=by
 unfold Aq;rw[List.map_map];rfl
def tN(n j:Nat):UInt8:=UInt8.ofNat ((n+1)/2^(8*(j % 3)))
def O6(n m:Nat):List UInt8:=(List.range m).map (tN n)
def gZ(n i:Nat)(x:rG):List UInt8:=O6 n i++x.drop i
def tS(m:Int)(i:Nat)(x:List Int):List Int:=List.replicate i m++x.drop i
section
variable {n m i j k:Nat} {x:rG} {y:List Int} {z:Int}
theorem gd:(O6 n m).length=m:=by unfold O6;rw[MU,Wv]
theorem rm:O6 n (m+1)=O6 n m++[tN n m]:=by unfold O6;rw[Qt,l8];rfl
theorem rZ(h:j<m):(O6 n m).getD j 0=tN n j:=by unfold O6;rw[Dm,ti,kL h];rfl
theorem nK(h:i<x.length):(gZ n i x).set i (tN n i)=gZ n (i+1) x:=by
 unfold gZ;rw[jC _ _ (by rw[gd];exact Br _),gd,XT,rm,C9]
 congr 1
 rw[Xy h];rfl
theorem rO(h:x.length=m):gZ n m x=O6 n m:=by unfold gZ;rw[kX (Mk h),Ha]
theorem m6(h:i<y.length):(tS z i y).set i z=tS z (i+1) y:=by
 unfold tS;rw[jC _ _ (by rw[He];exact Br _),He,XT,hs,C9]
 congr 1
 rw[Xy h];rfl
theorem nH(h:y.length=m):tS z m y=List.replicate m z:=by unfold tS;rw[kX (Mk h),Ha]
theorem bA:bv (O6 n k)++(bv [tN n k]).take (1*1)=bv (O6 n (k+1)):=by rw[rm,Mu];rfl
theorem so:Aq s' (List.replicate k z)++(Aq s' [z]).take (1*1)=Aq s' (List.replicate (k+1) z):=by rw[hs,Py];rfl
def QN(F:Nat→Nat→List Value)(L:List Tl):Prop:=∀(i:Nat) (x:Tl),L[i]? =some x→x.v=F (i - i % 2) x.n∧x.n≤2097152
def jk(n m:Nat):List Value:=bv (O6 n m)
def iH(n m:Nat):List Value:=Aq s' (List.replicate m (-1000 - ((n:Nat):Int)))
theorem QN.add{F:Nat→Nat→List Value}{L:List Tl}{a b:Tl}(h:QN F L)(hl:L.length=n)(he:n % 2=0)(d:a.v=F n a.n∧a.n≤2097152)(J:b.v=F n b.n∧b.n≤2097152):QN F (L++[a,b]):=by
 intro i x c
 rcases s9 i L.length with q|q
 ·rw[V5 q]at c;exact h i x c
 ·rw[UP q]at c
  match V:i - L.length,c with
  |0,c=>cases c;rw[show i - i % 2=n by omega];exact d
  |1,c=>cases c;rw[show i - i % 2=n by omega];exact J
  |k+2,c=>simp at c
theorem QN.nil{F:Nat→Nat→List Value}:QN F []:=fun i x h=>by simp at h
theorem ds{F:Nat→Prop}{w0:World}{H:List Atom}(i:Nat){L:List Tl}{x:Tl}{j:Nat}(a:L[j]? =some x)(CM:QN jk L)(V:H[i]? =some (Q3 L):=by exact rfl):∀w,Sat F w0 H w→View w (I x.p x.n x.c) x.n 1 (bv (O6 (j - j % 2) x.n)):=fun w h=>(show x.v=bv (O6 (j - j % 2) x.n)from(CM j x a).1)▸p1 i a V w h
theorem bk{F:Nat→Prop}{w0:World}{H:List Atom}(i:Nat){L:List Tl}{x:Tl}{j:Nat}(a:L[j]? =some x)(CM:QN iH L)(V:H[i]? =some (Q3 L):=by exact rfl):∀w,Sat F w0 H w→View w (I x.p x.n x.c) x.n 1 (Aq s' (List.replicate x.n (-1000 - (((j - j % 2:Nat):Nat):Int)))):=fun w h=>(show x.v=Aq s' (List.replicate x.n (-1000 - (((j - j % 2:Nat):Nat):Int)))from(CM j x a).1)▸p1 i a V w h
end
theorem mJ(n j:Nat)(w:World)(b:n≤1152921504606846976:=by omega)(hj:j≤1152921504606846976:=by omega):Calls lp 30 #[E n,E j] w (sM w (Be .u8 ((tN n j).toNat))):=by
 refine Cg w OQ D 13<|K ?_;refine B6 (q:=1) D D<|Jd D<|Af (GG (q:=3) D D)<|Af (E3 (p:=8) D D)<|Af (Gg Tryz.underlying3 Tryz.underlying127 D)<|Af (P8 D D ((n+1)/2^(8*(j % 3))) D (by simp only[IntKind.bits];omega))<|Af (Iv Tryz.underlying3 Tryz.underlying5 D)<|A7 ?_;exact fun W a=>⟨D,a.A0⟩
theorem kj(f:Nat)(b h:BX)(L:List Tl)(p:Option Addr)(m c:Nat)(x:rG)(w:World)(l:BE [O f (Zl b h) 27,Ae 29 1 (I b.p b.n b.c) b.n (Aq tl L),Q3 L,Ae 5 1 (I p m c) m (bv x)] w)(CM:QN jk L)(he:b.n % 2=0:=by omega)(G:b.n≤1099511627776:=by omega)(J:m≤1048576:=by omega):Calls lp 13 #[S f,I p m c] w fun e W=>∃k:BX,∃o,e=.returned (.tuple #[])∧k.n=b.n+2∧QN jk o∧Sat (A6 [O f (Zl b h) 27,Ae 29 1 (I b.p b.n b.c) b.n (Aq tl L),Q3 L,Ae 5 1 (I p m c) m (bv x)]) w [O f (Zl k h) 27,Ae 29 1 (I k.p k.n k.c) k.n (Aq tl o),Q3 o] W:=by
 have u:x.length=m:=De (l.at_ 3 _ D);have G4:L.length=b.n:=I3 tR JZ (l.at_ 1 _ D);refine Cb l S9 D 54 fun F hF=>K ?_;refine By D<|AG ft 0 D<|AZ tV 0 0 D D D<|Cr tV D<|Js D<|Jg<|Jf<|Je<|Je<|Jh<|Js D<|Jg<|Tf 3 (bv x) (bv (gZ b.n 0 x)) D<|Jf<|JD<|DL (fun r a W=>∃i,r=m - i∧AH 54 a (Jb (Jb (Jb (Jb Jk 0 (S f)) 1 (I p m c)) 4 (E b.n)) 5 (E i))∧Sat F w [O f (Zl b h) 27,Ae 29 1 (I b.p b.n b.c) b.n (Aq tl L),Q3 L,Ae 5 1 (I p m c) m (bv (gZ b.n i x))] W∧i≤m) (fun a W g d=>⟨0,D,AY g,d.pick [0,1,2,3],JY⟩) ?_;rintro _ a W ⟨i,rfl,g,d,V⟩;revert a W;refine K ?_;refine Cr B7 D<|Ej D D<|Jg<|Jf<|Cz D (fun v=>?_) fun v=>?_
 ·
  refine K ?_;refine U<|BP OQ D (fun w d=>mJ b.n i w)<|Af (Dj A3 i i (BZ 3) D D)<|U<|jj 3 i D D D (jV _ _ (tN b.n i))<|Jg<|Tf 3 (bv ((gZ b.n i x).set i (tN b.n i))) (bv (gZ b.n (i+1) x)) (congrArg bv (nK JY))<|K ?_;refine B6 (q:=1) D D<|K ?_;exact fun a W g d=>⟨_,JY,i+1,D,AY g,d.pick [0,1,2,3],JY⟩
 obtain rfl:m=i:=JY;refine Tf 3 (bv (gZ b.n m x)) (bv (O6 b.n m)) (congrArg bv (rO u))<|K ?_;refine Cr B7 D<|U<|BP OQ D (fun w d=>mJ b.n m w)<|U<|Ey A3 (bv [tN b.n m]) D D D fun M=>U<|q3 A3 4 (bv (O6 b.n (m+1))) D D D (BZ 0) (Eo _) bA D fun y z=>K ?_;refine DL (fun r a W=>∃i j gc,r=300 - i∧AH 54 a (Jb (Jb (Jb (Jb (Jb Jk 0 (S f)) 1 (I p m c)) 4 (E b.n)) 7 (E i)) 6 (I j (m+1+i) gc))∧Sat F w [O f (Zl b h) 27,Ae 29 1 (I b.p b.n b.c) b.n (Aq tl L),Q3 L,j6 5 1 (I p m c) m (bv (O6 b.n m)) (I j (m+1+i) gc) (m+1+i) (bv (O6 b.n (m+1+i)))] W∧i≤300) (fun a W g d=>⟨0,y,z,D,AY g,d.pick [1,2,3,4],JY⟩) ?_;rintro _ a W ⟨i,j,gc,rfl,g,d,V⟩;revert a W;refine K ?_;refine Ej D D<|Jg<|Jf<|Cz D (fun A=>?_) fun A=>?_
 ·
  refine K ?_;refine Cr B7 D<|U<|BP OQ D (fun w d=>mJ b.n (m+1+i) w)<|U<|Ey A3 (bv [tN b.n (m+1+i)]) D D D fun N=>U<|sx A3 4 (bv (O6 b.n (m+1+(i+1)))) D D D (BZ 0) (Eo _) bA D fun B C=>K ?_;refine B6 (q:=1) D D<|K ?_;exact fun a W g d=>⟨_,JY,i+1,B,C,D,AY g,d.pick [1,2,3,4],JY⟩
 obtain rfl:i=300:=JY;refine K ?_;refine By D<|AG ft 0 D<|AZ tV 0 0 D D D<|Jd D<|Jd D<|U<|RY 29 [(0,(I p m c)),(1,(I j (m+1+300) gc))] (Aq tl [⟨p,m,c,bv (O6 b.n m)⟩,⟨j,m+1+300,gc,bv (O6 b.n (m+1+300))⟩]) D fun P=>U<|DI (m:=2) oN 2 (Aq tl (L++([⟨p,m,c,bv (O6 b.n m)⟩,⟨j,m+1+300,gc,bv (O6 b.n (m+1+300))⟩]))) D D D (BZ 0) (HJ qO _) (H0 tR D) D fun s t=>By D<|AG ft 0 D<|U<|Cq 1 0 D D D<|?_;refine Jg<|Jt<|Ff fun W d=>?_;subst hF;exact⟨⟨s,b.n+2,t⟩,L++([⟨p,m,c,bv (O6 b.n m)⟩,⟨j,m+1+300,gc,bv (O6 b.n (m+1+300))⟩]),D,D,CM.add G4 he ⟨D,by show m≤_;omega⟩ ⟨D,by show m+1+300≤_;omega⟩,(Q3.add (H:=[O f [[I s (b.n+2) t],[I h.p h.n h.c]] 27,Ae 29 1 (I s (b.n+2) t) (b.n+2) (Aq tl (L++([⟨p,m,c,bv (O6 b.n m)⟩,⟨j,m+1+300,gc,bv (O6 b.n (m+1+300))⟩])))]) (L:=L) (d.pick [4,3,1,2])).pick [1,2,0]⟩
theorem nT(g:Nat)(h b:BX)(A5:List Tl)(p:Option Addr)(m c:Nat)(x:List Nat)(w:World)(o:BE [O g (Zl h b) 27,Ae 38 1 (I b.p b.n b.c) b.n (Aq tl A5),Q3 A5,Ae 3 1 (I p m c) m (Aq Bm x)] w)(CM:QN iH A5)(he:b.n % 2=0:=by omega)(J:b.n≤1099511627776:=by omega)(M:m≤1048576:=by omega):Calls lp 14 #[S g,I p m c] w fun e W=>∃l:BX,∃Ft,e=.returned (.tuple #[])∧l.n=b.n+2∧QN iH Ft∧Sat (A6 [O g (Zl h b) 27,Ae 38 1 (I b.p b.n b.c) b.n (Aq tl A5),Q3 A5,Ae 3 1 (I p m c) m (Aq Bm x)]) w [O g (Zl h l) 27,Ae 38 1 (I l.p l.n l.c) l.n (Aq tl Ft),Q3 Ft] W:=by
 have v:x.length=m:=I3 Gj JZ (o.at_ 3 _ D);have G4:A5.length=b.n:=I3 tR JZ (o.at_ 1 _ D);refine Cb o Xv D 47 fun F hF=>K ?_;refine By D<|AG ft 1 D<|AZ jy 0 1 D D D<|Cr jy D<|Af (fun _ _ f d=>Yx f (k:=.i64) (p:= -1000) (q:=((b.n:Nat):Int)) (r:= -1000 - ((b.n:Nat):Int)) D D (IntWalk.i64_in _ JY))<|Js D<|Jg<|Jf<|Je<|Je<|Jh<|Js D<|Jg<|Tf 3 (Aq Bm x) (Aq s' (tS (-1000 - ((b.n:Nat):Int)) 0 (x.map Int.ofNat))) (kH x)<|Jf<|JD<|DL (fun s a W=>∃i,s=m - i∧AH 47 a (Jb (Jb (Jb (Jb Jk 0 (S g)) 1 (I p m c)) 4 (Value.int .i64 ((-1000 - ((b.n:Nat):Int)):Int))) 5 (E i))∧Sat F w [O g (Zl h b) 27,Ae 38 1 (I b.p b.n b.c) b.n (Aq tl A5),Q3 A5,Ae 3 1 (I p m c) m (Aq s' (tS (-1000 - ((b.n:Nat):Int)) i (x.map Int.ofNat)))] W∧i≤m) (fun a W f d=>⟨0,D,AY f,d.pick [0,1,2,3],JY⟩) ?_;rintro _ a W ⟨i,rfl,f,d,V⟩;revert a W;refine K ?_;refine Cr Lc D<|Ej D D<|Jg<|Jf<|Cz D (fun y=>?_) fun y=>?_
 ·
  refine K ?_;refine Vh pr 3 i fun N P=>Af (Dj G0 i i (BZ 3) D D)<|U<|jj 3 i D D D (m2 pr (x:=(-1000 - ((b.n:Nat):Int))) D _ _)<|Jg<|Tf 3 (Aq s' ((tS (-1000 - ((b.n:Nat):Int)) i (x.map Int.ofNat)).set i (-1000 - ((b.n:Nat):Int)))) (Aq s' (tS (-1000 - ((b.n:Nat):Int)) (i+1) (x.map Int.ofNat))) (congrArg (Aq s') (m6 (by rw[MU];omega)))<|K ?_;refine B6 (q:=1) D D<|K ?_;exact fun a W f d=>⟨_,JY,i+1,D,AY f,d.pick [0,1,2,3],JY⟩
 obtain rfl:m=i:=JY;refine Tf 3 (Aq s' (tS (-1000 - ((b.n:Nat):Int)) m (x.map Int.ofNat))) (Aq s' (List.replicate m (-1000 - ((b.n:Nat):Int)))) (congrArg (Aq s') (nH (by rw[MU];exact v)))<|K ?_;refine U<|Ey G0 (Aq s' [ -1000 - ((b.n:Nat):Int)]) D D D fun Q=>U<|q3 G0 4 (Aq s' (List.replicate (m+1) (-1000 - ((b.n:Nat):Int)))) D D D (BZ 0) (HJ uv _) so D fun z A=>K ?_;refine DL (fun s a W=>∃i j gc,s=300 - i∧AH 47 a (Jb (Jb (Jb (Jb (Jb Jk 0 (S g)) 1 (I p m c)) 4 (Value.int .i64 ((-1000 - ((b.n:Nat):Int)):Int))) 7 (E i)) 6 (I j (m+1+i) gc))∧Sat F w [O g (Zl h b) 27,Ae 38 1 (I b.p b.n b.c) b.n (Aq tl A5),Q3 A5,j6 3 1 (I p m c) m (Aq s' (List.replicate m (-1000 - ((b.n:Nat):Int)))) (I j (m+1+i) gc) (m+1+i) (Aq s' (List.replicate (m+1+i) (-1000 - ((b.n:Nat):Int))))] W∧i≤300) (fun a W f d=>⟨0,z,A,D,AY f,d.pick [1,2,3,4],JY⟩) ?_;rintro _ a W ⟨i,j,gc,rfl,f,d,V⟩;revert a W;refine K ?_;refine Ej D D<|Jg<|Jf<|Cz D (fun B=>?_) fun B=>?_
 ·
  refine K ?_;refine U<|Ey G0 (Aq s' [ -1000 - ((b.n:Nat):Int)]) D D D fun R=>U<|sx G0 4 (Aq s' (List.replicate (m+1+(i+1)) (-1000 - ((b.n:Nat):Int)))) D D D (BZ 0) (HJ uv _) so D fun C G=>K ?_;refine B6 (q:=1) D D<|K ?_;exact fun a W f d=>⟨_,JY,i+1,C,G,D,AY f,d.pick [1,2,3,4],JY⟩
 obtain rfl:i=300:=JY;refine K ?_;refine By D<|AG ft 1 D<|AZ jy 0 1 D D D<|Jd D<|Jd D<|U<|RY 38 [(0,(I p m c)),(1,(I j (m+1+300) gc))] (Aq tl [⟨p,m,c,Aq s' (List.replicate m (-1000 - ((b.n:Nat):Int)))⟩,⟨j,m+1+300,gc,Aq s' (List.replicate (m+1+300) (-1000 - ((b.n:Nat):Int)))⟩]) D fun T=>U<|DI (m:=2) Sd 2 (Aq tl (A5++([⟨p,m,c,Aq s' (List.replicate m (-1000 - ((b.n:Nat):Int)))⟩,⟨j,m+1+300,gc,Aq s' (List.replicate (m+1+300) (-1000 - ((b.n:Nat):Int)))⟩]))) D D D (BZ 0) (HJ qO _) (H0 tR D) D fun t u=>By D<|AG ft 1 D<|U<|Cq 1 1 D D D<|?_;refine Jg<|Jt<|Ff fun W d=>?_;subst hF;exact⟨⟨t,b.n+2,u⟩,A5++([⟨p,m,c,Aq s' (List.replicate m (-1000 - ((b.n:Nat):Int)))⟩,⟨j,m+1+300,gc,Aq s' (List.replicate (m+1+300) (-1000 - ((b.n:Nat):Int)))⟩]),D,D,CM.add G4 he ⟨D,by show m≤_;omega⟩ ⟨D,by show m+1+300≤_;omega⟩,(Q3.add (H:=[O g [[I h.p h.n h.c],[I t (b.n+2) u]] 27,Ae 38 1 (I t (b.n+2) u) (b.n+2) (Aq tl (A5++([⟨p,m,c,Aq s' (List.replicate m (-1000 - ((b.n:Nat):Int)))⟩,⟨j,m+1+300,gc,Aq s' (List.replicate (m+1+300) (-1000 - ((b.n:Nat):Int)))⟩])))]) (L:=A5) (d.pick [4,3,1,2])).pick [1,2,0]⟩
theorem pV(g:Nat)(d f:BX)(L A5:List Tl)(w:World)(o:BE (O g (Zl d f) 27::G1 d L f A5) w)(CM:QN jk L)(s:QN iH A5)(C:d.n≤1099511627776)(G:f.n≤1099511627776):Calls lp 15 #[S g] w fun e W=>e=.returned (C' true)∧Sat (A6 (O g (Zl d f) 27::G1 d L f A5)) w (O g (Zl d f) 27::G1 d L f A5) W:=by
 have G4:L.length=d.n:=I3 tR JZ (o.at_ 1 _ D);have H:A5.length=f.n:=I3 tR JZ (o.at_ 2 _ D);refine Cb o Xg D 82 fun F hF=>K ?_;refine DL (fun l a W=>∃i,l=d.n - i∧AH 82 a (Jb (Jb Jk 0 (S g)) 3 (E i))∧Sat F w (O g (Zl d f) 27::G1 d L f A5) W∧i≤d.n) (fun a W c b=>⟨0,D,AY c,b.pick [0,1,2,3,4],JY⟩) ?_;rintro _ a W ⟨i,rfl,c,b,V⟩;revert a W;refine K ?_;refine By D<|AG ft 0 D<|AZ tV 0 0 D D D<|Cr tV D<|Ej D D<|Jg<|Jf<|Cz D (fun u=>?_) fun u=>?_
 ·
  obtain⟨m,h⟩:∃x,L[i]? =some x:=⟨_,F3 JY⟩
  have v:=(CM _ _ h).2;refine K ?_;refine DL (fun l a W=>∃j,l=m.n - j∧AH 82 a (Jb (Jb (Jb Jk 0 (S g)) 3 (E i)) 4 (E j))∧Sat F w (O g (Zl d f) 27::G1 d L f A5) W∧j≤m.n) (fun a W c b=>⟨0,D,AY c,b.pick [0,1,2,3,4],JY⟩) ?_;rintro _ a W ⟨j,rfl,c,b,hj⟩;revert a W;refine K ?_;refine By D<|AG ft 0 D<|AZ tV 0 0 D D D<|Jd D<|Af (Dj oN i i (BZ 1) D D)<|Af (J1 B7 tR i h (BZ 1) D D)<|Cr B7 D<|Ej D D<|Jg<|Jf<|Cz D (fun z=>?_) fun z=>?_
  ·
   refine K ?_;refine G9<|AR (AA D)<|AR (Bp D)<|AR (AS ft 0 D)<|AR (Bb tV 0 0 D D D)<|AR (AA D)<|AR (Dj oN i i (BZ 1) D D)<|AR (J1 B7 tR i h (BZ 1) D D)<|AR (AA D)<|AR (Dj A3 j j (ds 3 h CM) D D)<|AR (Fj BV j (ds 3 h CM) D)<|AR (AA D)<|AR (AA D)<|AR (GG (q:=2) D D)<|AR (HS D D)<|AR (AA D)<|MB OQ D (fun w b=>mJ (i - (i % 2)) j w)<|AR (GY (by rw[rZ JY]) D D)<|Er<|K ?_;refine B6 (q:=1) D D<|K ?_;exact fun a W c b=>⟨_,JY,j+1,D,AY c,b.pick [0,1,2,3,4],JY⟩
  refine K ?_;refine B6 (q:=1) D D<|K ?_;exact fun a W c b=>⟨_,JY,i+1,D,AY c,b.pick [0,1,2,3,4],JY⟩
 refine K ?_;refine DL (fun l a W=>∃i,l=f.n - i∧AH 82 a (Jb (Jb Jk 0 (S g)) 5 (E i))∧Sat F w (O g (Zl d f) 27::G1 d L f A5) W∧i≤f.n) (fun a W c b=>⟨0,D,AY c,b.pick [0,1,2,3,4],JY⟩) ?_;rintro _ a W ⟨i,rfl,c,b,V⟩;revert a W;refine K ?_;refine By D<|AG ft 1 D<|AZ jy 0 1 D D D<|Cr jy D<|Ej D D<|Jg<|Jf<|Cz D (fun A=>?_) fun A=>?_
 ·
  obtain⟨m,h⟩:∃x,A5[i]? =some x:=⟨_,F3 JY⟩
  have v:=(s _ _ h).2;refine K ?_;refine DL (fun l a W=>∃j,l=m.n - j∧AH 82 a (Jb (Jb (Jb Jk 0 (S g)) 5 (E i)) 6 (E j))∧Sat F w (O g (Zl d f) 27::G1 d L f A5) W∧j≤m.n) (fun a W c b=>⟨0,D,AY c,b.pick [0,1,2,3,4],JY⟩) ?_;rintro _ a W ⟨j,rfl,c,b,hj⟩;revert a W;refine K ?_;refine By D<|AG ft 1 D<|AZ jy 0 1 D D D<|Jd D<|Af (Dj Sd i i (BZ 2) D D)<|Af (J1 Lc tR i h (BZ 2) D D)<|Cr Lc D<|Ej D D<|Jg<|Jf<|Cz D (fun B=>?_) fun B=>?_
  ·
   refine K ?_;refine By D<|AG ft 1 D<|AZ jy 0 1 D D D<|Jd D<|Af (Dj Sd i i (BZ 2) D D)<|Af (J1 Lc tR i h (BZ 2) D D)<|Jd D<|Kz He j fun y t=>Af (Dj G0 j j (bk 4 h s) D D)<|Af (J1 AF pr j t (bk 4 h s) D D)<|Jd D<|Jd D<|Af (GG (q:=2) D D)<|Es D D<|Af (fun _ _ c b=>Yx c (k:=.i64) (p:= -1000) (q:=((i - i % 2:Nat):Int)) (r:= -1000 - ((i - i % 2:Nat):Int)) D D (IntWalk.i64_in _ JY))<|Ci (by rw[eg,if_pos JY]at t;cases t;rfl) D D<|K ?_;refine B6 (q:=1) D D<|K ?_;exact fun a W c b=>⟨_,JY,j+1,D,AY c,b.pick [0,1,2,3,4],JY⟩
  refine K ?_;refine B6 (q:=1) D D<|K ?_;exact fun a W c b=>⟨_,JY,i+1,D,AY c,b.pick [0,1,2,3,4],JY⟩
 refine A7 ?_;intro W b;subst hF;exact⟨D,b.pick [0,1,2,3,4]⟩
structure I7 (l:rG) (s:Fr.Bu):Prop where
 len:l.length=256
 C5:At.C5 (l.take 64) 60=0
 Bz:(l.getD 0 0).toNat=76
 Dt:(l.getD 1 0).toNat=68
 vc:(l.getD 2 0).toNat=71
 vI:(l.getD 3 0).toNat=49
 vd:Fr.CN ((l.drop 5).take (8 - 5))=true
 vJ:Fr.CN ((l.drop 28).take (60 - 28))=true
 w:(l.getD 4 0).toNat=s.w
 g:Fr.le ((l.drop 8).take 8)=s.g
 m:Fr.le ((l.drop 16).take 4)=s.m
 h:Fr.le ((l.drop 20).take 4)=s.h
 p:Fr.le ((l.drop 24).take 4)=s.p
 valid:Fr.DE s=true
theorem I7.HZ{l:rG}{s:Fr.Bu}(h:I7 l s):s.g≤1099511627776:=by
 have:=h.valid;simp only[Fr.DE,Kq,decide_eq_true_eq]at this;omega
