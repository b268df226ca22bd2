/- Laws and walks on the road to SalvageClean (part M42). No conditions beyond each law's own. -/
import Derived.Test.YtaapafoibofbjaaGreatDoorM01
import Derived.Test.YtaapafoibofbjaaGreatDoorM41
import Derived.Test.YtaapafoibofbjaaGreatDoorM07
import Derived.Test.YtaapafoibofbjaaGreatDoorM12
import Derived.Test.YtaapafoibofbjaaGreatDoorM32
import Derived.Test.YtaapafoibofbjaaGreatDoorM33
import Derived.Test.YtaapafoibofbjaaGreatDoorM17
set_option linter.unusedVariables false
namespace Go.Proofs.YtaapafoibofbjaaGreatDoor
open Go.RowKit
set_option maxRecDepth 100000
set_option maxHeartbeats 1000000
variable {l:List UInt8} {n:Nat}
theorem Gp.slot{p:Nat}{s:Fr.Bu}(h:Gp l n s)(c:p<2):L1 l p:=by
 rcases(show p=0∨p=1 by omega)with rfl|rfl
 ·exact h.a
 ·exact h.b
theorem Gp.Rp{k:Nat}{s u:Fr.Bu}(h:Gp l n s)(hr:OV l n k u):k=0∧u=s:=by
 rcases hr with⟨h1,a,b⟩|⟨h1,a⟩
 ·rw[h.ch]at a;cases a;exact⟨h1,D⟩
 ·exact absurd h.p (a s h.ch)
theorem ik{il:List UInt8}{m h:Nat}:G3 il m h≤FD il m h:=by
 unfold G3 FD
 cases hr:Dy il m h with
 |none=>exact Br _
 |some r=>
  unfold Dy at hr
  split at hr
  ·cases b:G.CW h (AI il h)with
   |rc x=>
    rw[b]at hr
    cases hr
    obtain⟨B1,a⟩:=TB b
    unfold G.record at a
    split at a
    ·split at a
     ·rename_i h1
      have h1:=h1
      cases a
      unfold G.right at h1
      simp only[Bool.and_eq_true,decide_eq_true_eq]at h1
      show(G.Kd B1).f≤(G.Kd B1).v
      omega
     ·cases a
    ·cases a
   |no=>rw[b]at hr;cases hr
   |nd x=>rw[b]at hr;cases hr
  ·cases hr
theorem cI{il:List UInt8}{m h:Nat}:FD il m h≤1073741824:=by
 unfold FD
 cases hr:Dy il m h with
 |none=>exact Nat.zero_le _
 |some r=>
  unfold Dy at hr
  split at hr
  ·cases b:G.CW h (AI il h)with
   |rc x=>
    rw[b]at hr
    cases hr
    obtain⟨B1,a⟩:=TB b
    unfold G.record at a
    split at a
    ·split at a
     ·rename_i h1
      have h1:=h1
      cases a
      unfold G.right at h1
      simp only[Bool.and_eq_true,decide_eq_true_eq]at h1
      show(G.Kd B1).v≤1073741824
      omega
     ·cases a
    ·cases a
   |no=>rw[b]at hr;cases hr
   |nd x=>rw[b]at hr;cases hr
  ·cases hr
theorem dK{q:Option Addr}{c:Nat}{w:World}(V:View w (I q n c) n 1 (bv l))(hl:l.length=n)(C:768≤n∧n≤1048576∧n % 256=0)(A5:CG w){s:Fr.Bu}(d:Gp l n s):Calls Tryz.prog 9 #[I q n c] w fun e W=>∃i,D5 n s l i∧e=.returned (.tuple #[E (G3 (Cl n s l i) (BJ s l i).m (BJ s l i).h),E (FD (Cl n s l i) (BJ s l i).m (BJ s l i).h),E 0])∧Below w.heap.size w W:=by
 have b:Below w.heap.size w w:=Cn _ _
 have k:=NT d.ch
 have F:=d.p
 have r:=k
 simp only[Fr.DE,Bool.and_eq_true,Bool.or_eq_true,decide_eq_true_eq]at r
 refine Cg w YO D 34<|M ?_
 refine U<|?_
 refine HN Mj D (fun w a=>Qu _ n c (n/256) l w (Bx V w a) hl) fun _ e t a ⟨AK,ib,ci,he,f,j⟩=>⟨_,he,?_⟩
 have g:=f.mono (D2 b a).size
 have b:=(D2 b a).trans (j.mono (D2 b a).size)
 refine Jd D<|Bc D D<|Bc D D<|M ?_
 refine Ci D D D<|M ?_
 refine U<|?_
 refine HN MH D (fun w a=>RE (D2 b a).size (g.below a.A0)) fun _ e t a ⟨G,s2,he,u,f,j⟩=>⟨_,he,?_⟩
 obtain⟨v,x⟩:=d.Rp u
 subst v;rw[x]at f
 have b:=(D2 b a).trans j
 clear g;have g:=f
 refine M ?_
 refine Ci D D D<|M ?_
 refine U<|?_
 refine Ba P2 D (fun w a=>Tx (g.below a.A0) (by omega) (by omega) (by omega) (by omega) (by omega) (by omega) ((A5.below b D).sat a FU)) fun _ e W a ⟨H,y,K,i7,L,N,O,P,he,o,z,A,B,Q,J⟩=>⟨_,_,he,a.own o J,?_⟩
 have R:(A9 l s.m).length=y:=I3 Gj (by decide) o
 have S:=Ni l s.m
 refine Jd D<|Bc D D<|Bc D D<|Bc D D<|U<|Bw [[E 0],[E 0],[E 0],[E 0],[E 0],[E 0],[E 0],[E 0],[E 0],[I none 0 0]] fun T=>Js D<|Js D<|U<|Bk 0 0 10 D D D<|?_
 refine Jg<|Jf<|Je<|GR<|zs (AS E9 4 D)<|zs (Bb AF 0 4 D D D)<|zs (AS E9 5 D)<|zs (Bb AF 0 5 D D D)<|zs (Ck D)<|zs (Ck D)<|zs (Ck D)<|CS<|Jf<|Jq<|Gz D D D fun W a=>?_
 exact⟨i7,⟨k,d.p,hl,z,A,B⟩,D,D2 b a⟩
theorem hI{q:Option Addr}{c:Nat}{w:World}(V:View w (I q n c) n 1 (bv l))(hl:l.length=n)(K:768≤n∧n≤1048576∧n % 256=0)(A5:CG w){s:Fr.Bu}(g:Gp l n s):Calls Tryz.prog 10 #[I q n c,Value.int .i64 ((-1):Int)] w fun e W=>∃i AB,D5 n s l i∧e=.returned (.tuple #[I (some ⟨AB,0,none⟩) n n,E 0])∧W.ownsRow w.heap.size 5 1 (I (some ⟨AB,0,none⟩) n n) n (bv (Cl n s l i))∧Below w.heap.size w W:=by
 have d:Below w.heap.size w w:=Cn _ _
 have o:=NT g.ch
 have N:=g.p
 have t:=o
 simp only[Fr.DE,Bool.and_eq_true,Bool.or_eq_true,decide_eq_true_eq]at t
 refine Cg w Vx D 56<|M ?_
 refine U<|?_
 refine HN Mj D (fun w a=>Qu _ n c (n/256) l w (Bx V w a) hl) fun _ e u a ⟨AK,ib,ci,he,j,k⟩=>⟨_,he,?_⟩
 have f:=j.mono (D2 d a).size
 have d:=(D2 d a).trans (k.mono (D2 d a).size)
 refine Jd D<|Bc D D<|Bc D D<|M ?_
 refine Ci D D D<|M ?_
 refine U<|?_
 refine HN MH D (fun w a=>RE (D2 d a).size (f.below a.A0)) fun _ e u a ⟨O,s2,he,v,j,k⟩=>⟨_,he,?_⟩
 obtain⟨x,y⟩:=g.Rp v
 subst x;rw[y]at j
 have d:=(D2 d a).trans k
 clear f;have f:=j
 refine M ?_
 refine Ci D D D<|M ?_
 refine U<|?_
 refine Ba P2 D (fun w a=>Tx (f.below a.A0) (by omega) (by omega) (by omega) (by omega) (by omega) (by omega) ((A5.below d D).sat a FU)) fun _ e W a ⟨P,z,Q,i7,R,S,T,X,he,r,A,B,C,Y,J⟩=>⟨_,_,he,a.own r J,?_⟩
 have F:(A9 l s.m).length=z:=I3 Gj (by decide) r
 have Z:=Ni l s.m
 refine Jd D<|Bc D D<|Bc D D<|Bc D D<|U<|Bw [[E 0],[E 0],[E 0],[E 0],[E 0],[E 0],[E 0],[E 0],[E 0],[I none 0 0]] fun aa=>Js D<|Js D<|U<|Bk 0 0 10 D D D<|?_
 refine Jg<|?_
 have ab:=ik (il:=(Ct n s.w s.p (A9 l s.m) i7 l).l) (m:=(BL s.w s.p (A9 l s.m) (i7+1)).m) (h:=(BL s.w s.p (A9 l s.m) (i7+1)).h)
 have hle:=cI (il:=(Ct n s.w s.p (A9 l s.m) i7 l).l) (m:=(BL s.w s.p (A9 l s.m) (i7+1)).m) (h:=(BL s.w s.p (A9 l s.m) (i7+1)).h)
 refine M ?_
 refine EU D D D<|M ?_
 refine AG E9 5 D<|AZ AF 0 5 D D D<|M ?_
 refine ET (by omega) D D<|M ?_
 refine AG E9 5 D<|Jj D D D<|AZ AF 0 5 D D D<|Jj D D D<|HF (by omega) D D<|M ?_
 refine AG E9 4 D<|AZ AF 0 4 D D D<|ET (by omega) D D<|M ?_
 refine AG E9 5 D<|AZ AF 0 5 D D D<|Jd D<|Es D D<|Es D D<|CR 54 D (show _=(E i7)from by rw[Nat.sub_self,Nat.sub_zero])<|U<|?_
 refine Ba Oq D (fun w a=>Q_ (i:=i7) (L:=(A9 l s.m)) (f.below a.A0) (by omega) ((BZ 1) w a) F (by omega) (by omega) (by omega) (Ok).b) fun _ e W a ⟨G,he,H,J⟩=>⟨_,_,he,a.own H J,?_⟩
 refine A7 ?_
 exact fun W a=>⟨i7,G,⟨o,g.p,hl,A,B,C⟩,D,Ew (a.DQ 0) d.size,D2 d a⟩
theorem cG{q:Option Addr}{c:Nat}{w:World}(V:View w (I q n c) n 1 (bv l))(hl:l.length=n)(J:768≤n∧n≤1048576∧n % 256=0)(A5:CG w){s:Fr.Bu}(k:Gp l n s):Calls Tryz.prog 11 #[I q n c] w fun e W=>∃ib ci,e=.returned (.tuple #[I (some ⟨ib,0,none⟩) n ci,I none 0 0,E 0])∧W.ownsRow w.heap.size 5 1 (I (some ⟨ib,0,none⟩) n ci) n (bv l)∧Below w.heap.size w W:=by
 have d:Below w.heap.size w w:=Cn _ _
 have r:=NT k.ch
 have K:=k.p
 simp only[Fr.DE,Bool.and_eq_true,Bool.or_eq_true,decide_eq_true_eq]at r
 refine Cg w X0 D 56<|M ?_
 refine U<|?_
 refine HN Mj D (fun w b=>Qu _ n c (n/256) l w (Bx V w b) hl) fun _ e g b ⟨AK,ib,ci,he,i,j⟩=>⟨_,he,?_⟩
 have f:=i.mono (D2 d b).size
 have d:=(D2 d b).trans (j.mono (D2 d b).size)
 refine Jd D<|Bc D D<|Bc D D<|M ?_
 refine Ci D D D<|M ?_
 refine DL (fun o a W=>∃p g,o=2 - p∧AH 56 a (Jb (Jb (Jb (Jb (Jb (Jb Jk 2 (I none 0 0)) 3 (I none 0 0)) 4 (E 0)) 5 (S AK)) 19 (E p)) 7 (I none 0 0))∧Sat C1 g [] W∧(0≤p∧p≤2)∧BS w.heap.size AK ib n ci g l ⟨0,0,0,0,0⟩∧Below w.heap.size w g) (fun a W h b=>⟨0,g,D,AY h,b.pick [],by omega,f,d⟩) ?_
 rintro _ a W ⟨p,g,rfl,h,b,t,f,d⟩;revert a W
 refine Je<|Jh<|Ej D D<|Jg<|Jf<|Je<|Cz D (fun u=>?_) fun u=>?_
 ·
  refine M ?_
  refine U<|?_
  refine HN Ms D (fun w b=>S_ (p:=p) (D2 d b).size (f.below b.A0)) fun _ e g b ⟨t3,L,he,v,i,_,j⟩=>⟨_,he,?_⟩
  obtain⟨x,y⟩:=v (k.slot (by omega))
  subst x;rw[y]at i
  have d:=(D2 d b).trans j
  clear f;have f:=i
  refine M ?_
  refine B6 (q:=1) D D<|M ?_
  exact fun a W h b=>⟨_,by omega,p+1,g,D,AY h,b.pick [],by omega,f,d⟩
 refine M ?_
 refine U<|?_
 refine HN MH D (fun w b=>RE (D2 d b).size (f.below b.A0)) fun _ e g b ⟨N,O,he,z,i,j⟩=>⟨_,he,?_⟩
 obtain⟨A,B⟩:=k.Rp z
 subst A;rw[B]at i
 have d:=(D2 d b).trans j
 clear f;have f:=i
 refine M ?_
 refine Ci D D D<|M ?_
 refine DL (fun o a W=>∃p g,o=s.m - p∧AH 56 a (Jb (Jb (Jb (Jb (Jb (Jb Jk 2 (I none 0 0)) 3 (I none 0 0)) 4 (E 0)) 5 (S AK)) 10 (E p)) 7 (I none 0 0))∧Sat C1 g [] W∧(2≤p∧p≤s.m)∧BS w.heap.size AK ib n ci g l s∧Below w.heap.size w g) (fun a W h b=>⟨2,g,D,AY h,b.pick [],by omega,f,d⟩) ?_
 rintro _ a W ⟨p,g,rfl,h,b,t,f,d⟩;revert a W
 refine M ?_
 refine By D<|AG F_ 1 D<|AG BM 3 D<|Af (fun _ _ h b=>Ei h D AF D (f.below b.A0).mark)<|Ej D D<|Jg<|Jf<|Cz D (fun C=>?_) fun C=>?_
 ·
  refine M ?_
  refine U<|?_
  refine HN NK D (fun w b=>W8 (p:=p) (D2 d b).size (f.below b.A0) (by omega) (by omega)) fun _ e g b ⟨t10,P,he,F,i,_,j⟩=>⟨_,he,?_⟩
  obtain⟨G,H⟩:=F (by rw[OL];exact k.Ar p (by omega) (by omega))
  subst G;rw[H]at i
  have d:=(D2 d b).trans j
  clear f;have f:=i
  refine M ?_
  refine B6 (q:=1) D D<|M ?_
  exact fun a W h b=>⟨_,by omega,p+1,g,D,AY h,b.pick [],by omega,f,d⟩
 refine M ?_
 refine By D<|AG F_ 0 D<|Af (fun _ _ h b=>Ei h D Co D (f.below b.A0).QY)<|M ?_
 refine Gz D D D fun W b=>?_
 exact⟨_,_,D,(f.below b.A0).own,D2 d b⟩
end Go.Proofs.YtaapafoibofbjaaGreatDoor
namespace Go.Proofs.YtaapafoibofbjaaGreatDoor.G
open Go.Proofs.YtaapafoibofbjaaGreatDoor
set_option linter.unusedVariables false
def Ga(nd:Nat→Option Dh)(N:Nat):Nat→Nat→Prop
 |0,_=>True
 |f+1,p=>p<N∧(((nd p).getD DJ).kd≠1→(((nd p).getD DJ).l≠0→Ga nd N f ((nd p).getD DJ).l)∧(((nd p).getD DJ).r≠0→Ga nd N f ((nd p).getD DJ).r))
section
variable {nd F4:Nat→Option Dh} {N:Nat}
theorem Ga.mono{a:Nat}(d:N≤a):∀ {f p:Nat},Ga nd N f p→Ga nd a f p:=by
 intro f
 induction f with
 |zero=>intro p _;trivial
 |succ f b=>
  intro p h
  exact⟨Nat.lt_of_lt_of_le h.1 d,fun c=>⟨fun hl=>b ((h.2 c).1 hl),fun hr=>b ((h.2 c).2 hr)⟩⟩
theorem dt(c:∀q,q<N→nd q=F4 q):∀(f p:Nat) (r:Ae) (s:B4),Ga nd N f p→Bn nd f p r s=Bn F4 f p r s:=by
 intro f
 induction f with
 |zero=>intro p r s _;rfl
 |succ f b=>
  intro p r s h
  rw[Bn,Bn]
  simp only[←c p h.1]
  by_cases a:((nd p).getD DJ).kd=1
  ·rw[if_pos a,if_pos a]
  ·rw[if_neg a,if_neg a]
   have d:(if((nd p).getD DJ).l=0 then note s r p ((nd p).getD DJ)else Bn nd f ((nd p).getD DJ).l (under r 0) (note s r p ((nd p).getD DJ)))=(if((nd p).getD DJ).l=0 then note s r p ((nd p).getD DJ)else Bn F4 f ((nd p).getD DJ).l (under r 0) (note s r p ((nd p).getD DJ))):=by
    by_cases hl:((nd p).getD DJ).l=0
    ·rw[if_pos hl,if_pos hl]
    ·rw[if_neg hl,if_neg hl,b _ _ _ ((h.2 a).1 hl)]
   rw[d]
   by_cases hr:((nd p).getD DJ).r=0
   ·rw[if_pos hr,if_pos hr]
   ·rw[if_neg hr,if_neg hr,b _ _ _ ((h.2 a).2 hr)]
def FA(nd:Nat→Option Dh)(N:Nat)(m:List (Ae×Nat)):Prop:=∀q p,get m q=some p→Ga nd N (257 - q.b) p
def Fu(N:Nat)(m:List (Jc×Nat)):Prop:=∀k p,get m k=some p→p<N
theorem FA.put{m:List (Ae×Nat)}{r:Ae}{p:Nat}(h:FA nd N m)(c:Ga nd N (257 - r.b) p):FA nd N (put m r p):=by
 intro q d a
 rw[OZ]at a
 by_cases e:r=q
 ·rw[if_pos e]at a;cases a;subst e;exact c
 ·rw[if_neg e]at a;exact h q d a
theorem Fu.put{m:List (Jc×Nat)}{k:Jc}{p:Nat}(h:Fu N m)(b:p<N):Fu N (put m k p):=by
 intro q c a
 rw[OZ]at a
 by_cases e:k=q
 ·rw[if_pos e]at a;cases a;exact b
 ·rw[if_neg e]at a;exact h q c a
theorem Yf{s:B4}{r:Ae}{p:Nat}{n:Dh}(h1:FA nd N s.rows)(a:Fu N s.jo)(d:Ga nd N (257 - r.b) p)(e:p<N):FA nd N (note s r p n).rows∧Fu N (note s r p n).jo:=by
 refine⟨h1.put d,?_⟩
 unfold note
 simp only
 split
 ·exact a.put e
 ·exact a
theorem eT:∀(f p:Nat) (r:Ae) (s:B4),f+r.b=257→Ga nd N f p→FA nd N s.rows→Fu N s.jo→FA nd N (Bn nd f p r s).rows∧Fu N (Bn nd f p r s).jo:=by
 intro f
 induction f with
 |zero=>intro p r s j h h1 d;exact⟨h1,d⟩
 |succ f i=>
  intro p r s j h h1 d
  have a:=Yf (n:=(nd p).getD DJ) h1 d (show Ga nd N (257 - r.b) p by rw[show 257 - r.b=f+1 by omega];exact h) h.1
  rw[Bn]
  simp only
  by_cases c:((nd p).getD DJ).kd=1
  ·rw[if_pos c];exact a
  ·rw[if_neg c]
   have e:FA nd N (if((nd p).getD DJ).l=0 then note s r p ((nd p).getD DJ)else Bn nd f ((nd p).getD DJ).l (under r 0) (note s r p ((nd p).getD DJ))).rows∧Fu N (if((nd p).getD DJ).l=0 then note s r p ((nd p).getD DJ)else Bn nd f ((nd p).getD DJ).l (under r 0) (note s r p ((nd p).getD DJ))).jo:=by
    by_cases hl:((nd p).getD DJ).l=0
    ·rw[if_pos hl];exact a
    ·rw[if_neg hl];exact i _ _ _ (by show f+(r.b+1)=257;omega) ((h.2 c).1 hl) a.1 a.2
   by_cases hr:((nd p).getD DJ).r=0
   ·rw[if_pos hr];exact e
   ·rw[if_neg hr];exact i _ _ _ (by show f+(r.b+1)=257;omega) ((h.2 c).2 hr) e.1 e.2
variable {W fr:Nat} {AJ:List (Ae×Nat)} {AO:List (Jc×Nat)}
theorem a5(a:∀q,q<N→nd q=F4 q){Ar Bg c:Nat}{r:Ae}(J:Bg≤N):E7 ⟨W,nd,AJ,AO,fr⟩ Ar Bg c r=E7 ⟨W,F4,AJ,AO,fr⟩ Ar Bg c r:=by
 unfold E7
 simp only
 by_cases h:Ar<Bg
 ·rw[a Ar (by omega)]
 ·cases nd Ar<;>cases F4 Ar<;>simp[h]
theorem Y_{Ar Bg c:Nat}{r:Ae}(h:E7 ⟨W,nd,AJ,AO,fr⟩ Ar Bg c r=true):Ar<Bg∧(((nd Ar).getD DJ).kd≠1→r.b<256):=by
 unfold E7 at h
 simp only at h
 cases d:nd Ar with
 |none=>rw[d]at h;cases h
 |some n=>
  rw[d]at h
  simp only[Bool.and_eq_true,decide_eq_true_eq]at h
  refine⟨h.1,fun e=>?_⟩
  simp only[Option.getD_some]at e
  have a:=h.2
  rw[if_neg e]at a
  simp only[Bool.and_eq_true,decide_eq_true_eq]at a
  exact a.2
theorem fy(d:∀q,q<N→nd q=F4 q)(e:0<N)(f:FA nd N AJ)(g:Fu N AO){n:Dh}{r:Ae}(hr:r.b≤256):Ik ⟨W,nd,AJ,AO,fr⟩ n r=Ik ⟨W,F4,AJ,AO,fr⟩ n r:=by
 unfold Ik
 simp only
 by_cases a:n.kd=1
 ·rw[if_pos a,if_pos a]
  cases c:get AO n.k with
  |none=>rfl
  |some q=>simp only[d q (g _ _ c)]
 ·rw[if_neg a,if_neg a]
  have:(get AJ r).getD 0<N:=by
   cases c:get AJ r with
   |none=>exact e
   |some q=>
    have:=f _ _ c
    rw[show 257 - r.b=(256 - r.b)+1 by omega]at this
    exact this.1
  simp only[d _ this]
attribute [local irreducible] Hw Ik G8 Bn note
theorem ee(u:∀q,q<N→nd q=F4 q)(M:0<N)(O:nd 0=none)(y:∀q n,nd q=some n→n.kd=1→n.l=0∧n.r=0)(G:FA nd N AJ)(P:Fu N AO):∀(f Ar Bg c:Nat) (k:Jc) (r:Ae) (s:B4),Bg≤N→r.b≤256→FA nd N s.rows→Fu N s.jo→
 through ⟨W,nd,AJ,AO,fr⟩ f Ar Bg c k r s=through ⟨W,F4,AJ,AO,fr⟩ f Ar Bg c k r s∧∀a,through ⟨W,nd,AJ,AO,fr⟩ f Ar Bg c k r s=some a→Ga nd N (257 - r.b) Ar∧FA nd N a.rows∧Fu N a.jo:=by
 intro f
 induction f with
 |zero=>intro Ar Bg c k r s J hr h1 z;exact⟨D,fun a h=>by cases h⟩
 |succ f Q=>
  intro Ar Bg c k r s J hr h1 z
  rw[through,through,←a5 u J]
  cases hl:E7 ⟨W,nd,AJ,AO,fr⟩ Ar Bg c r with
  |false=>simp only[Bool.false_eq_true,if_false];exact⟨trivial,fun a h=>by cases h⟩
  |true=>
   obtain⟨ah,v⟩:=Y_ hl
   have A:Ar<N:=by omega
   obtain⟨n,m⟩:∃n,nd Ar=some n:=by
    cases R:nd Ar with
    |none=>unfold E7 at hl;simp only[R]at hl;cases hl
    |some n=>exact⟨n,D⟩
   have S:Ar≠0:=fun e=>by rw[e,O]at m;cases m
   simp only[if_true,←u Ar A,m,Option.getD_some]at v⊢
   have H:(n.l≠0→r.b<256→Ga nd N (257 - (r.b+1)) n.l)→(n.r≠0→r.b<256→Ga nd N (257 - (r.b+1)) n.r)→Ga nd N (257 - r.b) Ar:=by
    intro T U
    rw[show 257 - r.b=(257 - (r.b+1))+1 by omega]
    refine⟨A,?_⟩
    rw[m]
    exact fun i=>⟨fun q=>T q (v i),fun q=>U q (v i)⟩
   have V:∀x:Nat,x≠0→x=n.l∨x=n.r→r.b<256:=by
    intro x w X
    refine v (fun i=>?_)
    have:=y _ _ m i
    rcases X with q|q
    ·exact w (q.trans this.1)
    ·exact w (q.trans this.2)
   have half:∀(x c' b:Nat) (d:Jc) (j:B4),(x=n.l∨x=n.r)→FA nd N j.rows→Fu N j.jo→(if x=0 then some j else through ⟨W,nd,AJ,AO,fr⟩ f x Ar c' d (under r b) j)=(if x=0 then some j else through ⟨W,F4,AJ,AO,fr⟩ f x Ar c' d (under r b) j)∧∀s1,(if x=0 then some j else through ⟨W,nd,AJ,AO,fr⟩ f x Ar c' d (under r b) j)=some s1→(x≠0→r.b<256→Ga nd N (257 - (r.b+1)) x)∧FA nd N s1.rows∧Fu N s1.jo:=by
    intro x c' b d j w I K
    by_cases h:x=0
    ·rw[if_pos h,if_pos h]
     exact⟨D,fun s1 e=>by cases e;exact⟨fun q=>absurd h q,I,K⟩⟩
    ·rw[if_neg h,if_neg h]
     have ai:=V x h w
     have:=Q x Ar c' d (under r b) j (by omega) (show r.b+1≤256 by omega) I K
     exact⟨this.1,fun s1 e=>⟨fun _ _=>(this.2 s1 e).1,(this.2 s1 e).2⟩⟩
   have key:∀(g B:Option B4),g=B→(∀a,g=some a→Ga nd N (257 - r.b) Ar∧FA nd N a.rows∧Fu N a.jo)→(g.bind fun a=>if Hw W n (256 - r.b)=k then some a else none)=(B.bind fun a=>if Hw W n (256 - r.b)=k then some a else none)∧∀a,(g.bind fun a=>if Hw W n (256 - r.b)=k then some a else none)=some a→Ga nd N (257 - r.b) Ar∧FA nd N a.rows∧Fu N a.jo:=by
    intro g B e t
    subst e
    refine⟨D,fun a h=>?_⟩
    cases g with
    |none=>cases h
    |some s1=>
     simp only[Option.bind_some]at h
     split at h
     ·cases h;exact t _ D
     ·cases h
   by_cases L:Ar<fr
   ·simp only[if_pos L]
    by_cases Ad:G8 ⟨W,nd,AJ,AO,fr⟩ Ar n r=true
    ·have C:G8 ⟨W,F4,AJ,AO,fr⟩ Ar n r=true:=by unfold G8 at Ad⊢;exact Ad
     have i:Ga nd N (257 - r.b) Ar:=by
      unfold G8 at Ad
      by_cases i:n.kd=1
      ·exact H (fun q=>absurd (y _ _ m i).1 q) (fun q=>absurd (y _ _ m i).2 q)
      ·rw[if_neg i]at Ad
       have Ad:=of_decide_eq_true Ad
       cases t:get AJ r with
       |none=>simp only[t,Option.getD_none]at Ad;exact absurd Ad.symm S
       |some q=>simp only[t,Option.getD_some]at Ad;subst Ad;exact G _ _ t
     simp only[if_pos Ad,if_pos C]
     refine key _ _ (by rw[dt u _ _ _ _ i]) (fun a e=>?_)
     cases e
     exact⟨i,eT _ _ _ _ (by omega) i h1 z⟩
    ·have C:¬G8 ⟨W,F4,AJ,AO,fr⟩ Ar n r=true:=by unfold G8 at Ad⊢;exact Ad
     simp only[if_neg Ad,if_neg C,Option.bind_none]
     exact⟨trivial,fun a e=>by cases e⟩
   ·simp only[if_neg L]
    obtain⟨Y,E⟩:=half n.l n.lc 0 n.ls s (.inl D) h1 z
    refine key _ _ ?_ ?_
    ·rw[←Y]
     cases o:(if n.l=0 then some s else through ⟨W,nd,AJ,AO,fr⟩ f n.l Ar n.lc n.ls (under r 0) s)with
     |none=>rfl
     |some s1=>
      simp only[Option.bind_some]
      rw[←(half n.r n.rc 1 n.rs s1 (.inr D) (E _ o).2.1 (E _ o).2.2).1,fy u M G P hr]
    ·intro a e
     cases o:(if n.l=0 then some s else through ⟨W,nd,AJ,AO,fr⟩ f n.l Ar n.lc n.ls (under r 0) s)with
     |none=>rw[o]at e;cases e
     |some s1=>
      rw[o]at e
      simp only[Option.bind_some]at e
      obtain⟨Z,aa,ab⟩:=E _ o
      obtain⟨-,ad⟩:=half n.r n.rc 1 n.rs s1 (.inr D) aa ab
      cases F:(if n.r=0 then some s1 else through ⟨W,nd,AJ,AO,fr⟩ f n.r Ar n.rc n.rs (under r 1) s1)with
      |none=>rw[F]at e;cases e
      |some s2=>
       rw[F]at e
       simp only[Option.bind_some]at e
       obtain⟨ae,af,ag⟩:=ad _ F
       have i:=H Z ae
       split at e
       ·cases e
        exact⟨i,Yf af ag i A⟩
       ·cases e
end
attribute [local irreducible] through
theorem iI{W:Nat}{nd F4:Nat→Option Dh}{N:Nat}{rc rc':Nat→B9}{ch ch':List Nat}{o:Shape}{i:Nat}(w:∀q,q<N→nd q=F4 q)(x:0<N)(y:nd 0=none)(z:∀q n,nd q=some n→n.kd=1→n.l=0∧n.r=0)(A:FA nd N o.1)(B:Fu N o.2)(C:at_ ch i≤N)(h1:at_ ch i=at_ ch' i)(E:at_ ch 1=at_ ch' 1)(F:at_ ch (i - 1)=at_ ch' (i - 1))(G:at_ ch (i&&&(i - 1))=at_ ch' (i&&&(i - 1)))(EF:rc (at_ ch i)=rc' (at_ ch i))(Ev:rc (at_ ch 1)=rc' (at_ ch 1)):
 version W nd rc ch o i=version W F4 rc' ch' o i∧∀o',version W nd rc ch o i=some o'→FA nd N o'.1∧Fu N o'.2:=by
 unfold version
 simp only[←h1,←E,←F,←G,←EF,←Ev]
 by_cases j:(rc (at_ ch i)).f=(rc (at_ ch 1)).f∧(rc (at_ ch i)).v=(if 0<(rc (at_ ch 1)).f then(rc (at_ ch 1)).f+i - 1 else i)∧(rc (at_ ch i)).ju=at_ ch (i - 1)∧(rc (at_ ch i)).jt=at_ ch (i&&&(i - 1))
 ·simp only[if_pos j]
  have key:∀(g b:Option B4),g=b→(∀a,g=some a→FA nd N a.rows∧Fu N a.jo)→(g.bind fun s=>if s.A4=at_ ch i then some (s.rows,s.jo)else none)=(b.bind fun s=>if s.A4=at_ ch i then some (s.rows,s.jo)else none)∧∀o':Shape,(g.bind fun s=>if s.A4=at_ ch i then some (s.rows,s.jo)else none)=some o'→FA nd N o'.1∧Fu N o'.2:=by
   intro g b e H
   subst e
   refine⟨D,fun a h=>?_⟩
   cases g with
   |none=>cases h
   |some s1=>
    simp only[Option.bind_some]at h
    split at h
    ·cases h;exact H _ D
    ·cases h
  have m:FA nd N []:=fun q p h=>by cases h
  have u:Fu N []:=fun k p h=>by cases h
  by_cases hr:(rc (at_ ch i)).r=0
  ·simp only[if_pos hr]
   refine⟨trivial,(key _ _ D (fun a h=>?_)).2⟩
   split at h
   ·cases h;exact⟨m,u⟩
   ·cases h
  ·simp only[if_neg hr]
   have t:=ee (W:=W) (fr:=max 1 (at_ ch (i - 1))+1) w x y z A B 4097 (rc (at_ ch i)).r (at_ ch i) (rc (at_ ch i)).c (rc (at_ ch i)).s ⟨0,CU⟩ ⟨max 1 (at_ ch (i - 1))+1,[],[]⟩ C (by show 0≤256;omega) m u
   exact key _ _ t.1 (fun a h=>(t.2 a h).2)
 ·simp only[if_neg j]
  exact⟨trivial,fun o' h=>by cases h⟩
theorem iq{W:Nat}{nd F4:Nat→Option Dh}{N:Nat}{rc rc':Nat→B9}{ch ch':List Nat}{j:Nat}(d:∀q,q<N→nd q=F4 q)(f:0<N)(g:nd 0=none)(m:∀q n,nd q=some n→n.kd=1→n.l=0∧n.r=0)(a:∀i,i≤j→at_ ch i=at_ ch' i∧at_ ch i≤N)(c:∀i,1≤i→i≤j→rc (at_ ch i)=rc' (at_ ch i)):
 ∀i,i≤j→EO W nd rc ch i=EO W F4 rc' ch' i∧∀o,EO W nd rc ch i=some o→FA nd N o.1∧Fu N o.2:=by
 intro i
 induction i with
 |zero=>intro _;exact⟨D,fun o h=>by cases h;exact⟨fun q p h=>(by cases h),fun k p h=>(by cases h)⟩⟩
 |succ i s=>
  intro b
  obtain⟨e,ho⟩:=s (by omega)
  rw[EO,EO,←e]
  cases V:EO W nd rc ch i with
  |none=>exact⟨D,fun o h=>by cases h⟩
  |some o=>
   simp only[Option.bind_some]
   obtain⟨t,u⟩:=ho o V
   have hand:(i+1)&&&(i+1 - 1)≤j:=Eg Nat.and_le_right (by omega)
   exact iI d f g m t u (a _ b).2 (a _ b).1 (a 1 (by omega)).1 (a _ (by omega)).1 (a _ hand).1 (c _ (by omega) b) (c 1 (by omega) (by omega))
end Go.Proofs.YtaapafoibofbjaaGreatDoor.G
namespace Go.Proofs.YtaapafoibofbjaaGreatDoor
set_option maxRecDepth 10000
section
variable {x X:List UInt8} {p m:Nat}
theorem e6{a:Nat}(h:a≤m):∃R,A9 x m=A9 x a++R:=by
 induction m with
 |zero=>exact⟨[],by rw[show a=0 by omega,List.append_nil]⟩
 |succ m b=>
  by_cases e:a=m+1
  ·subst e;exact⟨[],(List.append_nil _).symm⟩
  ·obtain⟨R,Df⟩:=b (by omega)
   exact⟨R++(if EA x m=true then [m]else []),by rw[Nj,Df,List.append_assoc]⟩
theorem fD(h:AI X p=AI x p):EA X p=EA x p:=by unfold EA;rw[h]
theorem g'(h:∀p,2≤p→p<m→AI X p=AI x p):A9 X m=A9 x m:=by
 unfold A9
 refine List.filter_congr (fun p a=>?_)
 have a:=List.mem_range.1 a
 by_cases b:2≤p
 ·exact fD (h p b a)
 ·unfold EA;rw[decide_eq_false b];rfl
theorem YC{q:Nat}(h:q∈A9 x m):EA x q=true:=(List.mem_filter.1 h).2
theorem aq{i:Nat}(b:i<(A9 x m).length):A9 x ((A9 x m).getD i 0+1)=(A9 x m).take (i+1):=by
 have Df:=Ok (l:=x) (p:=m) (Br m)
 have c:(A9 x m).getD i 0∈A9 x m:=by rw[List.getD_eq_getElem?_getD,List.getElem?_eq_getElem b];exact List.getElem_mem b
 generalize g:(A9 x m).getD i 0=q at c
 have j:=RD c
 obtain⟨R,d⟩:=e6 (x:=x) (a:=q+1) (m:=m) (by omega)
 have e:=UX (YC c)
 have hlen:(A9 x (q+1)).length=(A9 x q).length+1:=by rw[e,List.length_append];rfl
 have hle:(A9 x q).length<(A9 x m).length:=by rw[d,List.length_append];omega
 have k:(A9 x m).getD (A9 x q).length 0=q:=by
  rw[d,List.getD_eq_getElem?_getD,List.getElem?_append_left (by omega),e,List.getElem?_append_right (Br _),Nat.sub_self]
  rfl
 have f:i=(A9 x q).length:=by
  rcases Nat.lt_trichotomy i (A9 x q).length with h|h|h
  ·have:=Df.lt h hle;omega
  ·exact h
  ·have:=Df.lt h b;omega
 rw[f,←hlen]
 conv=>rhs;rw[d]
 exact List.take_left.symm
end
section
variable {n W P:Nat} {L:List Nat} {x:List UInt8} {i j:Nat}
theorem Qp{k:Nat}(h:k<i:=by omega):(L.take i).getD k 0=L.getD k 0:=by
 rw[List.getD_eq_getElem?_getD,List.getD_eq_getElem?_getD,List.getElem?_take,if_pos h]
theorem P4{g:Nat}(h:g≤i+1:=by omega):BL W P (L.take i) g=BL W P L g:=by
 unfold BL
 split
 ·rw[Qp]
 ·rfl
theorem aD(h:Gv P L)(hl:x.length=n)(d:768≤n)(b:n=256*P)(c:i≤L.length)(a:0<i){k:Nat}(e:512+k<(L.getD (i - 1) 0+1)*256):(Ct n W P L i x).l[512+k]? =x[512+k]? :=by
 have he:=SV h b c a
 have hm:((x.drop 512).take ((L.getD (i - 1) 0+1)*256 - 512)).length=(L.getD (i - 1) 0+1)*256 - 512:=by rw[List.length_take,List.length_drop];omega
 unfold Ct
 rw[if_pos a,M1 _ (by omega),if_pos (by omega),List.getElem?_take,if_pos (by omega),List.getElem?_drop]
 congr 1
 omega
theorem VW{l:List UInt8}(h:0<i):Ct n W P L i l=(E0 n W P L i 2).lay 512 ((l.drop 512).take ((L.getD (i - 1) 0+1)*256 - 512)):=by rw[Ct,if_pos h]
theorem T7(h:Gv P L)(hl:x.length=n)(b:768≤n)(c:n=256*P)(d:i≤L.length)(hj:j≤i):Ct n W P (L.take i) j (Ct n W P L i x).l=Ct n W P L j x:=by
 have ho:E0 n W P (L.take i) j 2=E0 n W P L j 2:=by
  show((E0 n W P (L.take i) j 0).lay ((j+0) % 2*256) (Fr.pack (BL W P (L.take i) (j+0)))).lay ((j+1) % 2*256) (Fr.pack (BL W P (L.take i) (j+1)))=((E0 n W P L j 0).lay ((j+0) % 2*256) (Fr.pack (BL W P L (j+0)))).lay ((j+1) % 2*256) (Fr.pack (BL W P L (j+1)))
  rw[P4,P4]
  rfl
 by_cases a:0<j
 ·rw[VW (L:=L.take i) (l:=(Ct n W P L i x).l) a,VW (L:=L) (i:=j) (l:=x) a,ho,Qp]
  have hle:L.getD (j - 1) 0≤L.getD (i - 1) 0:=by
   by_cases e:j=i
   ·rw[e];exact Br _
   ·exact Nat.le_of_lt (h.lt (by omega) (by omega))
  have A5:((Ct n W P L i x).l.drop 512).take ((L.getD (j - 1) 0+1)*256 - 512)=(x.drop 512).take ((L.getD (j - 1) 0+1)*256 - 512):=by
   apply List.ext_getElem?
   intro k
   rw[List.getElem?_take,List.getElem?_take]
   split
   ·rw[List.getElem?_drop,List.getElem?_drop]
    exact aD h hl b c d (by omega) (by omega)
   ·rfl
  rw[A5]
 ·rw[Rt a,Rt a,ho]
theorem Ko(a:0<i):(BL W P L (i+1)).m=L.getD (i - 1) 0+1∧(BL W P L (i+1)).h=L.getD (i - 1) 0:=by
 unfold BL
 rw[if_pos (by omega),show i+1 - 2=i - 1 by omega]
 exact⟨D,D⟩
end
section
variable {n W P Bz:Nat} {x:List UInt8} {i j:Nat}
structure Fl (n W P Bz:Nat) (x:List UInt8) (i:Nat):Prop where
 hw:1≤W∧W≤32
 jj:3≤P∧P≤4096
 hl:x.length=n
 jJ:n=256*P
 hm:Bz≤P
 ji:i≤(A9 x Bz).length
theorem Fl.Ir(h:Fl n W P Bz x i):Gv P (A9 x Bz):=Ok h.hm
theorem Fl.OT(h:Fl n W P Bz x i):768≤n:=by have:=h.jj;have:=h.jJ;omega
theorem Fl.KY(h:Fl n W P Bz x i){p:Nat}(b:2≤p)(c:p<(BL W P (A9 x Bz) (i+1)).m):AI (Ct n W P (A9 x Bz) i x).l p=AI x p:=by
 by_cases a:0<i
 ·rw[(Ko a).1]at c
  exact h7 h.Ir h.hl h.OT h.jJ h.ji a b (by omega)
 ·obtain rfl:i=0:=by omega
  have:(BL W P (A9 x Bz) (0+1)).m=2:=D
  omega
theorem Fl.A9(h:Fl n W P Bz x i):A9 (Ct n W P (A9 x Bz) i x).l (BL W P (A9 x Bz) (i+1)).m=(A9 x Bz).take i:=by
 rw[g' (fun p a b=>h.KY a b)]
 by_cases c:0<i
 ·rw[(Ko c).1]
  have:=aq (x:=x) (m:=Bz) (i:=i - 1) (by have:=h.ji;omega)
  rw[this,show i - 1+1=i by omega]
 ·obtain rfl:i=0:=by omega
  rw[show(BL W P (Go.Proofs.YtaapafoibofbjaaGreatDoor.A9 x Bz) (0+1)).m=2 from D,UI]
  rfl
theorem Fl.slot(h:Fl n W P Bz x i){q:Nat}(c:q<2):(∃s,Fr.DP (AI (Ct n W P (Go.Proofs.YtaapafoibofbjaaGreatDoor.A9 x Bz) i x).l q)=some s)∧Fr.CN ((AI (Ct n W P (Go.Proofs.YtaapafoibofbjaaGreatDoor.A9 x Bz) i x).l q).drop 64)=true:=by
 have hlen:=Ni x Bz
 have hm:=h.hm
 have a:=h.jj
 have b:=h.ji
 rw[Tn h.Ir h.hl h.OT h.jJ h.ji c]
 have V:Fr.DE (BL W P (Go.Proofs.YtaapafoibofbjaaGreatDoor.A9 x Bz) (if q=i % 2 then i else i+1))=true:=S0 h.Ir h.hw h.jj (by split<;>omega) (by split<;>omega)
 refine⟨⟨_,NX V⟩,?_⟩
 rw[WU,N0]
 decide
theorem Fl.choose(h:Fl n W P Bz x i):Fr.choose (AI (Ct n W P (Go.Proofs.YtaapafoibofbjaaGreatDoor.A9 x Bz) i x).l 0) (AI (Ct n W P (Go.Proofs.YtaapafoibofbjaaGreatDoor.A9 x Bz) i x).l 1)=.ok (BL W P (Go.Proofs.YtaapafoibofbjaaGreatDoor.A9 x Bz) (i+1)):=by
 have hlen:=Ni x Bz
 have hm:=h.hm
 have a:=h.jj
 exact Y7 h.Ir h.hw h.jj h.hl h.OT h.jJ h.ji (by omega)
end
end Go.Proofs.YtaapafoibofbjaaGreatDoor
