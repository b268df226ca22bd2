/- Laws and walks on the road to SalvageClean (part M36). No conditions beyond each law's own. -/
import Derived.Test.YtaapafoibofbjaaGreatDoorM01
import Derived.Test.YtaapafoibofbjaaGreatDoorM35
import Derived.Test.YtaapafoibofbjaaGreatDoorM34
set_option linter.unusedVariables false
namespace Go.Proofs.YtaapafoibofbjaaGreatDoor
open Go.RowKit
set_option maxHeartbeats 1000000
theorem fs(q:Option Addr)(c p:Nat)(w:World)(b:(decide (2≤p)&&decide (p<4096))=false):
 Calls Tryz.prog 40 #[.int .i64 p,.slice q 256 c] w fun e w'=>e=.returned (.tuple #[.int .i64 0,.slice none 0 0,.int .i64 54])∧Below w.heap.size w w':=by
 have a:=K0 p w
 rw[b]at a
 go_enter E4,Tryz.ntmps40
 go_wp2_with (first|go_skip|(go_at_call 80;with_reducible refine C_ ?_))
 refine⟨a.mono ?_⟩
 rintro e W ⟨rfl,rfl⟩
 go_wp2
 exact bodyPost_ret (v:=.tuple #[.int .i64 0,.slice none 0 0,.int .i64 54]) (by simp[results,Tryz.results40,go_sem]) D ⟨D,Cn _ _⟩
theorem ev(q:Option Addr)(c p:Nat)(l:List UInt8)(w:World)(V:View w (.slice q 256 c) 256 1 (bv l))(hl:l.length=256)(d:(decide (2≤p)&&decide (p<4096))=true)(f:At.C5 l 252≠0):
 Calls Tryz.prog 40 #[.int .i64 p,.slice q 256 c] w fun e w'=>e=.returned (.tuple #[.int .i64 0,.slice none 0 0,.int .i64 52])∧Below w.heap.size w w':=by
 have a:=K0 p w
 rw[d]at a
 have g:=IY q 252 c l w V hl
 have Ad:decide (At.C5 l 252=0)=false:=by simpa using f
 rw[Ad]at g
 clear d f Ad
 go_enter E4,Tryz.ntmps40
 go_wp2_with (first|go_skip|(go_at_call 80;with_reducible refine C_ ?_))
 refine⟨a.mono ?_⟩
 rintro e W ⟨rfl,rfl⟩
 clear a
 go_wp2_with (first|go_skip|(go_at_call 71;with_reducible refine C_ ?_))
 refine⟨g.mono ?_⟩
 rintro e W ⟨rfl,b⟩
 go_wp2
 exact bodyPost_ret (v:=.tuple #[.int .i64 0,.slice none 0 0,.int .i64 52]) (by simp[results,Tryz.results40,go_sem]) D ⟨D,b⟩
theorem S8(t:TypeId)(x y:Int)(r:Bool)(hr:(!decide (x=y))=r)(w:World):(binOp .neq t (.int .i64 x) (.int .i64 y)).run Tryz.prog w=.ok (.bool r) w:=by
 subst hr
 simp[binOp,Op.intCmp,go_sem]
 rfl
theorem fP(q:Option Addr)(c p a d:Nat)(l:List UInt8)(w:World)(V:View w (.slice q 256 c) 256 1 (bv l))(hl:l.length=256)(g:(decide (2≤p)&&decide (p<4096))=true)(n:At.C5 l 252=0)(h:a=(l.getD 0 0).toNat)(i:d=(l.getD 1 0).toNat)(o:(decide (1≤a)&&decide (a≤3))=false):
 Calls Tryz.prog 40 #[.int .i64 p,.slice q 256 c] w fun e w'=>e=.returned (.tuple #[.int .i64 0,.slice none 0 0,.int .i64 50])∧Below w.heap.size w w':=by
 have j:=K0 p w
 rw[g]at j
 have r:=IY q 252 c l w V hl
 have Ad:decide (At.C5 l 252=0)=true:=by simpa using n
 rw[Ad]at r
 have F:2≤p∧p<4096:=by simpa using g
 clear g n Ad
 have s:=AX hl
 have z:=AX h
 have A:=AX i
 have G:a<256:=by rw[h];exact(l.getD 0 0).toNat_lt
 have H:d<256:=by rw[i];exact(l.getD 1 0).toNat_lt
 have t:=fun w=>M9 a w
 rw[o]at t
 clear h i o hl
 go_enter E4,Tryz.ntmps40
 go_wp2_with (first|go_skip|(go_at_call 80;with_reducible refine C_ ?_))
 refine⟨j.mono ?_⟩
 rintro e W ⟨rfl,rfl⟩
 clear j
 go_wp2_with (first|go_skip|(go_at_call 71;with_reducible refine C_ ?_))
 refine⟨r.mono ?_⟩
 rintro e W ⟨rfl,b⟩
 have u:=V.below b
 obtain⟨ib,x,rfl,B,k⟩:=u.some (by decide)
 have C:W.cell? ⟨ib,x,none⟩=some (.int .u8 a):=by
  have:=k 0 (.int .u8 a) (by rw[z.out];simp[bv,List.getD_eq_getElem?_getD,s.out])
  simpa using this
 have E:W.cell? ⟨ib,x+1,none⟩=some (.int .u8 d):=k 1 (.int .u8 d) (by rw[A.out];simp[bv,List.getD_eq_getElem?_getD,s.out])
 clear k
 go_wp2
 go_quiet (fail)
 obtain⟨f,m⟩:∃f,f=W.drewN nq:=⟨_,D⟩
 rw[←m]
 have y:Below w.heap.size w f:=by rw[m];exact b.trans ⟨D,D,D,Br _,fun _ _=>rfl⟩
 have I:=V.below y
 clear C E u B m
 go_wp2_with (first|go_skip|(go_at_call 81;with_reducible refine C_ ?_))
 refine⟨(t f).mono ?_⟩
 rintro e B8 ⟨rfl,rfl⟩
 go_wp2
 exact bodyPost_ret (v:=.tuple #[.int .i64 0,.slice none 0 0,.int .i64 50]) (by simp[results,Tryz.results40,go_sem]) D ⟨D,y⟩
theorem ar(q:Option Addr)(c p a d:Nat)(l:List UInt8)(w:World)(V:View w (.slice q 256 c) 256 1 (bv l))(hl:l.length=256)(g:(decide (2≤p)&&decide (p<4096))=true)(n:At.C5 l 252=0)(h:a=(l.getD 0 0).toNat)(i:d=(l.getD 1 0).toNat)(o:(decide (1≤a)&&decide (a≤3))=true)(h1:246<d):
 Calls Tryz.prog 40 #[.int .i64 p,.slice q 256 c] w fun e w'=>e=.returned (.tuple #[.int .i64 0,.slice none 0 0,.int .i64 51])∧Below w.heap.size w w':=by
 have j:=K0 p w
 rw[g]at j
 have r:=IY q 252 c l w V hl
 have Ad:decide (At.C5 l 252=0)=true:=by simpa using n
 rw[Ad]at r
 have F:2≤p∧p<4096:=by simpa using g
 clear g n Ad
 have s:=AX hl
 have z:=AX h
 have A:=AX i
 have G:a<256:=by rw[h];exact(l.getD 0 0).toNat_lt
 have H:d<256:=by rw[i];exact(l.getD 1 0).toNat_lt
 have t:=fun w=>M9 a w
 rw[o]at t
 clear h i o hl
 go_enter E4,Tryz.ntmps40
 go_wp2_with (first|go_skip|(go_at_call 80;with_reducible refine C_ ?_))
 refine⟨j.mono ?_⟩
 rintro e W ⟨rfl,rfl⟩
 clear j
 go_wp2_with (first|go_skip|(go_at_call 71;with_reducible refine C_ ?_))
 refine⟨r.mono ?_⟩
 rintro e W ⟨rfl,b⟩
 have u:=V.below b
 obtain⟨ib,x,rfl,B,k⟩:=u.some (by decide)
 have C:W.cell? ⟨ib,x,none⟩=some (.int .u8 a):=by
  have:=k 0 (.int .u8 a) (by rw[z.out];simp[bv,List.getD_eq_getElem?_getD,s.out])
  simpa using this
 have E:W.cell? ⟨ib,x+1,none⟩=some (.int .u8 d):=k 1 (.int .u8 d) (by rw[A.out];simp[bv,List.getD_eq_getElem?_getD,s.out])
 clear k
 go_wp2
 go_quiet (fail)
 obtain⟨f,m⟩:∃f,f=W.drewN nq:=⟨_,D⟩
 rw[←m]
 have y:Below w.heap.size w f:=by rw[m];exact b.trans ⟨D,D,D,Br _,fun _ _=>rfl⟩
 have I:=V.below y
 clear C E u B m
 go_wp2_with (first|go_skip|(go_at_call 81;with_reducible refine C_ ?_))
 refine⟨(t f).mono ?_⟩
 rintro e B8 ⟨rfl,rfl⟩
 go_wp2
 exact bodyPost_ret (v:=.tuple #[.int .i64 0,.slice none 0 0,.int .i64 51]) (by simp[results,Tryz.results40,go_sem]) D ⟨D,y⟩
theorem dN(q:Option Addr)(c p a g:Nat)(l:List UInt8)(w:World)(V:View w (.slice q 256 c) 256 1 (bv l))(hl:l.length=256)(h:(decide (2≤p)&&decide (p<4096))=true)(t:At.C5 l 252=0)(i:a=(l.getD 0 0).toNat)(j:g=(l.getD 1 0).toNat)(u:(decide (1≤a)&&decide (a≤3))=true)(h1:g≤246)(f:Nat)(x:Fr.le ((l.drop 2).take 4)=f)(z:(!decide ((f:Int)=p))=true):
 Calls Tryz.prog 40 #[.int .i64 p,.slice q 256 c] w fun e w'=>e=.returned (.tuple #[.int .i64 0,.slice none 0 0,.int .i64 54])∧Below w.heap.size w w':=by
 have k:=K0 p w
 rw[h]at k
 have A:=IY q 252 c l w V hl
 have Ad:decide (At.C5 l 252=0)=true:=by simpa using t
 rw[Ad]at A
 have P:2≤p∧p<4096:=by simpa using h
 clear h t Ad
 have m:=AX hl
 have G:=AX i
 have H:=AX j
 have Q:a<256:=by rw[i];exact(l.getD 0 0).toNat_lt
 have R:g<256:=by rw[j];exact(l.getD 1 0).toNat_lt
 have B:=fun w=>M9 a w
 rw[u]at B
 clear i j u hl
 go_enter E4,Tryz.ntmps40
 go_wp2_with (first|go_skip|(go_at_call 80;with_reducible refine C_ ?_))
 refine⟨k.mono ?_⟩
 rintro e W ⟨rfl,rfl⟩
 clear k
 go_wp2_with (first|go_skip|(go_at_call 71;with_reducible refine C_ ?_))
 refine⟨A.mono ?_⟩
 rintro e W ⟨rfl,b⟩
 have C:=V.below b
 obtain⟨ib,o,rfl,I,r⟩:=C.some (by decide)
 have J:W.cell? ⟨ib,o,none⟩=some (.int .u8 a):=by
  have:=r 0 (.int .u8 a) (by rw[G.out];simp[bv,List.getD_eq_getElem?_getD,m.out])
  simpa using this
 have K:W.cell? ⟨ib,o+1,none⟩=some (.int .u8 g):=r 1 (.int .u8 g) (by rw[H.out];simp[bv,List.getD_eq_getElem?_getD,m.out])
 clear r
 go_wp2
 go_quiet (fail)
 obtain⟨d,s⟩:∃d,d=W.drewN nq:=⟨_,D⟩
 rw[←s]
 have E:Below w.heap.size w d:=by rw[s];exact b.trans ⟨D,D,D,Br _,fun _ _=>rfl⟩
 have L:=V.below E
 clear J K C I s
 go_wp2_with (first|go_skip|(go_at_call 81;with_reducible refine C_ ?_))
 refine⟨(B d).mono ?_⟩
 rintro e B8 ⟨rfl,rfl⟩
 have M:=AX z
 clear z
 have N:=AX x
 clear x
 go_wp2_with (first|go_skip|(with_reducible refine GQ ?_))
 refine⟨TQ A3 D (.tmp 34) (.const (.int .i64 2)) D (y:=some ⟨ib,o,none⟩) (n:=256) (c:=c) (xs:=bv l) D L 2 D (by decide) ?_⟩
 intro pp F _
 have O:View d (.slice pp 254 (c - 2)) 254 1 (bv (l.drop 2)):=by rw[←Hk];exact F
 clear F
 go_wp2_with (first|go_skip|(go_at_call 73;with_reducible refine C_ ?_))
 refine⟨(KA pp 254 (c - 2) 4 (l.drop 2) d O (by rw[List.length_drop,m.out])).mono ?_⟩
 rintro e B8 ⟨rfl,rfl⟩
 rw[N.out]
 go_wp2_with (first|go_skip|(with_reducible refine Mt .neq ?_))
 refine⟨bin rfl .neq _ _ _ _ D (p:=.int .i64 f) (q:=.int .i64 p) D D (by simp[eqGuard]) (S8 _ f p true M.out _) ?_⟩
 go_wp2
 exact bodyPost_ret (v:=.tuple #[.int .i64 0,.slice none 0 0,.int .i64 54]) (by simp[results,Tryz.results40,go_sem]) D ⟨D,E⟩
theorem hT(q:Option Addr)(c p f a:Nat)(l:List UInt8)(w:World)(V:View w (.slice q 256 c) 256 1 (bv l))(hl:l.length=256)(i:(decide (2≤p)&&decide (p<4096))=true)(s:At.C5 l 252=0)(j:f=(l.getD 0 0).toNat)(k:a=(l.getD 1 0).toNat)(t:(decide (1≤f)&&decide (f≤3))=true)(h1:a≤246)(u:Fr.le ((l.drop 2).take 4)=p)(x:Fr.CN ((l.drop (6+a)).take (252 - (6+a)))=false):
 Calls Tryz.prog 40 #[.int .i64 p,.slice q 256 c] w fun e w'=>e=.returned (.tuple #[.int .i64 0,.slice none 0 0,.int .i64 53])∧Below w.heap.size w w':=by
 have m:=K0 p w
 rw[i]at m
 have z:=IY q 252 c l w V hl
 have Ad:decide (At.C5 l 252=0)=true:=by simpa using s
 rw[Ad]at z
 have S:2≤p∧p<4096:=by simpa using i
 clear i s Ad
 have g:=AX hl
 have J:=AX j
 have K:=AX k
 have T:f<256:=by rw[j];exact(l.getD 0 0).toNat_lt
 have U:a<256:=by rw[k];exact(l.getD 1 0).toNat_lt
 have A:=fun w=>M9 f w
 rw[t]at A
 clear j k t hl
 go_enter E4,Tryz.ntmps40
 go_wp2_with (first|go_skip|(go_at_call 80;with_reducible refine C_ ?_))
 refine⟨m.mono ?_⟩
 rintro e W ⟨rfl,rfl⟩
 clear m
 go_wp2_with (first|go_skip|(go_at_call 71;with_reducible refine C_ ?_))
 refine⟨z.mono ?_⟩
 rintro e W ⟨rfl,b⟩
 have B:=V.below b
 obtain⟨ib,h,rfl,L,o⟩:=B.some (by decide)
 have M:W.cell? ⟨ib,h,none⟩=some (.int .u8 f):=by
  have:=o 0 (.int .u8 f) (by rw[J.out];simp[bv,List.getD_eq_getElem?_getD,g.out])
  simpa using this
 have N:W.cell? ⟨ib,h+1,none⟩=some (.int .u8 a):=o 1 (.int .u8 a) (by rw[K.out];simp[bv,List.getD_eq_getElem?_getD,g.out])
 clear o
 go_wp2
 go_quiet (fail)
 obtain⟨d,r⟩:∃d,d=W.drewN nq:=⟨_,D⟩
 rw[←r]
 have C:Below w.heap.size w d:=by rw[r];exact b.trans ⟨D,D,D,Br _,fun _ _=>rfl⟩
 have E:=V.below C
 clear M N B L r
 go_wp2_with (first|go_skip|(go_at_call 81;with_reducible refine C_ ?_))
 refine⟨(A d).mono ?_⟩
 rintro e B8 ⟨rfl,rfl⟩
 have O:=AX x
 clear x
 have P:=AX u
 clear u
 go_wp2_with (first|go_skip|(with_reducible refine GQ ?_))
 refine⟨TQ A3 D (.tmp 34) (.const (.int .i64 2)) D (y:=some ⟨ib,h,none⟩) (n:=256) (c:=c) (xs:=bv l) D E 2 D (by decide) ?_⟩
 intro pp F _
 have Q:View d (.slice pp 254 (c - 2)) 254 1 (bv (l.drop 2)):=by rw[←Hk];exact F
 clear F
 go_wp2_with (first|go_skip|(go_at_call 73;with_reducible refine C_ ?_))
 refine⟨(KA pp 254 (c - 2) 4 (l.drop 2) d Q (by rw[List.length_drop,g.out])).mono ?_⟩
 rintro e B8 ⟨rfl,rfl⟩
 rw[P.out]
 go_wp2_with (first|go_skip|(with_reducible refine Mt .neq ?_))
 refine⟨bin rfl .neq _ _ _ _ D (p:=.int .i64 p) (q:=.int .i64 p) D D (by simp[eqGuard]) (S8 _ p p false (by simp) _) ?_⟩
 go_wp2_with (first|go_skip|(with_reducible refine GQ ?_))
 refine⟨SY A3 D (.tmp 40) (.tmp 42) (.const (.int .i64 252)) D (y:=some ⟨ib,h,none⟩) (n:=256) (c:=c) (xs:=bv l) D E (6+a) 252 D D (by omega) (by rw[DG,g.out];decide) ?_⟩
 intro G H _
 have I:View d (.slice G (252 - (6+a)) (c - (6+a))) (252 - (6+a)) 1 (bv (l.drop (6+a))):=by rw[←Hk];simpa using H
 have R:=I.pre (252 - (6+a)) (Br _) (by rw[List.length_drop,g.out];omega)
 clear H I
 go_wp2_with (first|go_skip|(go_at_call 72;with_reducible refine C_ ?_))
 refine⟨(LU G (252 - (6+a)) (c - (6+a)) _ d R (by rw[List.length_take,List.length_drop,g.out];omega)).mono ?_⟩
 rintro e B8 ⟨rfl,rfl⟩
 rw[O.out]
 go_wp2
 exact bodyPost_ret (v:=.tuple #[.int .i64 0,.slice none 0 0,.int .i64 53]) (by simp[results,Tryz.results40,go_sem]) D ⟨D,C⟩
theorem bm(q:Option Addr)(c p f a:Nat)(l:List UInt8)(w:World)(V:View w (.slice q 256 c) 256 1 (bv l))(hl:l.length=256)(j:(decide (2≤p)&&decide (p<4096))=true)(z:At.C5 l 252=0)(m:f=(l.getD 0 0).toNat)(o:a=(l.getD 1 0).toNat)(i:(decide (1≤f)&&decide (f≤3))=true)(h1:a≤246)(A:Fr.le ((l.drop 2).take 4)=p)(B:Fr.CN ((l.drop (6+a)).take (252 - (6+a)))=true):
 Calls Tryz.prog 40 #[.int .i64 p,.slice q 256 c] w fun e w'=>(∃B1,e=.returned (.tuple #[.int .i64 f,B1,.int .i64 0]))∧Below w.heap.size w w':=by
 have r:=K0 p w
 rw[j]at r
 have C:=IY q 252 c l w V hl
 have Ad:decide (At.C5 l 252=0)=true:=by simpa using z
 rw[Ad]at C
 have ag:2≤p∧p<4096:=by simpa using j
 clear j z Ad
 have g:=AX hl
 have O:=AX m
 have P:=AX o
 have ah:f<256:=by rw[m];exact(l.getD 0 0).toNat_lt
 have ai:a<256:=by rw[o];exact(l.getD 1 0).toNat_lt
 have E:=fun w=>M9 f w
 rw[i]at E
 clear m o i hl
 go_enter E4,Tryz.ntmps40
 go_wp2_with (first|go_skip|(go_at_call 80;with_reducible refine C_ ?_))
 refine⟨r.mono ?_⟩
 rintro e W ⟨rfl,rfl⟩
 clear r
 go_wp2_with (first|go_skip|(go_at_call 71;with_reducible refine C_ ?_))
 refine⟨C.mono ?_⟩
 rintro e W ⟨rfl,b⟩
 have F:=V.below b
 obtain⟨ib,h,rfl,Q,s⟩:=F.some (by decide)
 have R:W.cell? ⟨ib,h,none⟩=some (.int .u8 f):=by
  have:=s 0 (.int .u8 f) (by rw[O.out];simp[bv,List.getD_eq_getElem?_getD,g.out])
  simpa using this
 have S:W.cell? ⟨ib,h+1,none⟩=some (.int .u8 a):=s 1 (.int .u8 a) (by rw[P.out];simp[bv,List.getD_eq_getElem?_getD,g.out])
 clear s
 go_wp2
 go_quiet (fail)
 obtain⟨d,t⟩:∃d,d=W.drewN nq:=⟨_,D⟩
 rw[←t]
 have u:Below w.heap.size w d:=by rw[t];exact b.trans ⟨D,D,D,Br _,fun _ _=>rfl⟩
 have x:=V.below u
 clear R S F Q t
 go_wp2_with (first|go_skip|(go_at_call 81;with_reducible refine C_ ?_))
 refine⟨(E d).mono ?_⟩
 rintro e B8 ⟨rfl,rfl⟩
 have T:=AX B
 clear B
 have U:=AX A
 clear A
 go_wp2_with (first|go_skip|(with_reducible refine GQ ?_))
 refine⟨TQ A3 D (.tmp 34) (.const (.int .i64 2)) D (y:=some ⟨ib,h,none⟩) (n:=256) (c:=c) (xs:=bv l) D x 2 D (by decide) ?_⟩
 intro pp G _
 have X:View d (.slice pp 254 (c - 2)) 254 1 (bv (l.drop 2)):=by rw[←Hk];exact G
 clear G
 go_wp2_with (first|go_skip|(go_at_call 73;with_reducible refine C_ ?_))
 refine⟨(KA pp 254 (c - 2) 4 (l.drop 2) d X (by rw[List.length_drop,g.out])).mono ?_⟩
 rintro e B8 ⟨rfl,rfl⟩
 rw[U.out]
 go_wp2_with (first|go_skip|(with_reducible refine Mt .neq ?_))
 refine⟨bin rfl .neq _ _ _ _ D (p:=.int .i64 p) (q:=.int .i64 p) D D (by simp[eqGuard]) (S8 _ p p false (by simp) _) ?_⟩
 go_wp2_with (first|go_skip|(with_reducible refine GQ ?_))
 refine⟨SY A3 D (.tmp 40) (.tmp 42) (.const (.int .i64 252)) D (y:=some ⟨ib,h,none⟩) (n:=256) (c:=c) (xs:=bv l) D x (6+a) 252 D D (by omega) (by rw[DG,g.out];decide) ?_⟩
 intro H I _
 have J:View d (.slice H (252 - (6+a)) (c - (6+a))) (252 - (6+a)) 1 (bv (l.drop (6+a))):=by rw[←Hk];simpa using I
 have Y:=J.pre (252 - (6+a)) (Br _) (by rw[List.length_drop,g.out];omega)
 clear I J
 go_wp2_with (first|go_skip|(go_at_call 72;with_reducible refine C_ ?_))
 refine⟨(LU H (252 - (6+a)) (c - (6+a)) _ d Y (by rw[List.length_take,List.length_drop,g.out];omega)).mono ?_⟩
 rintro e B8 ⟨rfl,rfl⟩
 rw[T.out]
 go_wp2_with (first|go_skip|(with_reducible refine GQ ?_))
 refine⟨SY A3 D (.tmp 47) (.const (.int .i64 6)) (.tmp 49) D (y:=some ⟨ib,h,none⟩) (n:=256) (c:=c) (xs:=bv l) D x 6 (6+a) D D (by omega) (by rw[DG,g.out];omega) ?_⟩
 intro Z K _
 have L:View d (.slice Z (6+a - 6) (c - 6)) (6+a - 6) 1 (bv (l.drop 6)):=by rw[←Hk];simpa using K
 have M:=L.pre (6+a - 6) (Br _) (by rw[List.length_drop,g.out];omega)
 clear K L
 have N:6+a - 6=a:=by omega
 rw[N]at M
 clear N
 go_wp2_with (with_reducible refine Yv ?_)
 refine⟨VK A3 D (.const (.slice none 0 0)) (.tmp 50) D d.heap.size (v:=.slice none 0 0) D D (xs:=[]) (World.ownsRow_nil d _ _ 1) M (Br _) (0+a) D (by omega) _ D ?_⟩
 intro aa ab ad aj ae
 have af:Below w.heap.size w ad:=u.trans ((ae.below (Br _) (fun k i=>by cases i)).mono (by have:=u.size;omega))
 go_wp2
 exact bodyPost_ret (v:=.tuple #[.int .i64 f,.slice aa (0+a) ab,.int .i64 0]) (by simp[results,Tryz.results40,go_sem]) D ⟨⟨_,D⟩,af⟩
end Go.Proofs.YtaapafoibofbjaaGreatDoor
namespace Go.Proofs.YtaapafoibofbjaaGreatDoor
open Go.RowKit
theorem YV(q:Option Addr)(c p:Nat)(l:List UInt8)(w:World)(V:View w (.slice q 256 c) 256 1 (bv l))(hl:l.length=256):
 Calls Tryz.prog 40 #[.int .i64 p,.slice q 256 c] w fun e w'=>∃k B1,∃x:Int,e=.returned (.tuple #[k,B1,.int .i64 x])∧decide (x=0)=Fr.CZ p l∧Below w.heap.size w w':=by
 have no:∀ {e:Ending} {w':World} (n:Int),n≠0→Fr.CZ p l=false→e=.returned (.tuple #[.int .i64 0,.slice none 0 0,.int .i64 n])∧Below w.heap.size w w'→∃k B1,∃x:Int,e=.returned (.tuple #[k,B1,.int .i64 x])∧decide (x=0)=Fr.CZ p l∧Below w.heap.size w w':=by
  rintro e w' n i h ⟨rfl,J⟩
  exact⟨_,_,n,D,by rw[h];simpa using i,J⟩
 cases a:(decide (2≤p)&&decide (p<4096))with
 |false=>exact(fs q c p w a).mono (fun _ _=>no 54 (by decide) (by simp[Fr.CZ,a]))
 |true=>
  by_cases b:At.C5 l 252=0
  ·cases d:(decide (1≤(l.getD 0 0).toNat)&&decide ((l.getD 0 0).toNat≤3))with
   |false=>exact(fP q c p _ _ l w V hl a b D D d).mono (fun _ _=>no 50 (by decide) (by unfold Fr.CZ;rw[d];simp))
   |true=>
    by_cases h1:(l.getD 1 0).toNat≤246
    ·by_cases f:Fr.le ((l.drop 2).take 4)=p
     ·cases g:Fr.CN ((l.drop (6+(l.getD 1 0).toNat)).take (252 - (6+(l.getD 1 0).toNat)))with
      |false=>exact(hT q c p _ _ l w V hl a b D D d h1 f g).mono (fun _ _=>no 53 (by decide) (by unfold Fr.CZ;rw[g];simp))
      |true=>
       refine(bm q c p _ _ l w V hl a b D D d h1 f g).mono ?_
       rintro e w' ⟨⟨B1,rfl⟩,J⟩
       refine⟨_,B1,0,D,?_,J⟩
       unfold Fr.CZ
       rw[g,d,a,decide_eq_true b,decide_eq_true h1,decide_eq_true f]
       rfl
     ·exact(dN q c p _ _ l w V hl a b D D d h1 _ D (by simp;omega)).mono (fun _ _=>no 54 (by decide) (by unfold Fr.CZ;rw[decide_eq_false f];simp))
    ·exact(ar q c p _ _ l w V hl a b D D d (by omega)).mono (fun _ _=>no 51 (by decide) (by unfold Fr.CZ;rw[decide_eq_false h1];simp))
  ·exact(ev q c p l w V hl a b).mono (fun _ _=>no 52 (by decide) (by unfold Fr.CZ;rw[decide_eq_false b];simp))
end Go.Proofs.YtaapafoibofbjaaGreatDoor
namespace Go.Proofs.YtaapafoibofbjaaGreatDoor
open Go.RowKit Go.Maps
variable {m Bi:Nat}
def Of(W:World)(n:Nat)(a b d:Value):Prop:=(a=.int .u32 0∧b=.int .i32 0)∨∃Al,a=.int .u32 1∧d=.map (some Al)∧W.ownsMap Tryz.prog 72 (plainElem (H:=Unit) Tryz.prog 3) Al (8*n+32) (At.Fa (At.EG n) (.map []))
theorem Of.kept{w W:World}{n:Nat}{a b d:Value}(h:Of w n a b d)(J:∀k,k<w.heap.size→(∃es c,w.heap[k]? =some (.map es c))→W.heap[k]? =w.heap[k]?):Of W n a b d:=by
 rcases h with h1|⟨Al,h1,f,e⟩
 ·exact .inl h1
 ·have hl:=e.lt
  have g:=e
  obtain⟨es,c,q,_⟩:=g
  exact .inr ⟨Al,h1,f,Kb e (J Al hl ⟨es,c,q⟩)⟩
def Oo(ib n c:Nat)(u:Fr.Bu)(a b d e f i j k:Value):Array Value:=flat [[.slice (some ⟨ib,0,none⟩) n c],[.int .i64 ((u.w:Nat):Int)],[.int .i64 ((u.g:Nat):Int)],[.int .i64 ((u.m:Nat):Int)],[.int .i64 ((u.h:Nat):Int)],[.int .i64 ((u.p:Nat):Int)],[a],[b],[d],[e],[f],[i],[j],[k]]
structure MK (Bj AK ib n c:Nat) (W:World) (l:List UInt8) (u:Fr.Bu) (jn jx jz jy jw jm jl jr:Value):Prop where
 H:W.heap[AK]? =some (.cells (Oo ib n c u jn jx jz jy jw jm jl jr) 85 (0,0))
 o:W.ownsRow Bj 5 1 (.slice (some ⟨ib,0,none⟩) n c) n (bv l)
 A:Of W 252 jn jx jy
 B:Of W 60 jw jm jr
 j6:Bj≤AK
 ne:ib≠AK
def BS(Bj AK ib n c:Nat)(W:World)(l:List UInt8)(u:Fr.Bu):Prop:=∃a b d e f g h i,MK Bj AK ib n c W l u a b d e f g h i
def EM(AK ib k:Nat):Prop:=k=AK∨k=ib
section
variable {Bj AK ib n c p k:Nat} {w W:World} {l:List UInt8} {u:Fr.Bu}
theorem HL{Bj ib n c:Nat}{w:World}{e:TypeId}{xs:List Value}(h:w.ownsRow Bj e 1 (.slice (some ⟨ib,0,none⟩) n c) n xs):Bj≤ib∧∃cur,w.heap[ib]? =some (.cells cur e (0,0))∧cur.size=c∧n≤c∧c≤maxLen∧cur.toList.take n=xs:=by
 rcases h.2 with⟨q,_⟩|⟨g,cap,cur,h1,J,a,b,d,f,i⟩
 ·cases q
 ·simp only[Value.slice.injEq,Option.some.injEq,Addr.mk.injEq]at h1
  obtain⟨⟨rfl,_⟩,_,rfl⟩:=h1
  exact⟨J,cur,a,by simpa using f,b,d,by simpa using i⟩
theorem P3{Bj ib n c:Nat}{w:World}{e:TypeId}{xs:List Value}{cur:Array Value}(b:Bj≤ib)(h:w.heap[ib]? =some (.cells cur e (0,0)))(d:cur.size=c)(f:n≤c)(g:c≤maxLen)(a:cur.toList.take n=xs):w.ownsRow Bj e 1 (.slice (some ⟨ib,0,none⟩) n c) n xs:=by
 refine⟨?_,.inr ⟨ib,c,cur,D,b,h,f,g,by simpa using d,by simpa using a⟩⟩
 rw[←a,List.length_take]
 simp
 omega
theorem BS.Hi(h:BS Bj AK ib n c w l u):ib<w.heap.size:=by
 obtain⟨_,_,_,_,_,_,_,_,h⟩:=h
 obtain⟨_,cur,a,_⟩:=HL h.o
 exact DC a
theorem BS.G2(h:BS Bj AK ib n c w l u):AK<w.heap.size:=by
 obtain⟨_,_,_,_,_,_,_,_,h⟩:=h
 exact DC h.H
theorem BS.len(h:BS Bj AK ib n c w l u):l.length=n:=by
 obtain⟨_,_,_,_,_,_,_,_,h⟩:=h
 exact De h.o
theorem BS.low(h:BS Bj AK ib n c w l u):Bj≤AK∧Bj≤ib:=by
 obtain⟨_,_,_,_,_,_,_,_,h⟩:=h
 exact⟨h.j6,(HL h.o).1⟩
theorem BS.Bn(h:BS Bj AK ib n c w l u)(a:W.heap[AK]? =w.heap[AK]?)(b:W.heap[ib]? =w.heap[ib]?)(hm:∀k,k<w.heap.size→(∃es c,w.heap[k]? =some (.map es c))→W.heap[k]? =w.heap[k]?):BS Bj AK ib n c W l u:=by
 obtain⟨d,e,f,g,i,j,m,p,h⟩:=h
 obtain⟨q,cur,r,s,t,v,x⟩:=HL h.o
 exact⟨d,e,f,g,i,j,m,p,a.trans h.H,P3 q (b.trans r) s t v x,h.A.kept hm,h.B.kept hm,h.j6,h.ne⟩
theorem BS.below(h:BS Bj AK ib n c w l u)(a:Below w.heap.size w W):BS Bj AK ib n c W l u:=h.Bn (a.block _ h.G2) (a.block _ h.Hi) (fun k b _=>a.block k b)
theorem BS.grown(h:BS Bj AK ib n c w l u)(g:w.grownBy W (some k))(h1:k≠AK)(a:k≠ib)(hr:∃c t,w.heap[k]? =some (.cells c t (0,0))):BS Bj AK ib n c W l u:=by
 obtain⟨c',b,hr⟩:=hr
 exact h.Bn (g.block _ h.G2 (fun e=>h1 (by cases e;rfl))) (g.block _ h.Hi (fun e=>a (by cases e;rfl))) (fun j hj ⟨es,As,hm⟩=>g.block j hj (by
  intro e
  cases e
  rw[hr]at hm
  cases hm))
theorem BS.Ny{v BA:Value}{B size:Nat}{e:TypeId}{xs:List Value}(h:BS Bj AK ib n c w l u)(BO:D0 w W v BA)(ho:w.ownsRow B e size v m xs)(h1:∀k,v.ownBlock=some k→k≠AK)(a:∀k,v.ownBlock=some k→k≠ib):BS Bj AK ib n c W l u:=by
 have g:=BO.Bg
 refine h.Bn (g.block _ h.G2 (fun e=>h1 _ e.symm D)) (g.block _ h.Hi (fun e=>a _ e.symm D)) (fun j hj ⟨es,As,hm⟩=>g.block j hj ?_)
 intro e
 rcases ho.2 with⟨q,_⟩|⟨HZ,cap,cur,b,_,d,_⟩
 ·rw[q]at e;cases e
 ·rw[b]at e
  simp only[Value.ownBlock,Option.some.injEq]at e
  subst e
  rw[d]at hm
  cases hm
theorem F0{l:List UInt8}{n p:Nat}(h:l.length=n)(a:256*(p+1)≤n:=by omega):(Dc l p).length=256:=by unfold Dc;rw[List.length_take,List.length_drop];omega
theorem BS.view(h:BS Bj AK ib n c w l u)(off m:Nat)(hm:off+m≤n):View w (.slice (some ⟨ib,off,none⟩) m (c - off)) m 1 (bv ((l.drop off).take m)):=by
 obtain⟨d,f,g,i,k,p,q,r,h⟩:=h
 obtain⟨s,cur,a,t,x,y,b⟩:=HL h.o
 have hl:=De h.o
 have e:(bv ((l.drop off).take m))=((bv l).drop off).take m:=by simp[bv,List.map_drop,List.map_take]
 refine⟨by rw[DG,List.length_take,List.length_drop];omega,.inr ⟨ib,off,c - off,D,by rw[DG,List.length_take,List.length_drop];omega,by omega,by omega,DC a,fun j v hj=>?_⟩⟩
 rw[cell_of_row _ _ _ _ _ _ a]
 rw[e,List.getElem?_take]at hj
 split at hj
 ·rw[List.getElem?_drop,←b,List.getElem?_take]at hj
  split at hj
  ·simpa using hj
  ·cases hj
 ·cases hj
theorem BS.CW(h:BS Bj AK ib n c w l u)(a:256*(p+1)≤n):View w (.slice (some ⟨ib,256*p,none⟩) 256 (c - 256*p)) 256 1 (bv (Dc l p)):=h.view (256*p) 256 (by omega)
theorem BS.cell(h:BS Bj AK ib n c w l u){i:Nat}(a:i<n):w.cell? ⟨ib,i,none⟩=some (.int .u8 (((l.getD i 0).toNat:Nat):Int)):=by
 obtain⟨e,f,g,j,k,m,p,q,h⟩:=h
 obtain⟨r,cur,b,s,t,v,d⟩:=HL h.o
 have hl:=De h.o
 rw[cell_of_row _ _ _ _ _ _ b]
 have:(bv l)[i]? =some (.int .u8 (((l.getD i 0).toNat:Nat):Int)):=by
  unfold bv
  rw[List.getElem?_map,List.getElem?_eq_getElem (by omega),List.getD_eq_getElem?_getD,List.getElem?_eq_getElem (by omega)]
  rfl
 rw[←d,List.getElem?_take,if_pos a]at this
 simpa using this
theorem BS.set(h:BS Bj AK ib n c w l u){i:Nat}{x:UInt8}(F:i<n){cur:Array Value}(a:w.heap[ib]? =some (.cells cur 5 (0,0)))(d:W.heap[ib]? =some (.cells (cur.setIfInBounds i (.int .u8 ((x.toNat:Nat):Int))) 5 (0,0)))(g:w.grownBy W (some ib)):BS Bj AK ib n c W (l.set i x) u:=by
 have f:=h.G2
 obtain⟨k,m,p,q,r,s,t,v,h⟩:=h
 obtain⟨y,G,b,z,C,D,E⟩:=HL h.o
 rw[a]at b
 cases b
 have hm:∀j,j<w.heap.size→(∃es c,w.heap[j]? =some (.map es c))→W.heap[j]? =w.heap[j]? :=fun j hj ⟨es,As,hm⟩=>g.block j hj (by
  intro e
  cases e
  rw[a]at hm
  cases hm)
 refine⟨k,m,p,q,r,s,t,v,(g.block _ f (fun e=>h.ne (by cases e;rfl))).trans h.H,P3 y d (by simpa using z) C D ?_,h.A.kept hm,h.B.kept hm,h.j6,h.ne⟩
 rw[Array.toList_setIfInBounds,List.take_set,E]
 simp[bv,List.map_set]
theorem bq{cs:Array Value}{v x y z A B C D:Value}(E:cs.size=14)(h:∀j,j<6→cs[j]? =(Oo ib n c u v x y z A B C D)[j]?):∃a b d e f i k l,cs=Oo ib n c u a b d e f i k l:=by
 have o:=h 0 (by decide)
 have h1:=h 1 (by decide)
 have q:=h 2 (by decide)
 have r:=h 3 (by decide)
 have s:=h 4 (by decide)
 have t:=h 5 (by decide)
 obtain⟨L⟩:=cs
 match L,E,o,h1,q,r,s,t with
 |[F,G,H,I,J,K,a,b,d,e,f,i,k,l],_,o,h1,q,r,s,t=>
  have M:F=Value.slice (some ⟨ib,0,none⟩) n c:=Option.some.inj o
  have N:G=Value.int .i64 ((u.w:Nat):Int):=Option.some.inj h1
  have O:H=Value.int .i64 ((u.g:Nat):Int):=Option.some.inj q
  have P:I=Value.int .i64 ((u.m:Nat):Int):=Option.some.inj r
  have Q:J=Value.int .i64 ((u.h:Nat):Int):=Option.some.inj s
  have R:K=Value.int .i64 ((u.p:Nat):Int):=Option.some.inj t
  exact⟨a,b,d,e,f,i,k,l,by rw[M,N,O,P,Q,R];rfl⟩
theorem BS.Yy{k:Nat}{a b y d f i z r:Value}(h:MK Bj AK ib n c w l u a b y d f i z r)(C:(Bi=6∧k=252)∨(Bi=10∧k=60))(t:Hm w W AK Bi k (Oo ib n c u a b y d f i z r) 85):BS Bj AK ib n c W l u∧w.grownBy W (some AK):=by
 obtain⟨M,g,EF,Ev,Kw,HQ⟩:=t
 have hm:∀j,j<w.heap.size→(∃es c,w.heap[j]? =some (.map es c))→W.heap[j]? =w.heap[j]? :=fun j hj ⟨es,As,D⟩=>g.block j hj (by
  intro e
  cases e
  rw[h.H]at D
  cases D)
 obtain⟨N,cur,E,O,P,Q,R⟩:=HL h.o
 have S:W.heap[ib]? =some (.cells cur 5 (0,0)):=(g.block _ (DC E) (fun e=>h.ne (by cases e;rfl))).trans E
 obtain⟨F,G,T,I,J,K,U,L,e⟩:=bq (cs:=M) (by rw[Kw];rfl) (fun j hj=>HQ j (by omega))
 subst e
 refine⟨⟨F,G,T,I,J,K,U,L,EF,P3 N S O P Q R,?_,?_,h.j6,h.ne⟩,g⟩
 ·rcases C with⟨rfl,rfl⟩|⟨rfl,rfl⟩
  ·rcases Ev.2 with⟨p,q⟩|⟨Al,p,q,m⟩
   ·exact .inl ⟨Option.some.inj p,Option.some.inj q⟩
   ·exact .inr ⟨Al,Option.some.inj p,Option.some.inj q,m⟩
  ·have s:F=a:=Option.some.inj (HQ 6 (by omega))
   have v:G=b:=Option.some.inj (HQ 7 (by omega))
   have x:I=d:=Option.some.inj (HQ 9 (by omega))
   rw[s,v,x]
   exact h.A.kept hm
 ·rcases C with⟨rfl,rfl⟩|⟨rfl,rfl⟩
  ·have s:J=f:=Option.some.inj (HQ 10 (by omega))
   have v:K=i:=Option.some.inj (HQ 11 (by omega))
   have x:L=r:=Option.some.inj (HQ 13 (by omega))
   rw[s,v,x]
   exact h.B.kept hm
  ·rcases Ev.2 with⟨p,q⟩|⟨Al,p,q,m⟩
   ·exact .inl ⟨Option.some.inj p,Option.some.inj q⟩
   ·exact .inr ⟨Al,Option.some.inj p,Option.some.inj q,m⟩
theorem MK.Uq{a b d e f g i j:Value}(h:MK Bj AK ib n c w l u a b d e f g i j){k:Nat}(o:(Bi=6∧k=252)∨(Bi=10∧k=60)):TabIs w AK Bi k (Oo ib n c u a b d e f g i j):=by
 rcases o with⟨rfl,rfl⟩|⟨rfl,rfl⟩
 ·refine⟨by show 6+3<14;decide,?_⟩
  rcases h.A with⟨p,q⟩|⟨Al,p,q,m⟩
  ·exact .inl ⟨congrArg some p,congrArg some q⟩
  ·exact .inr ⟨Al,congrArg some p,congrArg some q,m⟩
 ·refine⟨by show 10+3<14;decide,?_⟩
  rcases h.B with⟨p,q⟩|⟨Al,p,q,m⟩
  ·exact .inl ⟨congrArg some p,congrArg some q⟩
  ·exact .inr ⟨Al,congrArg some p,congrArg some q,m⟩
theorem Cu.PC{X:Nat→Prop}{b:Nat}(g:w.grownBy W (some b))(J:X b):Cu X w W:=⟨g.os,g.tape,g.output,g.size,fun k a c=>g.block k a (fun e=>c (by cases e;exact J))⟩
theorem X1{k:Nat}(h:BS Bj AK ib n c w l u)(b:(Bi=6∧k=252∧m=256)∨(Bi=10∧k=60∧m=64))(d:256*(p+1)≤n)(a:At.last (At.EG k) (At.C5 ((Dc l p).take m) k)=none):
 Calls Tryz.prog 37 #[.pointer (some ⟨AK,Bi,none⟩),.slice (some ⟨ib,256*p,none⟩) m (c - 256*p),.int .i64 ((k:Nat):Int)] w fun e w'=>e=.returned (.tuple #[.nilFunc,.bool false])∧BS Bj AK ib n c w' l u∧Cu (EM AK ib) w w':=by
 have hl:=h.len
 have V:=h.view (256*p) m (by omega)
 obtain⟨f,i,j,o,r,s,v,x,h⟩:=h
 have e:(Dc l p).take m=(l.drop (256*p)).take m:=by unfold Dc;rw[List.take_take,Nat.min_eq_left (by omega)]
 rw[e]at a
 refine(eo AK Bi k m (c - 256*p) (some ⟨ib,256*p,none⟩) _ _ _ w h.H (h.Uq (by omega)) (by omega) (by omega) V (by rw[List.length_take,List.length_drop];omega) (by omega) a).mono ?_
 rintro e w' ⟨rfl,t⟩
 obtain⟨q,g⟩:=BS.Yy h (by omega) t
 exact⟨D,q,Cu.PC g (.inl D)⟩
theorem Qq{k j:Nat}(h:BS Bj AK ib n c w l u)(z:(Bi=6∧k=252∧m=256)∨(Bi=10∧k=60∧m=64))(A:256*(p+1)≤n)(b:At.last (At.EG k) (At.C5 ((Dc l p).take m) k)=some j)(hj:j<8*m:=by omega):
 Calls Tryz.prog 37 #[.pointer (some ⟨AK,Bi,none⟩),.slice (some ⟨ib,256*p,none⟩) m (c - 256*p),.int .i64 ((k:Nat):Int)] w fun e w'=>∃v,e=.returned (.tuple #[v,.bool true])∧BS Bj AK ib n c w' (At.bit l (2048*p+j)) u∧Cu (EM AK ib) w w'∧Vb w w' v ib (256*p) m (c - 256*p) j:=by
 have hl:=h.len
 have V:=h.view (256*p) m (by omega)
 obtain⟨B,C,E,F,G,I,J,K,h⟩:=h
 have e:(Dc l p).take m=(l.drop (256*p)).take m:=by unfold Dc;rw[List.take_take,Nat.min_eq_left (by omega)]
 rw[e]at b
 obtain⟨L,cur,a,M,N,O,P⟩:=HL h.o
 refine(bR AK Bi k m (c - 256*p) (256*p) ib j _ cur _ _ w h.H (h.Uq (by omega)) (by omega) (by omega) a h.ne V (by rw[List.length_take,List.length_drop];omega) (by omega) b hj (by omega)).mono ?_
 rintro e w' ⟨v,f,rfl,t,g,hw,i⟩
 obtain⟨q,d⟩:=BS.Yy h (by omega) t
 have r:f.heap[ib]? =some (.cells cur 5 (0,0)):=(d.block _ (DC a) (fun e=>h.ne (by cases e;rfl))).trans a
 have x:((l.drop (256*p)).take m).getD (j/8) 0=l.getD (256*p+j/8) 0:=by
  rw[List.getD_eq_getElem?_getD,List.getD_eq_getElem?_getD,List.getElem?_take,if_pos (by omega),List.getElem?_drop]
 rw[x]at hw
 have s:=q.set (by omega) r hw g
 refine⟨v,D,?_,(Cu.PC (X:=EM AK ib) d (.inl D)).trans (Cu.PC (X:=EM AK ib) g (.inr D)) (fun _ h _=>h),i⟩
 have y:At.bit l (2048*p+j)=l.set (256*p+j/8) (l.getD (256*p+j/8) 0^^^UInt8.ofNat (2^(j % 8))):=by
  unfold At.bit At.Im
  rw[show(2048*p+j)/8=256*p+j/8 by omega,show(2048*p+j) % 8=j % 8 by omega]
 rw[y]
 exact s
theorem Us{G5 Ac a j:Nat}(h:BS Bj AK ib n c w l u)(t:256*(p+1)≤n)(hm:m≤256)(d:G5=c - 256*p)(v:n≤1048576)(hj:j<8*m)(f:w.heap[Ac]? =some (.cells (flat [[.slice (some ⟨ib,256*p,none⟩) m G5]]) 22 (0,0)))(i:w.heap[a]? =some (.cells (flat [[.int .i64 ((j:Nat):Int)]]) 3 (0,0))):
 Calls Tryz.prog 77 #[.pointer (some ⟨Ac,0,none⟩),.pointer (some ⟨a,0,none⟩)] w fun e w'=>e=.returned (.tuple #[])∧BS Bj AK ib n c w' (At.bit l (2048*p+j)) u∧Cu (EM AK ib) w w':=by
 subst d
 have hl:=h.len
 have V:=h.view (256*p) m (by omega)
 obtain⟨x,y,z,A,B,C,E,F,k⟩:=id h
 obtain⟨G,cur,b,H,I,J,K⟩:=HL k.o
 refine(Yn Ac a ib (256*p) m (c - 256*p) j _ cur w f i b V (by rw[List.length_take,List.length_drop];omega) hj (by omega)).mono ?_
 rintro e w' ⟨rfl,g,hw⟩
 have q:((l.drop (256*p)).take m).getD (j/8) 0=l.getD (256*p+j/8) 0:=by
  rw[List.getD_eq_getElem?_getD,List.getD_eq_getElem?_getD,List.getElem?_take,if_pos (by omega),List.getElem?_drop]
 rw[q]at hw
 have s:=h.set (by omega) b hw g
 refine⟨D,?_,Cu.PC (X:=EM AK ib) g (.inr D)⟩
 have r:At.bit l (2048*p+j)=l.set (256*p+j/8) (l.getD (256*p+j/8) 0^^^UInt8.ofNat (2^(j % 8))):=by
  unfold At.bit At.Im
  rw[show(2048*p+j)/8=256*p+j/8 by omega,show(2048*p+j) % 8=j % 8 by omega]
 rw[r]
 exact s
end
end Go.Proofs.YtaapafoibofbjaaGreatDoor
