/- Laws and walks on the road to SalvageClean (part M01). No conditions beyond each law's own. -/
import Derived.Test.YtaapafoibofbjaaGreatDoorProg
import Derived.WalkKit
import Derived.WalkSpells
import Derived.WalkLawsBesides
import Derived.BigQuiet
import Derived.Deep.QuietTactic
import Derived.Deep.MidRow
import Derived.Laws.AppendOwnNone
import Derived.Deep.WholeRow
import Derived.Lib.Hide
set_option linter.unusedVariables false
namespace Go.Proofs.YtaapafoibofbjaaGreatDoor
theorem D.{u}{a:Sort u}{b:a}:b=b:=rfl
abbrev Vx:=Tryz.func10
abbrev Z5:=Tryz.func100
abbrev g3:=Tryz.func101
abbrev XH:=Tryz.func103
abbrev Po:=Tryz.func104
abbrev Qo:=Tryz.func105
abbrev Xn:=Tryz.func106
abbrev Nb:=Tryz.func107
abbrev OX:=Tryz.func108
abbrev Re:=Tryz.func109
abbrev X0:=Tryz.func11
abbrev V':=Tryz.func110
abbrev L_:=Tryz.func111
abbrev Vo:=Tryz.func112
abbrev Uv:=Tryz.func113
abbrev bz:=Tryz.func114
abbrev hx:=Tryz.func115
abbrev TI:=Tryz.func116
abbrev Mw:=Tryz.func117
abbrev IC:=Tryz.func118
abbrev Ps:=Tryz.func119
abbrev UJ:=Tryz.func12
abbrev PL:=Tryz.func120
abbrev P1:=Tryz.func121
abbrev Pk:=Tryz.func122
abbrev Ze:=Tryz.func123
abbrev Xy:=Tryz.func124
abbrev Lh:=Tryz.func125
abbrev S9:=Tryz.func13
abbrev Vj:=Tryz.func133
abbrev Th:=Tryz.func134
abbrev U5:=Tryz.func135
abbrev XQ:=Tryz.func136
abbrev YZ:=Tryz.func139
abbrev Xv:=Tryz.func14
abbrev Vq:=Tryz.func142
abbrev YT:=Tryz.func143
abbrev TE:=Tryz.func145
abbrev XJ:=Tryz.func146
abbrev c4:=Tryz.func148
abbrev aZ:=Tryz.func149
abbrev Xg:=Tryz.func15
abbrev WH:=Tryz.func150
abbrev Nc:=Tryz.func151
abbrev RB:=Tryz.func152
abbrev O_:=Tryz.func153
abbrev Pa:=Tryz.func154
abbrev Np:=Tryz.func155
abbrev Nm:=Tryz.func156
abbrev Qw:=Tryz.func157
abbrev Xp:=Tryz.func158
abbrev Qf:=Tryz.func159
abbrev Mj:=Tryz.func16
abbrev RT:=Tryz.func160
abbrev WW:=Tryz.func161
abbrev Wc:=Tryz.func162
abbrev Zf:=Tryz.func164
abbrev T1:=Tryz.func165
abbrev Wx:=Tryz.func166
abbrev Qy:=Tryz.func167
abbrev Ms:=Tryz.func17
abbrev U4:=Tryz.func170
abbrev XB:=Tryz.func172
abbrev Yq:=Tryz.func173
abbrev Sg:=Tryz.func174
abbrev ZL:=Tryz.func175
abbrev Qn:=Tryz.func176
abbrev QE:=Tryz.func177
abbrev R2:=Tryz.func178
abbrev VI:=Tryz.func179
abbrev W9:=Tryz.func18
abbrev Vl:=Tryz.func180
abbrev MA:=Tryz.func181
abbrev Sl:=Tryz.func182
abbrev W2:=Tryz.func183
abbrev Ua:=Tryz.func184
abbrev RP:=Tryz.func185
abbrev V5:=Tryz.func186
abbrev Iz:=Tryz.func187
abbrev dP:=Tryz.func188
abbrev NK:=Tryz.func19
abbrev TJ:=Tryz.func190
abbrev Uy:=Tryz.func191
abbrev T5:=Tryz.func192
abbrev Xi:=Tryz.func193
abbrev U2:=Tryz.func194
abbrev Sw:=Tryz.func195
abbrev Ui:=Tryz.func196
abbrev UE:=Tryz.func197
abbrev IN:=Tryz.func198
abbrev P2:=Tryz.func20
abbrev Oq:=Tryz.func21
abbrev Ux:=Tryz.func22
abbrev Sz:=Tryz.func220
abbrev Ub:=Tryz.func221
abbrev Wv:=Tryz.func222
abbrev XC:=Tryz.func223
abbrev MH:=Tryz.func23
abbrev Ll:=Tryz.func235
abbrev Ma:=Tryz.func236
abbrev K7:=Tryz.func237
abbrev QX:=Tryz.func238
abbrev Pr:=Tryz.func239
abbrev Xd:=Tryz.func24
abbrev Tc:=Tryz.func244
abbrev RJ:=Tryz.func245
abbrev Tq:=Tryz.func247
abbrev Pd:=Tryz.func26
abbrev QQ:=Tryz.func27
abbrev YF:=Tryz.func28
abbrev X6:=Tryz.func29
abbrev Rc:=Tryz.func3
abbrev OQ:=Tryz.func30
abbrev K6:=Tryz.func31
abbrev VL:=Tryz.func32
abbrev P6:=Tryz.func33
abbrev TU:=Tryz.func34
abbrev Fy:=Tryz.func35
abbrev FW:=Tryz.func36
abbrev Lm:=Tryz.func37
abbrev OJ:=Tryz.func38
abbrev S7:=Tryz.func39
abbrev Se:=Tryz.func4
abbrev E4:=Tryz.func40
abbrev UT:=Tryz.func41
abbrev UR:=Tryz.func42
abbrev XV:=Tryz.func43
abbrev SI:=Tryz.func44
abbrev Mh:=Tryz.func45
abbrev V6:=Tryz.func46
abbrev EV:=Tryz.func47
abbrev Xc:=Tryz.func48
abbrev U0:=Tryz.func5
abbrev Ty:=Tryz.func50
abbrev Si:=Tryz.func51
abbrev Qd:=Tryz.func52
abbrev R3:=Tryz.func53
abbrev PF:=Tryz.func54
abbrev P_:=Tryz.func57
abbrev XI:=Tryz.func58
abbrev SC:=Tryz.func59
abbrev Qi:=Tryz.func6
abbrev TN:=Tryz.func60
abbrev Tu:=Tryz.func61
abbrev Rr:=Tryz.func62
abbrev Ut:=Tryz.func63
abbrev Sn:=Tryz.func64
abbrev VN:=Tryz.func65
abbrev Wq:=Tryz.func66
abbrev My:=Tryz.func67
abbrev Nx:=Tryz.func68
abbrev PY:=Tryz.func69
abbrev L9:=Tryz.func7
abbrev R4:=Tryz.func70
abbrev LM:=Tryz.func71
abbrev Rl:=Tryz.func72
abbrev SU:=Tryz.func73
abbrev X_:=Tryz.func74
abbrev bB:=Tryz.func75
abbrev YX:=Tryz.func76
abbrev TM:=Tryz.func77
abbrev SO:=Tryz.func78
abbrev Lu:=Tryz.func79
abbrev PQ:=Tryz.func8
abbrev Tv:=Tryz.func80
abbrev Sc:=Tryz.func81
abbrev KJ:=Tryz.func82
abbrev NN:=Tryz.func83
abbrev WY:=Tryz.func84
abbrev P7:=Tryz.func85
abbrev J2:=Tryz.func86
abbrev VC:=Tryz.func87
abbrev Up:=Tryz.func88
abbrev WS:=Tryz.func89
abbrev YO:=Tryz.func9
abbrev Wi:=Tryz.func90
abbrev Yb:=Tryz.func91
abbrev O7:=Tryz.func92
abbrev PM:=Tryz.func93
abbrev Nt:=Tryz.func94
abbrev gV:=Tryz.func95
abbrev e2:=Tryz.func96
abbrev hK:=Tryz.func97
abbrev fA:=Tryz.func98
abbrev Bv:=Tryz.underlying101
abbrev Wz:=Tryz.underlying105
abbrev KW:=Tryz.underlying106
abbrev Vy:=Tryz.underlying108
abbrev HR:=Tryz.underlying110
abbrev Uk:=Tryz.underlying111
abbrev Om:=Tryz.underlying115
abbrev F5:=Tryz.underlying117
abbrev Pp:=Tryz.underlying135
abbrev Nl:=Tryz.underlying136
abbrev RI:=Tryz.underlying146
abbrev hb:=Tryz.underlying156
abbrev Sy:=Tryz.underlying157
abbrev XM:=Tryz.underlying158
abbrev Ld:=Tryz.underlying160
abbrev I1:=Tryz.underlying162
abbrev PB:=Tryz.underlying164
abbrev QS:=Tryz.underlying165
abbrev LS:=Tryz.underlying167
abbrev L7:=Tryz.underlying168
abbrev RV:=Tryz.underlying179
abbrev Ig:=Tryz.underlying180
abbrev Kp:=Tryz.underlying189
abbrev LQ:=Tryz.underlying190
abbrev Mk:=Tryz.underlying200
abbrev G1:=Tryz.underlying203
abbrev Xr:=Tryz.underlying208
abbrev VV:=Tryz.underlying212
abbrev Hg:=Tryz.underlying219
abbrev Co:=Tryz.underlying22
abbrev DW:=Tryz.underlying224
abbrev VJ:=Tryz.underlying226
abbrev YG:=Tryz.underlying227
abbrev Ha:=Tryz.underlying230
abbrev GM:=Tryz.underlying231
abbrev Ln:=Tryz.underlying232
abbrev Il:=Tryz.underlying234
abbrev C9:=Tryz.underlying236
abbrev DS:=Tryz.underlying240
abbrev DY:=Tryz.underlying242
abbrev Lr:=Tryz.underlying244
abbrev Mo:=Tryz.underlying245
abbrev F3:=Tryz.underlying247
abbrev G6:=Tryz.underlying249
abbrev He:=Tryz.underlying251
abbrev WX:=Tryz.underlying26
abbrev ZY:=Tryz.underlying271
abbrev FF:=Tryz.underlying292
abbrev WC:=Tryz.underlying299
abbrev AF:=Tryz.underlying3
abbrev KD:=Tryz.underlying30
abbrev UP:=Tryz.underlying303
abbrev N2:=Tryz.underlying307
abbrev Ez:=Tryz.underlying312
abbrev S5:=Tryz.underlying317
abbrev E9:=Tryz.underlying32
abbrev Mi:=Tryz.underlying356
abbrev FX:=Tryz.underlying359
abbrev J3:=Tryz.underlying361
abbrev Gd:=Tryz.underlying39
abbrev PW:=Tryz.underlying4
abbrev QA:=Tryz.underlying42
abbrev BV:=Tryz.underlying5
abbrev B5:=Tryz.underlying51
abbrev I9:=Tryz.underlying53
abbrev Em:=Tryz.underlying57
abbrev O8:=Tryz.underlying59
abbrev HE:=Tryz.underlying60
abbrev LC:=Tryz.underlying61
abbrev RA:=Tryz.underlying62
abbrev BM:=Tryz.underlying68
abbrev CI:=Tryz.underlying72
abbrev Ss:=Tryz.underlying81
abbrev F_:=Tryz.underlying85
abbrev Gb:=Tryz.underlying89
abbrev Ho:=Tryz.underlying9
abbrev FN:=Tryz.underlying92
abbrev K1:=Tryz.underlying93
abbrev M':=Tryz.underlying94
abbrev IA:=Tryz.underlying95
abbrev C2:=Tryz.underlying97
abbrev B7:=Tryz.underlying99
theorem Eg{a b c:Nat}(h:a≤b)(k:b≤c):a≤c:=Nat.le_trans h k
theorem Br(n:Nat):n≤n:=Nat.le_refl n
theorem Cn(B:Nat)(w:Go.World):Go.RowKit.Below B w w:=Go.RowKit.Below.refl B w
theorem AX{p:Prop}(h:p):Go.RowKit.Hid p:=Go.Lib.hid h
end Go.Proofs.YtaapafoibofbjaaGreatDoor
namespace Go.Proofs.YtaapafoibofbjaaGreatDoor
open Go.RowKit
variable {n size b c bytes B off:Nat} {v z:Value} {xs:List Value} {t e u:TypeId} {x:Operand} {w':World} {y:Option Addr} {l:List UInt8} {cs:Array Value} {g:Option (Nat×Bool)} {k:IntKind}
def Cells(w:World)(b off:Nat)(xs:List Value):Prop:=∀j v,xs[j]? =some v→w.cell? ⟨b,off+j,none⟩=some v
def bv(l:List UInt8):List Value:=l.map fun b=>.int .u8 b.toNat
theorem DG(l:List UInt8):(bv l).length=l.length:=by simp[bv]
theorem Mu(l m:List UInt8):bv (l++m)=bv l++bv m:=by simp[bv]
theorem Ip(l:List UInt8)(n:Nat):(bv l).take n=bv (l.take n):=by simp[bv]
theorem Hk(l:List UInt8)(n:Nat):(bv l).drop n=bv (l.drop n):=by simp[bv]
@[simp] theorem je:bv []=[]:=rfl
theorem Eo(l:List UInt8):∀u∈bv l,u.oneCell'=true:=by
 intro u hu
 simp only[bv,List.mem_map]at hu
 obtain⟨b,_,rfl⟩:=hu
 rfl
def View(w:World)(v:Value)(n size:Nat)(xs:List Value):Prop:=
 n*size≤xs.length∧((v=.slice none 0 0∧n=0∧xs=[])∨
  ∃b off cap,v=.slice (some ⟨b,off,none⟩) n cap∧xs.length≤cap*size∧n≤cap∧cap≤maxLen∧b<w.heap.size∧Cells w b off xs)
structure CO (P:Program) (t e:TypeId) (size bytes:Nat) (z:Value):Prop where
 jq:P.underlying t=some (.slice e)
 ji:∃i,P.info? e=some i∧i.zero=some z∧i.size=size∧i.bytes=bytes
 kj:z.cells.size=size
 jP:0<size
theorem CO.mk'{P:Program}(a:P.underlying t=some (.slice e))
 (b:(P.info? e).map (fun i=>(i.zero,i.size,i.bytes))=some (some z,size,bytes))(c:z.cells.size=size)(d:0<size):CO P t e size bytes z:=by
 obtain⟨i,h1,f,g,h⟩:=info_parts b
 exact⟨a,⟨i,h1,f,g,h⟩,c,d⟩
theorem Cells.Fm{w:World}(h:Cells w b off xs)(J:w'.heap[b]? =w.heap[b]?):Cells w' b off xs:=
 fun j v hj=>(World.cell?_of_block (a:=⟨b,off+j,none⟩) J).trans (h j v hj)
theorem Cells.drop{w:World}(h:Cells w b off xs)(k:Nat):Cells w b (off+k) (xs.drop k):=by
 intro j v hj
 rw[List.getElem?_drop]at hj
 have:=h (k+j) v hj
 rwa[←Nat.add_assoc]at this
theorem View.nil(w:World)(size:Nat):View w (.slice none 0 0) 0 size []:=⟨by simp,.inl ⟨D,D,D⟩⟩
theorem View.lt{w:World}(h:View w v n size xs):∀k,v.ownBlock=some k→k<w.heap.size:=by
 intro k a
 rcases h.2 with⟨rfl,_⟩|⟨b,off,cap,rfl,_,_,_,J,_⟩
 ·simp[Value.ownBlock]at a
 ·simp[Value.ownBlock]at a;omega
theorem View.Fm{w:World}(h:View w v n size xs)(e:w.heap.size≤w'.heap.size)
 (J:∀k,v.ownBlock=some k→w'.heap[k]? =w.heap[k]?):View w' v n size xs:=by
 refine⟨h.1,?_⟩
 rcases h.2 with h1|⟨b,off,cap,rfl,h1,a,c,f,d⟩
 ·exact .inl h1
 ·exact .inr ⟨b,off,cap,D,h1,a,c,by omega,d.Fm (J b (by simp[Value.ownBlock]))⟩
theorem View.alloc{w:World}(h:View w v n size xs)(o:Obj):View (w.alloc o) v n size xs:=
 h.Fm (by simp) (fun k a=>Below.heap_alloc w o k (h.lt k a))
theorem View.below{w:World}(h:View w v n size xs)(J:Below w.heap.size w w'):View w' v n size xs:=
 h.Fm J.size (fun k a=>J.block k (h.lt k a))
theorem View.grown{w:World}{row:Option Nat}(h:View w v n size xs)(a:w.grownBy w' row)(c:∀k,v.ownBlock=some k→some k≠row):View w' v n size xs:=
 h.Fm a.size (fun k b=>a.block k (h.lt k b) (c k b))
theorem View.drew{w:World}(h:View w v n size xs):View w.drew v n size xs:=h.Fm (Br _) (fun _ _=>rfl)
theorem View.own{w:World}{base:Nat}(h:w.ownsRow base e size v n xs):View w v n size xs:=by
 refine⟨by rw[h.1];exact Br _,?_⟩
 rcases h.2 with⟨rfl,rfl⟩|⟨g,cap,cur,rfl,J,b,a,c,f,i⟩
 ·exact .inl ⟨D,D,List.eq_nil_of_length_eq_zero (by simpa using h.1)⟩
 ·refine .inr ⟨g,0,cap,D,by rw[h.1];exact Nat.mul_le_mul_right _ a,a,c,(Array.getElem?_eq_some_iff.1 b).1,fun j u hu=>?_⟩
  have:=h.cells (g:=g) D j u hu
  have d:(⟨g,0,none⟩:Addr).add j=⟨g,0+j,none⟩:=by unfold Addr.add;split<;>simp_all
  rwa[d]at this
theorem View.lit{w:World}(a:cs.size=n*size)(hm:n≤maxLen):View (w.alloc (.cells cs e)) (.slice (some ⟨w.heap.size,0,none⟩) n n) n size cs.toList:=by
 refine⟨by simp[a],.inr ⟨w.heap.size,0,n,D,by simp[a],Br _,hm,by simp,fun j u hj=>?_⟩⟩
 rw[cell_of_row _ _ _ cs e (0,0) (heap_alloc_new w _)]
 simpa using hj
theorem De{w:World}{base:Nat}(h:w.ownsRow base e 1 v n (bv l)):l.length=n:=by simpa[bv]using h.1
theorem g1{y:Int}(a:0≤y)(h1:y<256):Value.int .u8 y=.int .u8 (UInt8.ofNat y.toNat).toNat:=by
 simp
 omega
theorem View.take{w:World}(h:View w v n size xs):(xs.take (n*size)).length=n*size:=by
 rw[List.length_take];have:=h.1;omega
theorem View.trim{w:World}(h:View w v n size xs):View w v n size (xs.take (n*size)):=by
 refine⟨by rw[h.take];exact Br _,?_⟩
 rcases h.2 with⟨rfl,rfl,rfl⟩|⟨b,off,cap,rfl,f,a,c,d,e⟩
 ·exact .inl ⟨D,D,by simp⟩
 ·refine .inr ⟨b,off,cap,D,by rw[h.take];exact Nat.mul_le_mul_right _ a,a,c,d,fun j v hj=>?_⟩
  rw[List.getElem?_take]at hj
  split at hj
  ·exact e j v hj
  ·cases hj
theorem IM{w:World}{j:Nat}{fr:Nat×Nat}(a:w.heap[b]? =some (.cells cs t fr))(V:cs[j]? =some v):w.cell? ⟨b,j,none⟩=some v:=by
 rw[cell_of_row w b j cs t fr a,V]
theorem eM{w:World}{j:Nat}(a:w.heap[b]? =some (.cells cs t (0,0))):w.frozen? ⟨b,j,none⟩=false:=frozen_of_row w b j cs t a
theorem K'{w:World}{j:Nat}{fr:Nat×Nat}(a:w.heap[b]? =some (.cells cs t fr))(v:Value):(w.setCell ⟨b,j,none⟩ v).heap[b]? =some (.cells (cs.setIfInBounds j v) t fr):=by
 simp[World.setCell,Array.getElem?_modify,a]
theorem Ka(w:World)(b j:Nat)(v:Value):w.grownBy (w.setCell ⟨b,j,none⟩ v) (some b):=
 ⟨D,D,D,by simp,fun k _ a=>Below.heap_setCell _ _ _ _ (by simpa using a)⟩
theorem I2{a b c:World}{row:Option Nat}(h:a.grownBy b row)(k:b.grownBy c row):a.grownBy c row:=
 ⟨k.os.trans h.os,k.tape.trans h.tape,k.output.trans h.output,Eg h.size k.size,fun i e d=>(k.block i (by have:=h.size;omega) d).trans (h.block i e d)⟩
theorem NG(a:World)(row:Option Nat):a.grownBy a row:=⟨D,D,D,Br _,fun _ _ _=>rfl⟩
theorem live{w:World}(J:w.heap[b]? =some (.cells cs t (0,0))):(∀j,w.cell? ⟨b,j,none⟩=cs[j]?)∧(∀j,w.frozen? ⟨b,j,none⟩=false):=
 ⟨fun j=>cell_of_row w b j cs t _ J,fun j=>frozen_of_row w b j cs t J⟩
theorem View.set{w:World}(h:View w v n size xs)(a:∀k,v.ownBlock=some k→k≠b)(j:Nat)(u:Value):View (w.setCell ⟨b,j,none⟩ u) v n size xs:=
 h.grown (Ka w b j u) (fun k c=>by have:=a k c;simpa using this)
theorem View.hd{w:World}(e:View w (.slice y n c) n size xs)(h m:Nat)(a:h≤m)(l:m≤c)(o:h*size≤xs.length):
 View w (.slice y h m) h size (xs.take (m*size)):=by
 have f:h*size≤(xs.take (m*size)).length:=by rw[List.length_take];have:=Nat.mul_le_mul_right size a;omega
 rcases e.2 with⟨he,g,d⟩|⟨b,off,cap,he,g,d,p,i,k⟩
 ·simp only[Value.slice.injEq]at he
  obtain⟨rfl,rfl,rfl⟩:=he
  subst d
  have:m=0:=by omega
  subst this
  have:h=0:=by omega
  subst this
  exact⟨by simp,.inl (by simp)⟩
 ·simp only[Value.slice.injEq]at he
  obtain⟨rfl, -,rfl⟩:=he
  refine⟨f,.inr ⟨b,off,m,D,by rw[List.length_take];omega,a,by omega,i,fun j u hj=>?_⟩⟩
  rw[List.getElem?_take]at hj
  split at hj
  ·exact k j u hj
  ·cases hj
theorem F6(b off j:Nat):(⟨b,off,none⟩:Addr).add j=⟨b,off+j,none⟩:=by unfold Addr.add;split<;>simp_all
def HU(w:World)(v:Value)(n:Nat)(l:List UInt8)(a:Nat):Prop:=View w v n 1 (bv l)∧l.length=n∧∀k,v.ownBlock=some k→a≤k
theorem HU.grown{w:World}{a:Nat}(h:HU w v n l a)(c:w.grownBy w' (some b))(J:b<a):HU w' v n l a:=
 ⟨h.1.grown c (fun k d e=>by have:=h.2.2 k d;simp at e;omega),h.2⟩
theorem HU.below{w:World}{a:Nat}(h:HU w v n l a)(J:Below w.heap.size w w'):HU w' v n l a:=⟨h.1.below J,h.2⟩
theorem HU.own{w:World}(h:w.ownsRow B e 1 v n (bv l)):HU w v n l B:=
 ⟨View.own h,by simpa[bv]using h.1,fun k a=>(h.lt k a).1⟩
theorem HU.low{w:World}{a b:Nat}(h:HU w v n l a)(hl:b≤a):HU w v n l b:=⟨h.1,h.2.1,fun k c=>Eg hl (h.2.2 k c)⟩
theorem HU.nil(w:World)(a:Nat):HU w (.slice none 0 0) 0 [] a:=⟨View.nil w 1,D,by simp[Value.ownBlock]⟩
theorem Bn{w:World}{k:Nat}{o:Obj}(a:w.grownBy w' (some b))(h:w.heap[k]? =some o)(c:k≠b):w'.heap[k]? =some o:=
 (a.block k (Array.getElem?_eq_some_iff.1 h).1 (by simpa using c)).trans h
structure D0 (w w':World) (v BA:Value):Prop where
 Bg:w.grownBy w' v.ownBlock
 at_:∀k,BA.ownBlock=some k→v.ownBlock=some k∨w.heap.size≤k
theorem D0.refl(w:World)(v:Value):D0 w w v v:=⟨⟨D,D,D,Br _,fun _ _ _=>rfl⟩,fun _ h=>.inl h⟩
theorem D0.trans{w b c:World}{v1 v2:Value}(h:D0 w b v v1)(k:D0 b c v1 v2):D0 w c v v2:=by
 have f:=h.Bg.size
 refine⟨⟨k.Bg.os.trans h.Bg.os,k.Bg.tape.trans h.Bg.tape,k.Bg.output.trans h.Bg.output,Eg h.Bg.size k.Bg.size,fun i a d=>?_⟩,fun i a=>?_⟩
 ·refine(k.Bg.block i (by omega) (fun e=>?_)).trans (h.Bg.block i a d)
  rcases h.at_ i e.symm with q|q
  ·exact d q.symm
  ·omega
 ·rcases k.at_ i a with q|q
  ·exact h.at_ i q
  ·exact .inr (by omega)
theorem D0.alloc{w:World}{BA:Value}{o:Obj}(h:D0 (w.alloc o) w' v BA):D0 w w' v BA:=by
 have b:=h.Bg.size
 simp at b
 refine⟨⟨h.Bg.os,h.Bg.tape,h.Bg.output,by omega,fun i a c=>(h.Bg.block i (by simp;omega) c).trans (Below.heap_alloc w o i a)⟩,fun i a=>?_⟩
 rcases h.at_ i a with q|q
 ·exact .inl q
 ·simp at q
  exact .inr (by omega)
theorem D0.below{w:World}{BA:Value}(h:D0 w w' v BA)(a:B≤w.heap.size)(V:∀k,v.ownBlock=some k→B≤k):Below B w w':=
 (Cn B w).grown h.Bg a V
theorem e0{w:World}{k:Nat}{p:Option Addr}(ho:w.ownsRow B e size (.slice p k c) n xs):n=k∧n≤c:=by
 rcases ho.2 with⟨h1,a⟩|⟨g,cap,cur,h1,a,b,d,_⟩
 ·simp at h1;omega
 ·simp at h1;omega
theorem D0.DB{w:World}{BA:Value}(a:D0 w w' v BA)(ho:w.ownsRow B e size v n xs){k:Nat}(b:k<B){o:Obj}(h:w.heap[k]? =some o):w'.heap[k]? =some o:=
 (a.Bg.block k (Array.getElem?_eq_some_iff.1 h).1 (fun q=>by have:=(ho.lt k q.symm).1;omega)).trans h
theorem Ew{w:World}{a:Nat}(h:w.ownsRow B e size v n xs)(b:a≤B):w.ownsRow a e size v n xs:=by
 refine⟨h.1,?_⟩
 rcases h.2 with q|⟨g,cap,cur,c,d,f⟩
 ·exact .inl q
 ·exact .inr ⟨g,cap,cur,c,Eg b d,f⟩
theorem YN{w:World}(h:w.ownsRow B e size v n xs)(J:Below w.heap.size w w'):w'.ownsRow B e size v n xs:=
 h.kept (row:=none) ⟨J.os,J.tape,J.output,J.size,fun k a _=>J.block k a⟩ (by cases v.ownBlock<;>simp)
theorem VZ{P:Program}(w:World){ty:TypeId}(b:CO P t e size bytes z)(base:Nat)
 (v:Value)(n:Nat)(xs:List Value)(h:w.ownsRow base e size v n xs)
 (a:Addr)(m c:Nat)(news:List Value)(hl:news.length=m*size)(l:∀j u,news[j]? =some u→w.cell? (a.add j)=some u)(h1:∀u∈news,u.oneCell'=true)
 (s:n+m≤maxLen)(p:(n+m)*bytes≤140737488355328)(y:base≤w.heap.size):
 ∃BA w',(Builtin.append_ #[t,t] ty #[v,.slice (some a) m c]).run P w=.ok BA w'∧w'.ownsRow base e size BA (n+m) (xs++news)∧D0 w w' v BA:=by
 obtain⟨i,d,q,rfl,rfl⟩:=b.ji
 obtain⟨BA,w',hr,ho,A,B⟩:=run_append_own (P:=P) w base t ty e i z i.size i.bytes b.jq d q D D b.kj b.jP v n xs h a m c news hl l h1 s p y
 refine⟨BA,w',hr,ho,A,fun k o=>?_⟩
 have I:n+m≤9223372036854775807:=by simp only[maxLen]at s;omega
 rcases h.2 with⟨rfl,rfl⟩|⟨g,cap,cur,rfl,K,C,L,M,E,N⟩
 ·by_cases hm:m=0
  ·have:=B.2 ⟨D,hm⟩
   subst this
   simp[Value.ownBlock]at o
  ·have f:=run_append_nil (P:=P) w t ty e i z b.jq d q a m c news hl l (by omega) (by omega) (by have J:=p;simp only[Nat.zero_add]at J;omega)
   rw[f]at hr
   obtain⟨rfl,rfl⟩:=(by simpa using hr:_∧_)
   simp[Value.ownBlock]at o
   exact .inr (by omega)
 ·by_cases x:n+m≤cap
  ·have F:n*i.size+news.length≤cur.size:=by rw[hl,E,←Nat.add_mul];exact Nat.mul_le_mul_right _ x
   have f:=run_append_room (P:=P) w t ty e i b.jq d g n cap cur C a m c news hl l h1 x F
   rw[f]at hr
   obtain⟨rfl,rfl⟩:=(by simpa using hr:_∧_)
   exact .inl (by simpa[Value.ownBlock]using o)
  ·have holds:∀j u,xs[j]? =some u→w.cell? ((⟨g,0,none⟩:Addr).add j)=some u:=h.cells (g:=g) D
   have f:=run_append_grow (P:=P) w t ty e i z b.jq d q ⟨g,0,none⟩ n cap xs h.1 holds a m c news hl l (by omega) (by omega) (growslice_fits (by omega) p)
   rw[f]at hr
   obtain⟨rfl,rfl⟩:=(by simpa using hr:_∧_)
   simp[Value.ownBlock]at o
   exact .inr (by omega)
structure Stop (p:Prop):Prop where
 out:p
theorem Cells.alloc{w:World}(h:Cells w b off xs)(J:b<w.heap.size)(o:Obj):Cells (w.alloc o) b off xs:=h.Fm (Below.heap_alloc w o b J)
theorem Cells.below{w:World}(h:Cells w b off xs)(J:b<B)(hw:Below B w w'):Cells w' b off xs:=h.Fm (hw.block b J)
section
variable {P:Program} {w:World} {ops:Array Oper} {rest:List Oper} {o:Oper} {a:Act} {Aa:Exit→Act→World→Prop} {d:Option Tmp} {ty:TypeId} {pos:String} {An:Array Edge}
theorem Yv{xs:Array Operand}{ts:Array TypeId}(s:Stop (wpList P ops Aa (⟨d,.call ⟨.builtin .append,xs,ts⟩,ty,pos,An,none⟩::rest) a w)):wpList P ops Aa (⟨d,.call ⟨.builtin .append,xs,ts⟩,ty,pos,An,none⟩::rest) a w:=s.out
theorem GQ{l h m:Option Operand}(s:Stop (wpList P ops Aa (⟨d,.slice t x l h m,ty,pos,An,none⟩::rest) a w)):wpList P ops Aa (⟨d,.slice t x l h m,ty,pos,An,none⟩::rest) a w:=s.out
theorem HD(t:TypeId){i:Operand}(s:Stop (wpList P ops Aa (⟨d,.indexAddr t x i,ty,pos,An,none⟩::rest) a w)):wpList P ops Aa (⟨d,.indexAddr t x i,ty,pos,An,none⟩::rest) a w:=s.out
theorem bM(t:TypeId)(s:Stop (wpList P ops Aa (⟨d,.convert t u x,ty,pos,An,none⟩::rest) a w)):wpList P ops Aa (⟨d,.convert t u x,ty,pos,An,none⟩::rest) a w:=s.out
theorem Ys(t:TypeId)(s:Stop (wpList P ops Aa (⟨d,.load t x,ty,pos,An,none⟩::rest) a w)):wpList P ops Aa (⟨d,.load t x,ty,pos,An,none⟩::rest) a w:=s.out
theorem HV(t:TypeId){y:Operand}(s:Stop (wpList P ops Aa (⟨d,.store t x y,ty,pos,An,none⟩::rest) a w)):wpList P ops Aa (⟨d,.store t x y,ty,pos,An,none⟩::rest) a w:=s.out
theorem OP(t:TypeId)(s:Stop (wpList P ops Aa (⟨d,.box t x,ty,pos,An,none⟩::rest) a w)):wpList P ops Aa (⟨d,.box t x,ty,pos,An,none⟩::rest) a w:=s.out
theorem LX(t:TypeId)(s:Stop (wpList P ops Aa (⟨d,.alloc t,ty,pos,An,none⟩::rest) a w)):wpList P ops Aa (⟨d,.alloc t,ty,pos,An,none⟩::rest) a w:=s.out
theorem FM(t:TypeId){b:BinOp}{y:Operand}(s:Stop (wpList P ops Aa (⟨d,.binOp b t x y u,ty,pos,An,none⟩::rest) a w)):wpList P ops Aa (⟨d,.binOp b t x y u,ty,pos,An,none⟩::rest) a w:=s.out
theorem RM(t:TypeId){b:UnOp}(s:Stop (wpList P ops Aa (⟨d,.unOp b t x,ty,pos,An,none⟩::rest) a w)):wpList P ops Aa (⟨d,.unOp b t x,ty,pos,An,none⟩::rest) a w:=s.out
theorem df{l h m:Option Operand}(s:Stop (wpList P ops Aa (⟨d,.slice t x l h m,ty,pos,An,g⟩::rest) a w)):wpList P ops Aa (⟨d,.slice t x l h m,ty,pos,An,g⟩::rest) a w:=s.out
theorem Ki(t:TypeId){i:Operand}(s:Stop (wpList P ops Aa (⟨d,.indexAddr t x i,ty,pos,An,g⟩::rest) a w)):wpList P ops Aa (⟨d,.indexAddr t x i,ty,pos,An,g⟩::rest) a w:=s.out
theorem cr(t:TypeId)(s:Stop (wpList P ops Aa (⟨d,.load t x,ty,pos,An,g⟩::rest) a w)):wpList P ops Aa (⟨d,.load t x,ty,pos,An,g⟩::rest) a w:=s.out
theorem KI(t:TypeId){b:BinOp}{y:Operand}(s:Stop (wpList P ops Aa (⟨d,.binOp b t x y u,ty,pos,An,g⟩::rest) a w)):wpList P ops Aa (⟨d,.binOp b t x y u,ty,pos,An,g⟩::rest) a w:=s.out
theorem Mt(b:BinOp){y:Operand}(s:Stop (wpList P ops Aa (⟨d,.binOp b t x y u,ty,pos,An,g⟩::rest) a w)):wpList P ops Aa (⟨d,.binOp b t x y u,ty,pos,An,g⟩::rest) a w:=s.out
theorem aY{y z:Operand}(s:Stop (wpList P ops Aa (⟨d,.mapUpdate t x y z,ty,pos,An,none⟩::rest) a w)):wpList P ops Aa (⟨d,.mapUpdate t x y z,ty,pos,An,none⟩::rest) a w:=s.out
theorem gy{y:Operand}{b:Bool}(s:Stop (wpList P ops Aa (⟨d,.lookup t x y b,ty,pos,An,none⟩::rest) a w)):wpList P ops Aa (⟨d,.lookup t x y b,ty,pos,An,none⟩::rest) a w:=s.out
theorem eH(t:TypeId){y:Operand}(s:Stop (wpList P ops Aa (⟨d,.index t x y,ty,pos,An,none⟩::rest) a w)):wpList P ops Aa (⟨d,.index t x y,ty,pos,An,none⟩::rest) a w:=s.out
theorem V2(t:TypeId){b:Array (Nat×Operand)}(s:Stop (wpList P ops Aa (⟨d,.buildSlice t n b,ty,pos,An,none⟩::rest) a w)):wpList P ops Aa (⟨d,.buildSlice t n b,ty,pos,An,none⟩::rest) a w:=s.out
theorem C_{f:FuncId}{args:Array Value}{R:Ending→World→Prop}(s:Stop (Calls P f args w R)):Calls P f args w R:=s.out
end
section
variable {P:Program} {w:World} {ops:Array Oper} {rest:List Oper} {o:Oper} {a:Act} {Aa:Exit→Act→World→Prop}
theorem val(hw:Region.wanted o (yielded ops a.tmps)=true)(hr:(execOp a.eval o).run P w=.ok (.value v) w')(h:wpList P ops Aa rest (a.put o.dst v) w'):wpList P ops Aa (o::rest) a w:=by
 unfold wpList
 rw[if_pos hw]
 left
 unfold Oper.wp
 rw[hr]
 exact h
theorem TC(hw:Region.wanted o (yielded ops a.tmps)=true)(T:TypeId)(x:Operand)(ho:o.op=.load T x)(c:a.eval x=.pointer (some ⟨b,off,none⟩))(xs:List Value)(e:Cells w b off xs)
 {d:TypeDesc}(hu:P.underlying T=some d)(Ad:d.isRow=true)(f:(P.info? T).map (·.size)=some xs.length)
 (h:wpList P ops Aa rest (a.put o.dst (.agg xs.toArray)) w):wpList P ops Aa (o::rest) a w:=by
 refine val hw (v:=.agg xs.toArray) (w':=w) ?_ h
 unfold execOp
 simp only[ho,c]
 have hr:=run_loadAt_mid (P:=P) w b off T xs d e hu Ad f
 simp[hr]
theorem Wr(hw:Region.wanted o (yielded ops a.tmps)=true)(hr:(execOp a.eval o).run P w=.ok .skip w')(h:wpList P ops Aa rest (a.put o.dst undef) w'):wpList P ops Aa (o::rest) a w:=by
 unfold wpList
 rw[if_pos hw]
 left
 unfold Oper.wp
 rw[hr]
 exact h
theorem Ob(hw:Region.wanted o (yielded ops a.tmps)=true)(T:TypeId)(x:Operand)(ho:o.op=.box T x)(b:a.eval x=v)
 (h:∀W,W.heap.size=w.heap.size+1→W.heap[w.heap.size]? =some (.cells v.cells T (0,0))→Below w.heap.size w W→wpList P ops Aa rest (a.put o.dst (.pointer (some ⟨w.heap.size,0,none⟩))) W):wpList P ops Aa (o::rest) a w:=by
 refine val hw (v:=.pointer (some ⟨w.heap.size,0,none⟩)) (w':=w.alloc (.cells v.cells T)) ?_ (h _ (by simp) (heap_alloc_new w _) ((Cn _ _).alloc (Br _) _))
 unfold execOp
 simp only[ho,b]
 simp[go_sem]
theorem KE(hw:Region.wanted o (yielded ops a.tmps)=true)(T:TypeId)(ho:o.op=.alloc T)(b:(P.info? T).map (·.zero)=some (some z))
 (h:∀W,W.heap.size=w.heap.size+1→W.heap[w.heap.size]? =some (.cells z.cells T (0,0))→Below w.heap.size w W→wpList P ops Aa rest (a.put o.dst (.pointer (some ⟨w.heap.size,0,none⟩))) W):wpList P ops Aa (o::rest) a w:=by
 refine val hw (v:=.pointer (some ⟨w.heap.size,0,none⟩)) (w':=w.alloc (.cells z.cells T)) ?_ (h _ (by simp) (heap_alloc_new w _) ((Cn _ _).alloc (Br _) _))
 unfold execOp
 simp only[ho]
 cases c:P.info? T with
 |none=>simp[c]at b
 |some i=>
  simp[c]at b
  simp[Instr.alloc,zeroValue,typeInfo,c,b,newVar,newRow,newObj]
  rfl
theorem Kn(hw:Region.wanted o (yielded ops a.tmps)=true)(T:TypeId)(x y:Operand)(ho:o.op=.store T x y){c c':Array Value}(d:a.eval x=.pointer (some ⟨b,0,none⟩))(J:w.heap[b]? =some (.cells c T (0,0)))(f:a.eval y=.agg c')
 (g:(P.info? T).map (·.size)=some c'.size)(i:c.size=c'.size)(h1:c'.all (·.oneCell')=true)
 (h:∀W,W.heap.size=w.heap.size→W.heap[b]? =some (.cells c' T (0,0))→w.grownBy W (some b)→wpList P ops Aa rest (a.put o.dst undef) W):wpList P ops Aa (o::rest) a w:=by
 refine Wr hw (w':=w.setRow b c') ?_ (h _ (by simp) (setRow_heap w b c c' T _ J) ⟨D,D,D,by simp,fun k _ j=>setRow_other w b k c' (fun e=>j (by rw[e]))⟩)
 unfold execOp
 simp only[ho,d,f]
 simp[Instr.storeAt,Instr.sureAddr,run_storeVar_row w b T T c c' J g i h1]
theorem PS(hw:Region.wanted o (yielded ops a.tmps)=true)(T:TypeId)(x y:Operand)(ho:o.op=.store T x y){c:Array Value}{tb:TypeId}(f:a.eval x=.pointer (some ⟨b,off,none⟩))(J:w.heap[b]? =some (.cells c tb (0,0)))
 (g:a.eval y=v)(V:v.oneCell'=true)(d:(P.info? T).map (·.size)=some 1)(j:off<c.size)
 (h:∀W,W.heap.size=w.heap.size→W.heap[b]? =some (.cells (c.setIfInBounds off v) tb (0,0))→w.grownBy W (some b)→wpList P ops Aa rest (a.put o.dst undef) W):wpList P ops Aa (o::rest) a w:=by
 refine Wr hw (w':=w.setCell ⟨b,off,none⟩ v) ?_ (h _ (by simp) (K' J v) (Ka w b off v))
 unfold execOp
 simp only[ho,f,g]
 have k:v.cells=#[v]:=by cases v<;>simp_all [Value.oneCell',Value.cells]
 have l:w.cell? ⟨b,off,none⟩=some c[off]:=by rw[cell_of_row w b off c tb _ J];simp[j]
 have m:w.frozen? ⟨b,off,none⟩=false:=frozen_of_row w b off c tb J
 cases e:P.info? T with
 |none=>simp[e]at d
 |some i=>
  simp[e]at d
  simp[Instr.storeAt,Instr.sureAddr,storeVar,k,sizeOf,typeInfo,e,d,storeCells,run_store _ _ _ _ _ V,l,m,F6]
theorem app(f:CO P t e size bytes z)(hw:Region.wanted o (yielded ops a.tmps)=true)(s x:Operand)
 (ho:o.op=.call {callee:=.builtin .append,args:=#[s,x],argTypes:=#[t,t]})
 (base:Nat){y:Value}{m:Nat}{CP:List Value}(l:a.eval s=v)(r:a.eval x=y)
 (d:w.ownsRow base e size v n xs)(A:View w y m size CP)(h1:∀u∈CP,u.oneCell'=true)
 (F:n+m≤maxLen)(G:(n+m)*bytes≤140737488355328)(H:base≤w.heap.size)
 (h:∀p c w',w'.ownsRow base e size (.slice p (n+m) c) (n+m) (xs++CP.take (m*size))→D0 w w' v (.slice p (n+m) c)→wpList P ops Aa rest (a.put o.dst (.slice p (n+m) c)) w'):wpList P ops Aa (o::rest) a w:=by
 obtain⟨i,B,K,L,M⟩:=f.ji
 have form:∀w' BA k C,World.ownsRow w' base e size BA k C→∃p c,BA=.slice p k c:=by
  intro w' BA k C q
  rcases q.2 with⟨rfl,rfl⟩|⟨g,cap,cur,rfl,_⟩<;>exact⟨_,_,D⟩
 rcases A.2 with⟨rfl,rfl,rfl⟩|⟨b,off,cap,rfl,N,O,Q,R,I⟩
 ·obtain⟨p,c,rfl⟩:=form w v n xs d
  refine val hw (v:=.slice p n c) (w':=w) ?_ (h p c w (by simpa using d) (D0.refl _ _))
  have hr:=run_append_owned_none (P:=P) (w:=w) base t o.type e i size f.jq B (.slice p n c) n xs d
  unfold execOp
  simp only[ho,resolve,invoke,builtin,Sem.run_bind,Sem.run_pure,Result.andThen_ok,List.map_toArray,List.map_cons,List.map_nil,l,r,hr]
 ·obtain⟨BA,w',hr,E,J⟩:=VZ (P:=P) (ty:=o.type) w f base v n xs d ⟨b,off,none⟩ m cap (CP.take (m*size)) A.take (fun j u hj=>by
   rw[List.getElem?_take]at hj
   split at hj
   ·rw[F6];exact I j u hj
   ·cases hj) (fun u hu=>h1 u (List.mem_of_mem_take hu)) F G H
  obtain⟨p,c,rfl⟩:=form w' BA _ _ E
  refine val hw (v:=.slice p (n+m) c) (w':=w') ?_ (h p c w' E J)
  unfold execOp
  simp only[ho,resolve,invoke,builtin,Sem.run_bind,Sem.run_pure,Result.andThen_ok,List.map_toArray,List.map_cons,List.map_nil,l,r,hr]
theorem VK(b:CO P t e 1 1 z)(hw:Region.wanted o (yielded ops a.tmps)=true)(s x:Operand)
 (ho:o.op=.call {callee:=.builtin .append,args:=#[s,x],argTypes:=#[t,t]})
 (base:Nat){y:Value}{m:Nat}{xs CP:List UInt8}(d:a.eval s=v)(f:a.eval x=y)
 (g:w.ownsRow base e 1 v n (bv xs))(i:View w y m 1 (bv CP))(j:base≤w.heap.size)
 (k:Nat)(l:n+m=k)(u:k≤140737488355328)(zs:List UInt8)(q:xs++CP.take m=zs)
 (h:∀p c w',w'.ownsRow base e 1 (.slice p k c) k (bv zs)→D0 w w' v (.slice p k c)→wpList P ops Aa rest (a.put o.dst (.slice p k c)) w'):wpList P ops Aa (o::rest) a w:=by
 subst l
 subst q
 refine app b hw s x ho base d f g i (Eo CP) (by simp[maxLen];omega) (by omega) j ?_
 intro p c w' h1 r
 refine h p c w' ?_ r
 simpa[Mu,Ip]using h1
theorem XN(i:View w (.slice y n c) n size xs)(l h m:Nat)(h1:l≤h)(o:h≤m)(r:m≤c)(s:h*size≤xs.length)(t:0<size):
 View w (sliced y l h m size) (h - l) size ((xs.drop (l*size)).take ((m - l)*size))∧(∀k,(sliced y l h m size).ownBlock=some k→(Value.slice y n c).ownBlock=some k):=by
 unfold sliced
 rcases i.2 with⟨he,p,d⟩|⟨b,off,cap,he,p,d,u,e,q⟩
 ·simp only[Value.slice.injEq]at he
  obtain⟨rfl,rfl,rfl⟩:=he
  subst d
  have:m=0:=by omega
  subst this
  have:h=0:=by omega
  subst this
  have:l=0:=by omega
  subst this
  exact⟨⟨by simp,.inl (by simp)⟩,by simp[Value.ownBlock]⟩
 ·simp only[Value.slice.injEq]at he
  obtain⟨rfl, -,rfl⟩:=he
  have hlen:((xs.drop (l*size)).take ((m - l)*size)).length≤(m - l)*size:=by rw[List.length_take];omega
  have f:(h - l)*size≤((xs.drop (l*size)).take ((m - l)*size)).length:=by
   rw[List.length_take,List.length_drop,Nat.mul_sub_right_distrib,Nat.mul_sub_right_distrib]
   have:=Nat.mul_le_mul_right size o
   omega
  by_cases g:m=l
  ·subst g
   simp only[if_true]
   refine⟨⟨f,.inr ⟨b,off,m - m,D,hlen,by omega,by omega,e,?_⟩⟩,fun k a=>by simpa[Value.ownBlock]using a⟩
   intro j v hj
   simp at hj
  ·rw[if_neg g]
   simp only[Option.map_some,F6]
   refine⟨⟨f,.inr ⟨b,off+l*size,m - l,D,hlen,by omega,by omega,e,?_⟩⟩,fun k a=>by simpa[Value.ownBlock]using a⟩
   intro j v hj
   rw[List.getElem?_take]at hj
   split at hj
   ·exact q.drop (l*size) j v hj
   ·cases hj
theorem i_(y:Option Addr)(l h m s:Nat):∃p,sliced y l h m s=.slice p (h - l) (m - l):=⟨_,D⟩
theorem VF(b:CO P t e size bytes z)(hw:Region.wanted o (yielded ops a.tmps)=true)(x:Operand)(f d g:Option Operand)
 (ho:o.op=.slice t x f d g)(s:a.eval x=.slice y n c)(u:View w (.slice y n c) n size xs)
 (l h m:Nat)(J:(Instr.sliceBounds true n c (f.map a.eval) (d.map a.eval) (g.map a.eval)).run P w=.ok (l,h,m) w)
 (h1:l≤h)(A:h≤m)(B:m≤c)(hl:h*size≤xs.length)
 (C:∀p,View w (.slice p (h - l) (m - l)) (h - l) size ((xs.drop (l*size)).take ((m - l)*size))→(∀k,(Value.slice p (h - l) (m - l)).ownBlock=some k→(Value.slice y n c).ownBlock=some k)→
   wpList P ops Aa rest (a.put o.dst (.slice p (h - l) (m - l))) w):wpList P ops Aa (o::rest) a w:=by
 obtain⟨i,D,F,E,G⟩:=b.ji
 obtain⟨j,q⟩:=XN u l h m h1 A B hl b.jP
 obtain⟨p,r⟩:=i_ y l h m size
 rw[r]at j q
 refine val hw (v:=.slice p (h - l) (m - l)) (w':=w) ?_ (C p j q)
 rw[←r]
 unfold execOp
 simp only[ho,s]
 simp[Instr.sliceAt,Instr.slice,run_underlying b.jq,J,sizeOf,typeInfo,D,E,sliced]
theorem gv(d:CO P t e size bytes z)(hw:Region.wanted o (yielded ops a.tmps)=true)(x:Operand)(b f:Option Operand)
 (ho:o.op=.slice t x none b f)(g:a.eval x=.slice y n c)
 (h m:Nat)(J:(Instr.sliceBounds true n c none (b.map a.eval) (f.map a.eval)).run P w=.ok (0,h,m) w)
 (j:wpList P ops Aa rest (a.put o.dst (.slice y h m)) w):wpList P ops Aa (o::rest) a w:=by
 obtain⟨i,k,p,l,r⟩:=d.ji
 refine val hw (v:=.slice y h m) (w':=w) ?_ j
 unfold execOp
 simp only[ho,g]
 have:Option.map (fun q:Addr=>q.add 0) y=y:=by cases y<;>simp[Addr.add]
 simp[Instr.sliceAt,Instr.slice,run_underlying d.jq,J,sizeOf,typeInfo,k,l,this]
theorem Ue(k:IntKind)(n c h:Nat)(a:h≤c):(Instr.sliceBounds true n c none (some (.int k h)) none).run P w=.ok (0,h,c) w:=by
 simp[Instr.sliceBounds,run_sliceBound,a]
theorem W'(k:IntKind)(n c l:Nat)(hl:l≤n):(Instr.sliceBounds true n c (some (.int k l)) none none).run P w=.ok (l,n,c) w:=by
 simp[Instr.sliceBounds,run_sliceBound,hl]
theorem XW(k k':IntKind)(n c l h:Nat)(hl:l≤h)(a:h≤c):(Instr.sliceBounds true n c (some (.int k l)) (some (.int k' h)) none).run P w=.ok (l,h,c) w:=by
 simp[Instr.sliceBounds,run_sliceBound,hl,a]
theorem IB(d:CO P t e size bytes z)(hw:Region.wanted o (yielded ops a.tmps)=true)(x b:Operand)
 (ho:o.op=.slice t x none (some b) none)(f:a.eval x=.slice y n c)
  (h:Nat)(g:a.eval b=.int k h)(i:h≤c)
 (j:wpList P ops Aa rest (a.put o.dst (.slice y h c)) w):wpList P ops Aa (o::rest) a w:=
 gv d hw x (some b) none ho f h c (by simp only[Option.map_some,g,Option.map_none];exact Ue k n c h i) j
theorem TQ(j:CO P t e size bytes z)(hw:Region.wanted o (yielded ops a.tmps)=true)(x d:Operand)
 (ho:o.op=.slice t x (some d) none none)(m:a.eval x=.slice y n c)(f:View w (.slice y n c) n size xs)
  (l:Nat)(hl:a.eval d=.int k l)(h:l≤n)
 (q:∀p,View w (.slice p (n - l) (c - l)) (n - l) size (xs.drop (l*size))→(∀k,(Value.slice p (n - l) (c - l)).ownBlock=some k→(Value.slice y n c).ownBlock=some k)→
   wpList P ops Aa rest (a.put o.dst (.slice p (n - l) (c - l))) w):wpList P ops Aa (o::rest) a w:=by
 have r:n≤c∧xs.length≤c*size:=by
  rcases f.2 with⟨he,i,g⟩|⟨b,off,cap,he,i,g,_⟩
  ·simp only[Value.slice.injEq]at he
   obtain⟨rfl,rfl,rfl⟩:=he
   simp[g]
  ·simp only[Value.slice.injEq]at he
   obtain⟨rfl, -,rfl⟩:=he
   exact⟨g,i⟩
 refine VF j hw x (some d) none none ho m f l n c (by simp only[Option.map_some,hl,Option.map_none];exact W' k n c l h) h r.1 (Br _) f.1 ?_
 intro p h1 s
 refine q p ?_ s
 rwa[List.take_of_length_le (by rw[List.length_drop,Nat.mul_sub_right_distrib];omega)]at h1
theorem SY(j:CO P t e size bytes z)(hw:Region.wanted o (yielded ops a.tmps)=true)(x d f:Operand)
 (ho:o.op=.slice t x (some d) (some f) none)(A:a.eval x=.slice y n c)(m:View w (.slice y n c) n size xs)
 {k':IntKind}(l h:Nat)(hl:a.eval d=.int k l)(B:a.eval f=.int k' h)(q:l≤h)(g:h*size≤xs.length)
 (C:∀p,View w (.slice p (h - l) (c - l)) (h - l) size (xs.drop (l*size))→(∀k,(Value.slice p (h - l) (c - l)).ownBlock=some k→(Value.slice y n c).ownBlock=some k)→
   wpList P ops Aa rest (a.put o.dst (.slice p (h - l) (c - l))) w):wpList P ops Aa (o::rest) a w:=by
 have r:=j.jP
 have s:h≤c∧xs.length≤c*size:=by
  rcases m.2 with⟨he,i,u⟩|⟨b,off,cap,he,i,u,_⟩
  ·simp only[Value.slice.injEq]at he
   obtain⟨rfl,rfl,rfl⟩:=he
   subst u
   refine⟨?_,by simp⟩
   rcases Nat.eq_zero_or_pos h with v|v
   ·omega
   ·have:=Nat.mul_pos v r;simp at g;omega
  ·simp only[Value.slice.injEq]at he
   obtain⟨rfl, -,rfl⟩:=he
   exact⟨Nat.le_of_mul_le_mul_right (Eg g i) r,i⟩
 refine VF j hw x (some d) (some f) none ho A m l h c (by simp only[Option.map_some,hl,B,Option.map_none];exact XW k k' n c l h q s.1) q s.1 (Br _) g ?_
 intro p h1 D
 refine C p ?_ D
 rwa[List.take_of_length_le (by rw[List.length_drop,Nat.mul_sub_right_distrib];omega)]at h1
theorem idx(d:CO P t e size bytes z)(hw:Region.wanted o (yielded ops a.tmps)=true)(x BI:Operand)
 (ho:o.op=.indexAddr t x BI)(g:a.eval x=.slice y n c)(h:View w (.slice y n c) n size xs)
  {i:Int}(f:a.eval BI=.int k i)(j:Nat)(hj:i=j)(l:j<n)
 (m:∀b off,Cells w b off ((xs.drop (j*size)).take size)→(Value.slice y n c).ownBlock=some b→wpList P ops Aa rest (a.put o.dst (.pointer (some ⟨b,off,none⟩))) w):wpList P ops Aa (o::rest) a w:=by
 obtain⟨q,p,C,s,D⟩:=d.ji
 rcases h.2 with⟨he,u,A⟩|⟨b,off,cap,he,u,A,E,F,B⟩
 ·omega
 ·simp only[Value.slice.injEq]at he
  obtain⟨rfl,_,rfl⟩:=he
  subst hj
  refine val hw (v:=.pointer (some ⟨b,off+j*size,none⟩)) (w':=w) ?_ (m b (off+j*size) ?_ (by simp[Value.ownBlock]))
  ·unfold execOp
   simp only[ho,g,f]
   simp[Instr.indexAt,run_underlying d.jq,asIntOf,sizeOf,typeInfo,p,s,l,F6]
  ·intro r v hr
   rw[List.getElem?_take]at hr
   split at hr
   ·exact B.drop (j*size) r v hr
   ·cases hr
theorem str{d:TypeId}(g:CO P t e 1 1 z)(he:P.underlying e=some (.int .u8))(Ad:P.underlying d=some .string)(hw:Region.wanted o (yielded ops a.tmps)=true)(x:Operand)
 (ho:o.op=.convert t d x)(j:a.eval x=.slice y n c)(h:View w (.slice y n c) n 1 (bv l))
 (k:wpList P ops Aa rest (a.put o.dst (.string ⟨(l.take n).toArray⟩)) w):wpList P ops Aa (o::rest) a w:=by
 refine val hw (v:=.string ⟨(l.take n).toArray⟩) (w':=w) ?_ k
 have hr:(convert t d (.slice y n c)).run P w=.ok (.string ⟨(l.take n).toArray⟩) w:=by
  rcases h.2 with⟨f,m,p⟩|⟨b,off,cap,f,m,p,A,B,q⟩
  ·simp only[Value.slice.injEq]at f
   obtain⟨rfl,rfl,rfl⟩:=f
   rw[run_convert_bytes_nil w t e g.jq he 0 0 d Ad]
   rfl
  ·simp only[Value.slice.injEq]at f
   obtain⟨rfl, -,rfl⟩:=f
   have s:=h.1
   simp only[bv,List.length_map,Nat.mul_one]at s
   rw[run_convert_bytes_arg w t e g.jq he b off n c ((l.take n).map fun b=>(b.toNat:Int)) (by simp;omega) ?_ d Ad]
   ·simp only[strOfNums,List.map_map]
    congr 3
    rw[show((fun n:Int=>UInt8.ofNat n.toNat)∘fun b:UInt8=>(b.toNat:Int))=id from funext fun x=>by simp]
    simp
   ·intro i u
    rw[q i (.int .u8 (l[i]'(by omega)).toNat) (by simp[bv,show i<l.length by omega])]
    simp[List.getD,u,show i<l.length by omega]
 unfold execOp
 simp only[ho,j]
 simp[hr]
end
end Go.Proofs.YtaapafoibofbjaaGreatDoor
