/- Laws and walks on the road to SalvagePlays (part M01). No conditions beyond each law's own. -/
import Derived.Test.YtjdboncaegphmaaGreatDoorProg
import Derived.WalkKit
import Derived.WalkSpells
import Derived.WalkLawsBesides
import Derived.BigQuiet
import Derived.Deep.QuietTactic
import Derived.Deep.MidRow
import Derived.Laws.AppendOwnNone
import Derived.Deep.WholeRow
import Derived.Lib.Hide
set_option linter.unusedVariables false
namespace Go.Proofs.YtjdboncaegphmaaGreatDoor
theorem D.{u}{a:Sort u}{b:a}:b=b:=rfl
noncomputable abbrev lp:=Tryz.prog
abbrev rG:=List UInt8
theorem JY{p:Prop}(h:p:=by omega):p:=h
theorem AB{p:Prop}(h:p:=by kernel_rfl):p:=h
theorem JZ{p:Prop}(h:p:=by decide):p:=h
theorem M_:type_of%@Array.getD_eq_getD_getElem?:=@Array.getD_eq_getD_getElem?
theorem SR:type_of%@Array.getElem?_eq_some_iff:=@Array.getElem?_eq_some_iff
theorem bj:type_of%@Array.getElem?_setIfInBounds:=@Array.getElem?_setIfInBounds
theorem lb:type_of%@Array.getElem?_toList:=@Array.getElem?_toList
theorem bg:type_of%@Array.toList_inj:=@Array.toList_inj
theorem PL:type_of%@Array.toList_map:=@Array.toList_map
theorem tX:type_of%@Array.toList_setIfInBounds:=@Array.toList_setIfInBounds
theorem VS:type_of%@Bool.and_assoc:=@Bool.and_assoc
theorem lB:type_of%@Bool.and_eq_false_iff:=@Bool.and_eq_false_iff
theorem Kq:type_of%@Bool.and_eq_true:=@Bool.and_eq_true
theorem tH:type_of%@Bool.and_false:=@Bool.and_false
theorem nR:type_of%@Bool.decide_and:=@Bool.decide_and
theorem gC:type_of%@Bool.eq_false_iff:=@Bool.eq_false_iff
theorem Ln:type_of%@Bool.eq_false_or_eq_true:=@Bool.eq_false_or_eq_true
theorem tp:type_of%@Bool.eq_iff_iff:=@Bool.eq_iff_iff
theorem VG:type_of%@Bool.false_ne_true:=@Bool.false_ne_true
theorem hy:type_of%@Bool.or_eq_true:=@Bool.or_eq_true
theorem ue:type_of%@Int.toNat_natCast:=@Int.toNat_natCast
theorem XF:type_of%@List.all_eq_true:=@List.all_eq_true
theorem pf:type_of%@List.any_eq_true:=@List.any_eq_true
theorem C9:type_of%@List.append_assoc:=@List.append_assoc
theorem Ha:type_of%@List.append_nil:=@List.append_nil
theorem HR:type_of%@List.cons_append:=@List.cons_append
theorem RZ:type_of%@List.drop_append:=@List.drop_append
theorem t_:type_of%@List.drop_append_of_le_length:=@List.drop_append_of_le_length
theorem tB:type_of%@List.drop_drop:=@List.drop_drop
theorem Xy:type_of%@List.drop_eq_getElem_cons:=@List.drop_eq_getElem_cons
theorem kX:type_of%@List.drop_eq_nil_of_le:=@List.drop_eq_nil_of_le
theorem Rx:type_of%@List.drop_nil:=@List.drop_nil
theorem tI:type_of%@List.drop_of_length_le:=@List.drop_of_length_le
theorem RQ:type_of%@List.drop_replicate:=@List.drop_replicate
theorem Rp:type_of%@List.drop_succ_cons:=@List.drop_succ_cons
theorem HE:type_of%@List.drop_zero:=@List.drop_zero
theorem ni:type_of%@List.eq_nil_of_length_eq_zero:=@List.eq_nil_of_length_eq_zero
theorem lu:type_of%@List.eq_of_mem_replicate:=@List.eq_of_mem_replicate
theorem n1:type_of%@List.eq_replicate_iff:=@List.eq_replicate_iff
theorem cI:type_of%@List.ext_getElem:=@List.ext_getElem
theorem Q2:type_of%@List.ext_getElem?:=@List.ext_getElem?
theorem lL:type_of%@List.filter_append:=@List.filter_append
theorem l3:type_of%@List.filter_nil:=@List.filter_nil
theorem af:type_of%@List.find?_cons:=@List.find?_cons
theorem lP:type_of%@List.find?_eq_none:=@List.find?_eq_none
theorem mr:type_of%@List.find?_range_eq_some:=@List.find?_range_eq_some
theorem YK:type_of%@List.flatten_append:=@List.flatten_append
theorem W1:type_of%@List.flatten_cons:=@List.flatten_cons
theorem fH:type_of%@List.flatten_nil:=@List.flatten_nil
theorem lS:type_of%@List.flatten_singleton:=@List.flatten_singleton
theorem Zz:type_of%@List.foldl_append:=@List.foldl_append
theorem j_:type_of%@List.foldl_cons:=@List.foldl_cons
theorem ui:type_of%@List.getD_cons_succ:=@List.getD_cons_succ
theorem Dm:type_of%@List.getD_eq_getElem?_getD:=@List.getD_eq_getElem?_getD
theorem l7:type_of%@List.getElem?_append:=@List.getElem?_append
theorem V5:type_of%@List.getElem?_append_left:=@List.getElem?_append_left
theorem UP:type_of%@List.getElem?_append_right:=@List.getElem?_append_right
theorem lR:type_of%@List.getElem?_concat_length:=@List.getElem?_concat_length
theorem Q1:type_of%@List.getElem?_drop:=@List.getElem?_drop
theorem F3:type_of%@List.getElem?_eq_getElem:=@List.getElem?_eq_getElem
theorem S6:type_of%@List.getElem?_eq_none:=@List.getElem?_eq_none
theorem EH:type_of%@List.getElem?_eq_some_iff:=@List.getElem?_eq_some_iff
theorem ti:type_of%@List.getElem?_map:=@List.getElem?_map
theorem kL:type_of%@List.getElem?_range:=@List.getElem?_range
theorem eg:type_of%@List.getElem?_replicate:=@List.getElem?_replicate
theorem jz:type_of%@List.getElem?_set:=@List.getElem?_set
theorem oM:type_of%@List.getElem?_set_self:=@List.getElem?_set_self
theorem LQ:type_of%@List.getElem?_take:=@List.getElem?_take
theorem mT:type_of%@List.getElem?_toArray:=@List.getElem?_toArray
theorem Mw:type_of%@List.getElem_map:=@List.getElem_map
theorem PV:type_of%@List.getElem_mem:=@List.getElem_mem
theorem cZ:type_of%@List.getElem_range:=@List.getElem_range
theorem kJ:type_of%@List.getElem_set:=@List.getElem_set
theorem To:type_of%@List.head?_drop:=@List.head?_drop
theorem Gd:type_of%@List.length_append:=@List.length_append
theorem Cw:type_of%@List.length_cons:=@List.length_cons
theorem J3:type_of%@List.length_drop:=@List.length_drop
theorem WH:type_of%@List.length_eq_zero_iff:=@List.length_eq_zero_iff
theorem ln:type_of%@List.length_filter_le:=@List.length_filter_le
theorem MU:type_of%@List.length_map:=@List.length_map
theorem RH:type_of%@List.length_nil:=@List.length_nil
theorem Wv:type_of%@List.length_range:=@List.length_range
theorem He:type_of%@List.length_replicate:=@List.length_replicate
theorem Kh:type_of%@List.length_set:=@List.length_set
theorem FX:type_of%@List.length_take:=@List.length_take
theorem l8:type_of%@List.map_append:=@List.map_append
theorem nv:type_of%@List.map_congr_left:=@List.map_congr_left
theorem Zv:type_of%@List.map_cons:=@List.map_cons
theorem o3:type_of%@List.map_inj_left:=@List.map_inj_left
theorem kV:type_of%@List.map_nil:=@List.map_nil
theorem rp:type_of%@List.map_set:=@List.map_set
theorem kz:type_of%@List.map_toArray:=@List.map_toArray
theorem GM:type_of%@List.mem_append:=@List.mem_append
theorem S5:type_of%@List.mem_append_left:=@List.mem_append_left
theorem lU:type_of%@List.mem_append_right:=@List.mem_append_right
theorem tO:type_of%@List.mem_cons:=@List.mem_cons
theorem kf:type_of%@List.mem_filter:=@List.mem_filter
theorem W8:type_of%@List.mem_flatten:=@List.mem_flatten
theorem bI:type_of%@List.mem_map:=@List.mem_map
theorem oo:type_of%@List.mem_of_find?_eq_some:=@List.mem_of_find?_eq_some
theorem ta:type_of%@List.mem_of_getElem?:=@List.mem_of_getElem?
theorem Xs:type_of%@List.mem_of_mem_take:=@List.mem_of_mem_take
theorem QZ:type_of%@List.mem_range:=@List.mem_range
theorem YU:type_of%@List.mem_singleton:=@List.mem_singleton
theorem Hg:type_of%@List.nil_append:=@List.nil_append
theorem n6:type_of%@List.pairwise_iff_getElem:=@List.pairwise_iff_getElem
theorem Qt:type_of%@List.range_succ:=@List.range_succ
theorem nf:type_of%@List.replicate_succ:=@List.replicate_succ
theorem hs:type_of%@List.replicate_succ':=@List.replicate_succ'
theorem nz:type_of%@List.set_append_left:=@List.set_append_left
theorem jC:type_of%@List.set_append_right:=@List.set_append_right
theorem JX:type_of%@List.set_cons_succ:=@List.set_cons_succ
theorem RI:type_of%@List.set_cons_zero:=@List.set_cons_zero
theorem g9:type_of%@List.set_eq_take_append_cons_drop:=@List.set_eq_take_append_cons_drop
theorem nM:type_of%@List.set_getElem_self:=@List.set_getElem_self
theorem j3:type_of%@List.singleton_append:=@List.singleton_append
theorem o_:type_of%@List.size_toArray:=@List.size_toArray
theorem Ol:type_of%@List.take_add_one:=@List.take_add_one
theorem XM:type_of%@List.take_append:=@List.take_append
theorem td:type_of%@List.take_append_drop:=@List.take_append_drop
theorem RJ:type_of%@List.take_append_of_le_length:=@List.take_append_of_le_length
theorem dZ:type_of%@List.take_left:=@List.take_left
theorem gb:type_of%@List.take_left':=@List.take_left'
theorem RA:type_of%@List.take_nil:=@List.take_nil
theorem DV:type_of%@List.take_of_length_le:=@List.take_of_length_le
theorem RS:type_of%@List.take_one:=@List.take_one
theorem Ra:type_of%@List.take_succ_cons:=@List.take_succ_cons
theorem kn:type_of%@List.take_succ_eq_append_getElem:=@List.take_succ_eq_append_getElem
theorem LN:type_of%@List.take_take:=@List.take_take
theorem Jaa:type_of%@List.take_zero:=@List.take_zero
theorem e8:type_of%@Nat.add_assoc:=@Nat.add_assoc
theorem j7:type_of%@Nat.add_comm:=@Nat.add_comm
theorem iO:type_of%@Nat.add_mul:=@Nat.add_mul
theorem po:type_of%@Nat.add_right_cancel_iff:=@Nat.add_right_cancel_iff
theorem Yp:type_of%@Nat.add_sub_cancel:=@Nat.add_sub_cancel
theorem Zm:type_of%@Nat.add_sub_cancel_left:=@Nat.add_sub_cancel_left
theorem tA:type_of%@Nat.add_zero:=@Nat.add_zero
theorem mK:type_of%@Nat.and_le_right:=@Nat.and_le_right
theorem pg:type_of%@Nat.and_one_is_mod:=@Nat.and_one_is_mod
theorem Vy:type_of%@Nat.and_two_pow_sub_one_eq_mod:=@Nat.and_two_pow_sub_one_eq_mod
theorem tW:type_of%@Nat.div_div_eq_div_mul:=@Nat.div_div_eq_div_mul
theorem QA:type_of%@Nat.div_eq_of_lt:=@Nat.div_eq_of_lt
theorem gE:type_of%@Nat.div_le_self:=@Nat.div_le_self
theorem kB:type_of%@Nat.div_one:=@Nat.div_one
theorem mu:type_of%@Nat.dvd_of_mod_eq_zero:=@Nat.dvd_of_mod_eq_zero
theorem mg:type_of%@Nat.eq_zero_or_pos:=@Nat.eq_zero_or_pos
theorem kc:type_of%@Nat.le_add_right:=@Nat.le_add_right
theorem ZG:type_of%@Nat.le_of_ble_eq_true:=@Nat.le_of_ble_eq_true
theorem Mk:type_of%@Nat.le_of_eq:=@Nat.le_of_eq
theorem mS:type_of%@Nat.lt_irrefl:=@Nat.lt_irrefl
theorem jP:type_of%@Nat.lt_of_le_of_lt:=@Nat.lt_of_le_of_lt
theorem Wb:type_of%@Nat.lt_of_lt_of_le:=@Nat.lt_of_lt_of_le
theorem s9:type_of%@Nat.lt_or_ge:=@Nat.lt_or_ge
theorem RE:type_of%@Nat.lt_trans:=@Nat.lt_trans
theorem od:type_of%@Nat.lt_trichotomy:=@Nat.lt_trichotomy
theorem aQ:type_of%@Nat.min_eq_left:=@Nat.min_eq_left
theorem s_:type_of%@Nat.mod_eq_of_lt:=@Nat.mod_eq_of_lt
theorem hJ:type_of%@Nat.mod_lt:=@Nat.mod_lt
theorem jZ:type_of%@Nat.mod_two_eq_zero_or_one:=@Nat.mod_two_eq_zero_or_one
theorem jW:type_of%@Nat.mul_add:=@Nat.mul_add
theorem nx:type_of%@Nat.mul_add_div:=@Nat.mul_add_div
theorem RV:type_of%@Nat.mul_comm:=@Nat.mul_comm
theorem l2:type_of%@Nat.mul_le_mul:=@Nat.mul_le_mul
theorem Xr:type_of%@Nat.mul_le_mul_right:=@Nat.mul_le_mul_right
theorem Q6:type_of%@Nat.mul_one:=@Nat.mul_one
theorem Sy:type_of%@Nat.mul_sub_right_distrib:=@Nat.mul_sub_right_distrib
theorem m':type_of%@Nat.mul_zero:=@Nat.mul_zero
theorem n3:type_of%@Nat.not_lt_zero:=@Nat.not_lt_zero
theorem fC:type_of%@Nat.one_mul:=@Nat.one_mul
theorem om:type_of%@Nat.or_lt_two_pow:=@Nat.or_lt_two_pow
theorem ud:type_of%@Nat.pow_add:=@Nat.pow_add
theorem aI:type_of%@Nat.pow_le_pow_right:=@Nat.pow_le_pow_right
theorem lN:type_of%@Nat.pow_one:=@Nat.pow_one
theorem fW:type_of%@Nat.pow_succ:=@Nat.pow_succ
theorem Ry:type_of%@Nat.pow_zero:=@Nat.pow_zero
theorem mM:type_of%@Nat.shiftRight_eq_div_pow:=@Nat.shiftRight_eq_div_pow
theorem XT:type_of%@Nat.sub_self:=@Nat.sub_self
theorem jS:type_of%@Nat.sub_zero:=@Nat.sub_zero
theorem pe:type_of%@Nat.testBit_two_pow_mul_add:=@Nat.testBit_two_pow_mul_add
theorem q4:type_of%@Nat.two_pow_add_eq_or_of_lt:=@Nat.two_pow_add_eq_or_of_lt
theorem jn:type_of%@Nat.two_pow_pos:=@Nat.two_pow_pos
theorem au:type_of%@Nat.xor_assoc:=@Nat.xor_assoc
theorem cA:type_of%@Nat.xor_comm:=@Nat.xor_comm
theorem mL:type_of%@Nat.xor_div_two_pow:=@Nat.xor_div_two_pow
theorem Mx:type_of%@Nat.xor_lt_two_pow:=@Nat.xor_lt_two_pow
theorem la:type_of%@Nat.xor_mod_two_pow:=@Nat.xor_mod_two_pow
theorem j5:type_of%@Nat.xor_self:=@Nat.xor_self
theorem b':type_of%@Nat.xor_zero:=@Nat.xor_zero
theorem IC:type_of%@Nat.zero_add:=@Nat.zero_add
theorem F2:type_of%@Nat.zero_le:=@Nat.zero_le
theorem kY:type_of%@Nat.zero_mul:=@Nat.zero_mul
theorem mx:type_of%@Nat.zero_xor:=@Nat.zero_xor
theorem s3:type_of%@Option.bind_some:=@Option.bind_some
theorem QW:type_of%@Option.getD_some:=@Option.getD_some
theorem Ph:type_of%@Option.map_some:=@Option.map_some
theorem lX:type_of%@UInt32.toNat_inj:=@UInt32.toNat_inj
theorem oK:type_of%@UInt32.toNat_ofNat':=@UInt32.toNat_ofNat'
theorem Ss:type_of%@UInt32.toNat_shiftRight:=@UInt32.toNat_shiftRight
theorem Hx:type_of%@UInt32.toNat_toUInt8:=@UInt32.toNat_toUInt8
theorem j8:type_of%@UInt32.toNat_xor:=@UInt32.toNat_xor
theorem o9:type_of%@UInt8.ofNat_toNat:=@UInt8.ofNat_toNat
theorem M':type_of%@UInt8.toNat_inj:=@UInt8.toNat_inj
theorem Cj:type_of%@UInt8.toNat_lt:=@UInt8.toNat_lt
theorem ps:type_of%@UInt8.toNat_ofNat':=@UInt8.toNat_ofNat'
theorem nX:type_of%@UInt8.toNat_toUInt32:=@UInt8.toNat_toUInt32
theorem kA:type_of%@UInt8.toNat_xor:=@UInt8.toNat_xor
abbrev Vx:=Tryz.func10
abbrev Z5:=Tryz.func100
abbrev g3:=Tryz.func101
abbrev p7:=Tryz.func102
abbrev XH:=Tryz.func103
abbrev Po:=Tryz.func104
abbrev Qo:=Tryz.func105
abbrev Xn:=Tryz.func106
abbrev Nb:=Tryz.func107
abbrev OX:=Tryz.func108
abbrev Re:=Tryz.func109
abbrev X0:=Tryz.func11
abbrev V':=Tryz.func110
abbrev L_:=Tryz.func111
abbrev Vo:=Tryz.func112
abbrev Uv:=Tryz.func113
abbrev bz:=Tryz.func114
abbrev hx:=Tryz.func115
abbrev TI:=Tryz.func116
abbrev Ps:=Tryz.func119
abbrev UJ:=Tryz.func12
abbrev Pk:=Tryz.func122
abbrev Ze:=Tryz.func123
abbrev Lh:=Tryz.func125
abbrev si:=Tryz.func126
abbrev o5:=Tryz.func127
abbrev j4:=Tryz.func128
abbrev b5:=Tryz.func129
abbrev S9:=Tryz.func13
abbrev P1:=Tryz.func130
abbrev uy:=Tryz.func131
abbrev uB:=Tryz.func132
abbrev Vj:=Tryz.func133
abbrev Th:=Tryz.func134
abbrev U5:=Tryz.func135
abbrev XQ:=Tryz.func136
abbrev lV:=Tryz.func137
abbrev fv:=Tryz.func138
abbrev YZ:=Tryz.func139
abbrev Xv:=Tryz.func14
abbrev kq:=Tryz.func140
abbrev oe:=Tryz.func141
abbrev Vq:=Tryz.func142
abbrev YT:=Tryz.func143
abbrev cS:=Tryz.func144
abbrev TE:=Tryz.func145
abbrev XJ:=Tryz.func146
abbrev ru:=Tryz.func147
abbrev c4:=Tryz.func148
abbrev aZ:=Tryz.func149
abbrev Xg:=Tryz.func15
abbrev Nc:=Tryz.func151
abbrev RB:=Tryz.func152
abbrev O_:=Tryz.func153
abbrev Pa:=Tryz.func154
abbrev Np:=Tryz.func155
abbrev Nm:=Tryz.func156
abbrev Qw:=Tryz.func157
abbrev Xp:=Tryz.func158
abbrev Qf:=Tryz.func159
abbrev Mj:=Tryz.func16
abbrev WW:=Tryz.func161
abbrev Wc:=Tryz.func162
abbrev kF:=Tryz.func163
abbrev Zf:=Tryz.func164
abbrev T1:=Tryz.func165
abbrev Wx:=Tryz.func166
abbrev Qy:=Tryz.func167
abbrev oi:=Tryz.func168
abbrev p6:=Tryz.func169
abbrev Ms:=Tryz.func17
abbrev U4:=Tryz.func170
abbrev kl:=Tryz.func171
abbrev XB:=Tryz.func172
abbrev Yq:=Tryz.func173
abbrev Sg:=Tryz.func174
abbrev ZL:=Tryz.func175
abbrev Qn:=Tryz.func176
abbrev QE:=Tryz.func177
abbrev R2:=Tryz.func178
abbrev VI:=Tryz.func179
abbrev W9:=Tryz.func18
abbrev Vl:=Tryz.func180
abbrev MA:=Tryz.func181
abbrev Sl:=Tryz.func182
abbrev RP:=Tryz.func185
abbrev Iz:=Tryz.func187
abbrev dP:=Tryz.func188
abbrev ZC:=Tryz.func189
abbrev NK:=Tryz.func19
abbrev TJ:=Tryz.func190
abbrev Uy:=Tryz.func191
abbrev T5:=Tryz.func192
abbrev Xi:=Tryz.func193
abbrev U2:=Tryz.func194
abbrev Sw:=Tryz.func195
abbrev Ui:=Tryz.func196
abbrev UE:=Tryz.func197
abbrev IN:=Tryz.func198
abbrev P2:=Tryz.func20
abbrev lE:=Tryz.func200
abbrev kD:=Tryz.func201
abbrev aN:=Tryz.func203
abbrev qA:=Tryz.func204
abbrev sw:=Tryz.func205
abbrev p5:=Tryz.func206
abbrev qd:=Tryz.func207
abbrev Oq:=Tryz.func21
abbrev ox:=Tryz.func215
abbrev rB:=Tryz.func216
abbrev rD:=Tryz.func217
abbrev ga:=Tryz.func218
abbrev Ux:=Tryz.func22
abbrev MH:=Tryz.func23
abbrev Ma:=Tryz.func236
abbrev K7:=Tryz.func237
abbrev QX:=Tryz.func238
abbrev Pr:=Tryz.func239
abbrev Xd:=Tryz.func24
abbrev lg:=Tryz.func25
abbrev js:=Tryz.func251
abbrev jR:=Tryz.func252
abbrev jt:=Tryz.func253
abbrev nj:=Tryz.func254
abbrev nk:=Tryz.func255
abbrev ZF:=Tryz.func259
abbrev Pd:=Tryz.func26
abbrev n5:=Tryz.func260
abbrev uk:=Tryz.func262
abbrev QQ:=Tryz.func27
abbrev YF:=Tryz.func28
abbrev X6:=Tryz.func29
abbrev Rc:=Tryz.func3
abbrev OQ:=Tryz.func30
abbrev K6:=Tryz.func31
abbrev VL:=Tryz.func32
abbrev P6:=Tryz.func33
abbrev TU:=Tryz.func34
abbrev Fy:=Tryz.func35
abbrev FW:=Tryz.func36
abbrev Lm:=Tryz.func37
abbrev OJ:=Tryz.func38
abbrev S7:=Tryz.func39
abbrev Se:=Tryz.func4
abbrev E4:=Tryz.func40
abbrev UT:=Tryz.func41
abbrev UR:=Tryz.func42
abbrev XV:=Tryz.func43
abbrev SI:=Tryz.func44
abbrev Mh:=Tryz.func45
abbrev V6:=Tryz.func46
abbrev EV:=Tryz.func47
abbrev Xc:=Tryz.func48
abbrev nt:=Tryz.func49
abbrev U0:=Tryz.func5
abbrev Ty:=Tryz.func50
abbrev Si:=Tryz.func51
abbrev Qd:=Tryz.func52
abbrev R3:=Tryz.func53
abbrev PF:=Tryz.func54
abbrev oO:=Tryz.func55
abbrev pF:=Tryz.func56
abbrev P_:=Tryz.func57
abbrev XI:=Tryz.func58
abbrev SC:=Tryz.func59
abbrev Qi:=Tryz.func6
abbrev TN:=Tryz.func60
abbrev Tu:=Tryz.func61
abbrev Rr:=Tryz.func62
abbrev Ut:=Tryz.func63
abbrev Sn:=Tryz.func64
abbrev VN:=Tryz.func65
abbrev Wq:=Tryz.func66
abbrev My:=Tryz.func67
abbrev Nx:=Tryz.func68
abbrev PY:=Tryz.func69
abbrev L9:=Tryz.func7
abbrev R4:=Tryz.func70
abbrev LM:=Tryz.func71
abbrev Rl:=Tryz.func72
abbrev SU:=Tryz.func73
abbrev X_:=Tryz.func74
abbrev bB:=Tryz.func75
abbrev YX:=Tryz.func76
abbrev TM:=Tryz.func77
abbrev SO:=Tryz.func78
abbrev Lu:=Tryz.func79
abbrev PQ:=Tryz.func8
abbrev Tv:=Tryz.func80
abbrev Sc:=Tryz.func81
abbrev KJ:=Tryz.func82
abbrev NN:=Tryz.func83
abbrev WY:=Tryz.func84
abbrev P7:=Tryz.func85
abbrev J2:=Tryz.func86
abbrev VC:=Tryz.func87
abbrev Up:=Tryz.func88
abbrev WS:=Tryz.func89
abbrev YO:=Tryz.func9
abbrev Wi:=Tryz.func90
abbrev Yb:=Tryz.func91
abbrev O7:=Tryz.func92
abbrev PM:=Tryz.func93
abbrev Nt:=Tryz.func94
abbrev gV:=Tryz.func95
abbrev e2:=Tryz.func96
abbrev hK:=Tryz.func97
abbrev fA:=Tryz.func98
abbrev o1:=Tryz.func99
abbrev sT:=Tryz.underlying100
abbrev Wz:=Tryz.underlying105
abbrev oz:=Tryz.underlying114
abbrev ts:=Tryz.underlying118
abbrev rT:=Tryz.underlying124
abbrev K1:=Tryz.underlying127
abbrev Sz:=Tryz.underlying130
abbrev j':=Tryz.underlying132
abbrev Nl:=Tryz.underlying136
abbrev Bv:=Tryz.underlying138
abbrev sP:=Tryz.underlying142
abbrev tC:=Tryz.underlying174
abbrev Ig:=Tryz.underlying182
abbrev tr:=Tryz.underlying185
abbrev PH:=Tryz.underlying186
abbrev kE:=Tryz.underlying187
abbrev Kp:=Tryz.underlying189
abbrev jN:=Tryz.underlying191
abbrev aH:=Tryz.underlying193
abbrev L7:=Tryz.underlying194
abbrev sV:=Tryz.underlying206
abbrev YA:=Tryz.underlying217
abbrev Co:=Tryz.underlying22
abbrev DW:=Tryz.underlying224
abbrev qj:=Tryz.underlying225
abbrev ug:=Tryz.underlying228
abbrev tZ:=Tryz.underlying229
abbrev Il:=Tryz.underlying234
abbrev tV:=Tryz.underlying24
abbrev DY:=Tryz.underlying242
abbrev qi:=Tryz.underlying248
abbrev jy:=Tryz.underlying25
abbrev kR:=Tryz.underlying258
abbrev ax:=Tryz.underlying261
abbrev YW:=Tryz.underlying262
abbrev O8:=Tryz.underlying263
abbrev e9:=Tryz.underlying265
abbrev KW:=Tryz.underlying267
abbrev ft:=Tryz.underlying27
abbrev ZY:=Tryz.underlying271
abbrev LS:=Tryz.underlying273
abbrev qt:=Tryz.underlying278
abbrev bn:=Tryz.underlying287
abbrev B7:=Tryz.underlying29
abbrev rE:=Tryz.underlying291
abbrev N2:=Tryz.underlying295
abbrev AF:=Tryz.underlying3
abbrev n9:=Tryz.underlying302
abbrev E9:=Tryz.underlying32
abbrev Qm:=Tryz.underlying341
abbrev U8:=Tryz.underlying344
abbrev h':=Tryz.underlying346
abbrev Lc:=Tryz.underlying38
abbrev PW:=Tryz.underlying4
abbrev CI:=Tryz.underlying48
abbrev BV:=Tryz.underlying5
abbrev lC:=Tryz.underlying50
abbrev B5:=Tryz.underlying51
abbrev tY:=Tryz.underlying52
abbrev Bs:=Tryz.underlying70
abbrev px:=Tryz.underlying79
abbrev Mi:=Tryz.underlying83
abbrev F_:=Tryz.underlying85
abbrev Zc:=Tryz.underlying88
abbrev Ho:=Tryz.underlying9
abbrev IA:=Tryz.underlying95
abbrev W2:=Tryz.underlying96
abbrev C2:=Tryz.underlying97
abbrev J':=Tryz.underlying98
theorem Eg{a b c:Nat}(h:a≤b)(k:b≤c):a≤c:=Nat.le_trans h k
theorem Br(n:Nat):n≤n:=Nat.le_refl n
theorem Cn(B:Nat)(w:Go.World):Go.RowKit.Below B w w:=Go.RowKit.Below.refl B w
theorem AX{p:Prop}(h:p):Go.RowKit.Hid p:=Go.Lib.hid h
end Go.Proofs.YtjdboncaegphmaaGreatDoor
namespace Go.Proofs.YtjdboncaegphmaaGreatDoor
open Go.RowKit
set_option maxRecDepth 100000
set_option maxHeartbeats 2000000
variable {n size b bytes c off B:Nat} {xs:List Value} {v z:Value} {t e:TypeId} {x y:Operand} {w':World} {cs:Array Value}
abbrev TQ:=fun a b=>([[Value.map (some a)],[Value.map (some b)]]:List (List Value))
def Cells(w:World)(b off:Nat)(xs:List Value):Prop:=∀j v,xs[j]? =some v→w.cell? ⟨b,off+j,none⟩=some v
def bv(l:rG):List Value:=l.map fun b=>.int .u8 b.toNat
theorem DG(l:rG):(bv l).length=l.length:=by simp[bv]
theorem Mu(l m:rG):bv (l++m)=bv l++bv m:=by simp[bv]
theorem Ip(l:rG)(n:Nat):(bv l).take n=bv (l.take n):=by simp[bv]
theorem Hk(l:rG)(n:Nat):(bv l).drop n=bv (l.drop n):=by simp[bv]
@[simp] theorem je:bv []=[]:=rfl
theorem Eo(l:rG):∀u∈bv l,u.oneCell'=true:=by
 intro u hu;simp only[bv,bI]at hu;obtain⟨b,_,rfl⟩:=hu;rfl
def View(w:World)(v:Value)(n size:Nat)(xs:List Value):Prop:=
 n*size≤xs.length∧((v=.slice none 0 0∧n=0∧xs=[])∨
  ∃b off cap,v=.slice (some ⟨b,off,none⟩) n cap∧xs.length≤cap*size∧n≤cap∧cap≤maxLen∧b<w.heap.size∧Cells w b off xs)
structure CO (P:Program) (t e:TypeId) (size bytes:Nat) (z:Value):Prop where
 uG:P.underlying t=some (.slice e)
 V:∃i,P.info? e=some i∧i.zero=some z∧i.size=size∧i.bytes=bytes
 vL:z.cells.size=size
 uO:0<size
theorem CO.mk'{P:Program}(a:P.underlying t=some (.slice e))
 (V:(P.info? e).map (fun i=>(i.zero,i.size,i.bytes))=some (some z,size,bytes))(b:z.cells.size=size)(c:0<size):CO P t e size bytes z:=by
 obtain⟨i,h1,d,f,g⟩:=info_parts V;exact⟨a,⟨i,h1,d,f,g⟩,b,c⟩
theorem Cells.Fm{w:World}(h:Cells w b off xs)(J:w'.heap[b]? =w.heap[b]?):Cells w' b off xs:=
 fun j v hj=>(World.cell?_of_block (a:=⟨b,off+j,none⟩) J).trans (h j v hj)
theorem Cells.drop{w:World}(h:Cells w b off xs)(k:Nat):Cells w b (off+k) (xs.drop k):=by
 intro j v hj;rw[Q1]at hj;have:=h (k+j) v hj
 rwa[←e8]at this
theorem View.nil(w:World)(size:Nat):View w (.slice none 0 0) 0 size []:=⟨by simp,.inl ⟨D,D,D⟩⟩
theorem View.lt{w:World}(h:View w v n size xs):∀k,v.ownBlock=some k→k<w.heap.size:=by
 intro k a
 rcases h.2 with⟨rfl,_⟩|⟨b,off,cap,rfl,_,_,_,J,_⟩
 ·simp[Value.ownBlock]at a
 ·simp[Value.ownBlock]at a;omega
theorem View.Fm{w:World}(h:View w v n size xs)(e:w.heap.size≤w'.heap.size)
 (J:∀k,v.ownBlock=some k→w'.heap[k]? =w.heap[k]?):View w' v n size xs:=by
 refine⟨h.1,?_⟩
 rcases h.2 with h1|⟨b,off,cap,rfl,h1,a,c,f,d⟩
 ·exact .inl h1
 ·exact .inr ⟨b,off,cap,D,h1,a,c,JY,d.Fm (J b (by simp[Value.ownBlock]))⟩
theorem View.below{w:World}(h:View w v n size xs)(J:Below w.heap.size w w'):View w' v n size xs:=
 h.Fm J.size (fun k a=>J.block k (h.lt k a))
theorem View.grown{w:World}{row:Option Nat}(h:View w v n size xs)(a:w.grownBy w' row)(c:∀k,v.ownBlock=some k→some k≠row):View w' v n size xs:=
 h.Fm a.size (fun k b=>a.block k (h.lt k b) (c k b))
theorem View.own{w:World}{base:Nat}(h:w.ownsRow base e size v n xs):View w v n size xs:=by
 refine⟨by rw[h.1];exact Br _,?_⟩
 rcases h.2 with⟨rfl,rfl⟩|⟨g,cap,cur,rfl,J,b,a,c,f,i⟩
 ·exact .inl ⟨D,D,ni (by simpa using h.1)⟩
 ·refine .inr ⟨g,0,cap,D,by rw[h.1];exact Xr _ a,a,c,(SR.1 b).1,fun j u hu=>?_⟩;have:=h.cells (g:=g) D j u hu;have d:(⟨g,0,none⟩:Addr).add j=⟨g,0+j,none⟩:=by unfold Addr.add;split<;>simp_all
  rwa[d]at this
theorem View.lit{w:World}(a:cs.size=n*size)(hm:n≤maxLen):View (w.alloc (.cells cs e)) (.slice (some ⟨w.heap.size,0,none⟩) n n) n size cs.toList:=by
 refine⟨by simp[a],.inr ⟨w.heap.size,0,n,D,by simp[a],Br _,hm,by simp,fun j u hj=>?_⟩⟩;rw[cell_of_row _ _ _ cs e (0,0) (heap_alloc_new w _)];simpa using hj
theorem De{w:World}{base:Nat}{l:rG}(h:w.ownsRow base e 1 v n (bv l)):l.length=n:=by simpa[bv]using h.1
theorem View.take{w:World}(h:View w v n size xs):(xs.take (n*size)).length=n*size:=by
 rw[FX];have:=h.1;omega
theorem View.trim{w:World}(h:View w v n size xs):View w v n size (xs.take (n*size)):=by
 refine⟨by rw[h.take];exact Br _,?_⟩
 rcases h.2 with⟨rfl,rfl,rfl⟩|⟨b,off,cap,rfl,f,a,c,d,e⟩
 ·exact .inl ⟨D,D,by simp⟩
 ·refine .inr ⟨b,off,cap,D,by rw[h.take];exact Xr _ a,a,c,d,fun j v hj=>?_⟩;rw[LQ]at hj;split at hj
  ·exact e j v hj
  ·cases hj
theorem IM{w:World}{j:Nat}{fr:Nat×Nat}(a:w.heap[b]? =some (.cells cs t fr))(c:cs[j]? =some v):w.cell? ⟨b,j,none⟩=some v:=by
 rw[cell_of_row w b j cs t fr a,c]
theorem eM{w:World}{j:Nat}(a:w.heap[b]? =some (.cells cs t (0,0))):w.frozen? ⟨b,j,none⟩=false:=frozen_of_row w b j cs t a
theorem K'{w:World}{j:Nat}{fr:Nat×Nat}(a:w.heap[b]? =some (.cells cs t fr))(v:Value):(w.setCell ⟨b,j,none⟩ v).heap[b]? =some (.cells (cs.setIfInBounds j v) t fr):=by
 simp[World.setCell,Array.getElem?_modify,a]
theorem Ka(w:World)(b j:Nat)(v:Value):w.grownBy (w.setCell ⟨b,j,none⟩ v) (some b):=
 ⟨D,D,D,by simp,fun k _ a=>Below.heap_setCell _ _ _ _ (by simpa using a)⟩
theorem I2{a b c:World}{row:Option Nat}(h:a.grownBy b row)(k:b.grownBy c row):a.grownBy c row:=
 ⟨k.os.trans h.os,k.tape.trans h.tape,k.output.trans h.output,Eg h.size k.size,fun i V d=>(k.block i (by have:=h.size;omega) d).trans (h.block i V d)⟩
theorem NG(a:World)(row:Option Nat):a.grownBy a row:=⟨D,D,D,Br _,fun _ _ _=>rfl⟩
theorem View.hd{w:World}{y:Option Addr}(e:View w (.slice y n c) n size xs)(h m:Nat)(a:h≤m)(l:m≤c)(o:h*size≤xs.length):
 View w (.slice y h m) h size (xs.take (m*size)):=by
 have f:h*size≤(xs.take (m*size)).length:=by rw[FX];have:=Xr size a;omega
 rcases e.2 with⟨he,g,d⟩|⟨b,off,cap,he,g,d,p,i,k⟩
 ·simp only[Value.slice.injEq]at he;obtain⟨rfl,rfl,rfl⟩:=he;subst d;have:m=0:=JY;subst this;have:h=0:=JY;subst this;exact⟨by simp,.inl (by simp)⟩
 ·simp only[Value.slice.injEq]at he;obtain⟨rfl, -,rfl⟩:=he;refine⟨f,.inr ⟨b,off,m,D,by rw[FX];omega,a,JY,i,fun j u hj=>?_⟩⟩;rw[LQ]at hj;split at hj
  ·exact k j u hj
  ·cases hj
theorem F6(b off j:Nat):(⟨b,off,none⟩:Addr).add j=⟨b,off+j,none⟩:=by unfold Addr.add;split<;>simp_all
theorem Bn{w:World}{k:Nat}{o:Obj}(a:w.grownBy w' (some b))(h:w.heap[k]? =some o)(c:k≠b):w'.heap[k]? =some o:=
 (a.block k (SR.1 h).1 (by simpa using c)).trans h
structure D0 (w w':World) (v BA:Value):Prop where
 Bg:w.grownBy w' v.ownBlock
 at_:∀k,BA.ownBlock=some k→v.ownBlock=some k∨w.heap.size≤k
theorem D0.refl(w:World)(v:Value):D0 w w v v:=⟨⟨D,D,D,Br _,fun _ _ _=>rfl⟩,fun _ h=>.inl h⟩
theorem D0.below{w:World}{BA:Value}(h:D0 w w' v BA)(a:B≤w.heap.size)(b:∀k,v.ownBlock=some k→B≤k):Below B w w':=
 (Cn B w).grown h.Bg a b
theorem e0{w:World}{k:Nat}{p:Option Addr}(ho:w.ownsRow B e size (.slice p k c) n xs):n=k∧n≤c:=by
 rcases ho.2 with⟨h1,a⟩|⟨g,cap,cur,h1,a,b,d,_⟩
 ·simp at h1;omega
 ·simp at h1;omega
theorem Ew{w:World}{a:Nat}(h:w.ownsRow B e size v n xs)(b:a≤B):w.ownsRow a e size v n xs:=by
 refine⟨h.1,?_⟩
 rcases h.2 with q|⟨g,cap,cur,c,d,f⟩
 ·exact .inl q
 ·exact .inr ⟨g,cap,cur,c,Eg b d,f⟩
theorem YN{w:World}(h:w.ownsRow B e size v n xs)(J:Below w.heap.size w w'):w'.ownsRow B e size v n xs:=
 h.kept (row:=none) ⟨J.os,J.tape,J.output,J.size,fun k a _=>J.block k a⟩ (by cases v.ownBlock<;>simp)
theorem VZ{P:Program}(w:World){ty:TypeId}(b:CO P t e size bytes z)(base:Nat)
 (v:Value)(n:Nat)(xs:List Value)(f:w.ownsRow base e size v n xs)
 (a:Addr)(m c:Nat)(news:List Value)(hl:news.length=m*size)(h:∀j u,news[j]? =some u→w.cell? (a.add j)=some u)(h1:∀u∈news,u.oneCell'=true)
 (r:n+m≤maxLen)(o:(n+m)*bytes≤140737488355328)(x:base≤w.heap.size):
 ∃BA w',(Builtin.append_ #[t,t] ty #[v,.slice (some a) m c]).run P w=.ok BA w'∧w'.ownsRow base e size BA (n+m) (xs++news)∧D0 w w' v BA:=by
 obtain⟨i,V,p,rfl,rfl⟩:=b.V;obtain⟨BA,w',hr,ho,y,A⟩:=run_append_own (P:=P) w base t ty e i z i.size i.bytes b.uG V p D D b.vL b.uO v n xs f a m c news hl h h1 r o x;refine⟨BA,w',hr,ho,y,fun k l=>?_⟩;have H:n+m≤9223372036854775807:=by simp only[maxLen]at r;omega
 rcases f.2 with⟨rfl,rfl⟩|⟨g,cap,cur,rfl,I,B,K,L,C,M⟩
 ·by_cases hm:m=0
  ·have:=A.2 ⟨D,hm⟩;subst this;simp[Value.ownBlock]at l
  ·have d:=run_append_nil (P:=P) w t ty e i z b.uG V p a m c news hl h JY JY (by have J:=o;simp only[IC]at J;omega);rw[d]at hr;obtain⟨rfl,rfl⟩:=(by simpa using hr:_∧_)
   simp[Value.ownBlock]at l;exact .inr JY
 ·by_cases s:n+m≤cap
  ·have E:n*i.size+news.length≤cur.size:=by rw[hl,C,←iO];exact Xr _ s
   have d:=run_append_room (P:=P) w t ty e i b.uG V g n cap cur B a m c news hl h h1 s E;rw[d]at hr;obtain⟨rfl,rfl⟩:=(by simpa using hr:_∧_)
   exact .inl (by simpa[Value.ownBlock]using l)
  ·have holds:∀j u,xs[j]? =some u→w.cell? ((⟨g,0,none⟩:Addr).add j)=some u:=f.cells (g:=g) D;have d:=run_append_grow (P:=P) w t ty e i z b.uG V p ⟨g,0,none⟩ n cap xs f.1 holds a m c news hl h JY JY (growslice_fits JY o);rw[d]at hr;obtain⟨rfl,rfl⟩:=(by simpa using hr:_∧_)
   simp[Value.ownBlock]at l;exact .inr JY
structure Stop (p:Prop):Prop where
 out:p
theorem Cells.below{w:World}(h:Cells w b off xs)(J:b<B)(hw:Below B w w'):Cells w' b off xs:=h.Fm (hw.block b J)
section
variable {P:Program} {w:World} {ops:Array Oper} {rest:List Oper} {o:Oper} {a:Act} {Aa:Exit→Act→World→Prop} {d:Option Tmp} {ty:TypeId} {pos:String} {An:Array Edge}
theorem Yv{xs:Array Operand}{sU:Array TypeId}(s:Stop (wpList P ops Aa (⟨d,.call ⟨.builtin .append,xs,sU⟩,ty,pos,An,none⟩::rest) a w)):wpList P ops Aa (⟨d,.call ⟨.builtin .append,xs,sU⟩,ty,pos,An,none⟩::rest) a w:=s.out
theorem GQ{l h m:Option Operand}(s:Stop (wpList P ops Aa (⟨d,.slice t x l h m,ty,pos,An,none⟩::rest) a w)):wpList P ops Aa (⟨d,.slice t x l h m,ty,pos,An,none⟩::rest) a w:=s.out
theorem HD(t:TypeId){i:Operand}(s:Stop (wpList P ops Aa (⟨d,.indexAddr t x i,ty,pos,An,none⟩::rest) a w)):wpList P ops Aa (⟨d,.indexAddr t x i,ty,pos,An,none⟩::rest) a w:=s.out
theorem Ys(t:TypeId)(s:Stop (wpList P ops Aa (⟨d,.load t x,ty,pos,An,none⟩::rest) a w)):wpList P ops Aa (⟨d,.load t x,ty,pos,An,none⟩::rest) a w:=s.out
theorem HV(t:TypeId)(s:Stop (wpList P ops Aa (⟨d,.store t x y,ty,pos,An,none⟩::rest) a w)):wpList P ops Aa (⟨d,.store t x y,ty,pos,An,none⟩::rest) a w:=s.out
theorem OP(t:TypeId)(s:Stop (wpList P ops Aa (⟨d,.box t x,ty,pos,An,none⟩::rest) a w)):wpList P ops Aa (⟨d,.box t x,ty,pos,An,none⟩::rest) a w:=s.out
theorem LX(t:TypeId)(s:Stop (wpList P ops Aa (⟨d,.alloc t,ty,pos,An,none⟩::rest) a w)):wpList P ops Aa (⟨d,.alloc t,ty,pos,An,none⟩::rest) a w:=s.out
theorem FM(t:TypeId){b:BinOp}{u:TypeId}(s:Stop (wpList P ops Aa (⟨d,.binOp b t x y u,ty,pos,An,none⟩::rest) a w)):wpList P ops Aa (⟨d,.binOp b t x y u,ty,pos,An,none⟩::rest) a w:=s.out
theorem RM(t:TypeId){b:UnOp}(s:Stop (wpList P ops Aa (⟨d,.unOp b t x,ty,pos,An,none⟩::rest) a w)):wpList P ops Aa (⟨d,.unOp b t x,ty,pos,An,none⟩::rest) a w:=s.out
theorem Mt(b:BinOp){u:TypeId}{g:Option (Nat×Bool)}(s:Stop (wpList P ops Aa (⟨d,.binOp b t x y u,ty,pos,An,g⟩::rest) a w)):wpList P ops Aa (⟨d,.binOp b t x y u,ty,pos,An,g⟩::rest) a w:=s.out
theorem aY{z:Operand}(s:Stop (wpList P ops Aa (⟨d,.mapUpdate t x y z,ty,pos,An,none⟩::rest) a w)):wpList P ops Aa (⟨d,.mapUpdate t x y z,ty,pos,An,none⟩::rest) a w:=s.out
theorem gy{b:Bool}(s:Stop (wpList P ops Aa (⟨d,.lookup t x y b,ty,pos,An,none⟩::rest) a w)):wpList P ops Aa (⟨d,.lookup t x y b,ty,pos,An,none⟩::rest) a w:=s.out
theorem eH(t:TypeId)(s:Stop (wpList P ops Aa (⟨d,.index t x y,ty,pos,An,none⟩::rest) a w)):wpList P ops Aa (⟨d,.index t x y,ty,pos,An,none⟩::rest) a w:=s.out
theorem V2(t:TypeId){b:Array (Nat×Operand)}(s:Stop (wpList P ops Aa (⟨d,.buildSlice t n b,ty,pos,An,none⟩::rest) a w)):wpList P ops Aa (⟨d,.buildSlice t n b,ty,pos,An,none⟩::rest) a w:=s.out
theorem C_{f:FuncId}{args:Array Value}{R:Ending→World→Prop}(s:Stop (Calls P f args w R)):Calls P f args w R:=s.out
end
section
variable {P:Program} {w:World} {ops:Array Oper} {rest:List Oper} {o:Oper} {a:Act} {Aa:Exit→Act→World→Prop}
theorem val(hw:Region.wanted o (yielded ops a.tmps)=true)(hr:(execOp a.eval o).run P w=.ok (.value v) w')(h:wpList P ops Aa rest (a.put o.dst v) w'):wpList P ops Aa (o::rest) a w:=by
 unfold wpList;rw[if_pos hw]
 left
 unfold Oper.wp;rw[hr];exact h
theorem TC(hw:Region.wanted o (yielded ops a.tmps)=true)(T:TypeId)(x:Operand)(ho:o.op=.load T x)(c:a.eval x=.pointer (some ⟨b,off,none⟩))(xs:List Value)(e:Cells w b off xs)
 {d:TypeDesc}(hu:P.underlying T=some d)(Ad:d.isRow=true)(V:(P.info? T).map (·.size)=some xs.length)
 (h:wpList P ops Aa rest (a.put o.dst (.agg xs.toArray)) w):wpList P ops Aa (o::rest) a w:=by
 refine val hw (v:=.agg xs.toArray) (w':=w) ?_ h;unfold execOp;simp only[ho,c];have hr:=run_loadAt_mid (P:=P) w b off T xs d e hu Ad V;simp[hr]
theorem Wr(hw:Region.wanted o (yielded ops a.tmps)=true)(hr:(execOp a.eval o).run P w=.ok .skip w')(h:wpList P ops Aa rest (a.put o.dst undef) w'):wpList P ops Aa (o::rest) a w:=by
 unfold wpList;rw[if_pos hw]
 left
 unfold Oper.wp;rw[hr];exact h
theorem Ob(hw:Region.wanted o (yielded ops a.tmps)=true)(T:TypeId)(x:Operand)(ho:o.op=.box T x)(b:a.eval x=v)
 (h:∀W,W.heap.size=w.heap.size+1→W.heap[w.heap.size]? =some (.cells v.cells T (0,0))→Below w.heap.size w W→wpList P ops Aa rest (a.put o.dst (.pointer (some ⟨w.heap.size,0,none⟩))) W):wpList P ops Aa (o::rest) a w:=by
 refine val hw (v:=.pointer (some ⟨w.heap.size,0,none⟩)) (w':=w.alloc (.cells v.cells T)) ?_ (h _ (by simp) (heap_alloc_new w _) ((Cn _ _).alloc (Br _) _));unfold execOp;simp only[ho,b];simp[go_sem]
theorem KE(hw:Region.wanted o (yielded ops a.tmps)=true)(T:TypeId)(ho:o.op=.alloc T)(b:(P.info? T).map (·.zero)=some (some z))
 (h:∀W,W.heap.size=w.heap.size+1→W.heap[w.heap.size]? =some (.cells z.cells T (0,0))→Below w.heap.size w W→wpList P ops Aa rest (a.put o.dst (.pointer (some ⟨w.heap.size,0,none⟩))) W):wpList P ops Aa (o::rest) a w:=by
 refine val hw (v:=.pointer (some ⟨w.heap.size,0,none⟩)) (w':=w.alloc (.cells z.cells T)) ?_ (h _ (by simp) (heap_alloc_new w _) ((Cn _ _).alloc (Br _) _));unfold execOp;simp only[ho];cases c:P.info? T with
 |none=>simp[c]at b
 |some i=>
  simp[c]at b;simp[Instr.alloc,zeroValue,typeInfo,c,b,newVar,newRow,newObj];rfl
theorem Kn(hw:Region.wanted o (yielded ops a.tmps)=true)(T:TypeId)(x y:Operand)(ho:o.op=.store T x y){c c':Array Value}(d:a.eval x=.pointer (some ⟨b,0,none⟩))(J:w.heap[b]? =some (.cells c T (0,0)))(f:a.eval y=.agg c')
 (V:(P.info? T).map (·.size)=some c'.size)(g:c.size=c'.size)(h1:c'.all (·.oneCell')=true)
 (h:∀W,W.heap.size=w.heap.size→W.heap[b]? =some (.cells c' T (0,0))→w.grownBy W (some b)→wpList P ops Aa rest (a.put o.dst undef) W):wpList P ops Aa (o::rest) a w:=by
 refine Wr hw (w':=w.setRow b c') ?_ (h _ (by simp) (setRow_heap w b c c' T _ J) ⟨D,D,D,by simp,fun k _ i=>setRow_other w b k c' (fun e=>i (by rw[e]))⟩);unfold execOp;simp only[ho,d,f];simp[Instr.storeAt,Instr.sureAddr,run_storeVar_row w b T T c c' J V g h1]
theorem PS(hw:Region.wanted o (yielded ops a.tmps)=true)(T:TypeId)(x y:Operand)(ho:o.op=.store T x y){c:Array Value}{tb:TypeId}(e:a.eval x=.pointer (some ⟨b,off,none⟩))(J:w.heap[b]? =some (.cells c tb (0,0)))
 (f:a.eval y=v)(g:v.oneCell'=true)(V:(P.info? T).map (·.size)=some 1)(j:off<c.size)
 (h:∀W,W.heap.size=w.heap.size→W.heap[b]? =some (.cells (c.setIfInBounds off v) tb (0,0))→w.grownBy W (some b)→wpList P ops Aa rest (a.put o.dst undef) W):wpList P ops Aa (o::rest) a w:=by
 refine Wr hw (w':=w.setCell ⟨b,off,none⟩ v) ?_ (h _ (by simp) (K' J v) (Ka w b off v));unfold execOp;simp only[ho,e,f];have k:v.cells=#[v]:=by cases v<;>simp_all [Value.oneCell',Value.cells]
 have l:w.cell? ⟨b,off,none⟩=some c[off]:=by rw[cell_of_row w b off c tb _ J];simp[j]
 have m:w.frozen? ⟨b,off,none⟩=false:=frozen_of_row w b off c tb J;cases d:P.info? T with
 |none=>simp[d]at V
 |some i=>
  simp[d]at V;simp[Instr.storeAt,Instr.sureAddr,storeVar,k,sizeOf,typeInfo,d,V,storeCells,run_store _ _ _ _ _ g,l,m,F6]
theorem app(f:CO P t e size bytes z)(hw:Region.wanted o (yielded ops a.tmps)=true)(s x:Operand)
 (ho:o.op=.call {callee:=.builtin .append,args:=#[s,x],argTypes:=#[t,t]})
 (base:Nat){y:Value}{m:Nat}{CP:List Value}(l:a.eval s=v)(r:a.eval x=y)
 (d:w.ownsRow base e size v n xs)(A:View w y m size CP)(h1:∀u∈CP,u.oneCell'=true)
 (E:n+m≤maxLen)(F:(n+m)*bytes≤140737488355328)(G:base≤w.heap.size)
 (h:∀p c w',w'.ownsRow base e size (.slice p (n+m) c) (n+m) (xs++CP.take (m*size))→D0 w w' v (.slice p (n+m) c)→wpList P ops Aa rest (a.put o.dst (.slice p (n+m) c)) w'):wpList P ops Aa (o::rest) a w:=by
 obtain⟨i,V,J,K,L⟩:=f.V;have form:∀w' BA k B,World.ownsRow w' base e size BA k B→∃p c,BA=.slice p k c:=by
  intro w' BA k B q
  rcases q.2 with⟨rfl,rfl⟩|⟨g,cap,cur,rfl,_⟩<;>exact⟨_,_,D⟩
 rcases A.2 with⟨rfl,rfl,rfl⟩|⟨b,off,cap,rfl,M,N,O,Q,H⟩
 ·obtain⟨p,c,rfl⟩:=form w v n xs d;refine val hw (v:=.slice p n c) (w':=w) ?_ (h p c w (by simpa using d) (D0.refl _ _));have hr:=run_append_owned_none (P:=P) (w:=w) base t o.type e i size f.uG V (.slice p n c) n xs d;unfold execOp;simp only[ho,resolve,invoke,builtin,Sem.run_bind,Sem.run_pure,Result.andThen_ok,kz,Zv,kV,l,r,hr]
 ·obtain⟨BA,w',hr,C,I⟩:=VZ (P:=P) (ty:=o.type) w f base v n xs d ⟨b,off,none⟩ m cap (CP.take (m*size)) A.take (fun j u hj=>by
   rw[LQ]at hj;split at hj
   ·rw[F6];exact H j u hj
   ·cases hj) (fun u hu=>h1 u (Xs hu)) E F G
  obtain⟨p,c,rfl⟩:=form w' BA _ _ C;refine val hw (v:=.slice p (n+m) c) (w':=w') ?_ (h p c w' C I);unfold execOp;simp only[ho,resolve,invoke,builtin,Sem.run_bind,Sem.run_pure,Result.andThen_ok,kz,Zv,kV,l,r,hr]
theorem VK(b:CO P t e 1 1 z)(hw:Region.wanted o (yielded ops a.tmps)=true)(s x:Operand)
 (ho:o.op=.call {callee:=.builtin .append,args:=#[s,x],argTypes:=#[t,t]})
 (base:Nat){y:Value}{m:Nat}{xs CP:rG}(d:a.eval s=v)(f:a.eval x=y)
 (g:w.ownsRow base e 1 v n (bv xs))(i:View w y m 1 (bv CP))(j:base≤w.heap.size)
 (k:Nat)(l:n+m=k)(u:k≤140737488355328)(zs:rG)(q:xs++CP.take m=zs)
 (h:∀p c w',w'.ownsRow base e 1 (.slice p k c) k (bv zs)→D0 w w' v (.slice p k c)→wpList P ops Aa rest (a.put o.dst (.slice p k c)) w'):wpList P ops Aa (o::rest) a w:=by
 subst l;subst q;refine app b hw s x ho base d f g i (Eo CP) (by simp[maxLen];omega) JY j ?_;intro p c w' h1 r;refine h p c w' ?_ r;simpa[Mu,Ip]using h1
theorem XN{y:Option Addr}(i:View w (.slice y n c) n size xs)(l h m:Nat)(h1:l≤h)(o:h≤m)(r:m≤c)(s:h*size≤xs.length)(t:0<size):
 View w (sliced y l h m size) (h - l) size ((xs.drop (l*size)).take ((m - l)*size))∧(∀k,(sliced y l h m size).ownBlock=some k→(Value.slice y n c).ownBlock=some k):=by
 unfold sliced
 rcases i.2 with⟨he,p,d⟩|⟨b,off,cap,he,p,d,u,e,q⟩
 ·simp only[Value.slice.injEq]at he;obtain⟨rfl,rfl,rfl⟩:=he;subst d;have:m=0:=JY;subst this;have:h=0:=JY;subst this;have:l=0:=JY;subst this;exact⟨⟨by simp,.inl (by simp)⟩,by simp[Value.ownBlock]⟩
 ·simp only[Value.slice.injEq]at he;obtain⟨rfl, -,rfl⟩:=he;have hlen:((xs.drop (l*size)).take ((m - l)*size)).length≤(m - l)*size:=by rw[FX];omega
  have f:(h - l)*size≤((xs.drop (l*size)).take ((m - l)*size)).length:=by
   rw[FX,J3,Sy,Sy];have:=Xr size o;omega
  by_cases g:m=l
  ·subst g;simp only[if_true];refine⟨⟨f,.inr ⟨b,off,m - m,D,hlen,JY,JY,e,?_⟩⟩,fun k a=>by simpa[Value.ownBlock]using a⟩;intro j v hj;simp at hj
  ·rw[if_neg g];simp only[Ph,F6];refine⟨⟨f,.inr ⟨b,off+l*size,m - l,D,hlen,JY,JY,e,?_⟩⟩,fun k a=>by simpa[Value.ownBlock]using a⟩;intro j v hj;rw[LQ]at hj;split at hj
   ·exact q.drop (l*size) j v hj
   ·cases hj
theorem i_(y:Option Addr)(l h m s:Nat):∃p,sliced y l h m s=.slice p (h - l) (m - l):=⟨_,D⟩
theorem gv(b:CO P t e size bytes z)(hw:Region.wanted o (yielded ops a.tmps)=true)(x:Operand)(V d:Option Operand)
 (ho:o.op=.slice t x none V d){y:Option Addr}(f:a.eval x=.slice y n c)
 (h m:Nat)(J:(Instr.sliceBounds true n c none (V.map a.eval) (d.map a.eval)).run P w=.ok (0,h,m) w)
 (g:wpList P ops Aa rest (a.put o.dst (.slice y h m)) w):wpList P ops Aa (o::rest) a w:=by
 obtain⟨i,j,l,k,p⟩:=b.V;refine val hw (v:=.slice y h m) (w':=w) ?_ g;unfold execOp;simp only[ho,f];have:Option.map (fun q:Addr=>q.add 0) y=y:=by cases y<;>simp[Addr.add]
 simp[Instr.sliceAt,Instr.slice,run_underlying b.uG,J,sizeOf,typeInfo,j,k,this]
theorem Ue(k:IntKind)(n c h:Nat)(a:h≤c):(Instr.sliceBounds true n c none (some (.int k h)) none).run P w=.ok (0,h,c) w:=by
 simp[Instr.sliceBounds,run_sliceBound,a]
theorem W'(k:IntKind)(n c l:Nat)(hl:l≤n):(Instr.sliceBounds true n c (some (.int k l)) none none).run P w=.ok (l,n,c) w:=by
 simp[Instr.sliceBounds,run_sliceBound,hl]
theorem XW(k k':IntKind)(n c l h:Nat)(hl:l≤h)(a:h≤c):(Instr.sliceBounds true n c (some (.int k l)) (some (.int k' h)) none).run P w=.ok (l,h,c) w:=by
 simp[Instr.sliceBounds,run_sliceBound,hl,a]
theorem IB(b:CO P t e size bytes z)(hw:Region.wanted o (yielded ops a.tmps)=true)(x V:Operand)
 (ho:o.op=.slice t x none (some V) none){y:Option Addr}(d:a.eval x=.slice y n c)
 {k:IntKind}(h:Nat)(f:a.eval V=.int k h)(g:h≤c)
 (i:wpList P ops Aa rest (a.put o.dst (.slice y h c)) w):wpList P ops Aa (o::rest) a w:=
 gv b hw x (some V) none ho d h c (by simp only[Ph,f,Option.map_none];exact Ue k n c h g) i
theorem idx(d:CO P t e size bytes z)(hw:Region.wanted o (yielded ops a.tmps)=true)(x BI:Operand)
 (ho:o.op=.indexAddr t x BI){y:Option Addr}(f:a.eval x=.slice y n c)(g:View w (.slice y n c) n size xs)
 {k:IntKind}{i:Int}(V:a.eval BI=.int k i)(j:Nat)(hj:i=j)(h:j<n)
 (l:∀b off,Cells w b off ((xs.drop (j*size)).take size)→(Value.slice y n c).ownBlock=some b→wpList P ops Aa rest (a.put o.dst (.pointer (some ⟨b,off,none⟩))) w):wpList P ops Aa (o::rest) a w:=by
 obtain⟨q,m,B,p,C⟩:=d.V
 rcases g.2 with⟨he,s,u⟩|⟨b,off,cap,he,s,u,D,E,A⟩
 ·omega
 ·simp only[Value.slice.injEq]at he;obtain⟨rfl,_,rfl⟩:=he;subst hj;refine val hw (v:=.pointer (some ⟨b,off+j*size,none⟩)) (w':=w) ?_ (l b (off+j*size) ?_ (by simp[Value.ownBlock]))
  ·unfold execOp;simp only[ho,f,V];simp[Instr.indexAt,run_underlying d.uG,asIntOf,sizeOf,typeInfo,m,p,h,F6]
  ·intro r v hr;rw[LQ]at hr;split at hr
   ·exact A.drop (j*size) r v hr
   ·cases hr
end
