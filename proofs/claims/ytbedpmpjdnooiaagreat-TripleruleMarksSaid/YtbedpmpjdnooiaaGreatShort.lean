/- Shorter names for the steps, and for the shapes of rows. -/
import Derived.Test.YtbedpmpjdnooiaaGreatSfStep
import Derived.Test.YtbedpmpjdnooiaaGreatSfDraw
import Derived.Test.YtbedpmpjdnooiaaGreatSfLib
import Derived.Test.YtbedpmpjdnooiaaGreatTypes
namespace Go.Sf
section
variable {env:Env} {s:Nat} {ss:List Nat} {r:Env}
theorem kn:env.keep []=[]:=rfl
theorem kt {t:TV} (k:env.keep ss=r) (h:env.get s=.tv t:=by rfl):env.keep (s::ss)=(s,.tv t)::r:=keep_tv h k
theorem ko {t:TV} (k:env.keep ss=r) (h:env.get s=.ow t:=by rfl):env.keep (s::ss)=(s,.ow t)::r:=keep_ow h k
theorem kb {t:List Cell} (k:env.keep ss=r) (h:env.get s=.bx t:=by rfl):env.keep (s::ss)=(s,.bx t)::r:=keep_bx h k
theorem kx {n:Nat} {t:List TV} (k:env.keep ss=r) (h:env.get s=.xo n t:=by rfl):env.keep (s::ss)=(s,.xo n t)::r:=keep_xo h k
theorem kl {q:Nat} (k:env.keep ss=r) (h:env.get s=.la q:=by rfl):env.keep (s::ss)=(s,.la q)::r:=keep_la h k
end
def GjGo:List Nat->Env->(Env->Prop)->Prop
  | [],z,K=>K z
  | k::ks,z,K=>∃ j,GjGo ks ((k,j)::z) K
def Gj (js:List Nat) (d:Nat) (v:TV) (z e:Env):Prop:=GjGo js z fun y=>e=(d,.tv v)::y
theorem gA {S:FuncId->List TV->Res->Prop} {K:Env->Prop} {ops:List PR} {env:Env} (n:Nat) (js:List Nat) (d:Nat) (c e:Bool) (h1:c=true->WO S (Gj js d (.bool e) env) (ops.take n) env) (h2:c=false->WO S (Gj js d (.bool false) env) (ops.take n) env) (h:∀ z,Gj js d (.bool (c&&e)) env z->WO S K (ops.drop n) z):WO S K ops env:=by
  refine g_cut n (Gj js d (.bool (c&&e))) ?_ h
  cases c
  · exact h2 rfl
  · exact h1 rfl
theorem gO {S:FuncId->List TV->Res->Prop} {K:Env->Prop} {ops:List PR} {env:Env} (n:Nat) (js:List Nat) (d:Nat) (c e:Bool) (h1:c=true->WO S (Gj js d (.bool true) env) (ops.take n) env) (h2:c=false->WO S (Gj js d (.bool e) env) (ops.take n) env) (h:∀ z,Gj js d (.bool (c||e)) env z->WO S K (ops.drop n) z):WO S K ops env:=by
  refine g_cut n (Gj js d (.bool (c||e))) ?_ h
  cases c
  · exact h2 rfl
  · exact h1 rfl
theorem gX {S:FuncId->List TV->Res->Prop} {K:Env->Prop} {ops:List PR} {env:Env} (n:Nat) (js:List Nat) (d:Nat) (x c:Bool) (h1:c=true->WO S (Gj js d (.bool x) env) (ops.take n) env) (h2:c=false->WO S (Gj js d (.bool x) env) (ops.take n) env) (h:∀ z,Gj js d (.bool x) env z->WO S K (ops.drop n) z):WO S K ops env:=by
  refine g_cut n (Gj js d (.bool x)) ?_ h
  cases c
  · exact h2 rfl
  · exact h1 rfl
abbrev C:=@s_mv
abbrev D:=@c_seq
abbrev E:=@s_end
abbrev F:=@c_reg
abbrev G:=@g_on
abbrev H:=@g_off
abbrev I:=@bind_some
abbrev J:=@s_ld
abbrev K:=@s_bad
abbrev L:=@c_ret
abbrev M:=@ite_t
abbrev O:=@ite_f
abbrev P:=@c_skip
abbrev R:=@s_lda
abbrev S:=@c_cond
abbrev T:=@s_call
abbrev U:=@s_len
abbrev V:=@s_lss
abbrev W:=@s_iad
abbrev X:=@g_cut
abbrev Y:=@s_pickt
abbrev Z:=@s_pickf
abbrev a3:=@s_badb
abbrev a4:=@s_boxs
abbrev a5:=@wf_tv
abbrev a6:=@s_fad
abbrev a7:=@s_add
abbrev a8:=@s_stb
abbrev a9:=@s_neq
abbrev b0:=@c_block
abbrev b1:=@s_alc
abbrev b2:=@s_ext
abbrev b3:=@c_exit
abbrev b4:=@wsucc
abbrev b5:=@c_condt
abbrev b6:=@dlt
abbrev b7:=@c_condf
abbrev b8:=@dnlt
abbrev b9:=@c_draw
abbrev d0:=@s_not
abbrev d1:=@s_eql
abbrev d2:=@thenR_some
abbrev d3:=@thenR_l
abbrev d4:=@thenR_r
abbrev d5:=@s_geq
abbrev d6:=@wp_forR
abbrev d7:=@g_sk
abbrev e0:=@wf_int
abbrev e1:=@s_lst
abbrev e2:=@and_t
abbrev e3:=@and_f
abbrev e4:=@s_gtr
abbrev e5:=@s_callp
abbrev e6:=@s_mvp
abbrev e7:=@s_app
abbrev e8:=@s_bld
abbrev e9:=@wf_lenE
abbrev f0:=@s_nilo
abbrev f1:=@s_tkt
abbrev f2:=@s_tk
abbrev f3:=@s_fadb
abbrev f4:=@s_leq
abbrev f5:=@wp_forA
abbrev f7:=@s_sto
abbrev f8:=@s_ldt
abbrev g0:=@wfs_get
abbrev g1:=@wf_pt
abbrev g2:=@s_clo
abbrev g3:=@s_callv
abbrev g4:=@s_sub
abbrev g5:=@s_bldf
abbrev g6:=@s_callo
abbrev g7:=@s_slen
abbrev g8:=@s_seql
abbrev g9:=@wp_whR
abbrev l0:=@c_cut
abbrev l1:=@s_tkx
abbrev l2:=@s_frz
abbrev l3:=@s_xal
abbrev l4:=@s_cvt
abbrev l5:=@s_rem
abbrev l6:=@s_sidx
abbrev l7:=@s_aad
abbrev l8:=@s_slc
abbrev l9:=@s_sslc
abbrev m0:=@s_xia
abbrev m1:=@s_sadd
abbrev m2:=@wf_ow
abbrev m3:=@s_rel
abbrev m4:=@s_stx
abbrev m5:=@s_nilx
abbrev m6:=@s_isn
abbrev m7:=@clone_h
abbrev m8:=@s_xlen
abbrev m9:=@s_xst
abbrev p0:=@s_bldo
abbrev p1:=@s_callx
abbrev p2:=@s_appx
abbrev p3:=@s_beql
abbrev p4:=@s_callxf
abbrev p5:=@s_xld
abbrev p6:=@s_xfa
abbrev p7:=@s_st
abbrev p8:=@s_callm
abbrev p9:=@s_max
abbrev q0:=@s_min
abbrev q1:=@s_callw
abbrev q2:=@s_mkx
abbrev q3:=@s_callc
abbrev q4:=@s_boxo
abbrev q5:=@s_mul
abbrev q6:=@s_fldva
abbrev q7:=@s_callg
abbrev Ktv:=@keep_tv
abbrev Kow:=@keep_ow
abbrev Kbx:=@keep_bx
abbrev Kxo:=@keep_xo
abbrev Kla:=@keep_la
abbrev Knil:=@keep_nil
abbrev Rq (o:List PR) (l:List Nat) (b:PC):PC:=.seq (.region o l) b
abbrev Sq (a b:PC):PC:=.seq a b
abbrev Re (o:List PR) (l:List Nat):PC:=.region o l
abbrev Dr (d:List Nat) (o:List PR) (l:List Nat):PC:=.draw d o l
abbrev Sk (l:List Nat):PC:=.skip l
abbrev Ex (i:Nat) (l:List Nat):PC:=.exit i l
abbrev Co (c:Nat) (a b:PC):PC:=.cond (.s c) a b
abbrev Bl (i:Nat) (a:PC):PC:=.block i a
abbrev Lo (l:List Nat) (a:PC):PC:=.loop l a
abbrev Aa (x0 x1:Nat):PR:=⟨some x0,.mv (.s x1),none⟩
abbrev Ab (x0 x1:Nat):PR:=⟨some x0,.ld (.s x1),none⟩
abbrev Ac (x0 x1 x2:Nat):PR:=⟨some x0,.bad x1 x2,none⟩
abbrev Ad (x0:Nat) (x1:Int):PR:=⟨some x0,.mv (.c (.int .i64 x1)),none⟩
abbrev Ae (x0 x1 x2:Nat):PR:=⟨some x0,.lda (.s x1) x2,none⟩
abbrev Af (x0 x1:Nat):PR:=⟨some x0,.boxs (.s x1),none⟩
abbrev Ag (x0 x1 x2 x3:Nat):PR:=⟨some x0,.iad (.s x1) (.s x2) x3,none⟩
abbrev Ah (x0 x1:Nat):PR:=⟨some x0,.len (.s x1),none⟩
abbrev Ai (x0 x1 x2:Nat):PR:=⟨some x0,.fad (.s x1) x2,none⟩
abbrev Aj (x0 x1 x2:Nat):PR:=⟨none,.stb x0 x1 (.s x2),none⟩
abbrev Ak (x0:Nat):PR:=⟨some x0,.mv (.c (.bool false)),none⟩
abbrev Al (x0 x1 x2 x3:Nat):PR:=⟨some x0,.call x1 [.s x2,.s x3],none⟩
abbrev Am (x0 x1 x2:Nat):PR:=⟨some x0,.ext (.s x1) x2,none⟩
abbrev An (x0 x1:Nat) (x2:Int):PR:=⟨some x0,.bin (.i) .add (.s x1) (.c (.int .i64 x2)),none⟩
abbrev Ao (x0 x1 x2:Nat):PR:=⟨some x0,.ld (.s x1),some (x2,false)⟩
abbrev Ap (x0 x1 x2:Nat):PR:=⟨some x0,.bin (.i) .lss (.s x1) (.s x2),none⟩
abbrev Aq (x0 x1 x2:Nat):PR:=⟨some x0,.mv (.s x1),some (x2,true)⟩
abbrev Ar (x0 x1 x2 x3:Nat):PR:=⟨some x0,.bad x1 x2,some (x3,false)⟩
abbrev As (x0 x1 x2:Nat):PR:=⟨some x0,.pick (.s x1) (.c (.bool true)) (.s x2),none⟩
abbrev At (x0 x1 x2:Nat):PR:=⟨some x0,.pick (.s x1) (.s x2) (.c (.bool false)),none⟩
abbrev Au (x0 x1 x2:Nat):PR:=⟨some x0,.call x1 [.s x2],none⟩
abbrev Av (x0 x1:Nat) (x2:Int):PR:=⟨some x0,.bin (.i) .neq (.s x1) (.c (.int .i64 x2)),none⟩
abbrev Aw (x0 x1 x2:Nat):PR:=⟨some x0,.mv (.s x1),some (x2,false)⟩
abbrev Ax (x0 x1 x2:Nat):PR:=⟨some x0,.ld (.s x1),some (x2,true)⟩
abbrev Ay (x0 x1:Nat):PR:=⟨some x0,.tk x1,none⟩
abbrev Az (x0 x1:Nat):PR:=⟨some x0,.not (.s x1),none⟩
abbrev Ba (x0 x1 x2 x3:Nat):PR:=⟨some x0,.bad x1 x2,some (x3,true)⟩
abbrev Bb (x0 x1 x2 x3:Nat):PR:=⟨some x0,.app x1 (.s x2) (.s x3),none⟩
abbrev Bc (x0 x1 x2:Nat):PR:=⟨some x0,.len (.s x1),some (x2,false)⟩
abbrev Bd (x0 x1 x2:Nat):PR:=⟨some x0,.alc [⟨true,.list x1 []⟩,⟨true,.list x2 []⟩],none⟩
abbrev Be (x0 x1:Nat) (x2:Int):PR:=⟨some x0,.bin (.i) .eql (.s x1) (.c (.int .i64 x2)),none⟩
abbrev Bf (x0 x1:Nat):PR:=⟨some x0,.nilo x1,none⟩
abbrev Bg (x0 x1 x2 x3 x4:Nat):PR:=⟨some x0,.call x1 [.s x2,.s x3,.s x4],none⟩
abbrev Bh (x0 x1 x2:Nat):PR:=⟨some x0,.lst x1 [.s x2],none⟩
abbrev Bi (x0 x1 x2 x3:Nat):PR:=⟨some x0,.fad (.s x1) x2,some (x3,false)⟩
abbrev Bj (x0 x1 x2:Nat):PR:=⟨none,.st x0 (.s x1) (.s x2),none⟩
abbrev Bk (x0 x1:Nat) (x2:Int):PR:=⟨some x0,.bin (.i) .gtr (.s x1) (.c (.int .i64 x2)),none⟩
abbrev Bm (x0 x1:Nat):PR:=⟨some x0,.ldt (.s x1),none⟩
abbrev Bn (x0 x1 x2:Nat):PR:=⟨some x0,.bin (.i) .add (.s x1) (.s x2),none⟩
abbrev Bo (x0 x1:Nat) (x2:Int):PR:=⟨some x0,.bin (.i) .geq (.s x1) (.c (.int .i64 x2)),none⟩
abbrev Bp (x0 x1 x2 x3:Nat):PR:=⟨some x0,.bin (.i) .geq (.s x1) (.s x2),some (x3,false)⟩
abbrev Bq (x0 x1:Nat) (x2:Int):PR:=⟨some x0,.bin (.i) .lss (.s x1) (.c (.int .i64 x2)),none⟩
abbrev Br (x0 x1 x2:Nat):PR:=⟨some x0,.not (.s x1),some (x2,false)⟩
abbrev Bs (x0 x1:Nat) (x2:Int) (x3:Nat):PR:=⟨some x0,.bin (.i) .gtr (.s x1) (.c (.int .i64 x2)),some (x3,false)⟩
abbrev Bt (x0 x1 x2:Nat):PR:=⟨some x0,.bin (.i) .eql (.s x1) (.s x2),none⟩
abbrev Bu (x0 x1 x2 x3:Nat):PR:=⟨some x0,.fad (.s x1) x2,some (x3,true)⟩
abbrev Bv (x0 x1 x2 x3:Nat) (x4:Int) (x5 x6 x7 x8:Nat) (x9:Int) (x10 x11 x12 x13 x14:Nat) (x15:Int) (x16 x17 x18 x19 x20 x21:Nat) (x22:Int) (x23:Nat):PR:=⟨some x0,.alc [⟨false,.str ⟨#[]⟩⟩,⟨true,.list x1 []⟩,⟨true,.list x2 []⟩,⟨true,.list x3 []⟩,⟨false,.int .i64 x4⟩,⟨true,.list x5 []⟩,⟨true,.list x6 []⟩,⟨true,.list x7 []⟩,⟨true,.list x8 []⟩,⟨false,.int .i64 x9⟩,⟨true,.list x10 []⟩,⟨true,.list x11 []⟩,⟨true,.list x12 []⟩,⟨true,.list x13 []⟩,⟨true,.list x14 []⟩,⟨false,.bool false⟩,⟨false,.int .i64 x15⟩,⟨true,.list x16 []⟩,⟨true,.list x17 []⟩,⟨true,.list x18 []⟩,⟨true,.list x19 []⟩,⟨true,.list x20 []⟩,⟨true,.list x21 []⟩,⟨false,.int .i64 x22⟩,⟨true,.list x23 []⟩],none⟩
abbrev Bw (x0 x1 x2:Nat):PR:=⟨some x0,.callv (.s x1) [.s x2],none⟩
abbrev Bx (x0 x1 x2:Nat):PR:=⟨some x0,.bin (.i) .neq (.s x1) (.s x2),none⟩
abbrev By (x0:Nat) (x1 x2 x3:Int):PR:=⟨some x0,.alc [⟨false,.int .i64 x1⟩,⟨false,.int .i64 x2⟩,⟨false,.int .i64 x3⟩],none⟩
abbrev Bz (x0 x1 x2 x3 x4 x5:Nat):PR:=⟨some x0,.call x1 [.s x2,.s x3,.s x4,.s x5],none⟩
abbrev Ca (x0 x1 x2:Nat):PR:=⟨some x0,.len (.s x1),some (x2,true)⟩
abbrev Cb (x0 x1 x2 x3 x4:Nat):PR:=⟨some x0,.iad (.s x1) (.s x2) x3,some (x4,true)⟩
abbrev Cc (x0 x1 x2 x3:Nat):PR:=⟨some x0,.call x1 [.s x2],some (x3,true)⟩
abbrev Cd (x0:Nat) (x1:Int):PR:=⟨some x0,.mv (.c (.int .i64 (x1))),none⟩
abbrev Ce (x0:Nat):PR:=⟨some x0,.mv (.c (.str ⟨#[]⟩)),none⟩
abbrev Cf (x0 x1 x2:Nat):PR:=⟨some x0,.clo x1 [.s x2],none⟩
abbrev Cg (x0:Nat):PR:=⟨some x0,.mv (.c (.bool true)),none⟩
abbrev Ch (x0 x1 x2 x3 x4:Nat):PR:=⟨some x0,.call x1 [.s x2,.s x3],some (x4,true)⟩
abbrev Ci (x0 x1:Nat) (x2:Int) (x3:Nat):PR:=⟨some x0,.bin (.i) .leq (.s x1) (.c (.int .i64 x2)),some (x3,true)⟩
abbrev Cj (x0 x1:Nat):PR:=⟨some x0,.lst x1 [],none⟩
abbrev Ck (x0 x1 x2 x3 x4 x5 x6 x7 x8:Nat):PR:=⟨some x0,.bld [.list x1 [],.list x2 []] [(x3,x4,.s x5),(x6,x7,.s x8)],none⟩
abbrev Cl (x0 x1 x2 x3:Nat):PR:=⟨some x0,.bin (.i) .eql (.s x1) (.s x2),some (x3,true)⟩
abbrev Cm (x0 x1:Nat):PR:=⟨some x0,.tkx x1,none⟩
abbrev Cn (x0:Nat):PR:=⟨none,.frz x0,none⟩
abbrev Cp (x0 x1:Nat):PR:=⟨some x0,.xal x1,none⟩
abbrev Cq (x0 x1 x2 x3:Nat):PR:=⟨some x0,.lda (.s x1) x2,some (x3,true)⟩
abbrev Cr (x0 x1:Nat):PR:=⟨some x0,.cvt .i64 (.s x1),none⟩
abbrev Cs (x0 x1 x2:Nat):PR:=⟨some x0,.bin (.i) .rem (.s x1) (.s x2),none⟩
abbrev Ct (x0 x1:Nat):PR:=⟨some x0,.slen (.s x1),none⟩
abbrev Cu (x0 x1 x2:Nat):PR:=⟨some x0,.bin (.s) .eql (.s x1) (.s x2),none⟩
abbrev Cv (x0 x1 x2 x3:Nat):PR:=⟨some x0,.bin (.i) .neq (.s x1) (.s x2),some (x3,false)⟩
abbrev Cw (x0 x1 x2 x3 x4:Nat):PR:=⟨some x0,.iad (.s x1) (.s x2) x3,some (x4,false)⟩
abbrev Cx (x0 x1:Nat):PR:=⟨some x0,.call x1 [],none⟩
abbrev Cy (x0 x1:Nat) (x2:Int) (x3 x4:Nat):PR:=⟨some x0,.aad (.s x1) (.c (.int .i64 x2)) x3 x4,none⟩
abbrev Cz (x0 x1:Nat) (x2:Int) (x3:Nat):PR:=⟨some x0,.bin (.i) .leq (.s x1) (.c (.int .u8 x2)),some (x3,true)⟩
abbrev Da (x0 x1 x2 x3:Nat):PR:=⟨some x0,.slc x1 (.s x2) none (some (.s x3)),none⟩
abbrev Db (x0 x1 x2 x3 x4:Nat):PR:=⟨some x0,.call x1 [.s x2,.s x3],some (x4,false)⟩
abbrev Dc (x0 x1:Nat) (x2:Int):PR:=⟨some x0,.bin (.i) .sub (.s x1) (.c (.int .i64 x2)),none⟩
abbrev Dd (x0 x1 x2 x3:Nat):PR:=⟨some x0,.bin (.i) .leq (.s x1) (.s x2),some (x3,true)⟩
abbrev De (x0 x1 x2:Nat):PR:=⟨some x0,.bld [.list x1 [],.list x2 []] [],none⟩
abbrev Df (x0 x1 x2:Nat):PR:=⟨some x0,.bin (.i) .geq (.s x1) (.s x2),none⟩
abbrev Dg (x0 x1:Nat) (x2:Int) (x3:Nat):PR:=⟨some x0,.bin (.i) .lss (.s x1) (.c (.int .i64 (x2))),some (x3,false)⟩
abbrev Dh (x0 x1 x2 x3:Nat):PR:=⟨some x0,.clo x1 [.s x2,.s x3],none⟩
abbrev Di (x0 x1:Nat) (x2:Int) (x3:Nat):PR:=⟨some x0,.bin (.i) .eql (.s x1) (.c (.int .i64 x2)),some (x3,true)⟩
abbrev Dj (x0 x1:Nat) (x2:Int) (x3:Nat):PR:=⟨some x0,.bin (.i) .neq (.s x1) (.c (.int .i64 x2)),some (x3,false)⟩
abbrev Dk (x0 x1:Nat) (x2:Int):PR:=⟨some x0,.bin (.i) .geq (.s x1) (.c (.int .u8 x2)),none⟩
abbrev Dl (x0 x1 x2 x3:Nat):PR:=⟨some x0,.pick (.s x1) (.s x2) (.c (.bool false)),some (x3,false)⟩
abbrev Dm (x0 x1 x2 x3:Nat):PR:=⟨some x0,.call x1 [.s x2],some (x3,false)⟩
abbrev Dn (x0 x1:Nat) (x2:Int) (x3:Nat):PR:=⟨some x0,.bin (.i) .sub (.s x1) (.c (.int .i64 x2)),some (x3,true)⟩
abbrev Do (x0 x1 x2 x3:Nat):PR:=⟨some x0,.xia (.s x1) (.s x2) x3,none⟩
abbrev Dp (x0:Nat) (x1 x2:Int) (x3:Nat):PR:=⟨some x0,.alc [⟨false,.str ⟨#[]⟩⟩,⟨false,.int .i64 x1⟩,⟨false,.int .i64 x2⟩,⟨true,.list x3 []⟩],none⟩
abbrev Dq (x0 x1 x2 x3 x4:Nat):PR:=⟨some x0,.alc [⟨true,.list x1 []⟩,⟨true,.list x2 []⟩,⟨true,.list x3 []⟩,⟨true,.list x4 []⟩],none⟩
abbrev Ds (x0:Nat) (x1 x2 x3:Int) (x4 x5 x6 x7 x8 x9 x10 x11 x12:Nat):PR:=⟨some x0,.bld [.int .i64 x1,.int .i64 x2,.int .i64 x3] [(x4,x5,.s x6),(x7,x8,.s x9),(x10,x11,.s x12)],none⟩
abbrev Dt (x0 x1 x2 x3:Nat) (x4:Int) (x5 x6 x7 x8:Nat):PR:=⟨some x0,.bld [.list x1 [],.list x2 [],.list x3 [],.int .i64 x4,.list x5 []] [(x6,x7,.s x8)],none⟩
abbrev Du (x0 x1 x2 x3:Nat):PR:=⟨some x0,.call x1 [.s x2,.c (.clo x3 [])],none⟩
abbrev Dv (x0:Nat) (x1 x2:Int) (x3 x4:Nat) (x5:Int) (x6 x7 x8:Nat):PR:=⟨some x0,.bld [.int .i64 x1,.str ⟨#[]⟩,.int .i64 x2] [(x3,x4,.c (.int .i64 x5)),(x6,x7,.s x8)],none⟩
abbrev Dw (x0 x1 x2 x3:Nat):PR:=⟨some x0,.bin (.i) .lss (.s x1) (.s x2),some (x3,true)⟩
abbrev Dx (x0 x1 x2 x3:Nat):PR:=⟨some x0,.pick (.s x1) (.c (.bool true)) (.s x2),some (x3,true)⟩
abbrev Dy (x0:Nat) (x1 x2 x3 x4 x5 x6:Int):PR:=⟨some x0,.alc [⟨false,.str ⟨#[]⟩⟩,⟨false,.int .i64 x1⟩,⟨false,.int .i64 x2⟩,⟨false,.int .i64 x3⟩,⟨false,.int .i64 x4⟩,⟨false,.int .i64 x5⟩,⟨false,.int .i64 x6⟩],none⟩
abbrev Dz (x0 x1:Nat):PR:=⟨some x0,.rel x1,none⟩
abbrev Ea (x0 x1 x2:Nat) (x3:Int) (x4:Nat):PR:=⟨some x0,.call x1 [.s x2,.c (.int .i64 x3),.s x4],none⟩
abbrev Eb (x0:Nat) (x1 x2:Int) (x3:Nat):PR:=⟨some x0,.bld [.str ⟨#[]⟩,.int .i64 x1,.int .i64 x2,.list x3 []] [],none⟩
abbrev Ec (x0:Nat) (x1 x2 x3 x4:Int):PR:=⟨some x0,.alc [⟨false,.int .i64 x1⟩,⟨false,.int .i64 x2⟩,⟨false,.int .i64 x3⟩,⟨false,.int .i64 x4⟩],none⟩
abbrev Ed (x0 x1:Nat) (x2:Int) (x3:Nat):PR:=⟨some x0,.bin (.i) .sub (.s x1) (.c (.int .i64 x2)),some (x3,false)⟩
abbrev Ee (x0 x1 x2:Nat):PR:=⟨none,.stx x0 x1 x2,none⟩
abbrev Ef (x0 x1 x2 x3:Nat):PR:=⟨some x0,.bin (.i) .add (.s x1) (.s x2),some (x3,true)⟩
abbrev Eg (x0:Nat) (x1 x2:Int):PR:=⟨some x0,.bld [.int .i64 x1,.str ⟨#[]⟩,.int .i64 x2] [],none⟩
abbrev Eh (x0 x1:Nat) (x2:Int) (x3:Nat):PR:=⟨some x0,.bin (.i) .lss (.s x1) (.c (.int .i64 x2)),some (x3,true)⟩
abbrev Ei (x0 x1:Nat) (x2:Int) (x3:Nat):PR:=⟨some x0,.bin (.i) .gtr (.s x1) (.c (.int .i64 x2)),some (x3,true)⟩
abbrev Ej (x0 x1 x2 x3 x4 x5:Nat):PR:=⟨some x0,.callv (.s x1) [.s x2,.s x3,.c (.clo x4 [])],some (x5,true)⟩
abbrev Ek (x0 x1 x2 x3:Nat):PR:=⟨some x0,.sidx (.s x1) (.s x2),some (x3,true)⟩
abbrev El (x0 x1:Nat) (x2:Int):PR:=⟨some x0,.bin (.i) .eql (.s x1) (.c (.int .u8 x2)),none⟩
abbrev Em (x0 x1 x2:Nat):PR:=⟨some x0,.slen (.s x1),some (x2,true)⟩
abbrev En (x0:Nat) (x1:Int) (x2:Nat):PR:=⟨some x0,.alc [⟨false,.str ⟨#[]⟩⟩,⟨false,.int .i64 x1⟩,⟨false,.bool false⟩,⟨true,.list x2 []⟩],none⟩
abbrev Eo (x0 x1 x2:Nat):PR:=⟨some x0,.bin (.i) .sub (.s x1) (.s x2),none⟩
abbrev Ep (x0 x1 x2:Nat) (x3:Int):PR:=⟨some x0,.call x1 [.s x2,.c (.int .i64 x3)],none⟩
abbrev Eq (x0 x1 x2:Nat):PR:=⟨some x0,.not (.s x1),some (x2,true)⟩
abbrev Er (x0 x1 x2 x3:Nat):PR:=⟨some x0,.lst x1 [.s x2,.s x3],none⟩
abbrev Es (x0 x1 x2 x3 x4 x5:Nat):PR:=⟨some x0,.call x1 [.s x2,.s x3,.s x4],some (x5,true)⟩
abbrev Et (x0 x1 x2 x3:Nat) (x4:Int) (x5:Nat):PR:=⟨some x0,.alc [⟨true,.list x1 []⟩,⟨true,.list x2 []⟩,⟨true,.list x3 []⟩,⟨false,.int .i64 x4⟩,⟨true,.list x5 []⟩],none⟩
abbrev Eu (x0:Nat) (x1:Int):PR:=⟨some x0,.alc [⟨false,.int .i64 x1⟩],none⟩
abbrev Ev (x0:Nat) (x1:Int) (x2 x3 x4 x5 x6 x7:Nat) (x8:Int) (x9 x10 x11:Nat) (x12:Int):PR:=⟨some x0,.bld [.int .i64 x1,.list x2 [],.list x3 [],.list x4 [],.list x5 [],.list x6 [],.list x7 [],.int .i64 x8,.list x9 []] [(x10,x11,.c (.int .i64 x12))],none⟩
abbrev Ew (x0 x1:Nat) (x2:Int) (x3:Nat):PR:=⟨some x0,.lst x1 [.c (.int .i64 x2)],some (x3,true)⟩
abbrev Ey (x0 x1 x2:Nat) (x3:Int) (x4 x5:Nat):PR:=⟨some x0,.call x1 [.s x2,.c (.int .i64 x3),.s x4],some (x5,false)⟩
abbrev Ez (x0 x1:Nat) (x2:Int) (x3:Nat):PR:=⟨some x0,.bin (.i) .geq (.s x1) (.c (.int .u8 x2)),some (x3,false)⟩
abbrev Fa (x0 x1:Nat) (x2:Int) (x3:Nat):PR:=⟨some x0,.bin (.i) .eql (.s x1) (.c (.int .u8 x2)),some (x3,false)⟩
abbrev Fb (x0 x1:Nat) (x2:Int) (x3:Nat):PR:=⟨some x0,.bin (.i) .eql (.s x1) (.c (.int .i64 (x2))),some (x3,true)⟩
abbrev Fc (x0 x1:Nat) (x2:Int) (x3:Nat):PR:=⟨some x0,.bin (.i) .neq (.s x1) (.c (.int .i64 x2)),some (x3,true)⟩
abbrev Fd (x0 x1 x2:Nat) (x3 x4:Int):PR:=⟨some x0,.call x1 [.s x2,.c (.int .i64 x3),.c (.int .i64 x4)],none⟩
abbrev Fe (x0 x1:Nat) (x2:Int) (x3:Nat):PR:=⟨some x0,.bin (.i) .lss (.s x1) (.c (.int .i64 x2)),some (x3,false)⟩
abbrev Ff (x0:Nat) (x1:Int) (x2 x3 x4 x5 x6 x7:Nat) (x8:Int) (x9:Nat):PR:=⟨some x0,.alc [⟨false,.int .i64 x1⟩,⟨true,.list x2 []⟩,⟨true,.list x3 []⟩,⟨true,.list x4 []⟩,⟨true,.list x5 []⟩,⟨true,.list x6 []⟩,⟨true,.list x7 []⟩,⟨false,.int .i64 x8⟩,⟨true,.list x9 []⟩],none⟩
abbrev Fg (x0 x1 x2 x3:Nat) (x4:Int) (x5 x6 x7 x8:Nat) (x9:Int) (x10 x11 x12 x13 x14:Nat) (x15:Int) (x16 x17 x18 x19 x20 x21:Nat) (x22:Int) (x23 x24 x25 x26 x27 x28 x29 x30 x31 x32 x33 x34 x35 x36 x37 x38 x39 x40 x41 x42 x43:Nat):PR:=⟨some x0,.bld [.str ⟨#[]⟩,.list x1 [],.list x2 [],.list x3 [],.int .i64 x4,.list x5 [],.list x6 [],.list x7 [],.list x8 [],.int .i64 x9,.list x10 [],.list x11 [],.list x12 [],.list x13 [],.list x14 [],.bool false,.int .i64 x15,.list x16 [],.list x17 [],.list x18 [],.list x19 [],.list x20 [],.list x21 [],.int .i64 x22,.list x23 []] [(x24,x25,.s x26),(x27,x28,.s x29),(x30,x31,.s x32),(x33,x34,.s x35),(x36,x37,.s x38),(x39,x40,.c (.bool true)),(x41,x42,.s x43)],none⟩
abbrev Fh (x0 x1 x2 x3:Nat) (x4:Int) (x5 x6 x7 x8:Nat) (x9:Int) (x10 x11 x12 x13 x14:Nat) (x15:Int) (x16 x17 x18 x19 x20 x21:Nat) (x22:Int) (x23:Nat):PR:=⟨some x0,.bld [.str ⟨#[]⟩,.list x1 [],.list x2 [],.list x3 [],.int .i64 x4,.list x5 [],.list x6 [],.list x7 [],.list x8 [],.int .i64 x9,.list x10 [],.list x11 [],.list x12 [],.list x13 [],.list x14 [],.bool false,.int .i64 x15,.list x16 [],.list x17 [],.list x18 [],.list x19 [],.list x20 [],.list x21 [],.int .i64 x22,.list x23 []] [],none⟩
abbrev Fi (x0:Nat) (x1 x2 x3:Int) (x4 x5:Nat) (x6:Int) (x7 x8:Nat) (x9:Int) (x10 x11:Nat) (x12:Int):PR:=⟨some x0,.bld [.int .i64 x1,.int .i64 x2,.int .i64 x3] [(x4,x5,.c (.int .i64 x6)),(x7,x8,.c (.int .i64 x9)),(x10,x11,.c (.int .i64 x12))],none⟩
abbrev Fj (x0:Nat) (x1 x2:Int):PR:=⟨some x0,.alc [⟨false,.int .i64 x1⟩,⟨false,.str ⟨#[]⟩⟩,⟨false,.int .i64 x2⟩],none⟩
abbrev Fk (x0 x1 x2 x3:Nat) (x4:Int) (x5:Nat):PR:=⟨some x0,.call x1 [.s x2,.s x3,.c (.int .i64 x4)],some (x5,false)⟩
abbrev Fl (x0 x1 x2 x3:Nat):PR:=⟨some x0,.alc [⟨true,.list x1 []⟩,⟨true,.list x2 []⟩,⟨true,.list x3 []⟩],none⟩
abbrev Fm (x0 x1:Nat) (x2:Int) (x3:Nat):PR:=⟨some x0,.bin (.i) .geq (.s x1) (.c (.int .i64 x2)),some (x3,true)⟩
section
open Go.Proofs.Tryz
abbrev CK (fn:Func) (pl:PC) (rv:List RV):Prop:=okCode prog fn.ntmps (okDraw prog fn.ntmps) pl (fn.body.getD .skip)=true∧okRVs prog fn.results.toList rv=true
theorem Fn {f : FuncId} {fn : Func} {c : Code} {pl : PC} {rv : List RV} {args : List TV} {r : Res} (ck : CK fn pl rv) (h : TV.WFs args → WP (Sound prog) pl ⟨resIs rv r, fun _ _ => False, resIs rv r⟩ (argEnv 0 args)) (hf : prog.funcs[f]? = some fn := by rfl) (hb : fn.body = some c := by rfl) (hname : fn.name ≠ "runtime.NumGoroutine" := by decide) (hn : Nat.ble args.length fn.ntmps = true := by rfl) (hp : r.plain = true := by rfl) : Sound prog f args r := by
  have h1:=ck.1
  rw [hb] at h1
  exact fn_sound (draw_sound Sc.Tryz_follows) hf hb hname h1 ck.2 (Nat.le_of_ble_eq_true hn) hp (fun hw=>(h hw).out)
end
end Go.Sf
