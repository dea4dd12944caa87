/- Shorter names for the steps, and for the shapes of rows. -/
import Derived.Test.YtmaobfbhdkafkaaGreatSfStep
import Derived.Test.YtmaobfbhdkafkaaGreatSfDraw
import Derived.Test.YtmaobfbhdkafkaaGreatSfLib
import Derived.Test.YtmaobfbhdkafkaaGreatTypes
namespace Go.Sf
section
variable {env:Env} {s:Nat} {ss:List Nat} {r:Env}
theorem kn:env.keep []=[]:=rfl
theorem kt {t:TV} (k:env.keep ss=r) (h:env.get s=.tv t:=by rfl):env.keep (s::ss)=(s,.tv t)::r:=keep_tv h k
theorem ko {t:TV} (k:env.keep ss=r) (h:env.get s=.ow t:=by rfl):env.keep (s::ss)=(s,.ow t)::r:=keep_ow h k
theorem kb {t:List Cell} (k:env.keep ss=r) (h:env.get s=.bx t:=by rfl):env.keep (s::ss)=(s,.bx t)::r:=keep_bx h k
theorem kp {q o:Nat} (k:env.keep ss=r) (h:env.get s=.bp q o:=by rfl):env.keep (s::ss)=(s,.bp q o)::r:=keep_bp h k
theorem kq {t:List TV} (k:env.keep ss=r) (h:env.get s=.tp t:=by rfl):env.keep (s::ss)=(s,.tp t)::r:=keep_tp h k
theorem kx {n:Nat} {t:List TV} (k:env.keep ss=r) (h:env.get s=.xo n t:=by rfl):env.keep (s::ss)=(s,.xo n t)::r:=keep_xo h k
theorem kl {q:Nat} {i:Option Nat} (k:env.keep ss=r) (h:env.get s=.la q i:=by rfl):env.keep (s::ss)=(s,.la q i)::r:=keep_la h k
end
theorem B {α:Type} {a:α}:a=a:=rfl
theorem km1 {env:Env} {s0:Nat} {t0:TV} (h0:env.get s0=.tv t0:=by rfl):env.keep [s0]=[(s0,.tv t0)]:=kt kn h0
theorem km2 {env:Env} {s0 s1:Nat} {t0 t1:TV} (h0:env.get s0=.tv t0:=by rfl) (h1:env.get s1=.tv t1:=by rfl):env.keep [s0,s1]=[(s0,.tv t0),(s1,.tv t1)]:=kt (kt kn h1) h0
theorem km3 {env:Env} {s0 s1 s2:Nat} {t0 t1 t2:TV} (h0:env.get s0=.tv t0:=by rfl) (h1:env.get s1=.tv t1:=by rfl) (h2:env.get s2=.tv t2:=by rfl):env.keep [s0,s1,s2]=[(s0,.tv t0),(s1,.tv t1),(s2,.tv t2)]:=kt (kt (kt kn h2) h1) h0
theorem km4 {env:Env} {s0 s1 s2 s3:Nat} {t0 t1 t2 t3:TV} (h0:env.get s0=.tv t0:=by rfl) (h1:env.get s1=.tv t1:=by rfl) (h2:env.get s2=.tv t2:=by rfl) (h3:env.get s3=.tv t3:=by rfl):env.keep [s0,s1,s2,s3]=[(s0,.tv t0),(s1,.tv t1),(s2,.tv t2),(s3,.tv t3)]:=kt (kt (kt (kt kn h3) h2) h1) h0
theorem km5 {env:Env} {s0 s1 s2 s3 s4:Nat} {t0 t1 t2 t3 t4:TV} (h0:env.get s0=.tv t0:=by rfl) (h1:env.get s1=.tv t1:=by rfl) (h2:env.get s2=.tv t2:=by rfl) (h3:env.get s3=.tv t3:=by rfl) (h4:env.get s4=.tv t4:=by rfl):env.keep [s0,s1,s2,s3,s4]=[(s0,.tv t0),(s1,.tv t1),(s2,.tv t2),(s3,.tv t3),(s4,.tv t4)]:=kt (kt (kt (kt (kt kn h4) h3) h2) h1) h0
theorem km6 {env:Env} {s0 s1 s2 s3 s4 s5:Nat} {t0 t1 t2 t3 t4 t5:TV} (h0:env.get s0=.tv t0:=by rfl) (h1:env.get s1=.tv t1:=by rfl) (h2:env.get s2=.tv t2:=by rfl) (h3:env.get s3=.tv t3:=by rfl) (h4:env.get s4=.tv t4:=by rfl) (h5:env.get s5=.tv t5:=by rfl):env.keep [s0,s1,s2,s3,s4,s5]=[(s0,.tv t0),(s1,.tv t1),(s2,.tv t2),(s3,.tv t3),(s4,.tv t4),(s5,.tv t5)]:=kt (kt (kt (kt (kt (kt kn h5) h4) h3) h2) h1) h0
theorem km7 {env:Env} {s0 s1 s2 s3 s4 s5 s6:Nat} {t0 t1 t2 t3 t4 t5 t6:TV} (h0:env.get s0=.tv t0:=by rfl) (h1:env.get s1=.tv t1:=by rfl) (h2:env.get s2=.tv t2:=by rfl) (h3:env.get s3=.tv t3:=by rfl) (h4:env.get s4=.tv t4:=by rfl) (h5:env.get s5=.tv t5:=by rfl) (h6:env.get s6=.tv t6:=by rfl):env.keep [s0,s1,s2,s3,s4,s5,s6]=[(s0,.tv t0),(s1,.tv t1),(s2,.tv t2),(s3,.tv t3),(s4,.tv t4),(s5,.tv t5),(s6,.tv t6)]:=kt (kt (kt (kt (kt (kt (kt kn h6) h5) h4) h3) h2) h1) h0
theorem km8 {env:Env} {s0 s1 s2 s3 s4 s5 s6 s7:Nat} {t0 t1 t2 t3 t4 t5 t6 t7:TV} (h0:env.get s0=.tv t0:=by rfl) (h1:env.get s1=.tv t1:=by rfl) (h2:env.get s2=.tv t2:=by rfl) (h3:env.get s3=.tv t3:=by rfl) (h4:env.get s4=.tv t4:=by rfl) (h5:env.get s5=.tv t5:=by rfl) (h6:env.get s6=.tv t6:=by rfl) (h7:env.get s7=.tv t7:=by rfl):env.keep [s0,s1,s2,s3,s4,s5,s6,s7]=[(s0,.tv t0),(s1,.tv t1),(s2,.tv t2),(s3,.tv t3),(s4,.tv t4),(s5,.tv t5),(s6,.tv t6),(s7,.tv t7)]:=kt (kt (kt (kt (kt (kt (kt (kt kn h7) h6) h5) h4) h3) h2) h1) h0
theorem km9 {env:Env} {s0 s1 s2 s3 s4 s5 s6 s7 s8:Nat} {t0 t1 t2 t3 t4 t5 t6 t7 t8:TV} (h0:env.get s0=.tv t0:=by rfl) (h1:env.get s1=.tv t1:=by rfl) (h2:env.get s2=.tv t2:=by rfl) (h3:env.get s3=.tv t3:=by rfl) (h4:env.get s4=.tv t4:=by rfl) (h5:env.get s5=.tv t5:=by rfl) (h6:env.get s6=.tv t6:=by rfl) (h7:env.get s7=.tv t7:=by rfl) (h8:env.get s8=.tv t8:=by rfl):env.keep [s0,s1,s2,s3,s4,s5,s6,s7,s8]=[(s0,.tv t0),(s1,.tv t1),(s2,.tv t2),(s3,.tv t3),(s4,.tv t4),(s5,.tv t5),(s6,.tv t6),(s7,.tv t7),(s8,.tv t8)]:=kt (kt (kt (kt (kt (kt (kt (kt (kt kn h8) h7) h6) h5) h4) h3) h2) h1) h0
theorem km10 {env:Env} {s0 s1 s2 s3 s4 s5 s6 s7 s8 s9:Nat} {t0 t1 t2 t3 t4 t5 t6 t7 t8 t9:TV} (h0:env.get s0=.tv t0:=by rfl) (h1:env.get s1=.tv t1:=by rfl) (h2:env.get s2=.tv t2:=by rfl) (h3:env.get s3=.tv t3:=by rfl) (h4:env.get s4=.tv t4:=by rfl) (h5:env.get s5=.tv t5:=by rfl) (h6:env.get s6=.tv t6:=by rfl) (h7:env.get s7=.tv t7:=by rfl) (h8:env.get s8=.tv t8:=by rfl) (h9:env.get s9=.tv t9:=by rfl):env.keep [s0,s1,s2,s3,s4,s5,s6,s7,s8,s9]=[(s0,.tv t0),(s1,.tv t1),(s2,.tv t2),(s3,.tv t3),(s4,.tv t4),(s5,.tv t5),(s6,.tv t6),(s7,.tv t7),(s8,.tv t8),(s9,.tv t9)]:=kt (kt (kt (kt (kt (kt (kt (kt (kt (kt kn h9) h8) h7) h6) h5) h4) h3) h2) h1) h0
def GjGo:List Nat->Env->(Env->Prop)->Prop
  | [],z,K=>K z
  | k::ks,z,K=>∃ j,GjGo ks ((k,j)::z) K
def Gj (js:List Nat) (d:Nat) (v:TV) (z e:Env):Prop:=GjGo js z fun y=>e=(d,.tv v)::y
theorem gA {S:FuncId->List TV->Res->Prop} {K:Env->Prop} {ops:List PR} {env:Env} (n:Nat) (js:List Nat) (d:Nat) (c e:Bool) (h1:c=true->WO S (Gj js d (.bool e) env) (ops.take n) env) (h2:c=false->WO S (Gj js d (.bool false) env) (ops.take n) env) (h:∀ z,Gj js d (.bool (c&&e)) env z->WO S K (ops.drop n) z):WO S K ops env:=by
  refine g_cut n (Gj js d (.bool (c&&e))) ?_ h
  cases c
  · exact h2 rfl
  · exact h1 rfl
theorem gO {S:FuncId->List TV->Res->Prop} {K:Env->Prop} {ops:List PR} {env:Env} (n:Nat) (js:List Nat) (d:Nat) (c e:Bool) (h1:c=true->WO S (Gj js d (.bool true) env) (ops.take n) env) (h2:c=false->WO S (Gj js d (.bool e) env) (ops.take n) env) (h:∀ z,Gj js d (.bool (c||e)) env z->WO S K (ops.drop n) z):WO S K ops env:=by
  refine g_cut n (Gj js d (.bool (c||e))) ?_ h
  cases c
  · exact h2 rfl
  · exact h1 rfl
theorem gX {S:FuncId->List TV->Res->Prop} {K:Env->Prop} {ops:List PR} {env:Env} (n:Nat) (js:List Nat) (d:Nat) (x c:Bool) (h1:c=true->WO S (Gj js d (.bool x) env) (ops.take n) env) (h2:c=false->WO S (Gj js d (.bool x) env) (ops.take n) env) (h:∀ z,Gj js d (.bool x) env z->WO S K (ops.drop n) z):WO S K ops env:=by
  refine g_cut n (Gj js d (.bool x)) ?_ h
  cases c
  · exact h2 rfl
  · exact h1 rfl
abbrev D:=@s_mv
abbrev E:=@c_seq
abbrev F:=@s_end
abbrev G:=@c_reg
abbrev H:=@g_on
abbrev I:=@g_off
abbrev J:=@bind_some
abbrev K:=@s_ld
abbrev L:=@c_ret
abbrev M:=@s_lda
abbrev O:=@s_bad
abbrev R:=@ite_t
abbrev S:=@ite_f
abbrev T:=@c_skip
abbrev U:=@c_cond
abbrev V:=@s_call
abbrev W:=@s_len
abbrev X:=@s_boxs
abbrev Y:=@s_lss
abbrev Z:=@wf_tv
abbrev a2:=@s_iad
abbrev a3:=@g_cut
abbrev a4:=@s_pickt
abbrev a5:=@s_pickf
abbrev a6:=@s_stb
abbrev a7:=@s_badb
abbrev a8:=@s_add
abbrev a9:=@s_neq
abbrev b2:=@s_eql
abbrev b3:=@c_block
abbrev b4:=@s_ext
abbrev b5:=@s_fadb
abbrev b6:=@s_alc
abbrev b7:=@wsucc
abbrev b8:=@c_exit
abbrev b9:=@wf_int
abbrev d0:=@c_condf
abbrev d1:=@c_condt
abbrev d2:=@dlt
abbrev d3:=@dnlt
abbrev d4:=@s_not
abbrev d5:=@s_fad
abbrev d6:=@thenR_some
abbrev d7:=@thenR_l
abbrev d8:=@thenR_r
abbrev d9:=@wp_forR
abbrev e0:=@c_draw
abbrev e1:=@s_geq
abbrev e2:=@s_bld
abbrev e3:=@s_nilo
abbrev e4:=@s_lst
abbrev e5:=@s_mvp
abbrev e6:=@and_t
abbrev e7:=@and_f
abbrev e8:=@s_callp
abbrev e9:=@s_tk
abbrev f1:=@or_f
abbrev f2:=@g_sk
abbrev f3:=@s_gtr
abbrev f4:=@s_xal
abbrev f5:=@s_bldf
abbrev f6:=@s_app
abbrev f7:=@s_leq
abbrev f8:=@s_tkt
abbrev g0:=@s_callv
abbrev g1:=@s_clo
abbrev g2:=@wp_forA
abbrev g3:=@s_tkx
abbrev g4:=@wf_lenE
abbrev g5:=@s_lsto
abbrev g6:=@s_sub
abbrev g7:=@s_xia
abbrev g8:=@c_cut
abbrev g9:=@s_xst
abbrev l0:=@s_calll
abbrev l1:=@s_callo
abbrev l2:=@s_lac
abbrev l3:=@s_frz
abbrev l4:=@s_isn
abbrev l5:=@s_xlen
abbrev l6:=@s_rel
abbrev l7:=@s_aneq
abbrev l8:=@wfs_get
abbrev l9:=@wf_pt
abbrev m0:=@wp_whR
abbrev m1:=@s_seql
abbrev m2:=@clone_h
abbrev m3:=@s_mkx
abbrev m4:=@s_ctk
abbrev m5:=@s_cpt
abbrev m6:=@s_slen
abbrev m7:=@s_appx
abbrev m8:=@s_slc
abbrev m9:=@wf_ow
abbrev p0:=@s_sidx
abbrev p1:=@s_nilx
abbrev p2:=@s_xld
abbrev p3:=@s_max
abbrev p4:=@s_callxf
abbrev p5:=@s_cvt
abbrev p6:=@ex_hit
abbrev p7:=@s_callb
abbrev p8:=@s_cut
abbrev p9:=@s_sslc
abbrev q0:=@s_sadd
abbrev q1:=@s_callx
abbrev q2:=@s_xfa
abbrev q3:=@s_callm
abbrev q4:=@s_boxo
abbrev q5:=@s_bit
abbrev q6:=@s_callvp
abbrev q7:=@s_ldt
abbrev q8:=@s_calllo
abbrev q9:=@s_sto
abbrev t0:=@s_calllp
abbrev t1:=@s_callw
abbrev t2:=@s_beql
abbrev t3:=@s_callc
abbrev t4:=@s_callf
abbrev t5:=@s_aeql
abbrev t6:=@ex_miss
abbrev t7:=@s_boxp
abbrev t8:=@s_appz
abbrev t9:=@s_bldo
abbrev u0:=@s_stx
abbrev u1:=@s_callh
abbrev u2:=@s_st
abbrev u3:=@s_bneq
abbrev Ktv:=@keep_tv
abbrev Kow:=@keep_ow
abbrev Kbx:=@keep_bx
abbrev Kxo:=@keep_xo
abbrev Knil:=@keep_nil
abbrev Rq (o:List PR) (l:List Nat) (b:PC):PC:=.seq (.region o l) b
abbrev Sq (a b:PC):PC:=.seq a b
abbrev Re (o:List PR) (l:List Nat):PC:=.region o l
abbrev Dr (d:List Nat) (o:List PR) (l:List Nat):PC:=.draw d o l
abbrev Sk (l:List Nat):PC:=.skip l
abbrev Ex (i:Nat) (l:List Nat):PC:=.exit i l
abbrev Co (c:Nat) (a b:PC):PC:=.cond (.s c) a b
abbrev Bl (i:Nat) (a:PC):PC:=.block i a
abbrev Lo (l:List Nat) (a:PC):PC:=.loop l a
abbrev Aa (x0 x1:Nat):PR:=⟨some x0,.mv (.s x1),none⟩
abbrev Ab (x0 x1:Nat):PR:=⟨some x0,.ld (.s x1),none⟩
abbrev Ac (x0 x1 x2:Nat):PR:=⟨some x0,.bad x1 x2,none⟩
abbrev Ad (x0 x1 x2:Nat):PR:=⟨some x0,.lda (.s x1) x2,none⟩
abbrev Ae (x0:Nat) (x1:Int):PR:=⟨some x0,.mv (.c (.int .i64 x1)),none⟩
abbrev Af (x0 x1:Nat):PR:=⟨some x0,.boxs (.s x1),none⟩
abbrev Ag (x0 x1:Nat):PR:=⟨some x0,.len (.s x1),none⟩
abbrev Ah (x0:Nat):PR:=⟨some x0,.mv (.c (.bool false)),none⟩
abbrev Ai (x0 x1 x2:Nat):PR:=⟨some x0,.fad (.s x1) x2,none⟩
abbrev Aj (x0 x1 x2:Nat):PR:=⟨none,.stb x0 x1 (.s x2),none⟩
abbrev Ak (x0 x1 x2 x3:Nat):PR:=⟨some x0,.iad (.s x1) (.s x2) x3,none⟩
abbrev Al (x0 x1 x2:Nat):PR:=⟨some x0,.ext (.s x1) x2,none⟩
abbrev Am (x0 x1 x2:Nat):PR:=⟨some x0,.bin (.i) .lss (.s x1) (.s x2),none⟩
abbrev An (x0 x1:Nat) (x2:Int):PR:=⟨some x0,.bin (.i) .add (.s x1) (.c (.int .i64 x2)),none⟩
abbrev Ao (x0 x1 x2:Nat):PR:=⟨some x0,.pick (.s x1) (.s x2) (.c (.bool false)),none⟩
abbrev Ap (x0 x1 x2 x3:Nat):PR:=⟨some x0,.call x1 [.s x2,.s x3],none⟩
abbrev Aq (x0 x1 x2 x3:Nat):PR:=⟨some x0,.bad x1 x2,some (x3,false)⟩
abbrev Ar (x0 x1:Nat) (x2:Int):PR:=⟨some x0,.bin (.i) .eql (.s x1) (.c (.int .i64 x2)),none⟩
abbrev As (x0 x1 x2:Nat):PR:=⟨some x0,.ld (.s x1),some (x2,false)⟩
abbrev At (x0 x1 x2:Nat):PR:=⟨some x0,.pick (.s x1) (.c (.bool true)) (.s x2),none⟩
abbrev Au (x0 x1 x2:Nat):PR:=⟨some x0,.call x1 [.s x2],none⟩
abbrev Av (x0 x1 x2 x3:Nat):PR:=⟨some x0,.bad x1 x2,some (x3,true)⟩
abbrev Aw (x0 x1 x2:Nat):PR:=⟨some x0,.ld (.s x1),some (x2,true)⟩
abbrev Ax (x0 x1:Nat) (x2:Int):PR:=⟨some x0,.bin (.i) .neq (.s x1) (.c (.int .i64 x2)),none⟩
abbrev Ay (x0 x1:Nat):PR:=⟨some x0,.tk x1,none⟩
abbrev Az (x0 x1 x2:Nat):PR:=⟨some x0,.mv (.s x1),some (x2,true)⟩
abbrev Ba (x0 x1:Nat):PR:=⟨some x0,.nilo x1,none⟩
abbrev Bb (x0 x1:Nat):PR:=⟨some x0,.not (.s x1),none⟩
abbrev Bc (x0 x1 x2:Nat):PR:=⟨some x0,.mv (.s x1),some (x2,false)⟩
abbrev Bd (x0 x1 x2:Nat):PR:=⟨some x0,.bin (.i) .neq (.s x1) (.s x2),none⟩
abbrev Be (x0 x1 x2 x3:Nat):PR:=⟨some x0,.lda (.s x1) x2,some (x3,true)⟩
abbrev Bf (x0:Nat) (x1:Int) (x2 x3 x4 x5 x6 x7:Nat) (x8:Int) (x9:Nat):PR:=⟨some x0,.alc [⟨false,.int .i64 x1⟩,⟨true,.list x2 []⟩,⟨true,.list x3 []⟩,⟨true,.list x4 []⟩,⟨true,.list x5 []⟩,⟨true,.list x6 []⟩,⟨true,.list x7 []⟩,⟨false,.int .i64 x8⟩,⟨true,.list x9 []⟩],none⟩
abbrev Bg (x0 x1 x2 x3 x4:Nat):PR:=⟨some x0,.call x1 [.s x2,.s x3,.s x4],none⟩
abbrev Bh (x0 x1 x2:Nat):PR:=⟨some x0,.lst x1 [.s x2],none⟩
abbrev Bi (x0 x1:Nat) (x2:Int):PR:=⟨some x0,.bin (.i) .geq (.s x1) (.c (.int .i64 x2)),none⟩
abbrev Bj (x0 x1 x2:Nat):PR:=⟨some x0,.len (.s x1),some (x2,false)⟩
abbrev Bk (x0 x1 x2 x3:Nat):PR:=⟨some x0,.lda (.s x1) x2,some (x3,false)⟩
abbrev Bm (x0:Nat) (x1:Int):PR:=⟨some x0,.mv (.c (.int .i64 (x1))),none⟩
abbrev Bn (x0 x1 x2:Nat):PR:=⟨some x0,.not (.s x1),some (x2,false)⟩
abbrev Bo (x0 x1:Nat):PR:=⟨some x0,.xal x1,none⟩
abbrev Bp (x0:Nat):PR:=⟨some x0,.mv (.c (.bool true)),none⟩
abbrev Bq (x0 x1 x2 x3:Nat):PR:=⟨some x0,.app x1 (.s x2) (.s x3),none⟩
abbrev Br (x0 x1:Nat):PR:=⟨some x0,.call x1 [],none⟩
abbrev Bs (x0 x1 x2 x3:Nat):PR:=⟨some x0,.fad (.s x1) x2,some (x3,false)⟩
abbrev Bt (x0 x1 x2:Nat):PR:=⟨some x0,.bin (.i) .add (.s x1) (.s x2),none⟩
abbrev Bu (x0 x1:Nat) (x2:Int):PR:=⟨some x0,.bin (.i) .gtr (.s x1) (.c (.int .i64 x2)),none⟩
abbrev Bv (x0 x1 x2 x3 x4:Nat):PR:=⟨some x0,.call x1 [.s x2,.s x3],some (x4,false)⟩
abbrev Bw (x0 x1:Nat):PR:=⟨some x0,.tkx x1,none⟩
abbrev Bx (x0 x1 x2:Nat):PR:=⟨some x0,.callv (.s x1) [.s x2],none⟩
abbrev By (x0 x1:Nat) (x2:Int) (x3:Nat):PR:=⟨some x0,.iad (.s x1) (.c (.int .i64 x2)) x3,none⟩
abbrev Bz (x0 x1:Nat) (x2:Int) (x3:Nat):PR:=⟨some x0,.bin (.i) .eql (.s x1) (.c (.int .i64 x2)),some (x3,true)⟩
abbrev Ca (x0 x1 x2 x3:Nat):PR:=⟨some x0,.call x1 [.s x2],some (x3,true)⟩
abbrev Cb (x0 x1 x2 x3:Nat):PR:=⟨some x0,.bin (.i) .neq (.s x1) (.s x2),some (x3,false)⟩
abbrev Cc (x0 x1 x2 x3:Nat):PR:=⟨some x0,.fad (.s x1) x2,some (x3,true)⟩
abbrev Cd (x0 x1 x2 x3 x4:Nat):PR:=⟨some x0,.call x1 [.s x2,.s x3],some (x4,true)⟩
abbrev Ce (x0 x1 x2:Nat):PR:=⟨some x0,.clo x1 [.s x2],none⟩
abbrev Cf (x0 x1 x2:Nat):PR:=⟨some x0,.len (.s x1),some (x2,true)⟩
abbrev Cg (x0:Nat) (x1:Int) (x2 x3 x4 x5:Nat):PR:=⟨some x0,.alc [⟨false,.int .i64 x1⟩,⟨true,.list x2 []⟩,⟨true,.list x3 []⟩,⟨true,.list x4 []⟩,⟨true,.list x5 []⟩],none⟩
abbrev Ch (x0:Nat) (x1:Int) (x2 x3 x4 x5:Nat):PR:=⟨some x0,.bld [.int .i64 x1,.list x2 [],.list x3 [],.list x4 [],.list x5 []] [],none⟩
abbrev Ci (x0 x1 x2 x3:Nat):PR:=⟨some x0,.bin (.i) .geq (.s x1) (.s x2),some (x3,false)⟩
abbrev Cj (x0 x1 x2 x3:Nat):PR:=⟨some x0,.xia (.s x1) (.s x2) x3,none⟩
abbrev Ck (x0 x1 x2 x3 x4 x5 x6 x7 x8:Nat):PR:=⟨some x0,.bld [.list x1 [],.list x2 []] [(x3,x4,.s x5),(x6,x7,.s x8)],none⟩
abbrev Cl (x0 x1 x2:Nat):PR:=⟨some x0,.alc [⟨true,.list x1 []⟩,⟨true,.list x2 []⟩],none⟩
abbrev Cm (x0 x1:Nat) (x2:Int) (x3:Nat):PR:=⟨some x0,.bin (.i) .leq (.s x1) (.c (.int .i64 x2)),some (x3,true)⟩
abbrev Cn (x0 x1:Nat) (x2:Int):PR:=⟨some x0,.bin (.i) .lss (.s x1) (.c (.int .i64 x2)),none⟩
abbrev Cp (x0 x1 x2 x3 x4:Nat):PR:=⟨some x0,.iad (.s x1) (.s x2) x3,some (x4,false)⟩
abbrev Cq (x0 x1 x2:Nat):PR:=⟨some x0,.bin (.i) .geq (.s x1) (.s x2),none⟩
abbrev Cr (x0:Nat) (x1 x2 x3:Int):PR:=⟨some x0,.alc [⟨false,.int .i64 x1⟩,⟨false,.int .i64 x2⟩,⟨false,.int .i64 x3⟩],none⟩
abbrev Cs (x0 x1 x2 x3:Nat):PR:=⟨some x0,.lst x1 [.s x2,.s x3],none⟩
abbrev Ct (x0 x1:Nat) (x2:Int):PR:=⟨some x0,.lst x1 [.c (.int .i64 x2)],none⟩
abbrev Cu (x0 x1 x2:Nat):PR:=⟨some x0,.bin (.i) .eql (.s x1) (.s x2),none⟩
abbrev Cv (x0:Nat):PR:=⟨some x0,.mv (.c (.str ⟨#[]⟩)),none⟩
abbrev Cw (x0 x1:Nat) (x2:Int) (x3:Nat):PR:=⟨some x0,.bin (.i) .gtr (.s x1) (.c (.int .i64 x2)),some (x3,false)⟩
abbrev Cx (x0 x1:Nat):PR:=⟨some x0,.isn (.s x1),none⟩
abbrev Cy (x0 x1:Nat):PR:=⟨some x0,.xlen (.s x1),none⟩
abbrev Cz (x0 x1:Nat):PR:=⟨some x0,.rel x1,none⟩
abbrev Da (x0 x1 x2 x3:Nat) (x4:Int) (x5:Nat):PR:=⟨some x0,.alc [⟨true,.list x1 []⟩,⟨true,.list x2 []⟩,⟨true,.list x3 []⟩,⟨false,.int .i64 x4⟩,⟨true,.list x5 []⟩],none⟩
abbrev Db (x0 x1 x2:Nat):PR:=⟨some x0,.not (.s x1),some (x2,true)⟩
abbrev Dc (x0 x1 x2 x3 x4 x5:Nat):PR:=⟨some x0,.call x1 [.s x2,.s x3,.s x4,.s x5],none⟩
abbrev Dd (x0 x1:Nat):PR:=⟨some x0,.lac (.s x1),none⟩
abbrev De (x0 x1 x2 x3:Nat):PR:=⟨some x0,.pick (.s x1) (.s x2) (.c (.bool false)),some (x3,false)⟩
abbrev Df (x0 x1 x2 x3:Nat):PR:=⟨some x0,.call x1 [.s x2],some (x3,false)⟩
abbrev Dg (x0 x1 x2 x3:Nat):PR:=⟨some x0,.bin (.i) .eql (.s x1) (.s x2),some (x3,true)⟩
abbrev Dh (x0:Nat):PR:=⟨none,.frz x0,none⟩
abbrev Di (x0 x1:Nat):PR:=⟨some x0,.lst x1 [],none⟩
abbrev Dj (x0 x1:Nat) (x2:Int):PR:=⟨some x0,.bin (.i) .sub (.s x1) (.c (.int .i64 x2)),none⟩
abbrev Dk (x0:Nat):PR:=⟨none,.xst (.s x0) (.c (.bool true)),none⟩
abbrev Dl (x0 x1:Nat) (x2:Int) (x3 x4:Nat):PR:=⟨some x0,.iad (.s x1) (.c (.int .i64 x2)) x3,some (x4,true)⟩
abbrev Dm (x0:Nat) (x1 x2 x3:Int) (x4 x5:Nat) (x6:Int) (x7 x8:Nat) (x9:Int):PR:=⟨some x0,.bld [.int .i64 x1,.int .i64 x2,.int .i64 x3] [(x4,x5,.c (.int .i64 x6)),(x7,x8,.c (.int .i64 x9))],none⟩
abbrev Dn (x0 x1:Nat) (x2:Int) (x3:Nat):PR:=⟨some x0,.bin (.i) .leq (.s x1) (.c (.int .u8 x2)),some (x3,true)⟩
abbrev Do (x0 x1 x2 x3:Nat):PR:=⟨some x0,.call x1 [.s x2,.c (.clo x3 [])],none⟩
abbrev Dp (x0 x1 x2:Nat):PR:=⟨some x0,.bin (.s) .eql (.s x1) (.s x2),none⟩
abbrev Dq (x0 x1 x2 x3:Nat):PR:=⟨some x0,.appx x1 x2 (.s x3),none⟩
abbrev Ds (x0 x1 x2 x3:Nat):PR:=⟨some x0,.slc x1 (.s x2) none (some (.s x3)),none⟩
abbrev Dt (x0 x1 x2:Nat):PR:=⟨some x0,.bin (.i) .sub (.s x1) (.s x2),none⟩
abbrev Du (x0 x1:Nat):PR:=⟨none,.xst (.s x0) (.s x1),none⟩
abbrev Dv (x0 x1 x2:Nat):PR:=⟨some x0,.mkx x1 [.bool false] (.s x2),none⟩
abbrev Dw (x0:Nat) (x1 x2 x3 x4:Int):PR:=⟨some x0,.alc [⟨false,.int .i64 x1⟩,⟨false,.int .i64 x2⟩,⟨false,.int .i64 x3⟩,⟨false,.int .i64 x4⟩],none⟩
abbrev Dx (x0 x1 x2 x3:Nat):PR:=⟨some x0,.calll x1 [.s x2,.s x3],none⟩
abbrev Dy (x0 x1:Nat):PR:=⟨some x0,.ctk (.s x1),none⟩
abbrev Dz (x0 x1:Nat):PR:=⟨none,.cpt (.s x0) x1,none⟩
abbrev Ea (x0 x1 x2 x3 x4 x5 x6 x7 x8 x9:Nat):PR:=⟨some x0,.bld [.list x1 [],.list x2 [],.list x3 []] [(x4,x5,.s x6),(x7,x8,.s x9)],none⟩
abbrev Eb (x0 x1 x2 x3:Nat):PR:=⟨some x0,.alc [⟨true,.list x1 []⟩,⟨true,.list x2 []⟩,⟨true,.list x3 []⟩],none⟩
abbrev Ec (x0 x1:Nat) (x2 x3:Int):PR:=⟨some x0,.lst x1 [.c (.int .i64 x2),.c (.int .i64 x3)],none⟩
abbrev Ed (x0:Nat) (x1 x2:Int) (x3 x4:Nat) (x5:Int):PR:=⟨some x0,.bld [.int .i64 x1,.int .i64 x2] [(x3,x4,.c (.int .i64 x5))],none⟩
abbrev Ee (x0 x1:Nat):PR:=⟨some x0,.mv (.c (.clo x1 [])),none⟩
abbrev Ef (x0 x1:Nat) (x2:Int):PR:=⟨some x0,.bin (.i) .geq (.s x1) (.c (.int .u8 x2)),none⟩
abbrev Eg (x0 x1 x2 x3:Nat):PR:=⟨some x0,.callx x1 [.s x2,.s x3],none⟩
abbrev Eh (x0 x1 x2 x3:Nat):PR:=⟨some x0,.bin (.i) .leq (.s x1) (.s x2),some (x3,true)⟩
abbrev Ei (x0 x1:Nat) (x2:Int) (x3:Nat):PR:=⟨some x0,.bin (.i) .sub (.s x1) (.c (.int .i64 x2)),some (x3,true)⟩
abbrev Ej (x0 x1 x2 x3:Nat):PR:=⟨some x0,.bin (.i) .lss (.s x1) (.s x2),some (x3,true)⟩
abbrev Ek (x0 x1 x2:Nat) (x3:Int):PR:=⟨some x0,.call x1 [.s x2,.c (.int .i64 x3)],none⟩
abbrev El (x0:Nat) (x1 x2:Int) (x3:Nat):PR:=⟨some x0,.alc [⟨false,.str ⟨#[]⟩⟩,⟨false,.int .i64 x1⟩,⟨false,.int .i64 x2⟩,⟨true,.list x3 []⟩],none⟩
abbrev Em (x0:Nat) (x1 x2 x3 x4 x5:Int):PR:=⟨some x0,.alc [⟨false,.int .i64 x1⟩,⟨false,.int .i64 x2⟩,⟨false,.int .i64 x3⟩,⟨false,.int .i64 x4⟩,⟨false,.int .i64 x5⟩],none⟩
abbrev En (x0 x1 x2:Nat):PR:=⟨some x0,.mm true (.s x1) (.s x2),none⟩
abbrev Eo (x0:Nat) (x1:Int):PR:=⟨some x0,.mv (.c (.int .u64 x1)),none⟩
abbrev Ep (x0 x1 x2 x3 x4 x5 x6:Nat):PR:=⟨some x0,.call x1 [.s x2,.s x3,.s x4,.s x5,.s x6],none⟩
abbrev Eq (x0 x1 x2:Nat):PR:=⟨some x0,.calll x1 [.s x2],none⟩
abbrev Er (x0 x1 x2 x3:Nat):PR:=⟨some x0,.callb x1 [.s x2] x3,none⟩
abbrev Es (x0 x1 x2:Nat):PR:=⟨none,.st x0 (.s x1) (.s x2),none⟩
abbrev Et (x0 x1 x2 x3 x4 x5 x6 x7:Nat):PR:=⟨some x0,.call x1 [.s x2,.s x3,.s x4,.s x5,.s x6,.s x7],none⟩
abbrev Eu (x0:Nat) (x1:Int) (x2 x3 x4 x5 x6 x7:Nat) (x8:Int) (x9 x10 x11:Nat) (x12:Int):PR:=⟨some x0,.bld [.int .i64 x1,.list x2 [],.list x3 [],.list x4 [],.list x5 [],.list x6 [],.list x7 [],.int .i64 x8,.list x9 []] [(x10,x11,.c (.int .i64 x12))],none⟩
abbrev Ev (x0:Nat) (x1:Int) (x2 x3 x4 x5 x6 x7:Nat) (x8:Int) (x9 x10 x11:Nat) (x12:Int) (x13 x14 x15:Nat):PR:=⟨some x0,.bld [.int .i64 x1,.list x2 [],.list x3 [],.list x4 [],.list x5 [],.list x6 [],.list x7 [],.int .i64 x8,.list x9 []] [(x10,x11,.c (.int .i64 x12)),(x13,x14,.s x15)],none⟩
abbrev Ew (x0:Nat) (x1:Int) (x2:Nat):PR:=⟨some x0,.alc [⟨false,.str ⟨#[]⟩⟩,⟨false,.int .i64 x1⟩,⟨false,.bool false⟩,⟨true,.list x2 []⟩],none⟩
abbrev Ey (x0 x1 x2 x3:Nat):PR:=⟨some x0,.pick (.s x1) (.c (.bool true)) (.s x2),some (x3,true)⟩
abbrev Ez (x0:Nat) (x1 x2 x3 x4 x5 x6:Int):PR:=⟨some x0,.alc [⟨false,.str ⟨#[]⟩⟩,⟨false,.int .i64 x1⟩,⟨false,.int .i64 x2⟩,⟨false,.int .i64 x3⟩,⟨false,.int .i64 x4⟩,⟨false,.int .i64 x5⟩,⟨false,.int .i64 x6⟩],none⟩
abbrev Fa (x0:Nat) (x1 x2:Int) (x3:Nat):PR:=⟨some x0,.bld [.str ⟨#[]⟩,.int .i64 x1,.int .i64 x2,.list x3 []] [],none⟩
abbrev Fb (x0 x1:Nat) (x2:Int) (x3:Nat):PR:=⟨some x0,.bin (.i) .eql (.s x1) (.c (.int .i64 x2)),some (x3,false)⟩
abbrev Fc (x0:Nat) (x1:Int) (x2 x3 x4 x5 x6 x7 x8 x9 x10 x11:Nat):PR:=⟨some x0,.bld [.int .i64 x1,.list x2 [],.list x3 [],.list x4 [],.list x5 []] [(x6,x7,.s x8),(x9,x10,.s x11)],none⟩
abbrev Fd (x0 x1:Nat) (x2:Int) (x3:Nat):PR:=⟨some x0,.bin (.i) .neq (.s x1) (.c (.int .i64 x2)),some (x3,false)⟩
abbrev Fe (x0 x1:Nat) (x2:Int) (x3:Nat):PR:=⟨some x0,.bin (.i) .geq (.s x1) (.c (.int .i64 x2)),some (x3,true)⟩
abbrev Ff (x0 x1 x2 x3:Nat) (x4:Int) (x5:Nat) (x6:Int) (x7 x8 x9 x10 x11 x12:Nat) (x13:Int) (x14:Nat):PR:=⟨some x0,.alc [⟨true,.list x1 []⟩,⟨true,.list x2 []⟩,⟨true,.list x3 []⟩,⟨false,.int .i64 x4⟩,⟨true,.list x5 []⟩,⟨false,.int .i64 x6⟩,⟨true,.list x7 []⟩,⟨true,.list x8 []⟩,⟨true,.list x9 []⟩,⟨true,.list x10 []⟩,⟨true,.list x11 []⟩,⟨true,.list x12 []⟩,⟨false,.int .i64 x13⟩,⟨true,.list x14 []⟩],none⟩
abbrev Fg (x0 x1:Nat) (x2 x3 x4:Int):PR:=⟨some x0,.lst x1 [.c (.int .i64 x2),.c (.int .i64 x3),.c (.int .i64 x4)],none⟩
abbrev Fh (x0:Nat) (x1 x2 x3 x4:Int) (x5 x6:Nat) (x7:Int) (x8 x9 x10:Nat):PR:=⟨some x0,.bld [.int .i64 x1,.int .i64 x2,.int .i64 x3,.int .i64 x4] [(x5,x6,.c (.int .i64 x7)),(x8,x9,.s x10)],none⟩
abbrev Fi (x0:Nat) (x1:Int) (x2 x3 x4 x5 x6 x7:Nat) (x8:Int) (x9 x10 x11:Nat) (x12:Int) (x13 x14 x15 x16 x17 x18 x19 x20 x21:Nat):PR:=⟨some x0,.bld [.int .i64 x1,.list x2 [],.list x3 [],.list x4 [],.list x5 [],.list x6 [],.list x7 [],.int .i64 x8,.list x9 []] [(x10,x11,.c (.int .i64 x12)),(x13,x14,.s x15),(x16,x17,.s x18),(x19,x20,.s x21)],none⟩
abbrev Fj (x0 x1 x2 x3 x4 x5 x6:Nat):PR:=⟨some x0,.call x1 [.s x2,.s x3,.s x4,.s x5,.s x6,.c (.bool true)],none⟩
abbrev Fk (x0 x1 x2 x3 x4 x5 x6 x7:Nat):PR:=⟨some x0,.bin (.a [x1,x2,x3,x4,x5]) .neq (.s x6) (.s x7),none⟩
abbrev Fl (x0:Nat) (x1:Int) (x2 x3 x4 x5 x6 x7:Nat) (x8:Int) (x9 x10 x11 x12 x13 x14 x15:Nat):PR:=⟨some x0,.bld [.int .i64 x1,.list x2 [],.list x3 [],.list x4 [],.list x5 [],.list x6 [],.list x7 [],.int .i64 x8,.list x9 []] [(x10,x11,.s x12),(x13,x14,.s x15)],none⟩
abbrev Fm (x0:Nat) (x1:Int) (x2 x3 x4 x5 x6 x7:Nat) (x8:Int) (x9:Nat):PR:=⟨some x0,.bld [.int .i64 x1,.list x2 [],.list x3 [],.list x4 [],.list x5 [],.list x6 [],.list x7 [],.int .i64 x8,.list x9 []] [],none⟩
section
open Go.Proofs.Tryz
abbrev CK (fn:Func) (pl:PC) (rv:List RV):Prop:=okCode prog fn.ntmps (okDraw prog fn.ntmps) pl (fn.body.getD .skip)=true∧okRVs prog fn.results.toList rv=true
theorem Fn {f : FuncId} {fn : Func} {c : Code} {pl : PC} {rv : List RV} {args : List TV} {r : Res} (ck : CK fn pl rv) (h : TV.WFs args → WP (Sound prog) pl ⟨resIs rv r, fun _ _ => False, resIs rv r⟩ (argEnv 0 args)) (hf : prog.funcs[f]? = some fn := by rfl) (hb : fn.body = some c := by rfl) (hname : fn.name ≠ "runtime.NumGoroutine" := by decide) (hn : Nat.ble args.length fn.ntmps = true := by rfl) (hp : r.plain = true := by rfl) : Sound prog f args r := by
  have h1:=ck.1
  rw [hb] at h1
  exact fn_sound (draw_sound Sc.Tryz_follows) hf hb hname h1 ck.2 (Nat.le_of_ble_eq_true hn) hp (fun hw=>(h hw).out)
end
end Go.Sf
