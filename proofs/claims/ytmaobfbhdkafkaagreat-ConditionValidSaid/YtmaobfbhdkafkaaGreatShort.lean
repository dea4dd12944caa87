/- Shorter names for the steps, and for the shapes of rows. -/
import Derived.Test.YtmaobfbhdkafkaaGreatSfStep
import Derived.Test.YtmaobfbhdkafkaaGreatSfDraw
import Derived.Test.YtmaobfbhdkafkaaGreatSfLib
import Derived.Test.YtmaobfbhdkafkaaGreatTypes
namespace Go.Sf
section
variable {env:Env} {s:Nat} {ss:List Nat} {r:Env}
theorem kn:env.keep []=[]:=rfl
theorem kt {t:TV} (k:env.keep ss=r) (h:env.get s=.tv t:=by rfl):env.keep (s::ss)=(s,.tv t)::r:=keep_tv h k
theorem ko {t:TV} (k:env.keep ss=r) (h:env.get s=.ow t:=by rfl):env.keep (s::ss)=(s,.ow t)::r:=keep_ow h k
theorem kb {t:List Cell} (k:env.keep ss=r) (h:env.get s=.bx t:=by rfl):env.keep (s::ss)=(s,.bx t)::r:=keep_bx h k
theorem kp {q o:Nat} (k:env.keep ss=r) (h:env.get s=.bp q o:=by rfl):env.keep (s::ss)=(s,.bp q o)::r:=keep_bp h k
theorem kq {t:List TV} (k:env.keep ss=r) (h:env.get s=.tp t:=by rfl):env.keep (s::ss)=(s,.tp t)::r:=keep_tp h k
theorem kx {n:Nat} {t:List TV} (k:env.keep ss=r) (h:env.get s=.xo n t:=by rfl):env.keep (s::ss)=(s,.xo n t)::r:=keep_xo h k
theorem kl {q:Nat} {i:Option Nat} (k:env.keep ss=r) (h:env.get s=.la q i:=by rfl):env.keep (s::ss)=(s,.la q i)::r:=keep_la h k
end
theorem B {α:Type} {a:α}:a=a:=rfl
theorem km1 {env:Env} {s0:Nat} {t0:TV} (h0:env.get s0=.tv t0:=by rfl):env.keep [s0]=[(s0,.tv t0)]:=kt kn h0
theorem km2 {env:Env} {s0 s1:Nat} {t0 t1:TV} (h0:env.get s0=.tv t0:=by rfl) (h1:env.get s1=.tv t1:=by rfl):env.keep [s0,s1]=[(s0,.tv t0),(s1,.tv t1)]:=kt (kt kn h1) h0
theorem km3 {env:Env} {s0 s1 s2:Nat} {t0 t1 t2:TV} (h0:env.get s0=.tv t0:=by rfl) (h1:env.get s1=.tv t1:=by rfl) (h2:env.get s2=.tv t2:=by rfl):env.keep [s0,s1,s2]=[(s0,.tv t0),(s1,.tv t1),(s2,.tv t2)]:=kt (kt (kt kn h2) h1) h0
theorem km4 {env:Env} {s0 s1 s2 s3:Nat} {t0 t1 t2 t3:TV} (h0:env.get s0=.tv t0:=by rfl) (h1:env.get s1=.tv t1:=by rfl) (h2:env.get s2=.tv t2:=by rfl) (h3:env.get s3=.tv t3:=by rfl):env.keep [s0,s1,s2,s3]=[(s0,.tv t0),(s1,.tv t1),(s2,.tv t2),(s3,.tv t3)]:=kt (kt (kt (kt kn h3) h2) h1) h0
theorem km5 {env:Env} {s0 s1 s2 s3 s4:Nat} {t0 t1 t2 t3 t4:TV} (h0:env.get s0=.tv t0:=by rfl) (h1:env.get s1=.tv t1:=by rfl) (h2:env.get s2=.tv t2:=by rfl) (h3:env.get s3=.tv t3:=by rfl) (h4:env.get s4=.tv t4:=by rfl):env.keep [s0,s1,s2,s3,s4]=[(s0,.tv t0),(s1,.tv t1),(s2,.tv t2),(s3,.tv t3),(s4,.tv t4)]:=kt (kt (kt (kt (kt kn h4) h3) h2) h1) h0
theorem km6 {env:Env} {s0 s1 s2 s3 s4 s5:Nat} {t0 t1 t2 t3 t4 t5:TV} (h0:env.get s0=.tv t0:=by rfl) (h1:env.get s1=.tv t1:=by rfl) (h2:env.get s2=.tv t2:=by rfl) (h3:env.get s3=.tv t3:=by rfl) (h4:env.get s4=.tv t4:=by rfl) (h5:env.get s5=.tv t5:=by rfl):env.keep [s0,s1,s2,s3,s4,s5]=[(s0,.tv t0),(s1,.tv t1),(s2,.tv t2),(s3,.tv t3),(s4,.tv t4),(s5,.tv t5)]:=kt (kt (kt (kt (kt (kt kn h5) h4) h3) h2) h1) h0
theorem km7 {env:Env} {s0 s1 s2 s3 s4 s5 s6:Nat} {t0 t1 t2 t3 t4 t5 t6:TV} (h0:env.get s0=.tv t0:=by rfl) (h1:env.get s1=.tv t1:=by rfl) (h2:env.get s2=.tv t2:=by rfl) (h3:env.get s3=.tv t3:=by rfl) (h4:env.get s4=.tv t4:=by rfl) (h5:env.get s5=.tv t5:=by rfl) (h6:env.get s6=.tv t6:=by rfl):env.keep [s0,s1,s2,s3,s4,s5,s6]=[(s0,.tv t0),(s1,.tv t1),(s2,.tv t2),(s3,.tv t3),(s4,.tv t4),(s5,.tv t5),(s6,.tv t6)]:=kt (kt (kt (kt (kt (kt (kt kn h6) h5) h4) h3) h2) h1) h0
theorem km8 {env:Env} {s0 s1 s2 s3 s4 s5 s6 s7:Nat} {t0 t1 t2 t3 t4 t5 t6 t7:TV} (h0:env.get s0=.tv t0:=by rfl) (h1:env.get s1=.tv t1:=by rfl) (h2:env.get s2=.tv t2:=by rfl) (h3:env.get s3=.tv t3:=by rfl) (h4:env.get s4=.tv t4:=by rfl) (h5:env.get s5=.tv t5:=by rfl) (h6:env.get s6=.tv t6:=by rfl) (h7:env.get s7=.tv t7:=by rfl):env.keep [s0,s1,s2,s3,s4,s5,s6,s7]=[(s0,.tv t0),(s1,.tv t1),(s2,.tv t2),(s3,.tv t3),(s4,.tv t4),(s5,.tv t5),(s6,.tv t6),(s7,.tv t7)]:=kt (kt (kt (kt (kt (kt (kt (kt kn h7) h6) h5) h4) h3) h2) h1) h0
theorem km9 {env:Env} {s0 s1 s2 s3 s4 s5 s6 s7 s8:Nat} {t0 t1 t2 t3 t4 t5 t6 t7 t8:TV} (h0:env.get s0=.tv t0:=by rfl) (h1:env.get s1=.tv t1:=by rfl) (h2:env.get s2=.tv t2:=by rfl) (h3:env.get s3=.tv t3:=by rfl) (h4:env.get s4=.tv t4:=by rfl) (h5:env.get s5=.tv t5:=by rfl) (h6:env.get s6=.tv t6:=by rfl) (h7:env.get s7=.tv t7:=by rfl) (h8:env.get s8=.tv t8:=by rfl):env.keep [s0,s1,s2,s3,s4,s5,s6,s7,s8]=[(s0,.tv t0),(s1,.tv t1),(s2,.tv t2),(s3,.tv t3),(s4,.tv t4),(s5,.tv t5),(s6,.tv t6),(s7,.tv t7),(s8,.tv t8)]:=kt (kt (kt (kt (kt (kt (kt (kt (kt kn h8) h7) h6) h5) h4) h3) h2) h1) h0
theorem km10 {env:Env} {s0 s1 s2 s3 s4 s5 s6 s7 s8 s9:Nat} {t0 t1 t2 t3 t4 t5 t6 t7 t8 t9:TV} (h0:env.get s0=.tv t0:=by rfl) (h1:env.get s1=.tv t1:=by rfl) (h2:env.get s2=.tv t2:=by rfl) (h3:env.get s3=.tv t3:=by rfl) (h4:env.get s4=.tv t4:=by rfl) (h5:env.get s5=.tv t5:=by rfl) (h6:env.get s6=.tv t6:=by rfl) (h7:env.get s7=.tv t7:=by rfl) (h8:env.get s8=.tv t8:=by rfl) (h9:env.get s9=.tv t9:=by rfl):env.keep [s0,s1,s2,s3,s4,s5,s6,s7,s8,s9]=[(s0,.tv t0),(s1,.tv t1),(s2,.tv t2),(s3,.tv t3),(s4,.tv t4),(s5,.tv t5),(s6,.tv t6),(s7,.tv t7),(s8,.tv t8),(s9,.tv t9)]:=kt (kt (kt (kt (kt (kt (kt (kt (kt (kt kn h9) h8) h7) h6) h5) h4) h3) h2) h1) h0
def GjGo:List Nat->Env->(Env->Prop)->Prop
  | [],z,K=>K z
  | k::ks,z,K=>∃ j,GjGo ks ((k,j)::z) K
def Gj (js:List Nat) (d:Nat) (v:TV) (z e:Env):Prop:=GjGo js z fun y=>e=(d,.tv v)::y
theorem gA {S:FuncId->List TV->Res->Prop} {K:Env->Prop} {ops:List PR} {env:Env} (n:Nat) (js:List Nat) (d:Nat) (c e:Bool) (h1:c=true->WO S (Gj js d (.bool e) env) (ops.take n) env) (h2:c=false->WO S (Gj js d (.bool false) env) (ops.take n) env) (h:∀ z,Gj js d (.bool (c&&e)) env z->WO S K (ops.drop n) z):WO S K ops env:=by
  refine g_cut n (Gj js d (.bool (c&&e))) ?_ h
  cases c
  · exact h2 rfl
  · exact h1 rfl
theorem gO {S:FuncId->List TV->Res->Prop} {K:Env->Prop} {ops:List PR} {env:Env} (n:Nat) (js:List Nat) (d:Nat) (c e:Bool) (h1:c=true->WO S (Gj js d (.bool true) env) (ops.take n) env) (h2:c=false->WO S (Gj js d (.bool e) env) (ops.take n) env) (h:∀ z,Gj js d (.bool (c||e)) env z->WO S K (ops.drop n) z):WO S K ops env:=by
  refine g_cut n (Gj js d (.bool (c||e))) ?_ h
  cases c
  · exact h2 rfl
  · exact h1 rfl
theorem gX {S:FuncId->List TV->Res->Prop} {K:Env->Prop} {ops:List PR} {env:Env} (n:Nat) (js:List Nat) (d:Nat) (x c:Bool) (h1:c=true->WO S (Gj js d (.bool x) env) (ops.take n) env) (h2:c=false->WO S (Gj js d (.bool x) env) (ops.take n) env) (h:∀ z,Gj js d (.bool x) env z->WO S K (ops.drop n) z):WO S K ops env:=by
  refine g_cut n (Gj js d (.bool x)) ?_ h
  cases c
  · exact h2 rfl
  · exact h1 rfl
abbrev D:=@s_mv
abbrev E:=@c_seq
abbrev F:=@s_end
abbrev G:=@c_reg
abbrev H:=@g_on
abbrev I:=@g_off
abbrev J:=@bind_some
abbrev K:=@s_ld
abbrev L:=@c_ret
abbrev M:=@s_bad
abbrev O:=@ite_t
abbrev R:=@ite_f
abbrev S:=@s_lda
abbrev T:=@c_skip
abbrev U:=@c_cond
abbrev V:=@s_len
abbrev W:=@s_call
abbrev X:=@s_lss
abbrev Y:=@s_boxs
abbrev Z:=@g_cut
abbrev a2:=@s_pickt
abbrev a3:=@s_pickf
abbrev a4:=@s_iad
abbrev a5:=@wf_tv
abbrev a6:=@s_badb
abbrev a7:=@s_add
abbrev a8:=@s_neq
abbrev a9:=@c_block
abbrev b2:=@s_ext
abbrev b3:=@s_stb
abbrev b4:=@c_exit
abbrev b5:=@s_eql
abbrev b6:=@wsucc
abbrev b7:=@s_fadb
abbrev b8:=@s_fad
abbrev b9:=@c_condf
abbrev d0:=@c_condt
abbrev d1:=@dlt
abbrev d2:=@dnlt
abbrev d3:=@s_not
abbrev d4:=@thenR_some
abbrev d5:=@thenR_l
abbrev d6:=@thenR_r
abbrev d7:=@g_sk
abbrev d8:=@s_alc
abbrev d9:=@s_geq
abbrev e0:=@wp_forR
abbrev e1:=@wf_int
abbrev e2:=@c_draw
abbrev e3:=@and_t
abbrev e4:=@and_f
abbrev e5:=@s_bld
abbrev e6:=@or_t
abbrev e7:=@or_f
abbrev e8:=@s_gtr
abbrev e9:=@s_lst
abbrev f0:=@s_mvp
abbrev f1:=@s_callp
abbrev f2:=@s_nilo
abbrev f4:=@s_leq
abbrev f5:=@wf_lenE
abbrev f6:=@s_xal
abbrev f7:=@s_sub
abbrev f8:=@s_tk
abbrev f9:=@s_tkt
abbrev g0:=@wfs_get
abbrev g1:=@wf_pt
abbrev g2:=@s_bldf
abbrev g3:=@s_slen
abbrev g4:=@s_tkx
abbrev g5:=@s_clo
abbrev g6:=@wp_forA
abbrev g7:=@s_xia
abbrev g8:=@s_callv
abbrev g9:=@s_seql
abbrev l0:=@s_app
abbrev l1:=@c_cut
abbrev l2:=@s_xst
abbrev l3:=@s_calll
abbrev l4:=@wp_whR
abbrev l5:=@s_sidx
abbrev l6:=@s_lac
abbrev l7:=@s_callo
abbrev l8:=@s_xlen
abbrev l9:=@s_rel
abbrev m0:=@s_sslc
abbrev m1:=@s_mkx
abbrev m2:=@s_ctk
abbrev m3:=@s_cpt
abbrev m4:=@s_sadd
abbrev m5:=@s_appx
abbrev m6:=@s_slc
abbrev m7:=@s_frz
abbrev m8:=@wf_ow
abbrev m9:=@s_lsto
abbrev p0:=@s_nilx
abbrev p1:=@s_isn
abbrev p2:=@s_xld
abbrev p3:=@s_max
abbrev p4:=@s_callxf
abbrev p5:=@s_cvt
abbrev p6:=@ex_hit
abbrev p7:=@s_callb
abbrev p8:=@s_cut
abbrev p9:=@s_sto
abbrev q0:=@s_callx
abbrev q1:=@clone_h
abbrev q2:=@s_xfa
abbrev q3:=@s_callm
abbrev q4:=@s_bit
abbrev q5:=@s_callvp
abbrev q6:=@s_ldt
abbrev q7:=@s_calllo
abbrev q8:=@s_calllp
abbrev q9:=@s_callw
abbrev t0:=@s_beql
abbrev t1:=@s_callc
abbrev t2:=@s_boxo
abbrev t3:=@s_callf
abbrev t4:=@s_aeql
abbrev t5:=@ex_miss
abbrev t6:=@s_boxp
abbrev t7:=@s_appz
abbrev t8:=@s_bldo
abbrev t9:=@s_stx
abbrev u0:=@s_callh
abbrev Ktv:=@keep_tv
abbrev Kow:=@keep_ow
abbrev Kbx:=@keep_bx
abbrev Kxo:=@keep_xo
abbrev Knil:=@keep_nil
abbrev Rq (o:List PR) (l:List Nat) (b:PC):PC:=.seq (.region o l) b
abbrev Sq (a b:PC):PC:=.seq a b
abbrev Re (o:List PR) (l:List Nat):PC:=.region o l
abbrev Dr (d:List Nat) (o:List PR) (l:List Nat):PC:=.draw d o l
abbrev Sk (l:List Nat):PC:=.skip l
abbrev Ex (i:Nat) (l:List Nat):PC:=.exit i l
abbrev Co (c:Nat) (a b:PC):PC:=.cond (.s c) a b
abbrev Bl (i:Nat) (a:PC):PC:=.block i a
abbrev Lo (l:List Nat) (a:PC):PC:=.loop l a
abbrev Aa (x0 x1:Nat):PR:=⟨some x0,.mv (.s x1),none⟩
abbrev Ab (x0 x1:Nat):PR:=⟨some x0,.ld (.s x1),none⟩
abbrev Ac (x0 x1 x2:Nat):PR:=⟨some x0,.bad x1 x2,none⟩
abbrev Ad (x0:Nat) (x1:Int):PR:=⟨some x0,.mv (.c (.int .i64 x1)),none⟩
abbrev Ae (x0 x1 x2:Nat):PR:=⟨some x0,.lda (.s x1) x2,none⟩
abbrev Af (x0 x1:Nat):PR:=⟨some x0,.boxs (.s x1),none⟩
abbrev Ag (x0 x1:Nat):PR:=⟨some x0,.len (.s x1),none⟩
abbrev Ah (x0 x1 x2:Nat):PR:=⟨some x0,.fad (.s x1) x2,none⟩
abbrev Ai (x0 x1 x2 x3:Nat):PR:=⟨some x0,.iad (.s x1) (.s x2) x3,none⟩
abbrev Aj (x0:Nat):PR:=⟨some x0,.mv (.c (.bool false)),none⟩
abbrev Ak (x0 x1 x2:Nat):PR:=⟨some x0,.ext (.s x1) x2,none⟩
abbrev Al (x0 x1 x2:Nat):PR:=⟨none,.stb x0 x1 (.s x2),none⟩
abbrev Am (x0 x1 x2:Nat):PR:=⟨some x0,.bin (.i) .lss (.s x1) (.s x2),none⟩
abbrev An (x0 x1 x2:Nat):PR:=⟨some x0,.ld (.s x1),some (x2,false)⟩
abbrev Ao (x0 x1:Nat) (x2:Int):PR:=⟨some x0,.bin (.i) .add (.s x1) (.c (.int .i64 x2)),none⟩
abbrev Ap (x0 x1 x2 x3:Nat):PR:=⟨some x0,.bad x1 x2,some (x3,false)⟩
abbrev Aq (x0 x1 x2:Nat):PR:=⟨some x0,.pick (.s x1) (.s x2) (.c (.bool false)),none⟩
abbrev Ar (x0 x1 x2:Nat):PR:=⟨some x0,.pick (.s x1) (.c (.bool true)) (.s x2),none⟩
abbrev As (x0 x1 x2 x3:Nat):PR:=⟨some x0,.call x1 [.s x2,.s x3],none⟩
abbrev At (x0 x1 x2:Nat):PR:=⟨some x0,.mv (.s x1),some (x2,true)⟩
abbrev Au (x0 x1:Nat) (x2:Int):PR:=⟨some x0,.bin (.i) .neq (.s x1) (.c (.int .i64 x2)),none⟩
abbrev Av (x0 x1 x2:Nat):PR:=⟨some x0,.call x1 [.s x2],none⟩
abbrev Aw (x0 x1 x2:Nat):PR:=⟨some x0,.mv (.s x1),some (x2,false)⟩
abbrev Ax (x0 x1 x2 x3:Nat):PR:=⟨some x0,.bad x1 x2,some (x3,true)⟩
abbrev Ay (x0 x1 x2:Nat):PR:=⟨some x0,.ld (.s x1),some (x2,true)⟩
abbrev Az (x0 x1:Nat) (x2:Int):PR:=⟨some x0,.bin (.i) .eql (.s x1) (.c (.int .i64 x2)),none⟩
abbrev Ba (x0 x1:Nat):PR:=⟨some x0,.not (.s x1),none⟩
abbrev Bb (x0 x1:Nat):PR:=⟨some x0,.tk x1,none⟩
abbrev Bc (x0 x1:Nat):PR:=⟨some x0,.nilo x1,none⟩
abbrev Bd (x0 x1 x2 x3 x4:Nat):PR:=⟨some x0,.call x1 [.s x2,.s x3,.s x4],none⟩
abbrev Be (x0 x1 x2:Nat):PR:=⟨some x0,.len (.s x1),some (x2,false)⟩
abbrev Bf (x0 x1:Nat) (x2:Int):PR:=⟨some x0,.bin (.i) .gtr (.s x1) (.c (.int .i64 x2)),none⟩
abbrev Bg (x0 x1:Nat) (x2:Int):PR:=⟨some x0,.bin (.i) .geq (.s x1) (.c (.int .i64 x2)),none⟩
abbrev Bh (x0 x1 x2 x3:Nat):PR:=⟨some x0,.lda (.s x1) x2,some (x3,true)⟩
abbrev Bi (x0 x1 x2:Nat):PR:=⟨some x0,.bin (.i) .add (.s x1) (.s x2),none⟩
abbrev Bj (x0 x1 x2:Nat):PR:=⟨some x0,.bin (.i) .neq (.s x1) (.s x2),none⟩
abbrev Bk (x0:Nat) (x1:Int):PR:=⟨some x0,.mv (.c (.int .i64 (x1))),none⟩
abbrev Bm (x0 x1 x2:Nat):PR:=⟨some x0,.not (.s x1),some (x2,false)⟩
abbrev Bn (x0 x1 x2:Nat):PR:=⟨some x0,.lst x1 [.s x2],none⟩
abbrev Bo (x0 x1:Nat):PR:=⟨some x0,.xal x1,none⟩
abbrev Bp (x0 x1 x2 x3:Nat):PR:=⟨some x0,.bin (.i) .geq (.s x1) (.s x2),some (x3,false)⟩
abbrev Bq (x0 x1 x2 x3:Nat):PR:=⟨some x0,.fad (.s x1) x2,some (x3,false)⟩
abbrev Br (x0 x1:Nat) (x2:Int) (x3:Nat):PR:=⟨some x0,.bin (.i) .gtr (.s x1) (.c (.int .i64 x2)),some (x3,false)⟩
abbrev Bs (x0 x1:Nat) (x2:Int):PR:=⟨some x0,.bin (.i) .lss (.s x1) (.c (.int .i64 x2)),none⟩
abbrev Bt (x0 x1 x2 x3:Nat):PR:=⟨some x0,.call x1 [.s x2],some (x3,true)⟩
abbrev Bu (x0:Nat):PR:=⟨some x0,.mv (.c (.bool true)),none⟩
abbrev Bv (x0 x1:Nat):PR:=⟨some x0,.tkx x1,none⟩
abbrev Bw (x0 x1 x2 x3 x4:Nat):PR:=⟨some x0,.iad (.s x1) (.s x2) x3,some (x4,false)⟩
abbrev Bx (x0 x1:Nat):PR:=⟨some x0,.slen (.s x1),none⟩
abbrev By (x0:Nat):PR:=⟨some x0,.mv (.c (.str ⟨#[]⟩)),none⟩
abbrev Bz (x0 x1 x2:Nat):PR:=⟨some x0,.callv (.s x1) [.s x2],none⟩
abbrev Ca (x0 x1 x2:Nat):PR:=⟨some x0,.clo x1 [.s x2],none⟩
abbrev Cb (x0 x1 x2:Nat):PR:=⟨some x0,.len (.s x1),some (x2,true)⟩
abbrev Cc (x0 x1 x2 x3:Nat):PR:=⟨some x0,.app x1 (.s x2) (.s x3),none⟩
abbrev Cd (x0:Nat) (x1:Int) (x2 x3 x4 x5:Nat):PR:=⟨some x0,.alc [⟨false,.int .i64 x1⟩,⟨true,.list x2 []⟩,⟨true,.list x3 []⟩,⟨true,.list x4 []⟩,⟨true,.list x5 []⟩],none⟩
abbrev Ce (x0:Nat) (x1:Int) (x2 x3 x4 x5:Nat):PR:=⟨some x0,.bld [.int .i64 x1,.list x2 [],.list x3 [],.list x4 [],.list x5 []] [],none⟩
abbrev Cf (x0 x1:Nat) (x2:Int) (x3:Nat):PR:=⟨some x0,.bin (.i) .leq (.s x1) (.c (.int .i64 x2)),some (x3,true)⟩
abbrev Cg (x0 x1 x2 x3:Nat):PR:=⟨some x0,.xia (.s x1) (.s x2) x3,none⟩
abbrev Ch (x0 x1:Nat) (x2:Int):PR:=⟨some x0,.bin (.i) .sub (.s x1) (.c (.int .i64 x2)),none⟩
abbrev Ci (x0 x1:Nat) (x2:Int) (x3:Nat):PR:=⟨some x0,.bin (.i) .eql (.s x1) (.c (.int .i64 x2)),some (x3,true)⟩
abbrev Cj (x0 x1 x2 x3:Nat):PR:=⟨some x0,.fad (.s x1) x2,some (x3,true)⟩
abbrev Ck (x0 x1 x2 x3:Nat):PR:=⟨some x0,.bin (.i) .neq (.s x1) (.s x2),some (x3,false)⟩
abbrev Cl (x0:Nat) (x1 x2 x3:Int):PR:=⟨some x0,.alc [⟨false,.int .i64 x1⟩,⟨false,.int .i64 x2⟩,⟨false,.int .i64 x3⟩],none⟩
abbrev Cm (x0 x1 x2 x3:Nat):PR:=⟨some x0,.call x1 [.s x2],some (x3,false)⟩
abbrev Cn (x0 x1 x2:Nat):PR:=⟨some x0,.bin (.i) .eql (.s x1) (.s x2),none⟩
abbrev Cp (x0 x1 x2:Nat):PR:=⟨some x0,.bin (.s) .eql (.s x1) (.s x2),none⟩
abbrev Cq (x0 x1 x2:Nat):PR:=⟨some x0,.bin (.i) .geq (.s x1) (.s x2),none⟩
abbrev Cr (x0 x1 x2 x3:Nat):PR:=⟨some x0,.lda (.s x1) x2,some (x3,false)⟩
abbrev Cs (x0 x1 x2:Nat):PR:=⟨some x0,.alc [⟨true,.list x1 []⟩,⟨true,.list x2 []⟩],none⟩
abbrev Ct (x0 x1 x2 x3 x4 x5 x6 x7 x8:Nat):PR:=⟨some x0,.bld [.list x1 [],.list x2 []] [(x3,x4,.s x5),(x6,x7,.s x8)],none⟩
abbrev Cu (x0 x1:Nat) (x2:Int) (x3:Nat):PR:=⟨some x0,.bin (.i) .leq (.s x1) (.c (.int .u8 x2)),some (x3,true)⟩
abbrev Cv (x0 x1 x2 x3:Nat):PR:=⟨some x0,.pick (.s x1) (.s x2) (.c (.bool false)),some (x3,false)⟩
abbrev Cw (x0 x1 x2 x3:Nat):PR:=⟨some x0,.bin (.i) .eql (.s x1) (.s x2),some (x3,true)⟩
abbrev Cx (x0 x1 x2 x3 x4:Nat):PR:=⟨some x0,.call x1 [.s x2,.s x3],some (x4,false)⟩
abbrev Cy (x0:Nat) (x1 x2:Int) (x3:Nat):PR:=⟨some x0,.alc [⟨false,.str ⟨#[]⟩⟩,⟨false,.int .i64 x1⟩,⟨false,.int .i64 x2⟩,⟨true,.list x3 []⟩],none⟩
abbrev Cz (x0 x1 x2 x3:Nat):PR:=⟨some x0,.lst x1 [.s x2,.s x3],none⟩
abbrev Da (x0 x1 x2 x3 x4 x5:Nat):PR:=⟨some x0,.call x1 [.s x2,.s x3,.s x4,.s x5],none⟩
abbrev Db (x0 x1:Nat) (x2:Int):PR:=⟨some x0,.lst x1 [.c (.int .i64 x2)],none⟩
abbrev Dc (x0 x1 x2 x3 x4:Nat):PR:=⟨some x0,.call x1 [.s x2,.s x3],some (x4,true)⟩
abbrev Dd (x0 x1:Nat):PR:=⟨some x0,.xlen (.s x1),none⟩
abbrev De (x0 x1:Nat):PR:=⟨some x0,.rel x1,none⟩
abbrev Df (x0:Nat) (x1:Int) (x2 x3 x4 x5 x6 x7:Nat) (x8:Int) (x9:Nat):PR:=⟨some x0,.alc [⟨false,.int .i64 x1⟩,⟨true,.list x2 []⟩,⟨true,.list x3 []⟩,⟨true,.list x4 []⟩,⟨true,.list x5 []⟩,⟨true,.list x6 []⟩,⟨true,.list x7 []⟩,⟨false,.int .i64 x8⟩,⟨true,.list x9 []⟩],none⟩
abbrev Dg (x0 x1:Nat):PR:=⟨some x0,.lac (.s x1),none⟩
abbrev Dh (x0 x1:Nat) (x2:Int):PR:=⟨some x0,.bin (.i) .geq (.s x1) (.c (.int .u8 x2)),none⟩
abbrev Di (x0 x1 x2:Nat):PR:=⟨some x0,.bin (.i) .sub (.s x1) (.s x2),none⟩
abbrev Dj (x0 x1 x2 x3:Nat):PR:=⟨some x0,.bin (.i) .lss (.s x1) (.s x2),some (x3,true)⟩
abbrev Dk (x0 x1 x2 x3:Nat):PR:=⟨some x0,.pick (.s x1) (.c (.bool true)) (.s x2),some (x3,true)⟩
abbrev Dl (x0:Nat) (x1 x2 x3 x4:Int):PR:=⟨some x0,.alc [⟨false,.int .i64 x1⟩,⟨false,.int .i64 x2⟩,⟨false,.int .i64 x3⟩,⟨false,.int .i64 x4⟩],none⟩
abbrev Dm (x0:Nat):PR:=⟨none,.xst (.s x0) (.c (.bool true)),none⟩
abbrev Dn (x0 x1 x2:Nat):PR:=⟨some x0,.not (.s x1),some (x2,true)⟩
abbrev Do (x0 x1:Nat) (x2:Int) (x3:Nat):PR:=⟨some x0,.iad (.s x1) (.c (.int .i64 x2)) x3,none⟩
abbrev Dp (x0:Nat) (x1 x2 x3:Int) (x4 x5:Nat) (x6:Int) (x7 x8:Nat) (x9:Int):PR:=⟨some x0,.bld [.int .i64 x1,.int .i64 x2,.int .i64 x3] [(x4,x5,.c (.int .i64 x6)),(x7,x8,.c (.int .i64 x9))],none⟩
abbrev Dq (x0 x1:Nat):PR:=⟨some x0,.call x1 [],none⟩
abbrev Ds (x0 x1 x2 x3:Nat):PR:=⟨some x0,.call x1 [.s x2,.c (.clo x3 [])],none⟩
abbrev Dt (x0:Nat) (x1 x2:Int) (x3 x4:Nat) (x5:Int) (x6 x7 x8:Nat):PR:=⟨some x0,.bld [.int .i64 x1,.str ⟨#[]⟩,.int .i64 x2] [(x3,x4,.c (.int .i64 x5)),(x6,x7,.s x8)],none⟩
abbrev Du (x0 x1 x2 x3:Nat):PR:=⟨some x0,.appx x1 x2 (.s x3),none⟩
abbrev Dv (x0 x1 x2 x3:Nat):PR:=⟨some x0,.slc x1 (.s x2) none (some (.s x3)),none⟩
abbrev Dw (x0 x1 x2 x3:Nat):PR:=⟨some x0,.bin (.i) .leq (.s x1) (.s x2),some (x3,true)⟩
abbrev Dx (x0:Nat):PR:=⟨none,.frz x0,none⟩
abbrev Dy (x0 x1 x2:Nat) (x3:Int):PR:=⟨some x0,.call x1 [.s x2,.c (.int .i64 x3)],none⟩
abbrev Dz (x0 x1:Nat):PR:=⟨some x0,.lst x1 [],none⟩
abbrev Ea (x0 x1:Nat):PR:=⟨none,.xst (.s x0) (.s x1),none⟩
abbrev Eb (x0 x1 x2:Nat) (x3:Int) (x4:Nat):PR:=⟨some x0,.call x1 [.s x2,.c (.int .i64 x3),.s x4],none⟩
abbrev Ec (x0:Nat) (x1 x2:Int) (x3:Nat):PR:=⟨some x0,.bld [.str ⟨#[]⟩,.int .i64 x1,.int .i64 x2,.list x3 []] [],none⟩
abbrev Ed (x0 x1 x2:Nat):PR:=⟨some x0,.mkx x1 [.bool false] (.s x2),none⟩
abbrev Ee (x0 x1 x2 x3:Nat) (x4:Int) (x5:Nat):PR:=⟨some x0,.alc [⟨true,.list x1 []⟩,⟨true,.list x2 []⟩,⟨true,.list x3 []⟩,⟨false,.int .i64 x4⟩,⟨true,.list x5 []⟩],none⟩
abbrev Ef (x0 x1 x2 x3 x4:Nat):PR:=⟨some x0,.iad (.s x1) (.s x2) x3,some (x4,true)⟩
abbrev Eg (x0 x1 x2 x3:Nat):PR:=⟨some x0,.calll x1 [.s x2,.s x3],none⟩
abbrev Eh (x0 x1:Nat):PR:=⟨some x0,.ctk (.s x1),none⟩
abbrev Ei (x0 x1:Nat):PR:=⟨none,.cpt (.s x0) x1,none⟩
abbrev Ej (x0 x1 x2 x3 x4 x5 x6 x7 x8 x9:Nat):PR:=⟨some x0,.bld [.list x1 [],.list x2 [],.list x3 []] [(x4,x5,.s x6),(x7,x8,.s x9)],none⟩
abbrev Ek (x0 x1 x2 x3:Nat):PR:=⟨some x0,.alc [⟨true,.list x1 []⟩,⟨true,.list x2 []⟩,⟨true,.list x3 []⟩],none⟩
abbrev El (x0 x1:Nat) (x2:Int) (x3:Nat):PR:=⟨some x0,.bin (.i) .geq (.s x1) (.c (.int .i64 x2)),some (x3,true)⟩
abbrev Em (x0 x1:Nat) (x2 x3:Int):PR:=⟨some x0,.lst x1 [.c (.int .i64 x2),.c (.int .i64 x3)],none⟩
abbrev En (x0:Nat) (x1 x2:Int) (x3 x4:Nat) (x5:Int):PR:=⟨some x0,.bld [.int .i64 x1,.int .i64 x2] [(x3,x4,.c (.int .i64 x5))],none⟩
abbrev Eo (x0 x1 x2 x3:Nat):PR:=⟨some x0,.bin (.i) .add (.s x1) (.s x2),some (x3,true)⟩
abbrev Ep (x0:Nat) (x1 x2:Int):PR:=⟨some x0,.bld [.int .i64 x1,.str ⟨#[]⟩,.int .i64 x2] [],none⟩
abbrev Eq (x0 x1 x2 x3:Nat):PR:=⟨some x0,.sidx (.s x1) (.s x2),some (x3,true)⟩
abbrev Er (x0 x1:Nat) (x2:Int):PR:=⟨some x0,.bin (.i) .eql (.s x1) (.c (.int .u8 x2)),none⟩
abbrev Es (x0 x1 x2:Nat):PR:=⟨some x0,.slen (.s x1),some (x2,true)⟩
abbrev Et (x0 x1 x2 x3:Nat):PR:=⟨some x0,.callx x1 [.s x2,.s x3],none⟩
abbrev Eu (x0 x1:Nat) (x2:Int) (x3:Nat):PR:=⟨some x0,.bin (.i) .sub (.s x1) (.c (.int .i64 x2)),some (x3,true)⟩
abbrev Ev (x0:Nat) (x1:Int) (x2:Nat):PR:=⟨some x0,.alc [⟨false,.str ⟨#[]⟩⟩,⟨false,.int .i64 x1⟩,⟨false,.bool false⟩,⟨true,.list x2 []⟩],none⟩
abbrev Ew (x0 x1:Nat) (x2:Int):PR:=⟨some x0,.bin (.i) .lss (.s x1) (.c (.int .i64 (x2))),none⟩
abbrev Ey (x0:Nat) (x1 x2 x3 x4 x5 x6:Int):PR:=⟨some x0,.alc [⟨false,.str ⟨#[]⟩⟩,⟨false,.int .i64 x1⟩,⟨false,.int .i64 x2⟩,⟨false,.int .i64 x3⟩,⟨false,.int .i64 x4⟩,⟨false,.int .i64 x5⟩,⟨false,.int .i64 x6⟩],none⟩
abbrev Ez (x0:Nat) (x1 x2 x3 x4 x5:Int):PR:=⟨some x0,.alc [⟨false,.int .i64 x1⟩,⟨false,.int .i64 x2⟩,⟨false,.int .i64 x3⟩,⟨false,.int .i64 x4⟩,⟨false,.int .i64 x5⟩],none⟩
abbrev Fa (x0 x1:Nat) (x2:Int) (x3:Nat):PR:=⟨some x0,.bin (.i) .sub (.s x1) (.c (.int .i64 x2)),some (x3,false)⟩
abbrev Fb (x0 x1 x2:Nat):PR:=⟨some x0,.mm true (.s x1) (.s x2),none⟩
abbrev Fc (x0:Nat) (x1:Int):PR:=⟨some x0,.mv (.c (.int .u64 x1)),none⟩
abbrev Fd (x0 x1 x2:Nat):PR:=⟨some x0,.bin (.i) .gtr (.s x1) (.s x2),none⟩
abbrev Fe (x0 x1 x2 x3 x4 x5 x6:Nat):PR:=⟨some x0,.call x1 [.s x2,.s x3,.s x4,.s x5,.s x6],none⟩
abbrev Ff (x0 x1 x2:Nat):PR:=⟨some x0,.calll x1 [.s x2],none⟩
abbrev Fg (x0 x1 x2 x3:Nat):PR:=⟨some x0,.callb x1 [.s x2] x3,none⟩
abbrev Fh (x0 x1 x2:Nat):PR:=⟨none,.st x0 (.s x1) (.s x2),none⟩
abbrev Fi (x0 x1 x2 x3 x4 x5 x6 x7:Nat):PR:=⟨some x0,.call x1 [.s x2,.s x3,.s x4,.s x5,.s x6,.s x7],none⟩
abbrev Fj (x0 x1:Nat) (x2:Int) (x3:Nat):PR:=⟨some x0,.bin (.i) .geq (.s x1) (.c (.int .u8 x2)),some (x3,false)⟩
abbrev Fk (x0 x1:Nat) (x2:Int) (x3:Nat):PR:=⟨some x0,.bin (.i) .eql (.s x1) (.c (.int .u8 x2)),some (x3,false)⟩
abbrev Fl (x0 x1:Nat) (x2:Int) (x3:Nat):PR:=⟨some x0,.bin (.i) .eql (.s x1) (.c (.int .i64 (x2))),some (x3,true)⟩
abbrev Fm (x0 x1:Nat) (x2:Int) (x3:Nat):PR:=⟨some x0,.bin (.i) .neq (.s x1) (.c (.int .i64 x2)),some (x3,true)⟩
abbrev Fo (x0 x1 x2:Nat) (x3 x4:Int):PR:=⟨some x0,.call x1 [.s x2,.c (.int .i64 x3),.c (.int .i64 x4)],none⟩
abbrev Fp (x0 x1:Nat) (x2:Int) (x3:Nat):PR:=⟨some x0,.bin (.i) .lss (.s x1) (.c (.int .i64 x2)),some (x3,false)⟩
abbrev Fq (x0:Nat) (x1:Int) (x2 x3 x4 x5 x6 x7 x8 x9 x10 x11:Nat):PR:=⟨some x0,.bld [.int .i64 x1,.list x2 [],.list x3 [],.list x4 [],.list x5 []] [(x6,x7,.s x8),(x9,x10,.s x11)],none⟩
abbrev Fr (x0 x1:Nat) (x2:Int) (x3:Nat):PR:=⟨some x0,.bin (.i) .neq (.s x1) (.c (.int .i64 x2)),some (x3,false)⟩
abbrev Fs (x0 x1 x2 x3:Nat) (x4:Int) (x5:Nat) (x6:Int) (x7 x8 x9 x10 x11 x12:Nat) (x13:Int) (x14:Nat):PR:=⟨some x0,.alc [⟨true,.list x1 []⟩,⟨true,.list x2 []⟩,⟨true,.list x3 []⟩,⟨false,.int .i64 x4⟩,⟨true,.list x5 []⟩,⟨false,.int .i64 x6⟩,⟨true,.list x7 []⟩,⟨true,.list x8 []⟩,⟨true,.list x9 []⟩,⟨true,.list x10 []⟩,⟨true,.list x11 []⟩,⟨true,.list x12 []⟩,⟨false,.int .i64 x13⟩,⟨true,.list x14 []⟩],none⟩
abbrev Ft (x0 x1:Nat) (x2 x3 x4:Int):PR:=⟨some x0,.lst x1 [.c (.int .i64 x2),.c (.int .i64 x3),.c (.int .i64 x4)],none⟩
abbrev Fu (x0:Nat) (x1 x2 x3 x4:Int) (x5 x6:Nat) (x7:Int) (x8 x9 x10:Nat):PR:=⟨some x0,.bld [.int .i64 x1,.int .i64 x2,.int .i64 x3,.int .i64 x4] [(x5,x6,.c (.int .i64 x7)),(x8,x9,.s x10)],none⟩
abbrev Fv (x0 x1 x2 x3 x4 x5 x6:Nat):PR:=⟨some x0,.call x1 [.s x2,.s x3,.s x4,.s x5,.s x6,.c (.bool true)],none⟩
abbrev Fw (x0:Nat) (x1 x2:Int):PR:=⟨some x0,.alc [⟨false,.int .i64 x1⟩,⟨false,.str ⟨#[]⟩⟩,⟨false,.int .i64 x2⟩],none⟩
abbrev Fx (x0 x1 x2 x3:Nat) (x4:Int) (x5:Nat):PR:=⟨some x0,.call x1 [.s x2,.s x3,.c (.int .i64 x4)],some (x5,false)⟩
abbrev Fy (x0 x1 x2:Nat) (x3:Int) (x4 x5:Nat):PR:=⟨some x0,.call x1 [.s x2,.c (.int .i64 x3),.s x4],some (x5,false)⟩
abbrev Fz (x0 x1:Nat) (x2:Int) (x3:Nat):PR:=⟨some x0,.bin (.i) .lss (.s x1) (.c (.int .i64 (x2))),some (x3,false)⟩
section
open Go.Proofs.Tryz
abbrev CK (fn:Func) (pl:PC) (rv:List RV):Prop:=okCode prog fn.ntmps (okDraw prog fn.ntmps) pl (fn.body.getD .skip)=true∧okRVs prog fn.results.toList rv=true
theorem Fn {f : FuncId} {fn : Func} {c : Code} {pl : PC} {rv : List RV} {args : List TV} {r : Res} (ck : CK fn pl rv) (h : TV.WFs args → WP (Sound prog) pl ⟨resIs rv r, fun _ _ => False, resIs rv r⟩ (argEnv 0 args)) (hf : prog.funcs[f]? = some fn := by rfl) (hb : fn.body = some c := by rfl) (hname : fn.name ≠ "runtime.NumGoroutine" := by decide) (hn : Nat.ble args.length fn.ntmps = true := by rfl) (hp : r.plain = true := by rfl) : Sound prog f args r := by
  have h1:=ck.1
  rw [hb] at h1
  exact fn_sound (draw_sound Sc.Tryz_follows) hf hb hname h1 ck.2 (Nat.le_of_ble_eq_true hn) hp (fun hw=>(h hw).out)
end
end Go.Sf
