/- Shorter names for the shapes of rows, and how structs are read. -/
import Derived.Test.YtlbmpkmkmkgniaaGreatDoorSfAut3
import Derived.Test.YtlbmpkmkmkgniaaGreatDoorSfDraw
import Derived.Test.YtlbmpkmkmkgniaaGreatDoorSfLib
import Derived.Test.YtlbmpkmkmkgniaaGreatDoorFns
set_option linter.all false
set_option maxRecDepth 100000
namespace Go.Sf
abbrev Rq (o:List PR) (l:ci) (b:PC):PC:=.seq (.region o l) b
abbrev Sq (a b:PC):PC:=.seq a b
abbrev Re (o:List PR) (l:ci):PC:=.region o l
abbrev Dr (d:ci) (o:List PR) (l:ci):PC:=.draw d o l
abbrev Sk (l:ci):PC:=.skip l
abbrev Ex (i:Nat) (l:ci):PC:=.exit i l
abbrev Co (c:Nat) (a b:PC):PC:=.cond (.s c) a b
abbrev Bl (i:Nat) (a:PC):PC:=.block i a
abbrev Lo (l:ci) (a:PC):PC:=.loop l a
abbrev Aa (x0 x1:Nat):PR:=⟨some x0,.mv (.s x1),none⟩
abbrev Ab (x0 x1:Nat):PR:=⟨some x0,.ld (.s x1),none⟩
abbrev Ac (x0 x1 x2:Nat):PR:=⟨some x0,.bad x1 x2,none⟩
abbrev Ad (x0 x1 x2:Nat):PR:=⟨some x0,.lda (.s x1) x2,none⟩
abbrev Ae (x0:Nat) (x1:Int):PR:=⟨some x0,.mv (.c (.int .i64 x1)),none⟩
abbrev Af (x0 x1:Nat):PR:=⟨some x0,.boxs (.s x1),none⟩
abbrev Ag (x0 x1:Nat):PR:=⟨some x0,.len (.s x1),none⟩
abbrev Ah (x0 x1 x2:Nat):PR:=⟨some x0,.fad (.s x1) x2,none⟩
abbrev Ai (x0 x1 x2 x3:Nat):PR:=⟨some x0,.iad (.s x1) (.s x2) x3,none⟩
abbrev Aj (x0 x1:Nat):PR:=⟨some x0,.tk x1,none⟩
abbrev Ak (x0:Nat):PR:=⟨some x0,.mv (.c (.bool false)),none⟩
abbrev Al (x0 x1 x2:Nat):PR:=⟨some x0,.ext (.s x1) x2,none⟩
abbrev Am (x0 x1 x2:Nat):PR:=⟨some x0,.bin (.i) .lss (.s x1) (.s x2),none⟩
abbrev An (x0 x1:Nat) (x2:Int):PR:=⟨some x0,.bin (.i) .add (.s x1) (.c (.int .i64 x2)),none⟩
abbrev Ao (x0 x1 x2:Nat):PR:=⟨none,.stb x0 x1 (.s x2),none⟩
abbrev Ap (x0 x1 x2:Nat):PR:=⟨some x0,.ld (.s x1),some (x2,false)⟩
abbrev Aq (x0 x1 x2:Nat):PR:=⟨some x0,.mv (.s x1),some (x2,true)⟩
abbrev Ar (x0 x1 x2 x3:Nat):PR:=⟨some x0,.bad x1 x2,some (x3,false)⟩
abbrev As (x0 x1:Nat):PR:=⟨some x0,.nilo x1,none⟩
abbrev Au (x0 x1 x2:Nat):PR:=⟨some x0,.pick (.s x1) (.c (.bool true)) (.s x2),none⟩
abbrev Av (x0 x1 x2 x3:Nat):PR:=⟨some x0,.call x1 [.s x2,.s x3],none⟩
abbrev Aw (x0 x1 x2:Nat):PR:=⟨some x0,.mv (.s x1),some (x2,false)⟩
abbrev Ax (x0 x1 x2:Nat):PR:=⟨some x0,.pick (.s x1) (.s x2) (.c (.bool false)),none⟩
abbrev Ay (x0 x1:Nat) (x2:Int):PR:=⟨some x0,.bin (.i) .neq (.s x1) (.c (.int .i64 x2)),none⟩
abbrev Az (x0 x1:Nat) (x2:Int):PR:=⟨some x0,.bin (.i) .eql (.s x1) (.c (.int .i64 x2)),none⟩
abbrev Ba (x0 x1 x2:Nat):PR:=⟨some x0,.ld (.s x1),some (x2,true)⟩
abbrev Bb (x0 x1 x2:Nat):PR:=⟨some x0,.call x1 [.s x2],none⟩
abbrev Bc (x0 x1:Nat):PR:=⟨some x0,.not (.s x1),none⟩
abbrev Be (x0 x1 x2 x3:Nat):PR:=⟨some x0,.bad x1 x2,some (x3,true)⟩
abbrev Bf (x0 x1 x2 x3 x4:Nat):PR:=⟨some x0,.call x1 [.s x2,.s x3,.s x4],none⟩
abbrev Bg (x0 x1 x2:Nat):PR:=⟨some x0,.len (.s x1),some (x2,false)⟩
abbrev Bh (x0 x1 x2 x3:Nat):PR:=⟨some x0,.app x1 (.s x2) (.s x3),none⟩
abbrev Bi (x0 x1 x2:Nat):PR:=⟨some x0,.lst x1 [.s x2],none⟩
abbrev Bj (x0 x1:Nat):PR:=⟨some x0,.xal x1,none⟩
abbrev Bk (x0 x1 x2 x3:Nat):PR:=⟨some x0,.lda (.s x1) x2,some (x3,true)⟩
abbrev Bm (x0 x1 x2:Nat):PR:=⟨some x0,.bin (.i) .neq (.s x1) (.s x2),none⟩
abbrev Bn (x0 x1:Nat) (x2:Int):PR:=⟨some x0,.bin (.i) .gtr (.s x1) (.c (.int .i64 x2)),none⟩
abbrev Bo (x0 x1:Nat) (x2:Int):PR:=⟨some x0,.bin (.i) .geq (.s x1) (.c (.int .i64 x2)),none⟩
abbrev Bp (x0 x1 x2 x3:Nat):PR:=⟨some x0,.fad (.s x1) x2,some (x3,false)⟩
abbrev Bq (x0 x1 x2 x3:Nat):PR:=⟨some x0,.fad (.s x1) x2,some (x3,true)⟩
abbrev Br (x0 x1 x2:Nat):PR:=⟨some x0,.not (.s x1),some (x2,false)⟩
abbrev Bs (x0:Nat):PR:=⟨some x0,.mv (.c (.bool true)),none⟩
abbrev Bt (x0 x1 x2:Nat):PR:=⟨some x0,.bin (.i) .add (.s x1) (.s x2),none⟩
abbrev Bu (x0 x1:Nat):PR:=⟨some x0,.tkx x1,none⟩
abbrev Bv (x0 x1 x2 x3:Nat):PR:=⟨some x0,.xia (.s x1) (.s x2) x3,none⟩
abbrev Bw (x0:Nat) (x1:Int):PR:=⟨some x0,.mv (.c (.int .i64 (x1))),none⟩
abbrev Bx (x0 x1 x2 x3:Nat):PR:=⟨some x0,.bin (.i) .geq (.s x1) (.s x2),some (x3,false)⟩
abbrev By (x0 x1:Nat) (x2:Int):PR:=⟨some x0,.bin (.i) .lss (.s x1) (.c (.int .i64 x2)),none⟩
abbrev Bz (x0 x1 x2 x3 x4:Nat):PR:=⟨some x0,.iad (.s x1) (.s x2) x3,some (x4,false)⟩
abbrev Ca (x0 x1 x2 x3 x4 x5 x6:Nat):PR:=⟨some x0,.call x1 [.s x2,.s x3,.s x4,.s x5,.s x6],none⟩
abbrev Cb (x0 x1 x2:Nat):PR:=⟨some x0,.len (.s x1),some (x2,true)⟩
abbrev Cc (x0 x1:Nat) (x2:Int) (x3:Nat):PR:=⟨some x0,.bin (.i) .gtr (.s x1) (.c (.int .i64 x2)),some (x3,false)⟩
abbrev Cd (x0 x1 x2 x3:Nat):PR:=⟨some x0,.pick (.s x1) (.s x2) (.c (.bool false)),some (x3,false)⟩
abbrev Ce (x0 x1:Nat) (x2:Int) (x3:Nat):PR:=⟨some x0,.iad (.s x1) (.c (.int .i64 x2)) x3,none⟩
abbrev Cf (x0:Nat) (x1:Int) (x2 x3 x4 x5:Nat):PR:=⟨some x0,.bld [.int .i64 x1,.list x2 [],.list x3 [],.list x4 [],.list x5 []] [],none⟩
abbrev Cg (x0 x1 x2 x3:Nat):PR:=⟨some x0,.lda (.s x1) x2,some (x3,false)⟩
abbrev Ch (x0 x1 x2 x3:Nat):PR:=⟨some x0,.call x1 [.s x2],some (x3,true)⟩
abbrev Ci (x0:Nat) (x1 x2 x3:Int):PR:=⟨some x0,.alc [⟨false,.int .i64 x1⟩,⟨false,.int .i64 x2⟩,⟨false,.int .i64 x3⟩],none⟩
abbrev Cj (x0 x1:Nat) (x2:Int) (x3:Nat):PR:=⟨some x0,.bin (.i) .leq (.s x1) (.c (.int .i64 x2)),some (x3,true)⟩
abbrev Ck (x0:Nat) (x1:Int) (x2 x3 x4 x5:Nat):PR:=⟨some x0,.alc [⟨false,.int .i64 x1⟩,⟨true,.list x2 []⟩,⟨true,.list x3 []⟩,⟨true,.list x4 []⟩,⟨true,.list x5 []⟩],none⟩
abbrev Cl (x0 x1 x2 x3:Nat):PR:=⟨some x0,.bin (.i) .neq (.s x1) (.s x2),some (x3,false)⟩
abbrev Cm (x0 x1 x2:Nat):PR:=⟨some x0,.callv (.s x1) [.s x2],none⟩
abbrev Cn (x0 x1 x2 x3 x4 x5 x6 x7:Nat):PR:=⟨some x0,.call x1 [.s x2,.s x3,.s x4,.s x5,.s x6,.s x7],none⟩
abbrev Cp (x0 x1 x2:Nat):PR:=⟨some x0,.bin (.i) .eql (.s x1) (.s x2),none⟩
abbrev Cq (x0 x1 x2 x3 x4:Nat):PR:=⟨some x0,.call x1 [.s x2,.s x3],some (x4,true)⟩
abbrev Cr (x0 x1 x2 x3:Nat):PR:=⟨some x0,.bin (.i) .eql (.s x1) (.s x2),some (x3,true)⟩
abbrev Cs (x0 x1:Nat):PR:=⟨none,.xst (.s x0) (.s x1),none⟩
abbrev Cu (x0 x1:Nat) (x2:Int):PR:=⟨some x0,.lst x1 [.c (.int .i64 x2)],none⟩
abbrev Cv (x0 x1 x2:Nat):PR:=⟨some x0,.clo x1 [.s x2],none⟩
abbrev Cw (x0 x1 x2:Nat) (x3:Int):PR:=⟨some x0,.call x1 [.s x2,.c (.int .i64 x3)],none⟩
abbrev Cx (x0 x1:Nat):PR:=⟨some x0,.lst x1 [],none⟩
abbrev Cy (x0 x1 x2:Nat):PR:=⟨some x0,.bin (.i) .geq (.s x1) (.s x2),none⟩
abbrev Cz (x0 x1 x2 x3 x4:Nat):PR:=⟨some x0,.iad (.s x1) (.s x2) x3,some (x4,true)⟩
abbrev Da (x0 x1:Nat) (x2:Int):PR:=⟨some x0,.bin (.i) .sub (.s x1) (.c (.int .i64 x2)),none⟩
abbrev Db (x0 x1:Nat):PR:=⟨some x0,.slen (.s x1),none⟩
abbrev Dc (x0:Nat):PR:=⟨some x0,.mv (.c (.str ⟨#[]⟩)),none⟩
abbrev Dd (x0 x1:Nat):PR:=⟨some x0,.rel x1,none⟩
abbrev De (x0 x1 x2 x3:Nat):PR:=⟨some x0,.alc [⟨true,.list x1 []⟩,⟨true,.list x2 []⟩,⟨true,.list x3 []⟩],none⟩
abbrev Df (x0:Nat):PR:=⟨none,.frz x0,none⟩
abbrev Dg (x0 x1 x2 x3 x4 x5:Nat):PR:=⟨some x0,.call x1 [.s x2,.s x3,.s x4,.s x5],none⟩
abbrev Dh (x0 x1 x2:Nat) (x3:Int) (x4:Nat):PR:=⟨some x0,.call x1 [.s x2,.c (.int .i64 x3),.s x4],none⟩
abbrev Di (x0 x1 x2 x3:Nat):PR:=⟨some x0,.calll x1 [.s x2,.s x3],none⟩
abbrev Dj (x0:Nat):PR:=⟨none,.xst (.s x0) (.c (.bool true)),none⟩
abbrev Dk (x0 x1 x2:Nat):PR:=⟨some x0,.not (.s x1),some (x2,true)⟩
abbrev Dl (x0:Nat) (x1:Int) (x2 x3 x4 x5 x6 x7:Nat) (x8:Int) (x9:Nat):PR:=⟨some x0,.alc [⟨false,.int .i64 x1⟩,⟨true,.list x2 []⟩,⟨true,.list x3 []⟩,⟨true,.list x4 []⟩,⟨true,.list x5 []⟩,⟨true,.list x6 []⟩,⟨true,.list x7 []⟩,⟨false,.int .i64 x8⟩,⟨true,.list x9 []⟩],none⟩
abbrev Dm (x0 x1 x2:Nat):PR:=⟨some x0,.alc [⟨true,.list x1 []⟩,⟨true,.list x2 []⟩],none⟩
abbrev Dn (x0 x1 x2 x3 x4 x5 x6 x7 x8:Nat):PR:=⟨some x0,.bld [.list x1 [],.list x2 []] [(x3,x4,.s x5),(x6,x7,.s x8)],none⟩
abbrev Do (x0 x1 x2:Nat):PR:=⟨some x0,.bin (.s) .eql (.s x1) (.s x2),none⟩
abbrev Dp (x0 x1 x2:Nat):PR:=⟨some x0,.bin (.i) .sub (.s x1) (.s x2),none⟩
abbrev Dq (x0 x1 x2 x3:Nat):PR:=⟨some x0,.lst x1 [.s x2,.s x3],none⟩
abbrev Ds (x0 x1:Nat) (x2:Int) (x3:Nat):PR:=⟨some x0,.bin (.i) .eql (.s x1) (.c (.int .i64 x2)),some (x3,true)⟩
abbrev Dt (x0 x1:Nat):PR:=⟨some x0,.lac (.s x1),none⟩
abbrev Du (x0 x1 x2:Nat):PR:=⟨none,.st x0 (.s x1) (.s x2),none⟩
abbrev Dv (x0 x1:Nat) (x2:Int) (x3 x4:Nat):PR:=⟨some x0,.iad (.s x1) (.c (.int .i64 x2)) x3,some (x4,true)⟩
abbrev Dw (x0 x1:Nat) (x2:Int) (x3:Nat):PR:=⟨some x0,.bin (.i) .leq (.s x1) (.c (.int .u8 x2)),some (x3,true)⟩
abbrev Dx (x0 x1 x2 x3:Nat):PR:=⟨some x0,.call x1 [.s x2],some (x3,false)⟩
abbrev Dy (x0 x1 x2 x3:Nat):PR:=⟨some x0,.appx x1 x2 (.s x3),none⟩
abbrev Dz (x0 x1 x2 x3:Nat):PR:=⟨some x0,.pick (.s x1) (.c (.bool true)) (.s x2),some (x3,true)⟩
abbrev Ea (x0 x1 x2 x3 x4:Nat):PR:=⟨some x0,.call x1 [.s x2,.s x3],some (x4,false)⟩
abbrev Eb (x0:Nat) (x1 x2:Int) (x3:Nat):PR:=⟨some x0,.alc [⟨false,.str ⟨#[]⟩⟩,⟨false,.int .i64 x1⟩,⟨false,.int .i64 x2⟩,⟨true,.list x3 []⟩],none⟩
abbrev Ec (x0 x1 x2:Nat):PR:=⟨some x0,.bin (.b) .eql (.s x1) (.s x2),none⟩
abbrev Ed (x0 x1 x2:Nat):PR:=⟨some x0,.mkx x1 [.bool false] (.s x2),none⟩
abbrev Ee (x0:Nat) (x1 x2 x3 x4:Int):PR:=⟨some x0,.alc [⟨false,.int .i64 x1⟩,⟨false,.int .i64 x2⟩,⟨false,.int .i64 x3⟩,⟨false,.int .i64 x4⟩],none⟩
abbrev Ef (x0 x1 x2 x3:Nat) (x4:Int) (x5:Nat):PR:=⟨some x0,.alc [⟨true,.list x1 []⟩,⟨true,.list x2 []⟩,⟨true,.list x3 []⟩,⟨false,.int .i64 x4⟩,⟨true,.list x5 []⟩],none⟩
abbrev Eg (x0 x1:Nat):PR:=⟨some x0,.xlen (.s x1),none⟩
abbrev Eh (x0 x1 x2 x3 x4 x5:Nat):PR:=⟨some x0,.call x1 [.s x2,.s x3,.s x4],some (x5,true)⟩
abbrev Ei (x0 x1 x2:Nat):PR:=⟨some x0,.bin (.i) .gtr (.s x1) (.s x2),none⟩
abbrev Ej (x0 x1:Nat):PR:=⟨some x0,.ldt (.s x1),none⟩
abbrev Ek (x0 x1:Nat) (x2:Int):PR:=⟨some x0,.bin (.i) .geq (.s x1) (.c (.int .u8 x2)),none⟩
abbrev El (x0 x1 x2 x3:Nat):PR:=⟨some x0,.callx x1 [.s x2,.s x3],none⟩
abbrev Em (x0 x1 x2 x3:Nat):PR:=⟨some x0,.slc x1 (.s x2) none (some (.s x3)),none⟩
abbrev Eo (x0 x1 x2 x3:Nat):PR:=⟨some x0,.bin (.i) .leq (.s x1) (.s x2),some (x3,true)⟩
abbrev Ep (x0 x1:Nat) (x2:Int):PR:=⟨some x0,.bin (.i) .lss (.s x1) (.c (.int .i64 (x2))),none⟩
abbrev Eq (x0 x1 x2 x3:Nat):PR:=⟨some x0,.bin (.i) .lss (.s x1) (.s x2),some (x3,true)⟩
abbrev Er (x0:Nat) (x1 x2 x3 x4 x5:Int):PR:=⟨some x0,.alc [⟨false,.int .i64 x1⟩,⟨false,.int .i64 x2⟩,⟨false,.int .i64 x3⟩,⟨false,.int .i64 x4⟩,⟨false,.int .i64 x5⟩],none⟩
abbrev Es (x0 x1 x2 x3:Nat):PR:=⟨some x0,.bin (.i) .neq (.s x1) (.s x2),some (x3,true)⟩
abbrev Et (x0 x1 x2:Nat):PR:=⟨none,.stx x0 x1 x2,none⟩
abbrev Eu (x0 x1 x2 x3:Nat):PR:=⟨some x0,.slc x1 (.s x2) (some (.s x3)) none,none⟩
abbrev Ew (x0:Nat) (x1 x2 x3:Int) (x4 x5:Nat) (x6:Int) (x7 x8:Nat) (x9:Int) (x10 x11:Nat) (x12:Int):PR:=⟨some x0,.bld [.int .i64 x1,.int .i64 x2,.int .i64 x3] [(x4,x5,.c (.int .i64 x6)),(x7,x8,.c (.int .i64 x9)),(x10,x11,.c (.int .i64 x12))],none⟩
abbrev Ey (x0 x1:Nat):PR:=⟨some x0,.call x1 [],none⟩
abbrev Ez (x0 x1 x2 x3:Nat):PR:=⟨some x0,.bin (.i) .add (.s x1) (.s x2),some (x3,true)⟩
abbrev Fa (x0 x1 x2 x3:Nat):PR:=⟨some x0,.call x1 [.s x2,.c (.clo x3 [])],none⟩
abbrev Fb (x0:Nat) (x1 x2:Int) (x3 x4:Nat) (x5:Int) (x6 x7 x8:Nat):PR:=⟨some x0,.bld [.int .i64 x1,.str ⟨#[]⟩,.int .i64 x2] [(x3,x4,.c (.int .i64 x5)),(x6,x7,.s x8)],none⟩
abbrev Fc (x0 x1:Nat):PR:=⟨some x0,.nilx x1,none⟩
abbrev Fd (x0 x1:Nat) (x2:Int) (x3:Nat):PR:=⟨some x0,.bin (.i) .sub (.s x1) (.c (.int .i64 x2)),some (x3,true)⟩
abbrev Fe (x0 x1:Nat):PR:=⟨some x0,.isn (.s x1),none⟩
abbrev Ff (x0 x1:Nat):PR:=⟨some x0,.xld (.s x1),none⟩
abbrev Fg (x0:Nat) (x1 x2:Int) (x3:Nat):PR:=⟨some x0,.bld [.str ⟨#[]⟩,.int .i64 x1,.int .i64 x2,.list x3 []] [],none⟩
abbrev Fh (x0 x1:Nat) (x2:Int) (x3:Nat):PR:=⟨some x0,.bin (.i) .sub (.s x1) (.c (.int .i64 x2)),some (x3,false)⟩
abbrev Fj (x0 x1:Nat) (x2:Int) (x3:Nat):PR:=⟨some x0,.bin (.i) .eql (.s x1) (.c (.int .i64 x2)),some (x3,false)⟩
abbrev Fk (x0 x1:Nat) (x2:Int) (x3:Nat):PR:=⟨some x0,.mkx x1 [.int .i64 x2] (.s x3),none⟩
abbrev Fm (x0 x1 x2:Nat):PR:=⟨some x0,.xal x1,some (x2,true)⟩
abbrev Fo (x0 x1 x2 x3 x4:Nat):PR:=⟨some x0,.xia (.s x1) (.s x2) x3,some (x4,true)⟩
abbrev Fp (x0 x1 x2:Nat):PR:=⟨some x0,.xld (.s x1),some (x2,true)⟩
abbrev Fq (x0 x1:Nat):PR:=⟨some x0,.ctk (.s x1),none⟩
abbrev Fr (x0 x1:Nat):PR:=⟨none,.cpt (.s x0) x1,none⟩
abbrev Fs (x0 x1:Nat) (x2:Int):PR:=⟨some x0,.lst x1 [.c (.int .i64 (x2))],none⟩
abbrev Ft (x0 x1 x2 x3 x4 x5 x6 x7 x8 x9:Nat):PR:=⟨some x0,.bld [.list x1 [],.list x2 [],.list x3 []] [(x4,x5,.s x6),(x7,x8,.s x9)],none⟩
abbrev Fu (x0:Nat) (x1:Int) (x2 x3 x4 x5 x6 x7 x8 x9 x10 x11:Nat):PR:=⟨some x0,.bld [.int .i64 x1,.list x2 [],.list x3 [],.list x4 [],.list x5 []] [(x6,x7,.s x8),(x9,x10,.s x11)],none⟩
abbrev Fv (x0 x1 x2 x3 x4 x5:Nat):PR:=⟨some x0,.call x1 [.s x2,.s x3,.s x4],some (x5,false)⟩
abbrev Fw (x0 x1 x2 x3 x4 x5 x6:Nat):PR:=⟨some x0,.call x1 [.s x2,.s x3,.s x4,.s x5,.s x6,.c (.bool true)],none⟩
abbrev Fx (x0:Nat) (x1 x2:Int):PR:=⟨some x0,.bld [.int .i64 x1,.str ⟨#[]⟩,.int .i64 x2] [],none⟩
abbrev Fy (x0 x1 x2 x3:Nat):PR:=⟨some x0,.sidx (.s x1) (.s x2),some (x3,true)⟩
abbrev Ga (x0 x1:Nat) (x2:Int):PR:=⟨some x0,.bin (.i) .eql (.s x1) (.c (.int .u8 x2)),none⟩
abbrev Gb (x0 x1 x2:Nat):PR:=⟨some x0,.slen (.s x1),some (x2,true)⟩
abbrev Gc (x0:Nat) (x1:Int) (x2:Nat):PR:=⟨some x0,.alc [⟨false,.str ⟨#[]⟩⟩,⟨false,.int .i64 x1⟩,⟨false,.bool false⟩,⟨true,.list x2 []⟩],none⟩
abbrev Gd (x0:Nat) (x1 x2 x3 x4 x5 x6:Int):PR:=⟨some x0,.alc [⟨false,.str ⟨#[]⟩⟩,⟨false,.int .i64 x1⟩,⟨false,.int .i64 x2⟩,⟨false,.int .i64 x3⟩,⟨false,.int .i64 x4⟩,⟨false,.int .i64 x5⟩,⟨false,.int .i64 x6⟩],none⟩
abbrev Ge (x0 x1 x2:Nat):PR:=⟨some x0,.callm x1 (.s x2),none⟩
abbrev Gf (x0 x1:Nat) (x2:Int) (x3:Nat):PR:=⟨some x0,.bin (.i) .neq (.s x1) (.c (.int .i64 x2)),some (x3,true)⟩
abbrev Gg (x0 x1 x2:Nat):PR:=⟨some x0,.mm true (.s x1) (.s x2),none⟩
abbrev Gh (x0:Nat) (x1:Int):PR:=⟨some x0,.alc [⟨false,.int .i64 x1⟩],none⟩
abbrev Gi (x0 x1 x2:Nat):PR:=⟨some x0,.callx x1 [.s x2],none⟩
abbrev Gk (x0:Nat) (x1:Int):PR:=⟨some x0,.mv (.c (.int .u64 x1)),none⟩
abbrev Gl (x0 x1 x2 x3 x4 x5:Nat):PR:=⟨some x0,.call x1 [.s x2,.s x3,.s x4,.s x5,.c (.bool false)],none⟩
abbrev Gm (x0 x1 x2:Nat):PR:=⟨some x0,.calll x1 [.s x2],none⟩
abbrev Gn (x0 x1 x2 x3:Nat):PR:=⟨some x0,.callb x1 [.s x2] x3,none⟩
abbrev Gp (x0 x1:Nat) (x2:Int) (x3:Nat):PR:=⟨some x0,.alc [⟨true,.list x1 []⟩,⟨false,.int .i64 x2⟩,⟨true,.list x3 []⟩],none⟩
abbrev Gq (x0 x1 x2 x3:Nat) (x4:Int) (x5:Nat):PR:=⟨some x0,.call x1 [.s x2,.s x3,.c (.int .i64 x4),.s x5],none⟩
abbrev Gr (x0 x1 x2 x3 x4 x5 x6:Nat):PR:=⟨some x0,.alc [⟨true,.list x1 []⟩,⟨true,.list x2 []⟩,⟨true,.list x3 []⟩,⟨true,.list x4 []⟩,⟨true,.list x5 []⟩,⟨true,.list x6 []⟩,⟨false,.bool false⟩],none⟩
abbrev Gs (x0 x1:Nat) (x2 x3:Int):PR:=⟨some x0,.lst x1 [.c (.int .i64 x2),.c (.int .i64 x3)],none⟩
abbrev Gt (x0 x1:Nat) (x2:Int):PR:=⟨some x0,.bin (.i) .leq (.s x1) (.c (.int .i64 x2)),none⟩
abbrev Gu (x0 x1:Nat) (x2:Int) (x3:Nat):PR:=⟨some x0,.bin (.i) .geq (.s x1) (.c (.int .i64 x2)),some (x3,true)⟩
abbrev Gv (x0 x1 x2:Nat) (x3:Int) (x4 x5:Nat):PR:=⟨some x0,.call x1 [.s x2,.c (.int .i64 x3),.s x4],some (x5,false)⟩
abbrev Gw (x0 x1 x2:Nat) (x3:Int):PR:=⟨some x0,.slc x1 (.s x2) (some (.c (.int .i64 x3))) none,none⟩
abbrev Gx (x0 x1:Nat) (x2:Int) (x3:Nat):PR:=⟨some x0,.bin (.i) .geq (.s x1) (.c (.int .u8 x2)),some (x3,false)⟩
abbrev Gy (x0 x1:Nat) (x2:Int) (x3:Nat):PR:=⟨some x0,.bin (.i) .eql (.s x1) (.c (.int .u8 x2)),some (x3,false)⟩
abbrev Gz (x0 x1:Nat) (x2:Int) (x3:Nat):PR:=⟨some x0,.bin (.i) .eql (.s x1) (.c (.int .i64 (x2))),some (x3,true)⟩
abbrev Ha (x0 x1:Nat) (x2:Int) (x3:Nat):PR:=⟨some x0,.bin (.i) .lss (.s x1) (.c (.int .i64 x2)),some (x3,false)⟩
abbrev Hb (x0 x1 x2:Nat) (x3 x4:Int):PR:=⟨some x0,.call x1 [.s x2,.c (.int .i64 x3),.c (.int .i64 x4)],none⟩
abbrev Hc (x0 x1 x2 x3 x4 x5 x6:Nat) (x7:Int):PR:=⟨some x0,.call x1 [.s x2,.s x3,.s x4,.s x5,.s x6,.c (.int .i64 x7)],none⟩
abbrev Hd (x0 x1 x2 x3 x4 x5 x6 x7 x8 x9 x10 x11 x12 x13 x14:Nat):PR:=⟨some x0,.bld [.list x1 [],.list x2 [],.list x3 [],.list x4 [],.list x5 [],.bool false] [(x6,x7,.s x8),(x9,x10,.s x11),(x12,x13,.s x14)],none⟩
abbrev He (x0 x1:Nat) (x2:Int) (x3 x4 x5 x6 x7 x8 x9 x10 x11 x12:Nat):PR:=⟨some x0,.bld [.list x1 [],.int .i64 x2,.list x3 []] [(x4,x5,.s x6),(x7,x8,.s x9),(x10,x11,.s x12)],none⟩
abbrev Hf (x0 x1 x2:Nat) (x3:Int) (x4:Nat):PR:=⟨some x0,.call x1 [.s x2,.c (.int .i64 x3),.c (.list x4 [])],none⟩
abbrev Hg (x0 x1:Nat) (x2:Int) (x3:Nat):PR:=⟨some x0,.bin (.i) .lss (.s x1) (.c (.int .i64 x2)),some (x3,true)⟩
abbrev Hh (x0 x1 x2 x3 x4:Nat):PR:=⟨some x0,.bldg [.v (.s x1) x2 x3,.z ⟨true,.list x4 []⟩],none⟩
abbrev Hi (x0 x1 x2 x3:Nat) (x4:Int) (x5:Nat) (x6:Int) (x7 x8 x9 x10 x11 x12:Nat) (x13:Int) (x14:Nat):PR:=⟨some x0,.alc [⟨true,.list x1 []⟩,⟨true,.list x2 []⟩,⟨true,.list x3 []⟩,⟨false,.int .i64 x4⟩,⟨true,.list x5 []⟩,⟨false,.int .i64 x6⟩,⟨true,.list x7 []⟩,⟨true,.list x8 []⟩,⟨true,.list x9 []⟩,⟨true,.list x10 []⟩,⟨true,.list x11 []⟩,⟨true,.list x12 []⟩,⟨false,.int .i64 x13⟩,⟨true,.list x14 []⟩],none⟩
abbrev Hj (x0 x1 x2 x3:Nat) (x4:Int) (x5 x6 x7 x8:Nat):PR:=⟨some x0,.bld [.list x1 [],.list x2 [],.list x3 [],.int .i64 x4,.list x5 []] [(x6,x7,.s x8)],none⟩
abbrev Hk (x0 x1:Nat) (x2 x3 x4:Int):PR:=⟨some x0,.lst x1 [.c (.int .i64 x2),.c (.int .i64 x3),.c (.int .i64 x4)],none⟩
abbrev Hl (x0:Nat) (x1 x2:Int):PR:=⟨some x0,.alc [⟨false,.int .i64 x1⟩,⟨false,.str ⟨#[]⟩⟩,⟨false,.int .i64 x2⟩],none⟩
abbrev Hm (x0 x1 x2 x3:Nat) (x4:Int) (x5:Nat):PR:=⟨some x0,.call x1 [.s x2,.s x3,.c (.int .i64 x4)],some (x5,false)⟩
abbrev Hn (x0 x1:Nat) (x2:Int) (x3:Nat):PR:=⟨some x0,.bin (.i) .lss (.s x1) (.c (.int .i64 (x2))),some (x3,false)⟩
abbrev Ho (x0 x1 x2 x3 x4 x5 x6 x7 x8:Nat):PR:=⟨some x0,.alc [⟨true,.list x1 []⟩,⟨true,.list x2 []⟩,⟨true,.list x3 []⟩,⟨true,.list x4 []⟩,⟨true,.list x5 []⟩,⟨true,.list x6 []⟩,⟨true,.list x7 []⟩,⟨true,.list x8 []⟩,⟨false,.bool false⟩],none⟩
abbrev Hp (x0 x1 x2 x3 x4 x5 x6 x7 x8:Nat):PR:=⟨some x0,.call x1 [.s x2,.s x3,.s x4,.s x5,.s x6,.s x7,.s x8],none⟩
end Go.Sf
namespace Go.Sf.Sc
open Go Go.Sf Go.Proofs.Tryz
instance (l:List AA):Ml (J2 l) AE l:=⟨NZ l⟩
instance (l:List A2):Ml (Na l) GE l:=⟨QT l⟩
instance:En AA AE:=⟨⟩
instance:En A2 GE:=⟨⟩
instance:Fl AE 9 H2:=⟨Kz⟩
instance:Fl GE 5 JJ:=⟨Xk⟩
instance:Z2 EE:=⟨fun l=>match l with | [.int _ x0,.int _ x1,.int _ x2]=>DU.mk x0 x1 x2 | _=>DU.mk 0 0 0,fun a b=>⟨inferInstance,cM a b⟩⟩
abbrev CK (fn:Func) (pl:PC) (rv:List RV):Prop:=FU prog fn.ntmps (Rm prog fn.ntmps) pl (fn.body.getD .skip)=true∧JE prog fn.results.toList rv=true
theorem Fn {f : FuncId} {fn : Func} {c : Code} {pl : PC} {rv : List RV} {args : QQ} {r : CS} (ck : CK fn pl rv) (h : TV.WFs args → WP (AT prog) pl ⟨E7 rv r, fun _ _ => False, E7 rv r⟩ (Ke 0 args)) (hf : prog.funcs[f]? = some fn := by rfl) (hb : fn.body = some c := by rfl) (hname : fn.name ≠ "runtime.NumGoroutine" := by decide) (hn : Nat.ble args.length fn.ntmps = true := by rfl) (hp : r.plain = true := by rfl) : AT prog f args r := by
  have h1:=ck.1;rw [hb] at h1;exact cN (Ti Sc.Tryz_follows) hf hb hname h1 ck.2 (Nat.le_of_ble_eq_true hn) hp (fun hw=>(h hw).out)
theorem uL {f : FuncId} {fn : Func} {c : Code} {pl : PC} {rv : List RV} {args : QQ} {cs cs' : List A1} {i : Nat} {us : QQ} (ck : CK fn pl rv) (nb : PC.noClm pl = true ∧ PC.noDst i pl = true) (h : TV.WFs args → (∀ c ∈ cs, c.t.WF) → WP (AT prog) pl ⟨E7 rv (.bo cs cs' i us), fun _ _ => False, E7 rv (.bo cs cs' i us)⟩ ((i, .bx cs) :: Ke 0 args)) (hf : prog.funcs[f]? = some fn := by rfl) (hb : fn.body = some c := by rfl) (hname : fn.name ≠ "runtime.NumGoroutine" := by decide) (hn : Nat.ble args.length fn.ntmps = true := by rfl) : AT prog f args (.bo cs cs' i us) := by
  have h1:=ck.1;rw [hb] at h1;exact aM (Ti Sc.Tryz_follows) hf hb hname h1 ck.2 (Nat.le_of_ble_eq_true hn) nb.1 nb.2 (fun hw hwc=>(h hw hwc).out)
theorem Fi {α : Type} {x : Option α} {f : FuncId} {fn : Func} {c : Code} {pl : PC} {rv : List RV} {ts : QQ} {R : α → CS} (ck : CK fn pl rv) (h : ∀ r, x = some r → TV.WFs ts → HR (fun r => E7 rv (R r)) → WP (AT prog) pl ⟨E7 rv (R r), fun _ _ => False, E7 rv (R r)⟩ (Ke 0 ts)) (hf : prog.funcs[f]? = some fn := by rfl) (hb : fn.body = some c := by rfl) (hname : fn.name ≠ "runtime.NumGoroutine" := by decide) (hn : Nat.ble ts.length fn.ntmps = true := by rfl) (hp : ∀ r, (R r).plain = true := by exact fun _ => rfl) : Ct prog x f ts R :=
  ⟨fun r hr=>Fn ck (fun hw=>h r hr hw ⟨⟩) hf hb hname hn (hp r)⟩
theorem g9 {α : Type} {x : Option α} {f : FuncId} {fn : Func} {c : Code} {pl : PC} {rv : List RV} {ts : QQ} {i : Nat} {cs : List A1} {cs' : α → List A1} {us : α → QQ} (ck : CK fn pl rv) (nb : PC.noClm pl = true ∧ PC.noDst i pl = true) (h : ∀ r, x = some r → TV.WFs ts → (∀ c ∈ cs, c.t.WF) → HR (fun r => E7 rv (.bo cs (cs' r) i (us r))) → WP (AT prog) pl ⟨E7 rv (.bo cs (cs' r) i (us r)), fun _ _ => False, E7 rv (.bo cs (cs' r) i (us r))⟩ ((i, .bx cs) :: Ke 0 ts)) (hf : prog.funcs[f]? = some fn := by rfl) (hb : fn.body = some c := by rfl) (hname : fn.name ≠ "runtime.NumGoroutine" := by decide) (hn : Nat.ble ts.length fn.ntmps = true := by rfl) : Ct prog x f ts (fun r => .bo cs (cs' r) i (us r)) :=
  ⟨fun r hr=>uL ck nb (fun hw hwc=>h r hr hw hwc ⟨⟩) hf hb hname hn⟩
end Go.Sf.Sc
