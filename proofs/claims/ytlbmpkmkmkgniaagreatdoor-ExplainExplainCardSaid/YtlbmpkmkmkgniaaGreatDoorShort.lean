/- Shorter names for the shapes of rows, and how structs are read. -/
import Derived.Test.YtlbmpkmkmkgniaaGreatDoorSfAut3
import Derived.Test.YtlbmpkmkmkgniaaGreatDoorSfDraw
import Derived.Test.YtlbmpkmkmkgniaaGreatDoorSfLib
import Derived.Test.YtlbmpkmkmkgniaaGreatDoorFns
set_option linter.all false
set_option maxRecDepth 100000
namespace Go.Sf
abbrev Rq (o:List PR) (l:ci) (b:PC):PC:=.seq (.region o l) b
abbrev Sq (a b:PC):PC:=.seq a b
abbrev Re (o:List PR) (l:ci):PC:=.region o l
abbrev Dr (d:ci) (o:List PR) (l:ci):PC:=.draw d o l
abbrev Sk (l:ci):PC:=.skip l
abbrev Ex (i:Nat) (l:ci):PC:=.exit i l
abbrev Co (c:Nat) (a b:PC):PC:=.cond (.s c) a b
abbrev Bl (i:Nat) (a:PC):PC:=.block i a
abbrev Lo (l:ci) (a:PC):PC:=.loop l a
abbrev Aa (x0 x1:Nat):PR:=⟨some x0,.mv (.s x1),none⟩
abbrev Ab (x0 x1:Nat):PR:=⟨some x0,.ld (.s x1),none⟩
abbrev Ac (x0 x1 x2:Nat):PR:=⟨some x0,.bad x1 x2,none⟩
abbrev Ad (x0 x1 x2:Nat):PR:=⟨some x0,.lda (.s x1) x2,none⟩
abbrev Ae (x0:Nat) (x1:Int):PR:=⟨some x0,.mv (.c (.int .i64 x1)),none⟩
abbrev Af (x0 x1:Nat):PR:=⟨some x0,.boxs (.s x1),none⟩
abbrev Ag (x0 x1:Nat):PR:=⟨some x0,.len (.s x1),none⟩
abbrev Ah (x0 x1 x2:Nat):PR:=⟨some x0,.fad (.s x1) x2,none⟩
abbrev Ai (x0 x1 x2 x3:Nat):PR:=⟨some x0,.iad (.s x1) (.s x2) x3,none⟩
abbrev Aj (x0 x1 x2:Nat):PR:=⟨some x0,.ext (.s x1) x2,none⟩
abbrev Ak (x0 x1:Nat):PR:=⟨some x0,.tk x1,none⟩
abbrev Al (x0:Nat):PR:=⟨some x0,.mv (.c (.bool false)),none⟩
abbrev Am (x0 x1 x2:Nat):PR:=⟨some x0,.bin (.i) .lss (.s x1) (.s x2),none⟩
abbrev An (x0 x1:Nat) (x2:Int):PR:=⟨some x0,.bin (.i) .add (.s x1) (.c (.int .i64 x2)),none⟩
abbrev Ao (x0 x1 x2:Nat):PR:=⟨none,.stb x0 x1 (.s x2),none⟩
abbrev Ap (x0 x1 x2:Nat):PR:=⟨some x0,.ld (.s x1),some (x2,false)⟩
abbrev Aq (x0 x1 x2 x3:Nat):PR:=⟨some x0,.bad x1 x2,some (x3,false)⟩
abbrev Ar (x0 x1:Nat):PR:=⟨some x0,.nilo x1,none⟩
abbrev As (x0 x1 x2:Nat):PR:=⟨some x0,.mv (.s x1),some (x2,true)⟩
abbrev Au (x0 x1 x2:Nat):PR:=⟨some x0,.pick (.s x1) (.c (.bool true)) (.s x2),none⟩
abbrev Av (x0 x1 x2 x3:Nat):PR:=⟨some x0,.call x1 [.s x2,.s x3],none⟩
abbrev Aw (x0 x1:Nat) (x2:Int):PR:=⟨some x0,.bin (.i) .neq (.s x1) (.c (.int .i64 x2)),none⟩
abbrev Ax (x0 x1 x2:Nat):PR:=⟨some x0,.pick (.s x1) (.s x2) (.c (.bool false)),none⟩
abbrev Ay (x0 x1 x2:Nat):PR:=⟨some x0,.mv (.s x1),some (x2,false)⟩
abbrev Az (x0 x1:Nat):PR:=⟨some x0,.not (.s x1),none⟩
abbrev Ba (x0 x1:Nat) (x2:Int):PR:=⟨some x0,.bin (.i) .eql (.s x1) (.c (.int .i64 x2)),none⟩
abbrev Bb (x0 x1 x2:Nat):PR:=⟨some x0,.call x1 [.s x2],none⟩
abbrev Bc (x0 x1 x2:Nat):PR:=⟨some x0,.ld (.s x1),some (x2,true)⟩
abbrev Be (x0 x1 x2 x3:Nat):PR:=⟨some x0,.bad x1 x2,some (x3,true)⟩
abbrev Bf (x0 x1 x2 x3 x4:Nat):PR:=⟨some x0,.call x1 [.s x2,.s x3,.s x4],none⟩
abbrev Bg (x0 x1 x2:Nat):PR:=⟨some x0,.len (.s x1),some (x2,false)⟩
abbrev Bh (x0 x1 x2:Nat):PR:=⟨some x0,.lst x1 [.s x2],none⟩
abbrev Bi (x0 x1 x2 x3:Nat):PR:=⟨some x0,.app x1 (.s x2) (.s x3),none⟩
abbrev Bj (x0 x1:Nat):PR:=⟨some x0,.xal x1,none⟩
abbrev Bk (x0 x1 x2:Nat):PR:=⟨some x0,.bin (.i) .neq (.s x1) (.s x2),none⟩
abbrev Bm (x0 x1 x2 x3:Nat):PR:=⟨some x0,.lda (.s x1) x2,some (x3,true)⟩
abbrev Bn (x0 x1:Nat) (x2:Int):PR:=⟨some x0,.bin (.i) .gtr (.s x1) (.c (.int .i64 x2)),none⟩
abbrev Bo (x0 x1:Nat) (x2:Int):PR:=⟨some x0,.bin (.i) .geq (.s x1) (.c (.int .i64 x2)),none⟩
abbrev Bp (x0 x1 x2 x3:Nat):PR:=⟨some x0,.fad (.s x1) x2,some (x3,false)⟩
abbrev Bq (x0 x1 x2 x3:Nat):PR:=⟨some x0,.fad (.s x1) x2,some (x3,true)⟩
abbrev Br (x0:Nat):PR:=⟨some x0,.mv (.c (.bool true)),none⟩
abbrev Bs (x0 x1 x2:Nat):PR:=⟨some x0,.bin (.i) .add (.s x1) (.s x2),none⟩
abbrev Bt (x0 x1:Nat):PR:=⟨some x0,.tkx x1,none⟩
abbrev Bu (x0 x1 x2:Nat):PR:=⟨some x0,.not (.s x1),some (x2,false)⟩
abbrev Bv (x0 x1 x2 x3:Nat):PR:=⟨some x0,.xia (.s x1) (.s x2) x3,none⟩
abbrev Bw (x0:Nat) (x1:Int):PR:=⟨some x0,.mv (.c (.int .i64 (x1))),none⟩
abbrev Bx (x0 x1 x2 x3:Nat):PR:=⟨some x0,.bin (.i) .geq (.s x1) (.s x2),some (x3,false)⟩
abbrev By (x0 x1:Nat) (x2:Int):PR:=⟨some x0,.bin (.i) .lss (.s x1) (.c (.int .i64 x2)),none⟩
abbrev Bz (x0 x1 x2 x3:Nat):PR:=⟨some x0,.lda (.s x1) x2,some (x3,false)⟩
abbrev Ca (x0 x1 x2 x3 x4 x5 x6:Nat):PR:=⟨some x0,.call x1 [.s x2,.s x3,.s x4,.s x5,.s x6],none⟩
abbrev Cb (x0 x1 x2 x3 x4:Nat):PR:=⟨some x0,.iad (.s x1) (.s x2) x3,some (x4,false)⟩
abbrev Cc (x0 x1 x2:Nat):PR:=⟨some x0,.len (.s x1),some (x2,true)⟩
abbrev Cd (x0:Nat) (x1:Int) (x2 x3 x4 x5:Nat):PR:=⟨some x0,.bld [.int .i64 x1,.list x2 [],.list x3 [],.list x4 [],.list x5 []] [],none⟩
abbrev Ce (x0 x1 x2 x3:Nat):PR:=⟨some x0,.pick (.s x1) (.s x2) (.c (.bool false)),some (x3,false)⟩
abbrev Cf (x0 x1:Nat) (x2:Int) (x3:Nat):PR:=⟨some x0,.bin (.i) .gtr (.s x1) (.c (.int .i64 x2)),some (x3,false)⟩
abbrev Cg (x0 x1 x2 x3:Nat):PR:=⟨some x0,.call x1 [.s x2],some (x3,true)⟩
abbrev Ch (x0:Nat) (x1 x2 x3:Int):PR:=⟨some x0,.alc [⟨false,.int .i64 x1⟩,⟨false,.int .i64 x2⟩,⟨false,.int .i64 x3⟩],none⟩
abbrev Ci (x0 x1:Nat) (x2:Int) (x3:Nat):PR:=⟨some x0,.bin (.i) .leq (.s x1) (.c (.int .i64 x2)),some (x3,true)⟩
abbrev Cj (x0 x1 x2 x3:Nat):PR:=⟨some x0,.bin (.i) .neq (.s x1) (.s x2),some (x3,false)⟩
abbrev Ck (x0:Nat) (x1:Int) (x2 x3 x4 x5:Nat):PR:=⟨some x0,.alc [⟨false,.int .i64 x1⟩,⟨true,.list x2 []⟩,⟨true,.list x3 []⟩,⟨true,.list x4 []⟩,⟨true,.list x5 []⟩],none⟩
abbrev Cl (x0 x1 x2 x3 x4 x5:Nat):PR:=⟨some x0,.call x1 [.s x2,.s x3,.s x4,.s x5],none⟩
abbrev Cm (x0 x1:Nat) (x2:Int) (x3:Nat):PR:=⟨some x0,.iad (.s x1) (.c (.int .i64 x2)) x3,none⟩
abbrev Cn (x0 x1 x2:Nat):PR:=⟨some x0,.callv (.s x1) [.s x2],none⟩
abbrev Cp (x0 x1 x2:Nat):PR:=⟨some x0,.bin (.i) .eql (.s x1) (.s x2),none⟩
abbrev Cq (x0 x1:Nat):PR:=⟨none,.xst (.s x0) (.s x1),none⟩
abbrev Cr (x0 x1 x2 x3 x4:Nat):PR:=⟨some x0,.call x1 [.s x2,.s x3],some (x4,true)⟩
abbrev Cs (x0 x1 x2:Nat):PR:=⟨some x0,.clo x1 [.s x2],none⟩
abbrev Cu (x0 x1 x2:Nat) (x3:Int):PR:=⟨some x0,.call x1 [.s x2,.c (.int .i64 x3)],none⟩
abbrev Cv (x0 x1 x2:Nat):PR:=⟨some x0,.bin (.i) .geq (.s x1) (.s x2),none⟩
abbrev Cw (x0 x1:Nat) (x2:Int):PR:=⟨some x0,.bin (.i) .sub (.s x1) (.c (.int .i64 x2)),none⟩
abbrev Cx (x0 x1 x2 x3 x4 x5 x6 x7:Nat):PR:=⟨some x0,.call x1 [.s x2,.s x3,.s x4,.s x5,.s x6,.s x7],none⟩
abbrev Cy (x0 x1:Nat) (x2:Int):PR:=⟨some x0,.lst x1 [.c (.int .i64 x2)],none⟩
abbrev Cz (x0 x1:Nat):PR:=⟨some x0,.slen (.s x1),none⟩
abbrev Da (x0:Nat):PR:=⟨some x0,.mv (.c (.str ⟨#[]⟩)),none⟩
abbrev Db (x0 x1 x2 x3:Nat):PR:=⟨some x0,.bin (.i) .eql (.s x1) (.s x2),some (x3,true)⟩
abbrev Dc (x0 x1:Nat):PR:=⟨some x0,.lst x1 [],none⟩
abbrev Dd (x0 x1:Nat):PR:=⟨some x0,.rel x1,none⟩
abbrev De (x0 x1 x2 x3:Nat):PR:=⟨some x0,.alc [⟨true,.list x1 []⟩,⟨true,.list x2 []⟩,⟨true,.list x3 []⟩],none⟩
abbrev Df (x0:Nat):PR:=⟨none,.frz x0,none⟩
abbrev Dg (x0 x1 x2:Nat):PR:=⟨some x0,.not (.s x1),some (x2,true)⟩
abbrev Dh (x0 x1 x2 x3:Nat):PR:=⟨some x0,.calll x1 [.s x2,.s x3],none⟩
abbrev Di (x0 x1 x2 x3 x4:Nat):PR:=⟨some x0,.iad (.s x1) (.s x2) x3,some (x4,true)⟩
abbrev Dj (x0:Nat):PR:=⟨none,.xst (.s x0) (.c (.bool true)),none⟩
abbrev Dk (x0 x1:Nat) (x2:Int) (x3:Nat):PR:=⟨some x0,.bin (.i) .eql (.s x1) (.c (.int .i64 x2)),some (x3,true)⟩
abbrev Dl (x0:Nat) (x1:Int) (x2 x3 x4 x5 x6 x7:Nat) (x8:Int) (x9:Nat):PR:=⟨some x0,.alc [⟨false,.int .i64 x1⟩,⟨true,.list x2 []⟩,⟨true,.list x3 []⟩,⟨true,.list x4 []⟩,⟨true,.list x5 []⟩,⟨true,.list x6 []⟩,⟨true,.list x7 []⟩,⟨false,.int .i64 x8⟩,⟨true,.list x9 []⟩],none⟩
abbrev Dm (x0 x1 x2:Nat):PR:=⟨some x0,.alc [⟨true,.list x1 []⟩,⟨true,.list x2 []⟩],none⟩
abbrev Dn (x0 x1 x2 x3 x4 x5 x6 x7 x8:Nat):PR:=⟨some x0,.bld [.list x1 [],.list x2 []] [(x3,x4,.s x5),(x6,x7,.s x8)],none⟩
abbrev Do (x0 x1 x2:Nat):PR:=⟨some x0,.bin (.s) .eql (.s x1) (.s x2),none⟩
abbrev Dp (x0 x1 x2:Nat):PR:=⟨some x0,.bin (.i) .sub (.s x1) (.s x2),none⟩
abbrev Dq (x0 x1 x2 x3:Nat):PR:=⟨some x0,.pick (.s x1) (.c (.bool true)) (.s x2),some (x3,true)⟩
abbrev Ds (x0 x1 x2 x3:Nat):PR:=⟨some x0,.lst x1 [.s x2,.s x3],none⟩
abbrev Dt (x0 x1 x2:Nat) (x3:Int) (x4:Nat):PR:=⟨some x0,.call x1 [.s x2,.c (.int .i64 x3),.s x4],none⟩
abbrev Du (x0 x1:Nat):PR:=⟨some x0,.lac (.s x1),none⟩
abbrev Dv (x0 x1 x2:Nat):PR:=⟨none,.st x0 (.s x1) (.s x2),none⟩
abbrev Dw (x0 x1:Nat) (x2:Int) (x3:Nat):PR:=⟨some x0,.bin (.i) .leq (.s x1) (.c (.int .u8 x2)),some (x3,true)⟩
abbrev Dx (x0 x1 x2 x3:Nat):PR:=⟨some x0,.call x1 [.s x2],some (x3,false)⟩
abbrev Dy (x0 x1 x2 x3:Nat):PR:=⟨some x0,.appx x1 x2 (.s x3),none⟩
abbrev Dz (x0 x1 x2 x3 x4:Nat):PR:=⟨some x0,.call x1 [.s x2,.s x3],some (x4,false)⟩
abbrev Ea (x0:Nat) (x1 x2:Int) (x3:Nat):PR:=⟨some x0,.alc [⟨false,.str ⟨#[]⟩⟩,⟨false,.int .i64 x1⟩,⟨false,.int .i64 x2⟩,⟨true,.list x3 []⟩],none⟩
abbrev Eb (x0 x1 x2:Nat):PR:=⟨some x0,.mkx x1 [.bool false] (.s x2),none⟩
abbrev Ec (x0:Nat) (x1 x2 x3 x4:Int):PR:=⟨some x0,.alc [⟨false,.int .i64 x1⟩,⟨false,.int .i64 x2⟩,⟨false,.int .i64 x3⟩,⟨false,.int .i64 x4⟩],none⟩
abbrev Ed (x0 x1 x2 x3:Nat) (x4:Int) (x5:Nat):PR:=⟨some x0,.alc [⟨true,.list x1 []⟩,⟨true,.list x2 []⟩,⟨true,.list x3 []⟩,⟨false,.int .i64 x4⟩,⟨true,.list x5 []⟩],none⟩
abbrev Ee (x0 x1:Nat):PR:=⟨some x0,.xlen (.s x1),none⟩
abbrev Ef (x0 x1 x2 x3 x4 x5:Nat):PR:=⟨some x0,.call x1 [.s x2,.s x3,.s x4],some (x5,true)⟩
abbrev Eg (x0 x1:Nat):PR:=⟨some x0,.ldt (.s x1),none⟩
abbrev Eh (x0 x1:Nat) (x2:Int):PR:=⟨some x0,.bin (.i) .geq (.s x1) (.c (.int .u8 x2)),none⟩
abbrev Ei (x0 x1 x2 x3:Nat):PR:=⟨some x0,.callx x1 [.s x2,.s x3],none⟩
abbrev Ej (x0 x1 x2 x3:Nat):PR:=⟨some x0,.slc x1 (.s x2) none (some (.s x3)),none⟩
abbrev Ek (x0 x1 x2 x3:Nat):PR:=⟨some x0,.bin (.i) .leq (.s x1) (.s x2),some (x3,true)⟩
abbrev El (x0 x1:Nat) (x2:Int):PR:=⟨some x0,.bin (.i) .lss (.s x1) (.c (.int .i64 (x2))),none⟩
abbrev Em (x0:Nat) (x1 x2 x3 x4 x5:Int):PR:=⟨some x0,.alc [⟨false,.int .i64 x1⟩,⟨false,.int .i64 x2⟩,⟨false,.int .i64 x3⟩,⟨false,.int .i64 x4⟩,⟨false,.int .i64 x5⟩],none⟩
abbrev Eo (x0 x1 x2:Nat):PR:=⟨some x0,.bin (.b) .eql (.s x1) (.s x2),none⟩
abbrev Ep (x0 x1 x2:Nat):PR:=⟨some x0,.bin (.i) .gtr (.s x1) (.s x2),none⟩
abbrev Eq (x0 x1 x2 x3:Nat):PR:=⟨some x0,.bin (.i) .neq (.s x1) (.s x2),some (x3,true)⟩
abbrev Er (x0 x1 x2:Nat):PR:=⟨none,.stx x0 x1 x2,none⟩
abbrev Es (x0 x1 x2 x3:Nat):PR:=⟨some x0,.slc x1 (.s x2) (some (.s x3)) none,none⟩
abbrev Et (x0:Nat) (x1 x2 x3:Int) (x4 x5:Nat) (x6:Int) (x7 x8:Nat) (x9:Int) (x10 x11:Nat) (x12:Int):PR:=⟨some x0,.bld [.int .i64 x1,.int .i64 x2,.int .i64 x3] [(x4,x5,.c (.int .i64 x6)),(x7,x8,.c (.int .i64 x9)),(x10,x11,.c (.int .i64 x12))],none⟩
abbrev Eu (x0 x1:Nat):PR:=⟨some x0,.call x1 [],none⟩
abbrev Ew (x0 x1 x2 x3:Nat):PR:=⟨some x0,.bin (.i) .add (.s x1) (.s x2),some (x3,true)⟩
abbrev Ey (x0 x1 x2 x3:Nat):PR:=⟨some x0,.call x1 [.s x2,.c (.clo x3 [])],none⟩
abbrev Ez (x0:Nat) (x1 x2:Int) (x3 x4:Nat) (x5:Int) (x6 x7 x8:Nat):PR:=⟨some x0,.bld [.int .i64 x1,.str ⟨#[]⟩,.int .i64 x2] [(x3,x4,.c (.int .i64 x5)),(x6,x7,.s x8)],none⟩
abbrev Fa (x0 x1:Nat):PR:=⟨some x0,.nilx x1,none⟩
abbrev Fb (x0 x1 x2 x3:Nat):PR:=⟨some x0,.bin (.i) .lss (.s x1) (.s x2),some (x3,true)⟩
abbrev Fc (x0 x1:Nat):PR:=⟨some x0,.xld (.s x1),none⟩
abbrev Fd (x0:Nat) (x1 x2:Int) (x3:Nat):PR:=⟨some x0,.bld [.str ⟨#[]⟩,.int .i64 x1,.int .i64 x2,.list x3 []] [],none⟩
abbrev Fe (x0 x1:Nat) (x2:Int) (x3:Nat):PR:=⟨some x0,.bin (.i) .sub (.s x1) (.c (.int .i64 x2)),some (x3,false)⟩
abbrev Ff (x0 x1:Nat) (x2:Int) (x3:Nat):PR:=⟨some x0,.mkx x1 [.int .i64 x2] (.s x3),none⟩
abbrev Fg (x0 x1 x2:Nat):PR:=⟨some x0,.xal x1,some (x2,true)⟩
abbrev Fh (x0 x1 x2 x3 x4:Nat):PR:=⟨some x0,.xia (.s x1) (.s x2) x3,some (x4,true)⟩
abbrev Fj (x0 x1 x2:Nat):PR:=⟨some x0,.xld (.s x1),some (x2,true)⟩
abbrev Fk (x0 x1:Nat):PR:=⟨some x0,.ctk (.s x1),none⟩
abbrev Fm (x0 x1:Nat):PR:=⟨none,.cpt (.s x0) x1,none⟩
abbrev Fo (x0 x1:Nat) (x2:Int):PR:=⟨some x0,.lst x1 [.c (.int .i64 (x2))],none⟩
abbrev Fp (x0 x1 x2 x3 x4 x5 x6 x7 x8 x9:Nat):PR:=⟨some x0,.bld [.list x1 [],.list x2 [],.list x3 []] [(x4,x5,.s x6),(x7,x8,.s x9)],none⟩
abbrev Fq (x0:Nat) (x1:Int) (x2 x3 x4 x5 x6 x7 x8 x9 x10 x11:Nat):PR:=⟨some x0,.bld [.int .i64 x1,.list x2 [],.list x3 [],.list x4 [],.list x5 []] [(x6,x7,.s x8),(x9,x10,.s x11)],none⟩
abbrev Fr (x0 x1:Nat) (x2:Int) (x3 x4:Nat):PR:=⟨some x0,.iad (.s x1) (.c (.int .i64 x2)) x3,some (x4,true)⟩
abbrev Fs (x0 x1 x2 x3 x4 x5:Nat):PR:=⟨some x0,.call x1 [.s x2,.s x3,.s x4],some (x5,false)⟩
abbrev Ft (x0 x1 x2 x3 x4 x5 x6:Nat):PR:=⟨some x0,.call x1 [.s x2,.s x3,.s x4,.s x5,.s x6,.c (.bool true)],none⟩
abbrev Fu (x0:Nat) (x1 x2:Int):PR:=⟨some x0,.bld [.int .i64 x1,.str ⟨#[]⟩,.int .i64 x2] [],none⟩
abbrev Fv (x0 x1 x2 x3:Nat):PR:=⟨some x0,.sidx (.s x1) (.s x2),some (x3,true)⟩
abbrev Fw (x0 x1:Nat) (x2:Int):PR:=⟨some x0,.bin (.i) .eql (.s x1) (.c (.int .u8 x2)),none⟩
abbrev Fx (x0 x1 x2:Nat):PR:=⟨some x0,.slen (.s x1),some (x2,true)⟩
abbrev Fy (x0 x1:Nat) (x2:Int) (x3:Nat):PR:=⟨some x0,.bin (.i) .sub (.s x1) (.c (.int .i64 x2)),some (x3,true)⟩
abbrev Ga (x0:Nat) (x1:Int) (x2:Nat):PR:=⟨some x0,.alc [⟨false,.str ⟨#[]⟩⟩,⟨false,.int .i64 x1⟩,⟨false,.bool false⟩,⟨true,.list x2 []⟩],none⟩
abbrev Gb (x0:Nat) (x1 x2 x3 x4 x5 x6:Int):PR:=⟨some x0,.alc [⟨false,.str ⟨#[]⟩⟩,⟨false,.int .i64 x1⟩,⟨false,.int .i64 x2⟩,⟨false,.int .i64 x3⟩,⟨false,.int .i64 x4⟩,⟨false,.int .i64 x5⟩,⟨false,.int .i64 x6⟩],none⟩
abbrev Gc (x0 x1 x2:Nat):PR:=⟨some x0,.callm x1 (.s x2),none⟩
abbrev Gd (x0 x1:Nat) (x2:Int) (x3:Nat):PR:=⟨some x0,.bin (.i) .lss (.s x1) (.c (.int .i64 x2)),some (x3,false)⟩
abbrev Ge (x0 x1:Nat) (x2:Int) (x3:Nat):PR:=⟨some x0,.bin (.i) .neq (.s x1) (.c (.int .i64 x2)),some (x3,true)⟩
abbrev Gf (x0 x1 x2:Nat):PR:=⟨some x0,.mm true (.s x1) (.s x2),none⟩
abbrev Gg (x0:Nat) (x1:Int):PR:=⟨some x0,.alc [⟨false,.int .i64 x1⟩],none⟩
abbrev Gh (x0 x1 x2:Nat):PR:=⟨some x0,.callx x1 [.s x2],none⟩
abbrev Gi (x0:Nat) (x1:Int):PR:=⟨some x0,.mv (.c (.int .u64 x1)),none⟩
abbrev Gk (x0 x1:Nat) (x2:Int) (x3:Nat):PR:=⟨some x0,.bin (.i) .eql (.s x1) (.c (.int .i64 x2)),some (x3,false)⟩
abbrev Gl (x0 x1 x2 x3 x4 x5:Nat):PR:=⟨some x0,.call x1 [.s x2,.s x3,.s x4,.s x5,.c (.bool false)],none⟩
abbrev Gm (x0 x1 x2:Nat):PR:=⟨some x0,.calll x1 [.s x2],none⟩
abbrev Gn (x0 x1 x2 x3:Nat):PR:=⟨some x0,.callb x1 [.s x2] x3,none⟩
abbrev Gp (x0 x1:Nat) (x2:Int) (x3:Nat):PR:=⟨some x0,.alc [⟨true,.list x1 []⟩,⟨false,.int .i64 x2⟩,⟨true,.list x3 []⟩],none⟩
abbrev Gq (x0 x1 x2 x3:Nat) (x4:Int) (x5:Nat):PR:=⟨some x0,.call x1 [.s x2,.s x3,.c (.int .i64 x4),.s x5],none⟩
abbrev Gr (x0 x1:Nat) (x2 x3:Int):PR:=⟨some x0,.lst x1 [.c (.int .i64 x2),.c (.int .i64 x3)],none⟩
abbrev Gs (x0 x1:Nat) (x2:Int):PR:=⟨some x0,.bin (.i) .leq (.s x1) (.c (.int .i64 x2)),none⟩
abbrev Gt (x0 x1:Nat) (x2:Int) (x3:Nat):PR:=⟨some x0,.bin (.i) .geq (.s x1) (.c (.int .i64 x2)),some (x3,true)⟩
abbrev Gu (x0 x1 x2:Nat) (x3:Int) (x4 x5:Nat):PR:=⟨some x0,.call x1 [.s x2,.c (.int .i64 x3),.s x4],some (x5,false)⟩
abbrev Gv (x0 x1:Nat) (x2:Int) (x3:Nat):PR:=⟨some x0,.bin (.i) .geq (.s x1) (.c (.int .u8 x2)),some (x3,false)⟩
abbrev Gw (x0 x1:Nat) (x2:Int) (x3:Nat):PR:=⟨some x0,.bin (.i) .eql (.s x1) (.c (.int .u8 x2)),some (x3,false)⟩
abbrev Gx (x0 x1:Nat) (x2:Int) (x3:Nat):PR:=⟨some x0,.bin (.i) .eql (.s x1) (.c (.int .i64 (x2))),some (x3,true)⟩
abbrev Gy (x0 x1 x2:Nat) (x3 x4:Int):PR:=⟨some x0,.call x1 [.s x2,.c (.int .i64 x3),.c (.int .i64 x4)],none⟩
abbrev Gz (x0 x1 x2 x3 x4 x5 x6:Nat) (x7:Int):PR:=⟨some x0,.call x1 [.s x2,.s x3,.s x4,.s x5,.s x6,.c (.int .i64 x7)],none⟩
abbrev Ha (x0 x1 x2 x3 x4 x5 x6 x7 x8 x9 x10 x11 x12 x13 x14:Nat):PR:=⟨some x0,.bld [.list x1 [],.list x2 [],.list x3 [],.list x4 [],.list x5 [],.bool false] [(x6,x7,.s x8),(x9,x10,.s x11),(x12,x13,.s x14)],none⟩
abbrev Hb (x0 x1:Nat) (x2:Int) (x3 x4 x5 x6 x7 x8 x9 x10 x11 x12:Nat):PR:=⟨some x0,.bld [.list x1 [],.int .i64 x2,.list x3 []] [(x4,x5,.s x6),(x7,x8,.s x9),(x10,x11,.s x12)],none⟩
abbrev Hc (x0 x1 x2:Nat) (x3:Int) (x4:Nat):PR:=⟨some x0,.call x1 [.s x2,.c (.int .i64 x3),.c (.list x4 [])],none⟩
abbrev Hd (x0 x1 x2 x3 x4:Nat):PR:=⟨some x0,.bldg [.v (.s x1) x2 x3,.z ⟨true,.list x4 []⟩],none⟩
abbrev He (x0 x1:Nat) (x2:Int) (x3:Nat):PR:=⟨some x0,.bin (.i) .neq (.s x1) (.c (.int .i64 x2)),some (x3,false)⟩
abbrev Hf (x0 x1 x2 x3:Nat) (x4:Int) (x5:Nat) (x6:Int) (x7 x8 x9 x10 x11 x12:Nat) (x13:Int) (x14:Nat):PR:=⟨some x0,.alc [⟨true,.list x1 []⟩,⟨true,.list x2 []⟩,⟨true,.list x3 []⟩,⟨false,.int .i64 x4⟩,⟨true,.list x5 []⟩,⟨false,.int .i64 x6⟩,⟨true,.list x7 []⟩,⟨true,.list x8 []⟩,⟨true,.list x9 []⟩,⟨true,.list x10 []⟩,⟨true,.list x11 []⟩,⟨true,.list x12 []⟩,⟨false,.int .i64 x13⟩,⟨true,.list x14 []⟩],none⟩
abbrev Hg (x0 x1 x2 x3 x4 x5 x6:Nat):PR:=⟨some x0,.alc [⟨true,.list x1 []⟩,⟨true,.list x2 []⟩,⟨true,.list x3 []⟩,⟨true,.list x4 []⟩,⟨true,.list x5 []⟩,⟨true,.list x6 []⟩,⟨false,.bool false⟩],none⟩
abbrev Hh (x0 x1 x2 x3:Nat) (x4:Int) (x5 x6 x7 x8:Nat):PR:=⟨some x0,.bld [.list x1 [],.list x2 [],.list x3 [],.int .i64 x4,.list x5 []] [(x6,x7,.s x8)],none⟩
abbrev Hi (x0 x1:Nat) (x2 x3 x4:Int):PR:=⟨some x0,.lst x1 [.c (.int .i64 x2),.c (.int .i64 x3),.c (.int .i64 x4)],none⟩
abbrev Hj (x0:Nat) (x1 x2:Int):PR:=⟨some x0,.alc [⟨false,.int .i64 x1⟩,⟨false,.str ⟨#[]⟩⟩,⟨false,.int .i64 x2⟩],none⟩
abbrev Hk (x0 x1 x2 x3:Nat) (x4:Int) (x5:Nat):PR:=⟨some x0,.call x1 [.s x2,.s x3,.c (.int .i64 x4)],some (x5,false)⟩
abbrev Hl (x0 x1:Nat) (x2:Int) (x3:Nat):PR:=⟨some x0,.bin (.i) .lss (.s x1) (.c (.int .i64 (x2))),some (x3,false)⟩
abbrev Hm (x0 x1 x2 x3 x4 x5 x6 x7 x8:Nat):PR:=⟨some x0,.alc [⟨true,.list x1 []⟩,⟨true,.list x2 []⟩,⟨true,.list x3 []⟩,⟨true,.list x4 []⟩,⟨true,.list x5 []⟩,⟨true,.list x6 []⟩,⟨true,.list x7 []⟩,⟨true,.list x8 []⟩,⟨false,.bool false⟩],none⟩
abbrev Hn (x0 x1 x2 x3 x4:Nat):PR:=⟨some x0,.call x1 [.s x2,.s x3,.s x4,.c (.bool false)],none⟩
end Go.Sf
namespace Go.Sf.Sc
open Go Go.Sf Go.Proofs.Tryz
instance (l:List AA):Ml (J0 l) AE l:=⟨NU l⟩
instance (l:List A1):Ml (NV l) GI l:=⟨QH l⟩
instance:En AA AE:=⟨⟩
instance:En A1 GI:=⟨⟩
instance:Fl AE 9 H4:=⟨K0⟩
instance:Fl GI 5 JF:=⟨Xj⟩
instance:Zx EJ:=⟨fun l=>match l with | [.int _ x0,.int _ x1,.int _ x2]=>DY.mk x0 x1 x2 | _=>DY.mk 0 0 0,fun a b=>⟨inferInstance,cI a b⟩⟩
abbrev CK (fn:Func) (pl:PC) (rv:List RV):Prop:=FY prog fn.ntmps (SA prog fn.ntmps) pl (fn.body.getD .skip)=true∧JA prog fn.results.toList rv=true
variable {f:FuncId} {fn:Func} {c:Code} {pl:PC} {rv:List RV}
theorem Fn {args : QQ} {r : CS} (ck : CK fn pl rv) (h : TV.WFs args → WP (AU prog) pl ⟨FA rv r, fun _ _ => False, FA rv r⟩ (Kc 0 args)) (hf : prog.funcs[f]? = some fn := by rfl) (hb : fn.body = some c := by rfl) (hname : fn.name ≠ "runtime.NumGoroutine" := by decide) (hn : Nat.ble args.length fn.ntmps = true := by rfl) (hp : r.plain = true := by rfl) : AU prog f args r := by
  have h1:=ck.1;rw [hb] at h1;exact cJ (Tb Sc.Tryz_follows) hf hb hname h1 ck.2 (Nat.le_of_ble_eq_true hn) hp (fun hw=>(h hw).out)
variable {i:Nat}
theorem uE {args : QQ} {cs cs' : List At} {us : QQ} (ck : CK fn pl rv) (nb : PC.noClm pl = true ∧ PC.noDst i pl = true) (h : TV.WFs args → (∀ c ∈ cs, c.t.WF) → WP (AU prog) pl ⟨FA rv (.bo cs cs' i us), fun _ _ => False, FA rv (.bo cs cs' i us)⟩ ((i, .bx cs) :: Kc 0 args)) (hf : prog.funcs[f]? = some fn := by rfl) (hb : fn.body = some c := by rfl) (hname : fn.name ≠ "runtime.NumGoroutine" := by decide) (hn : Nat.ble args.length fn.ntmps = true := by rfl) : AU prog f args (.bo cs cs' i us) := by
  have h1:=ck.1;rw [hb] at h1;exact aG (Tb Sc.Tryz_follows) hf hb hname h1 ck.2 (Nat.le_of_ble_eq_true hn) nb.1 nb.2 (fun hw hwc=>(h hw hwc).out)
variable {α:Type} {x:Option α} {ts:QQ}
theorem Fi {R : α → CS} (ck : CK fn pl rv) (h : ∀ r, x = some r → TV.WFs ts → HR (fun r => FA rv (R r)) → WP (AU prog) pl ⟨FA rv (R r), fun _ _ => False, FA rv (R r)⟩ (Kc 0 ts)) (hf : prog.funcs[f]? = some fn := by rfl) (hb : fn.body = some c := by rfl) (hname : fn.name ≠ "runtime.NumGoroutine" := by decide) (hn : Nat.ble ts.length fn.ntmps = true := by rfl) (hp : ∀ r, (R r).plain = true := by exact fun _ => rfl) : Ct prog x f ts R :=
  ⟨fun r hr=>Fn ck (fun hw=>h r hr hw ⟨⟩) hf hb hname hn (hp r)⟩
theorem gz {cs : List At} {cs' : α → List At} {us : α → QQ} (ck : CK fn pl rv) (nb : PC.noClm pl = true ∧ PC.noDst i pl = true) (h : ∀ r, x = some r → TV.WFs ts → (∀ c ∈ cs, c.t.WF) → HR (fun r => FA rv (.bo cs (cs' r) i (us r))) → WP (AU prog) pl ⟨FA rv (.bo cs (cs' r) i (us r)), fun _ _ => False, FA rv (.bo cs (cs' r) i (us r))⟩ ((i, .bx cs) :: Kc 0 ts)) (hf : prog.funcs[f]? = some fn := by rfl) (hb : fn.body = some c := by rfl) (hname : fn.name ≠ "runtime.NumGoroutine" := by decide) (hn : Nat.ble ts.length fn.ntmps = true := by rfl) : Ct prog x f ts (fun r => .bo cs (cs' r) i (us r)) :=
  ⟨fun r hr=>uE ck nb (fun hw hwc=>h r hr hw hwc ⟨⟩) hf hb hname hn⟩
end Go.Sf.Sc
