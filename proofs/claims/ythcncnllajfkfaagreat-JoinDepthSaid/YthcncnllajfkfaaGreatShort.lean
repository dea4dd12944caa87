/- Shorter names for the shapes of rows, and how structs are read. -/
import Derived.Test.YthcncnllajfkfaaGreatSfAuto
import Derived.Test.YthcncnllajfkfaaGreatSfDec
import Derived.Test.YthcncnllajfkfaaGreatFns
set_option linter.all false
set_option maxRecDepth 100000
open Option renaming some->Y,none->W
open Bool renaming true->X,false->T
open Nat renaming ble->w_,le_of_ble_eq_true->w!
namespace Go.Sf
abbrev Rq(o:List PR)(l:QQ)(b:PC):PC:=.seq (.region o l) b
abbrev Sq(a b:PC):PC:=.seq a b
abbrev Re(o:List PR)(l:QQ):PC:=.region o l
abbrev Dr(d:QQ)(o:List PR)(l:QQ):PC:=.draw d o l
abbrev Sk(l:QQ):PC:=.skip l
abbrev Ex(i:Nat)(l:QQ):PC:=.exit i l
abbrev Co(c:Nat)(a b:PC):PC:=.cond (.s c) a b
abbrev Bl(i:Nat)(a:PC):PC:=.block i a
abbrev Lo(l:QQ)(a:PC):PC:=.loop l a
abbrev Aa(x0 x1:Nat):PR:=⟨Y x0,.mv (.s x1),W⟩
abbrev Ab(x0 x1 x2:Nat):PR:=⟨Y x0,.lda (.s x1) x2,W⟩
abbrev Ac(x0 x1 x2 x3:Nat):PR:=⟨Y x0,.fad (.s x1) x2,Y (x3,T)⟩
abbrev Ad(x0 x1:Nat):PR:=⟨Y x0,.tk x1,W⟩
abbrev Ae(x0 x1 x2 x3:Nat):PR:=⟨Y x0,.bad x1 x2,Y (x3,T)⟩
abbrev Af(x0 x1 x2:Nat):PR:=⟨Y x0,.ld (.s x1),Y (x2,T)⟩
abbrev Ag(x0 x1 x2:Nat):PR:=⟨Y x0,.len (.s x1),Y (x2,T)⟩
abbrev Ah(x0 x1:Nat)(x2:Int)(x3:Nat):PR:=⟨Y x0,.bin (.i) .gtr (.s x1) (.c (.int .i64 x2)),Y (x3,T)⟩
abbrev Ai(x0 x1 x2:Nat):PR:=⟨Y x0,.pick (.s x1) (.c (.bool X)) (.s x2),W⟩
abbrev Aj(x0 x1:Nat):PR:=⟨Y x0,.ld (.s x1),W⟩
abbrev Ak(x0 x1 x2:Nat):PR:=⟨Y x0,.bad x1 x2,W⟩
abbrev Al(x0 x1:Nat):PR:=⟨Y x0,.len (.s x1),W⟩
abbrev Am(x0 x1 x2:Nat):PR:=⟨W,.stb x0 x1 (.s x2),W⟩
abbrev An(x0 x1:Nat):PR:=⟨Y x0,.Abr (.s x1),W⟩
abbrev Ao(x0:Nat)(x1:Int):PR:=⟨Y x0,.mv (.c (.int .i64 x1)),W⟩
abbrev Ap(x0 x1:Nat):PR:=⟨Y x0,.Abz x1,W⟩
abbrev Aq(x0 x1 x2:Nat):PR:=⟨Y x0,.fad (.s x1) x2,W⟩
abbrev Ar(x0 x1 x2 x3:Nat):PR:=⟨Y x0,.call x1 [.s x2,.s x3],W⟩
abbrev As(x0 x1 x2:Nat):PR:=⟨Y x0,.bin (.i) .lss (.s x1) (.s x2),W⟩
abbrev Au(x0 x1 x2 x3:Nat):PR:=⟨Y x0,.iad (.s x1) (.s x2) x3,W⟩
abbrev Av(x0 x1:Nat)(x2:Int):PR:=⟨Y x0,.bin (.i) .add (.s x1) (.c (.int .i64 x2)),W⟩
abbrev Aw(x0 x1 x2:Nat):PR:=⟨Y x0,.alc [⟨X,.list x1 []⟩,⟨X,.list x2 []⟩],W⟩
abbrev Ax(x0 x1 x2 x3:Nat):PR:=⟨Y x0,.alc [⟨X,.list x1 []⟩,⟨X,.list x2 []⟩,⟨X,.list x3 []⟩],W⟩
end Go.Sf
namespace Go.Sf.Sc
open Go Go.Sf Go.Proofs.Tryz
instance(l:List d7):Ml (KV l) AI l:=⟨NJ l⟩
instance(l:List BN):Ml (QD l) FB l:=⟨UG l⟩
instance:En d7 AI:=⟨⟩
instance:En BN FB:=⟨⟩
instance:Fl AI 9 Ed:=⟨Ss⟩
instance:Fl FB 5 I8:=⟨g6⟩
instance:dG B5:=⟨λl=>match l with|[.int _ x0,.int _ x1,.int _ x2]=>Bx.mk x0 x1 x2|_=>Bx.mk 0 0 0,λa b=>⟨inferInstance,p5 a b⟩⟩
instance:dG FL:=⟨λl=>match l with|[.int _ x0,.int _ x1,.int _ x2,.int _ x3]=>CA.mk x0 x1 (gt.mk x2 x3)|_=>CA.mk 0 0 (gt.mk 0 0),λa b=>⟨inferInstance,p6 a b⟩⟩
instance:dG F1:=⟨λl=>match l with|[.int _ x0,.int _ x1,.int _ x2,.int _ x3,.int _ x4]=>Test.mk x0 (gt.mk x1 x2) (gt.mk x3 x4)|_=>Test.mk 0 (gt.mk 0 0) (gt.mk 0 0),λa b=>⟨inferInstance,p7 a b⟩⟩
abbrev CK(fn:Func)(pl:PC)(rv:List RV):Prop:=D1 prog fn.ntmps (Vo prog fn.ntmps) pl (fn.body.getD .skip)=X/\G9 prog fn.results.toList rv=X
variable{f:FuncId}{fn:Func}{c:Code}{pl:PC}{rv:List RV}{r:A9}
theorem Fn{args:Fq}(ck:CK fn pl rv)(h:TV.tc args → WP (AV prog) pl ⟨Bb rv r,λ_ _=>False,Bb rv r⟩ (DV 0 args))(hf:prog.funcs[f]? =Y fn:=by rfl)(hb:fn.body=Y c:=by rfl)(hname:fn.name≠ "runtime.NumGoroutine" :=by decide)(hn:w_ args.length fn.ntmps=X:=by rfl)(hp:r.plain=X:=by rfl):AV prog f args r:=by
  have h1:=ck.1;rw[hb]at h1;exact eD (NI Sc.Tryz_follows) hf hb hname h1 ck.2 (w! hn) hp (λhw=>(h hw).out)
variable{i:Nat}
theorem FnB{args:Fq}{cs cs':List AR}{us:Fq}(ck:CK fn pl rv)(nb:PC.x9 pl=X/\PC.zt i pl=X)(h:TV.tc args → (∀c∈cs,c.t.WF) → WP (AV prog) pl ⟨Bb rv (.bo cs cs' i us),λ_ _=>False,Bb rv (.bo cs cs' i us)⟩ ((i,.bx cs)::DV 0 args))(hf:prog.funcs[f]? =Y fn:=by rfl)(hb:fn.body=Y c:=by rfl)(hname:fn.name≠ "runtime.NumGoroutine" :=by decide)(hn:w_ args.length fn.ntmps=X:=by rfl):AV prog f args (.bo cs cs' i us):=by
  have h1:=ck.1;rw[hb]at h1;exact nC (NI Sc.Tryz_follows) hf hb hname h1 ck.2 (w! hn) nb.1 nb.2 (λhw hwc=>(h hw hwc).out)
variable{α:Type}{x:Option α}{ts:Fq}{R:α → A9}
theorem Fi(ck:CK fn pl rv)(h:∀r,x=Y r → TV.tc ts → HR (λr=>Bb rv (R r)) → WP (AV prog) pl ⟨Bb rv (R r),λ_ _=>False,Bb rv (R r)⟩ (DV 0 ts))(hf:prog.funcs[f]? =Y fn:=by rfl)(hb:fn.body=Y c:=by rfl)(hname:fn.name≠ "runtime.NumGoroutine" :=by decide)(hn:w_ ts.length fn.ntmps=X:=by rfl)(hp:∀r,(R r).plain=X:=by exact λ_=>rfl):Ct prog x f ts R:=
  ⟨λr hr=>Fn ck (λhw=>h r hr hw ⟨⟩) hf hb hname hn (hp r)⟩
variable{us:α → Fq}
theorem iS{cs:List AR}{cs':α → List AR}(ck:CK fn pl rv)(nb:PC.x9 pl=X/\PC.zt i pl=X)(h:∀r,x=Y r → TV.tc ts → (∀c∈cs,c.t.WF) → HR (λr=>Bb rv (.bo cs (cs' r) i (us r))) → WP (AV prog) pl ⟨Bb rv (.bo cs (cs' r) i (us r)),λ_ _=>False,Bb rv (.bo cs (cs' r) i (us r))⟩ ((i,.bx cs)::DV 0 ts))(hf:prog.funcs[f]? =Y fn:=by rfl)(hb:fn.body=Y c:=by rfl)(hname:fn.name≠ "runtime.NumGoroutine" :=by decide)(hn:w_ ts.length fn.ntmps=X:=by rfl):Ct prog x f ts (λr=> .bo cs (cs' r) i (us r)):=
  ⟨λr hr=>FnB ck nb (λhw hwc=>h r hr hw hwc ⟨⟩) hf hb hname hn⟩
theorem FnA{args:Fq}{cs:List AR}(ck:CK fn pl rv)(nb:PC.x9 pl=X)(h:TV.tc args → (∀c∈cs,c.t.WF) → WP (AV prog) pl ⟨Bb rv r,λ_ _=>False,Bb rv r⟩ ((i,.oag cs)::DV 0 args))(hf:prog.funcs[f]? =Y fn:=by rfl)(hb:fn.body=Y c:=by rfl)(hname:fn.name≠ "runtime.NumGoroutine" :=by decide)(hn:w_ args.length fn.ntmps=X:=by rfl)(hp:r.plain=X:=by rfl)(hlo:r.lone=T:=by rfl):AV prog f args (.ag cs i r):=by
  have h1:=ck.1;rw[hb]at h1;exact nB (NI Sc.Tryz_follows) hf hb hname h1 ck.2 (w! hn) nb hp hlo (λhw hwc=>(h hw hwc).out)
theorem FiA{cs:List AR}(ck:CK fn pl rv)(nb:PC.x9 pl=X)(h:∀r,x=Y r → TV.tc ts → (∀c∈cs,c.t.WF) → HR (λr=>Bb rv (R r)) → WP (AV prog) pl ⟨Bb rv (R r),λ_ _=>False,Bb rv (R r)⟩ ((i,.oag cs)::DV 0 ts))(hf:prog.funcs[f]? =Y fn:=by rfl)(hb:fn.body=Y c:=by rfl)(hname:fn.name≠ "runtime.NumGoroutine" :=by decide)(hn:w_ ts.length fn.ntmps=X:=by rfl)(hp:∀r,(R r).plain=X:=by exact λ_=>rfl)(hlo:∀r,(R r).lone=T:=by exact λ_=>rfl):Ct prog x f ts (λr=> .ag cs i (R r)):=
  ⟨λr hr=>FnA ck nb (λhw hwc=>h r hr hw hwc ⟨⟩) hf hb hname hn (hp r) (hlo r)⟩
theorem FiM{x:Option (Bk×Int)}(ck:CK fn pl rv)(h:∀r,x=Y r → TV.tc ts → HR (λr=>Bb rv (PV r)) → WP (AV prog) pl ⟨Bb rv (PV r),λ_ _=>False,Bb rv (PV r)⟩ (DV 0 ts))(hf:prog.funcs[f]? =Y fn:=by rfl)(hb:fn.body=Y c:=by rfl)(hname:fn.name≠ "runtime.NumGoroutine" :=by decide)(hn:w_ ts.length fn.ntmps=X:=by rfl):Ct prog x f ts PV:=by
  refine ⟨λr hr=>?_⟩;have h0:=h r hr;have h1:=ck.1;rw[hb]at h1;by_cases he:r.2=0
  · have e:PV r=.mpr r.1 [.int .i64 r.2]:=ac he
    rw [e]at h0|-;exact nD (NI Sc.Tryz_follows) hf hb hname h1 ck.2 (w! hn) (λhw=>(h0 hw ⟨⟩).out)
  · have e:PV r=.tp [.undef,.int .i64 r.2]:=ae he
    rw [e]at h0|-;exact eD (NI Sc.Tryz_follows) hf hb hname h1 ck.2 (w! hn) rfl (λhw=>(h0 hw ⟨⟩).out)
theorem ABv{cs:List AR}{cs':α → List AR}(ck:CK fn pl rv)(nb:PC.x9 pl=X/\PC.zt i pl=X)(h:∀r,x=Y r → TV.tc ts → (∀c∈cs,c.t.WF) → WP (AV prog) pl ⟨gD rv cs (cs' r) i (us r),λ_ _=>False,gD rv cs (cs' r) i (us r)⟩ ((i,.bx cs)::DV 0 ts))(hf:prog.funcs[f]? =Y fn:=by rfl)(hb:fn.body=Y c:=by rfl)(hname:fn.name≠ "runtime.NumGoroutine" :=by decide)(hn:w_ ts.length fn.ntmps=X:=by rfl):Ct prog x f ts (λr=> .bo cs (cs' r) i (us r)):=by
  refine ⟨λr hr=>?_⟩;have h1:=ck.1;rw[hb]at h1;exact kj (NI Sc.Tryz_follows) hf hb hname h1 ck.2 (w! hn) nb.1 nb.2 (λhw hwc=>(h r hr hw hwc).out)
def shB:Nat->Fq×List (Nat×Nat)
  |0=>([.list 1 [],.list 1 []],[])|1=>([.int .i64 0,.str ⟨#[]⟩,.int .i64 0],[(0,1),(1,1)])|2=>([.str ⟨#[]⟩,.int .i64 0,.int .i64 0,.list 1 []],[])|3=>([.list 1 [],.list 3 []],[])|4=>([.list 1 [],.list 1 []],[(0,1),(1,1)])|5=>([.int .i64 0,.int .i64 0],[(0,1),(1,1)])|6=>([.list 1 [],.list 3 [],.list 1 [],.list 3 [],.list 1 [],.list 1 [],.list 1 [],.list 1 []],[(0,2),(2,2),(4,2),(6,2)])|7=>([.int .i64 0,.int .i64 0,.int .i64 0],[(0,1),(1,1),(2,1)])|8=>([.list 1 [],.list 3 [],.list 1 [],.list 3 [],.list 1 [],.nil,.nil,.bool T,.int .i64 0,.nil,.nil,.nil],[(0,2),(2,2),(4,1),(5,2),(7,1),(8,1)])|9=>([.list 1 [],.list 1 [],.list 1 []],[(0,2),(2,1)])|10=>([.int .i64 0,.list 1 [],.list 1 [],.list 1 [],.list 5 []],[])|11=>([.int .i64 0,.list 1 [],.list 1 [],.list 1 [],.list 5 []],[(0,1),(4,1)])|12=>([.int .i64 0,.list 1 [],.list 1 [],.list 1 [],.list 5 []],[(1,3),(4,1)])|13=>([.list 4 [],.list 7 [],.list 1 [],.list 3 [],.list 1 [],.bool T],[(0,2),(2,3),(5,1)])|14=>([.str ⟨#[]⟩,.list 1 [],.list 3 [],.list 4 [],.int .i64 0,.list 5 [],.list 1 [],.list 3 [],.list 4 [],.int .i64 0,.list 5 [],.list 1 [],.list 1 [],.list 1 [],.list 1 [],.bool T,.int .i64 0,.list 9 [],.list 1 [],.list 1 [],.list 1 [],.list 3 [],.list 4 [],.int .i64 0,.list 5 [],.list 1 [],.list 1 [],.list 1 [],.list 1 [],.list 3 [],.list 1 [],.list 1 [],.list 3 [],.list 1 [],.list 1 [],.list 1 [],.list 1 [],.list 1 []],[])|15=>([.str ⟨#[]⟩,.list 1 [],.list 3 [],.list 4 [],.int .i64 0,.list 5 [],.list 1 [],.list 3 [],.list 4 [],.int .i64 0,.list 5 [],.list 1 [],.list 1 [],.list 1 [],.list 1 [],.bool T,.int .i64 0,.list 9 [],.list 1 [],.list 1 [],.list 1 [],.list 3 [],.list 4 [],.int .i64 0,.list 5 [],.list 1 [],.list 1 [],.list 1 [],.list 1 [],.list 3 [],.list 1 [],.nil,.nil,.nil,.list 1 [],.list 1 [],.list 1 [],.list 1 []],[(0,25),(25,3),(28,3)])|16=>([.list 1 [],.list 3 [],.list 1 [],.list 4 []],[])|17=>([.list 1 [],.list 3 [],.list 1 [],.list 4 []],[(0,3)])|18=>([.list 1 [],.list 3 [],.list 1 [],.list 4 [],.list 1 [],.list 3 [],.list 1 [],.list 1 [],.list 1 []],[(0,4),(4,3),(7,2)])|19=>([.nil,.nil],[])|20=>([.int .i64 0,.list 1 [],.list 1 [],.list 1 []],[(0,1),(1,3)])|21=>([.list 1 [],.list 3 [],.list 1 [],.list 4 []],[(0,3),(3,1)])|22=>([.list 1 [],.list 3 [],.list 1 [],.list 1 [],.list 3 [],.list 1 [],.list 1 [],.list 1 [],.nil,.nil],[(0,3),(3,3),(6,1),(7,1)])|23=>([.list 1 [],.list 3 [],.list 1 [],.list 4 [],.list 1 [],.list 3 [],.list 1 [],.list 4 [],.list 1 [],.list 1 []],[])|24=>([.list 1 [],.list 3 [],.list 1 [],.list 4 [],.list 1 [],.list 3 [],.list 1 [],.list 4 [],.list 1 [],.list 1 []],[(0,4),(4,4),(8,2)])|25=>([.list 1 [],.list 3 [],.list 1 []],[])|26=>([.int .i64 0,.str ⟨#[]⟩,.int .i64 0],[])|27=>([.list 4 [],.list 7 [],.list 1 [],.list 3 [],.list 1 [],.list 3 [],.list 1 [],.list 1 [],.bool T,.int .i64 0,.nil],[(0,2),(2,2),(4,2),(6,2),(8,1),(9,1)])|28=>([.str ⟨#[]⟩,.list 1 [],.list 3 [],.list 4 [],.int .i64 0,.list 5 [],.list 1 [],.list 3 [],.list 4 [],.int .i64 0,.list 5 [],.list 1 [],.list 1 [],.list 1 [],.list 1 [],.bool T,.int .i64 0,.list 9 [],.list 1 [],.list 1 [],.list 1 [],.list 3 [],.list 4 [],.int .i64 0,.list 5 [],.list 1 [],.list 1 [],.list 1 [],.list 1 [],.list 3 [],.list 1 [],.list 1 [],.list 3 [],.list 1 [],.list 1 [],.list 1 [],.list 1 [],.list 1 []],[(0,25),(25,3),(28,3),(31,3),(34,2),(36,2)])|29=>([.list 1 [],.list 3 []],[(0,1)])|30=>([.int .i64 0,.int .i64 0],[(0,1)])|31=>([.int .i64 0,.int .i64 0,.int .i64 0,.int .i64 0],[(2,2)])|32=>([.list 1 [],.list 3 [],.list 4 [],.int .i64 0,.list 5 []],[(0,2),(3,1),(2,1)])|33=>([.list 1 [],.list 1 []],[(0,1)])|34=>([.int .i64 0,.list 9 [],.list 1 [],.list 1 [],.list 1 [],.list 3 [],.list 4 [],.int .i64 0,.list 5 []],[(0,1)])|35=>([.list 1 [],.list 3 []],[(0,1),(1,1)])|36=>([.list 1 [],.list 3 [],.list 1 []],[(0,2),(2,1)])|37=>([.int .u8 0,.int .u8 0],[])|38=>([.str ⟨#[]⟩,.int .i64 0,.bool T,.list 4 []],[(0,1),(1,1),(2,1)])|39=>([.str ⟨#[]⟩,.int .i64 0,.int .i64 0,.list 1 []],[(0,1),(1,1),(2,1)])
  |40=>([.str ⟨#[]⟩,.int .i64 0,.int .i64 0,.list 1 []],[(0,1),(2,1),(3,1)])|41=>([.str ⟨#[]⟩,.int .i64 0,.int .i64 0,.int .i64 0,.int .i64 0,.int .i64 0,.int .i64 0],[(0,1),(1,1),(2,1),(4,1),(6,1)])|42=>([.int .i64 0,.int .i64 0,.int .i64 0,.int .i64 0,.int .i64 0],[(0,1),(1,2),(3,2)])|43=>([.int .i64 0,.int .i64 0,.int .i64 0,.int .i64 0],[(0,1),(1,1),(2,2)])|44=>([.list 1 [],.list 3 [],.list 4 [],.int .i64 0,.list 5 []],[(0,2),(3,1)])|45=>([.int .i64 0,.list 9 [],.list 1 [],.list 1 [],.list 1 [],.list 3 [],.list 4 [],.int .i64 0,.list 5 []],[(0,1),(2,2),(4,5),(1,1)])|46=>([.int .i64 0,.list 9 [],.list 1 [],.list 1 [],.list 1 [],.list 3 [],.list 4 [],.int .i64 0,.list 5 []],[(0,1),(1,1)])|47=>([.list 1 [],.list 3 [],.list 4 [],.int .i64 0,.list 5 []],[(0,2)])|48=>([.str ⟨#[]⟩,.list 1 [],.list 3 [],.list 4 [],.int .i64 0,.list 5 [],.list 1 [],.list 3 [],.list 4 [],.int .i64 0,.list 5 [],.list 1 [],.list 1 [],.list 1 [],.list 1 [],.bool T,.int .i64 0,.list 9 [],.list 1 [],.list 1 [],.list 1 [],.list 3 [],.list 4 [],.int .i64 0,.list 5 []],[(0,1),(1,5),(6,5),(11,2),(13,2),(15,1),(16,9)])|49=>([.list 1 [],.list 3 [],.list 4 [],.int .i64 0,.list 5 []],[(3,1)])|_=>([],[])
def shC:Nat->List AR
  |0=>[⟨X,.list 1 []⟩,⟨X,.list 1 []⟩]|1=>[⟨T,.str ⟨#[]⟩⟩,⟨T,.int .i64 0⟩,⟨T,.bool T⟩,⟨X,.list 4 []⟩]|2=>[⟨T,.str ⟨#[]⟩⟩,⟨T,.int .i64 0⟩,⟨T,.int .i64 0⟩,⟨T,.int .i64 0⟩,⟨T,.int .i64 0⟩,⟨T,.int .i64 0⟩,⟨T,.int .i64 0⟩]|3=>[⟨T,.str ⟨#[]⟩⟩,⟨T,.int .i64 0⟩,⟨T,.int .i64 0⟩,⟨X,.list 1 []⟩]|4=>[⟨T,.int .i64 0⟩,⟨T,.int .i64 0⟩,⟨T,.int .i64 0⟩,⟨T,.int .i64 0⟩,⟨T,.int .i64 0⟩]|5=>[⟨T,.int .i64 0⟩,⟨T,.int .i64 0⟩,⟨T,.int .i64 0⟩,⟨T,.int .i64 0⟩]|6=>[⟨T,.int .i64 0⟩,⟨T,.int .i64 0⟩]|7=>[⟨X,.list 1 []⟩,⟨X,.list 3 []⟩]|8=>[⟨T,.int .i64 0⟩,⟨T,.int .i64 0⟩,⟨T,.int .i64 0⟩]|9=>[⟨X,.list 1 []⟩,⟨X,.list 3 []⟩,⟨X,.list 4 []⟩,⟨T,.int .i64 0⟩,⟨X,.list 5 []⟩]|10=>[⟨T,.int .i64 0⟩,⟨X,.list 9 []⟩,⟨X,.list 1 []⟩,⟨X,.list 1 []⟩,⟨X,.list 1 []⟩,⟨X,.list 3 []⟩,⟨X,.list 4 []⟩,⟨T,.int .i64 0⟩,⟨X,.list 5 []⟩]|11=>[⟨T,.int .i64 0⟩]|12=>[⟨T,.str ⟨#[]⟩⟩,⟨X,.list 1 []⟩,⟨X,.list 3 []⟩,⟨X,.list 4 []⟩,⟨T,.int .i64 0⟩,⟨X,.list 5 []⟩,⟨X,.list 1 []⟩,⟨X,.list 3 []⟩,⟨X,.list 4 []⟩,⟨T,.int .i64 0⟩,⟨X,.list 5 []⟩,⟨X,.list 1 []⟩,⟨X,.list 1 []⟩,⟨X,.list 1 []⟩,⟨X,.list 1 []⟩,⟨T,.bool T⟩,⟨T,.int .i64 0⟩,⟨X,.list 9 []⟩,⟨X,.list 1 []⟩,⟨X,.list 1 []⟩,⟨X,.list 1 []⟩,⟨X,.list 3 []⟩,⟨X,.list 4 []⟩,⟨T,.int .i64 0⟩,⟨X,.list 5 []⟩]|13=>[⟨X,.list 1 []⟩,⟨X,.list 3 []⟩,⟨X,.list 1 []⟩,⟨X,.list 3 []⟩,⟨X,.list 1 []⟩,⟨X,.list 1 []⟩,⟨X,.list 1 []⟩,⟨X,.list 1 []⟩]|14=>[⟨T,.int .i64 0⟩,⟨X,.list 1 []⟩,⟨X,.list 1 []⟩,⟨X,.list 1 []⟩,⟨X,.list 5 []⟩]|15=>[⟨X,.list 1 []⟩,⟨X,.list 1 []⟩,⟨X,.list 1 []⟩]|16=>[⟨X,.list 1 []⟩,⟨X,.list 3 []⟩,⟨X,.list 1 []⟩]|17=>[⟨T,.str ⟨#[]⟩⟩,⟨X,.list 1 []⟩,⟨X,.list 3 []⟩,⟨X,.list 4 []⟩,⟨T,.int .i64 0⟩,⟨X,.list 5 []⟩,⟨X,.list 1 []⟩,⟨X,.list 3 []⟩,⟨X,.list 4 []⟩,⟨T,.int .i64 0⟩,⟨X,.list 5 []⟩,⟨X,.list 1 []⟩,⟨X,.list 1 []⟩,⟨X,.list 1 []⟩,⟨X,.list 1 []⟩,⟨T,.bool T⟩,⟨T,.int .i64 0⟩,⟨X,.list 9 []⟩,⟨X,.list 1 []⟩,⟨X,.list 1 []⟩,⟨X,.list 1 []⟩,⟨X,.list 3 []⟩,⟨X,.list 4 []⟩,⟨T,.int .i64 0⟩,⟨X,.list 5 []⟩,⟨X,.list 1 []⟩,⟨X,.list 1 []⟩,⟨X,.list 1 []⟩,⟨X,.list 1 []⟩,⟨X,.list 3 []⟩,⟨X,.list 1 []⟩,⟨X,.list 1 []⟩,⟨X,.list 3 []⟩,⟨X,.list 1 []⟩,⟨X,.list 1 []⟩,⟨X,.list 1 []⟩,⟨X,.list 1 []⟩,⟨X,.list 1 []⟩]|18=>[⟨T,.str ⟨#[]⟩⟩,⟨X,.list 1 []⟩,⟨X,.list 3 []⟩,⟨X,.list 4 []⟩,⟨T,.int .i64 0⟩,⟨X,.list 5 []⟩,⟨X,.list 1 []⟩,⟨X,.list 3 []⟩,⟨X,.list 4 []⟩,⟨T,.int .i64 0⟩,⟨X,.list 5 []⟩,⟨X,.list 1 []⟩,⟨X,.list 1 []⟩,⟨X,.list 1 []⟩,⟨X,.list 1 []⟩,⟨T,.bool T⟩,⟨T,.int .i64 0⟩,⟨X,.list 9 []⟩,⟨X,.list 1 []⟩,⟨X,.list 1 []⟩,⟨X,.list 1 []⟩,⟨X,.list 3 []⟩,⟨X,.list 4 []⟩,⟨T,.int .i64 0⟩,⟨X,.list 5 []⟩,⟨X,.list 1 []⟩,⟨X,.list 1 []⟩,⟨X,.list 1 []⟩,⟨X,.list 1 []⟩,⟨X,.list 3 []⟩,⟨X,.list 1 []⟩,⟨X,.list 1 []⟩,⟨X,.list 3 []⟩,⟨X,.xn []⟩,⟨X,.list 1 []⟩,⟨X,.list 1 []⟩,⟨X,.list 1 []⟩,⟨X,.list 1 []⟩]|19=>[⟨T,.int .i64 0⟩,⟨X,.list 1 []⟩,⟨X,.list 1 []⟩,⟨X,.list 1 []⟩]|20=>[⟨X,.list 1 []⟩,⟨X,.list 3 []⟩,⟨X,.list 1 []⟩,⟨X,.list 4 []⟩,⟨X,.list 1 []⟩,⟨X,.list 3 []⟩,⟨X,.list 1 []⟩,⟨X,.list 1 []⟩,⟨X,.list 1 []⟩]|21=>[⟨X,.list 1 []⟩,⟨X,.list 3 []⟩,⟨X,.list 1 []⟩,⟨X,.list 4 []⟩,⟨X,.list 1 []⟩,⟨X,.list 3 []⟩,⟨X,.list 1 []⟩,⟨X,.list 4 []⟩,⟨X,.list 1 []⟩,⟨X,.list 1 []⟩]|22=>[⟨X,.list 1 []⟩,⟨X,.list 3 []⟩,⟨X,.xn []⟩]|23=>[⟨T,.int .i64 0⟩,⟨T,.str ⟨#[]⟩⟩,⟨T,.int .i64 0⟩]|24=>[⟨X,.xl 1 []⟩,⟨X,.xl 3 []⟩]|25=>[⟨X,.xl 1 []⟩,⟨X,.xl 1 []⟩]|26=>[⟨X,.list 4 []⟩,⟨X,.list 7 []⟩]|27=>[⟨T,.int .u8 0⟩,⟨T,.int .u8 0⟩]|28=>[⟨T,.int .u8 0⟩,⟨T,.int .u8 0⟩,⟨T,.int .u8 0⟩]
  |_=>[]
def OL:iU:=⟨shB,shC⟩
def bT:Nat:=0x38155d69300014007c99f00016201034671079b01ed04360375019d053200c908c94dcd82025f327f370b5c010489326a5d0b011312827897833f0301c0a60e045d26445b5b81050a09014a705c047d880e0444650338370000194448a76b030000014c55816a037d5c0000030000000d0c433201020b0a000038380000000073370b5b06425585054b910201420442804201386504080e7737034b00000000000002010242000081000944066a0147557e050100000000810a558a000001930544610000000605818100000000818b5eff0000000000000e3832005d42000000005f01320500000000620b0000000000000000024b00000000000003033641017143010807000000000000726c415a010a5e7401ff035a11118560050b000000000000010e034405040000000000000000010000000000ff859393018136433c5903023642033700410105000000000000ff810000000000000000000000000000000000000000000000000000000000000000000000000000000000000000000000000000000000000000024400420301000000000000010100000000000000000000000000000000000000000000000000000000000000000000000000000000000000000000000000000000000000000000000000000000000000000000000000000000000000000000000000000000000000000000000000000000
theorem nz{P:Prop}(p:P:=by
  intros
  conv=>
    arg 2
    conv=>
      enter [2]
      whnf
    conv=>
      enter [3]
      whnf
    simp only[PC.of,dC,py,px,wx,tA,dLd,dSt,dIx,s9,ww,dUn,UE,ce,dl,dGd,kR,oP,tP,a0,a1,Tq,tG,wk,oO,cV,OL,shB,shC,Nat.reduceDiv,Nat.reduceMod,Nat.reduceMul,Nat.reduceEqDiff,↓reduceIte,List.nil_append,List.cons_append,Bool.or_true,Bool.true_or,Bool.or_false,Bool.false_or,Bool.or_self]
  exact au):P:=p
def OK:List ResultVar->List RV
  |.tmp s::r=>.tmp s::OK r|_=>[]
theorem Fk(fn:Func)(s:Nat)(ζ:List AE)(rv:List RV)(h:∀r,x=Y r → TV.tc ts → HR (λr=>Bb rv (R r)) → WP (AV prog) (PC.of OL fn.body (xq bT s) ζ) ⟨Bb rv (R r),λ_ _=>False,Bb rv (R r)⟩ (DV 0 ts))(hb:fn.body=Y c:=by rfl)(ck:CK fn (PC.of OL fn.body (xq bT s) ζ) rv:=by decide +kernel)(hf:prog.funcs[f]? =Y fn:=by rfl)(hname:fn.name≠ "runtime.NumGoroutine" :=by decide)(hn:w_ ts.length fn.ntmps=X:=by rfl)(hp:∀r,(R r).plain=X:=by exact λ_=>rfl):Ct prog x f ts R:=
  Fi ck h hf hb hname hn hp
theorem Fj(fn:Func)(s:Nat)(ζ:List AE)(h:∀{r},x=Y r → ∀{_:TV.tc ts}{_:HR λr=>Bb (OK fn.results.toList) (R r)},WP (AV prog) (PC.of OL fn.body (xq bT s) ζ) ⟨Bb (OK fn.results.toList) (R r),λ_ _=>False,Bb (OK fn.results.toList) (R r)⟩ (DV 0 ts))(hb:fn.body=Y c:=by rfl)(ck:CK fn (PC.of OL fn.body (xq bT s) ζ) (OK fn.results.toList):=by decide +kernel)(hf:prog.funcs[f]? =Y fn:=by rfl)(hname:fn.name≠ "runtime.NumGoroutine" :=by decide)(hn:w_ ts.length fn.ntmps=X:=by rfl)(hp:∀r,(R r).plain=X:=by exact λ_=>rfl):Ct prog x f ts R:=
  Fk fn s ζ _ (λr e a b=>@h r e a b) hb ck hf hname hn hp
variable{y:Option α}
theorem Fe{R:α->A9}(fn:Func)(s:Nat)(ζ:List AE)(E:x=y)(h:∀r,y=Y r->TV.tc ts->HR (λr=>Bb (OK fn.results.toList) (R r))->WP (AV prog) (PC.of OL fn.body (xq bT s) ζ) ⟨Bb (OK fn.results.toList) (R r),λ_ _=>False,Bb (OK fn.results.toList) (R r)⟩ (DV 0 ts):=by
  intro r h _ _;exact nz)(hb:fn.body=Y c:=by rfl)(ck:CK fn (PC.of OL fn.body (xq bT s) ζ) (OK fn.results.toList):=by decide +kernel)(hf:prog.funcs[f]? =Y fn:=by rfl)(hname:fn.name≠ "runtime.NumGoroutine" :=by decide)(hn:w_ ts.length fn.ntmps=X:=by rfl)(hp:∀r,(R r).plain=X:=by exact λ_=>rfl):Ct prog x f ts R:=
  Fk fn s ζ _ (λr e a b=>h r (E.symm.trans e) a b) hb ck hf hname hn hp
variable{H1:Prop}
theorem Bv{R:α->A9}(fn:Func)(s:Nat)(ζ:List AE)(E:x=y)(i1:H1)(h:H1->∀r,y=Y r->TV.tc ts->HR (λr=>Bb (OK fn.results.toList) (R r))->WP (AV prog) (PC.of OL fn.body (xq bT s) ζ) ⟨Bb (OK fn.results.toList) (R r),λ_ _=>False,Bb (OK fn.results.toList) (R r)⟩ (DV 0 ts):=by
  intro _ r h _ _;exact nz)(hb:fn.body=Y c:=by rfl)(ck:CK fn (PC.of OL fn.body (xq bT s) ζ) (OK fn.results.toList):=by decide +kernel)(hf:prog.funcs[f]? =Y fn:=by rfl)(hname:fn.name≠ "runtime.NumGoroutine" :=by decide)(hn:w_ ts.length fn.ntmps=X:=by rfl)(hp:∀r,(R r).plain=X:=by exact λ_=>rfl):Ct prog x f ts R:=
  Fk fn s ζ _ (λr e a b=>h i1 r (E.symm.trans e) a b) hb ck hf hname hn hp
variable{H2:Prop}
theorem KE{R:α->A9}(fn:Func)(s:Nat)(ζ:List AE)(E:x=y)(i1:H1)(i2:H2)(h:H1->H2->∀r,y=Y r->TV.tc ts->HR (λr=>Bb (OK fn.results.toList) (R r))->WP (AV prog) (PC.of OL fn.body (xq bT s) ζ) ⟨Bb (OK fn.results.toList) (R r),λ_ _=>False,Bb (OK fn.results.toList) (R r)⟩ (DV 0 ts):=by
  intro _ _ r h _ _;exact nz)(hb:fn.body=Y c:=by rfl)(ck:CK fn (PC.of OL fn.body (xq bT s) ζ) (OK fn.results.toList):=by decide +kernel)(hf:prog.funcs[f]? =Y fn:=by rfl)(hname:fn.name≠ "runtime.NumGoroutine" :=by decide)(hn:w_ ts.length fn.ntmps=X:=by rfl)(hp:∀r,(R r).plain=X:=by exact λ_=>rfl):Ct prog x f ts R:=
  Fk fn s ζ _ (λr e a b=>h i1 i2 r (E.symm.trans e) a b) hb ck hf hname hn hp
theorem iR{H3:Prop}{R:α->A9}(fn:Func)(s:Nat)(ζ:List AE)(E:x=y)(i1:H1)(i2:H2)(i3:H3)(h:H1->H2->H3->∀r,y=Y r->TV.tc ts->HR (λr=>Bb (OK fn.results.toList) (R r))->WP (AV prog) (PC.of OL fn.body (xq bT s) ζ) ⟨Bb (OK fn.results.toList) (R r),λ_ _=>False,Bb (OK fn.results.toList) (R r)⟩ (DV 0 ts):=by
  intro _ _ _ r h _ _;exact nz)(hb:fn.body=Y c:=by rfl)(ck:CK fn (PC.of OL fn.body (xq bT s) ζ) (OK fn.results.toList):=by decide +kernel)(hf:prog.funcs[f]? =Y fn:=by rfl)(hname:fn.name≠ "runtime.NumGoroutine" :=by decide)(hn:w_ ts.length fn.ntmps=X:=by rfl)(hp:∀r,(R r).plain=X:=by exact λ_=>rfl):Ct prog x f ts R:=
  Fk fn s ζ _ (λr e a b=>h i1 i2 i3 r (E.symm.trans e) a b) hb ck hf hname hn hp
def xL{σ:Type}(c:Nat)(f:σ->List (Nat×EV)):Int->σ->List (Nat×EV):=λi s=>(c,.tv (eI i))::f s
theorem BG(n c q i:Nat){σ:Type}(f:σ->List (Nat×EV)):HA n c q i (xL c f):=⟨⟩
theorem BM(n c q i:Nat):HA n c q i (xL c λ_:Unit=>[]):=⟨⟩
abbrev CT{α:Type}(x:Option α)(f:outParam FuncId)(ts:outParam Fq)(R:outParam (α->A9)):Prop:=Ct prog x f ts R
abbrev rB:Bool->A9:=λr=>.sh (eB r)
abbrev rI:Int->A9:=λr=>.sh (eI r)
abbrev rO{α:Type}(e:α->TV):α->A9:=λr=>.own (e r)
abbrev rS{α:Type}(e:α->TV):α->A9:=λr=>.sh (e r)
abbrev rT{α β:Type}(e:α->TV)(f:β->TV):α×β->A9:=λr=>.tp [e r.1,f r.2]
abbrev hO{α:Type}(k:Nat)(e:α->TV):α->List (Nat×EV):=λs=>[(k,.ow (e s))]
abbrev hT{α:Type}(k:Nat)(e:α->TV):α->List (Nat×EV):=λs=>[(k,.tv (e s))]
abbrev hX{α:Type}(k n:Nat)(e:α->TV):List α->List (Nat×EV):=λs=>[(k,.xo n (List.map e s))]
end Go.Sf.Sc
