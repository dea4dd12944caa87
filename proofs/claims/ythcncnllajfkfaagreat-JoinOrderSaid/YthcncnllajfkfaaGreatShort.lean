/- Shorter names for the shapes of rows, and how structs are read. -/
import Derived.Test.YthcncnllajfkfaaGreatSfAuto
import Derived.Test.YthcncnllajfkfaaGreatSfDec
import Derived.Test.YthcncnllajfkfaaGreatFns
set_option linter.all false
set_option maxRecDepth 100000
open Option renaming some->Y,none->W
open Bool renaming true->X,false->T
open Nat renaming ble->v?,le_of_ble_eq_true->w_
namespace Go.Sf
abbrev Rq(o:List PR)(l:QQ)(b:PC):PC:=.seq (.region o l) b
abbrev Sq(a b:PC):PC:=.seq a b
abbrev Re(o:List PR)(l:QQ):PC:=.region o l
abbrev Dr(d:QQ)(o:List PR)(l:QQ):PC:=.draw d o l
abbrev Sk(l:QQ):PC:=.skip l
abbrev Ex(i:Nat)(l:QQ):PC:=.exit i l
abbrev Co(c:Nat)(a b:PC):PC:=.cond (.s c) a b
abbrev Bl(i:Nat)(a:PC):PC:=.block i a
abbrev Lo(l:QQ)(a:PC):PC:=.loop l a
abbrev Aa(x0 x1:Nat):PR:=⟨Y x0,.mv (.s x1),W⟩
abbrev Ab(x0 x1 x2:Nat):PR:=⟨Y x0,.lda (.s x1) x2,W⟩
abbrev Ac(x0 x1 x2 x3:Nat):PR:=⟨Y x0,.fad (.s x1) x2,Y (x3,T)⟩
abbrev Ad(x0 x1:Nat):PR:=⟨Y x0,.tk x1,W⟩
abbrev Ae(x0 x1 x2 x3:Nat):PR:=⟨Y x0,.bad x1 x2,Y (x3,T)⟩
abbrev Af(x0 x1 x2:Nat):PR:=⟨Y x0,.ld (.s x1),Y (x2,T)⟩
abbrev Ag(x0 x1 x2:Nat):PR:=⟨Y x0,.len (.s x1),Y (x2,T)⟩
abbrev Ah(x0 x1:Nat)(x2:Int)(x3:Nat):PR:=⟨Y x0,.bin (.i) .gtr (.s x1) (.c (.int .i64 x2)),Y (x3,T)⟩
abbrev Ai(x0 x1 x2:Nat):PR:=⟨Y x0,.pick (.s x1) (.c (.bool X)) (.s x2),W⟩
abbrev Aj(x0 x1:Nat):PR:=⟨Y x0,.ld (.s x1),W⟩
abbrev Ak(x0 x1 x2:Nat):PR:=⟨Y x0,.bad x1 x2,W⟩
abbrev Al(x0 x1:Nat):PR:=⟨Y x0,.len (.s x1),W⟩
abbrev Am(x0 x1 x2:Nat):PR:=⟨W,.stb x0 x1 (.s x2),W⟩
abbrev An(x0 x1:Nat):PR:=⟨Y x0,.Abt (.s x1),W⟩
abbrev Ao(x0:Nat)(x1:Int):PR:=⟨Y x0,.mv (.c (.int .i64 x1)),W⟩
abbrev Ap(x0 x1:Nat):PR:=⟨Y x0,.Abz x1,W⟩
abbrev Aq(x0 x1 x2:Nat):PR:=⟨Y x0,.fad (.s x1) x2,W⟩
abbrev Ar(x0 x1 x2 x3:Nat):PR:=⟨Y x0,.call x1 [.s x2,.s x3],W⟩
abbrev As(x0 x1 x2:Nat):PR:=⟨Y x0,.bin (.i) .lss (.s x1) (.s x2),W⟩
abbrev Au(x0 x1 x2 x3:Nat):PR:=⟨Y x0,.iad (.s x1) (.s x2) x3,W⟩
abbrev Av(x0 x1:Nat)(x2:Int):PR:=⟨Y x0,.bin (.i) .add (.s x1) (.c (.int .i64 x2)),W⟩
abbrev Aw(x0 x1 x2:Nat):PR:=⟨Y x0,.alc [⟨X,.list x1 []⟩,⟨X,.list x2 []⟩],W⟩
abbrev Ax(x0 x1 x2 x3:Nat):PR:=⟨Y x0,.alc [⟨X,.list x1 []⟩,⟨X,.list x2 []⟩,⟨X,.list x3 []⟩],W⟩
end Go.Sf
namespace Go.Sf.Sc
open Go Go.Sf Go.Proofs.Tryz
instance(l:List d5):Ml (KV l) AI l:=⟨NC l⟩
instance(l:List BN):Ml (P6 l) FB l:=⟨T8 l⟩
instance:En d5 AI:=⟨⟩
instance:En BN FB:=⟨⟩
instance:Fl AI 9 Ef:=⟨Sh⟩
instance:Fl FB 5 I8:=⟨gv⟩
instance:dA B6:=⟨λl=>match l with|[.int _ x0,.int _ x1,.int _ x2]=>Bt.mk x0 x1 x2|_=>Bt.mk 0 0 0,λa b=>⟨inferInstance,pu a b⟩⟩
instance:dA FK:=⟨λl=>match l with|[.int _ x0,.int _ x1,.int _ x2,.int _ x3]=>CA.mk x0 x1 (gp.mk x2 x3)|_=>CA.mk 0 0 (gp.mk 0 0),λa b=>⟨inferInstance,pv a b⟩⟩
instance:dA F1:=⟨λl=>match l with|[.int _ x0,.int _ x1,.int _ x2,.int _ x3,.int _ x4]=>Test.mk x0 (gp.mk x1 x2) (gp.mk x3 x4)|_=>Test.mk 0 (gp.mk 0 0) (gp.mk 0 0),λa b=>⟨inferInstance,pw a b⟩⟩
abbrev CK(fn:Func)(pl:PC)(rv:List RV):Prop:=D1 prog fn.ntmps (Vf prog fn.ntmps) pl (fn.body.getD .skip)=X/\HD prog fn.results.toList rv=X
variable{f:FuncId}{fn:Func}{c:Code}{pl:PC}{rv:List RV}{r:A9}
theorem Fn{args:Fq}(ck:CK fn pl rv)(h:TV.sc args → WP (AV prog) pl ⟨Bb rv r,λ_ _=>False,Bb rv r⟩ (DX 0 args))(hf:prog.funcs[f]? =Y fn:=by rfl)(hb:fn.body=Y c:=by rfl)(hname:fn.name≠ "runtime.NumGoroutine" :=by decide)(hn:v? args.length fn.ntmps=X:=by rfl)(hp:r.plain=X:=by rfl):AV prog f args r:=by
  have h1:=ck.1;rw[hb]at h1;exact d8 (NB Sc.Tryz_follows) hf hb hname h1 ck.2 (w_ hn) hp (λhw=>(h hw).out)
variable{i:Nat}
theorem FnB{args:Fq}{cs cs':List AR}{us:Fq}(ck:CK fn pl rv)(nb:PC.x7 pl=X/\PC.x9 i pl=X)(h:TV.sc args → (∀c∈cs,c.t.WF) → WP (AV prog) pl ⟨Bb rv (.bo cs cs' i us),λ_ _=>False,Bb rv (.bo cs cs' i us)⟩ ((i,.bx cs)::DX 0 args))(hf:prog.funcs[f]? =Y fn:=by rfl)(hb:fn.body=Y c:=by rfl)(hname:fn.name≠ "runtime.NumGoroutine" :=by decide)(hn:v? args.length fn.ntmps=X:=by rfl):AV prog f args (.bo cs cs' i us):=by
  have h1:=ck.1;rw[hb]at h1;exact mu (NB Sc.Tryz_follows) hf hb hname h1 ck.2 (w_ hn) nb.1 nb.2 (λhw hwc=>(h hw hwc).out)
variable{α:Type}{x:Option α}{ts:Fq}{R:α → A9}
theorem Fi(ck:CK fn pl rv)(h:∀r,x=Y r → TV.sc ts → HR (λr=>Bb rv (R r)) → WP (AV prog) pl ⟨Bb rv (R r),λ_ _=>False,Bb rv (R r)⟩ (DX 0 ts))(hf:prog.funcs[f]? =Y fn:=by rfl)(hb:fn.body=Y c:=by rfl)(hname:fn.name≠ "runtime.NumGoroutine" :=by decide)(hn:v? ts.length fn.ntmps=X:=by rfl)(hp:∀r,(R r).plain=X:=by exact λ_=>rfl):Ct prog x f ts R:=
  ⟨λr hr=>Fn ck (λhw=>h r hr hw ⟨⟩) hf hb hname hn (hp r)⟩
variable{us:α → Fq}
theorem iP{cs:List AR}{cs':α → List AR}(ck:CK fn pl rv)(nb:PC.x7 pl=X/\PC.x9 i pl=X)(h:∀r,x=Y r → TV.sc ts → (∀c∈cs,c.t.WF) → HR (λr=>Bb rv (.bo cs (cs' r) i (us r))) → WP (AV prog) pl ⟨Bb rv (.bo cs (cs' r) i (us r)),λ_ _=>False,Bb rv (.bo cs (cs' r) i (us r))⟩ ((i,.bx cs)::DX 0 ts))(hf:prog.funcs[f]? =Y fn:=by rfl)(hb:fn.body=Y c:=by rfl)(hname:fn.name≠ "runtime.NumGoroutine" :=by decide)(hn:v? ts.length fn.ntmps=X:=by rfl):Ct prog x f ts (λr=> .bo cs (cs' r) i (us r)):=
  ⟨λr hr=>FnB ck nb (λhw hwc=>h r hr hw hwc ⟨⟩) hf hb hname hn⟩
theorem FnA{args:Fq}{cs:List AR}(ck:CK fn pl rv)(nb:PC.x7 pl=X)(h:TV.sc args → (∀c∈cs,c.t.WF) → WP (AV prog) pl ⟨Bb rv r,λ_ _=>False,Bb rv r⟩ ((i,.oag cs)::DX 0 args))(hf:prog.funcs[f]? =Y fn:=by rfl)(hb:fn.body=Y c:=by rfl)(hname:fn.name≠ "runtime.NumGoroutine" :=by decide)(hn:v? args.length fn.ntmps=X:=by rfl)(hp:r.plain=X:=by rfl)(hlo:r.lone=T:=by rfl):AV prog f args (.ag cs i r):=by
  have h1:=ck.1;rw[hb]at h1;exact mt (NB Sc.Tryz_follows) hf hb hname h1 ck.2 (w_ hn) nb hp hlo (λhw hwc=>(h hw hwc).out)
theorem FiA{cs:List AR}(ck:CK fn pl rv)(nb:PC.x7 pl=X)(h:∀r,x=Y r → TV.sc ts → (∀c∈cs,c.t.WF) → HR (λr=>Bb rv (R r)) → WP (AV prog) pl ⟨Bb rv (R r),λ_ _=>False,Bb rv (R r)⟩ ((i,.oag cs)::DX 0 ts))(hf:prog.funcs[f]? =Y fn:=by rfl)(hb:fn.body=Y c:=by rfl)(hname:fn.name≠ "runtime.NumGoroutine" :=by decide)(hn:v? ts.length fn.ntmps=X:=by rfl)(hp:∀r,(R r).plain=X:=by exact λ_=>rfl)(hlo:∀r,(R r).lone=T:=by exact λ_=>rfl):Ct prog x f ts (λr=> .ag cs i (R r)):=
  ⟨λr hr=>FnA ck nb (λhw hwc=>h r hr hw hwc ⟨⟩) hf hb hname hn (hp r) (hlo r)⟩
theorem FiM{x:Option (Bi×Int)}(ck:CK fn pl rv)(h:∀r,x=Y r → TV.sc ts → HR (λr=>Bb rv (PO r)) → WP (AV prog) pl ⟨Bb rv (PO r),λ_ _=>False,Bb rv (PO r)⟩ (DX 0 ts))(hf:prog.funcs[f]? =Y fn:=by rfl)(hb:fn.body=Y c:=by rfl)(hname:fn.name≠ "runtime.NumGoroutine" :=by decide)(hn:v? ts.length fn.ntmps=X:=by rfl):Ct prog x f ts PO:=by
  refine ⟨λr hr=>?_⟩;have h0:=h r hr;have h1:=ck.1;rw[hb]at h1;by_cases he:r.2=0
  · have e:PO r=.mpr r.1 [.int .i64 r.2]:=ac he
    rw [e]at h0|-;exact mw (NB Sc.Tryz_follows) hf hb hname h1 ck.2 (w_ hn) (λhw=>(h0 hw ⟨⟩).out)
  · have e:PO r=.tp [.undef,.int .i64 r.2]:=ae he
    rw [e]at h0|-;exact d8 (NB Sc.Tryz_follows) hf hb hname h1 ck.2 (w_ hn) rfl (λhw=>(h0 hw ⟨⟩).out)
theorem ABl{cs:List AR}{cs':α → List AR}(ck:CK fn pl rv)(nb:PC.x7 pl=X/\PC.x9 i pl=X)(h:∀r,x=Y r → TV.sc ts → (∀c∈cs,c.t.WF) → WP (AV prog) pl ⟨fz rv cs (cs' r) i (us r),λ_ _=>False,fz rv cs (cs' r) i (us r)⟩ ((i,.bx cs)::DX 0 ts))(hf:prog.funcs[f]? =Y fn:=by rfl)(hb:fn.body=Y c:=by rfl)(hname:fn.name≠ "runtime.NumGoroutine" :=by decide)(hn:v? ts.length fn.ntmps=X:=by rfl):Ct prog x f ts (λr=> .bo cs (cs' r) i (us r)):=by
  refine ⟨λr hr=>?_⟩;have h1:=ck.1;rw[hb]at h1;exact kU (NB Sc.Tryz_follows) hf hb hname h1 ck.2 (w_ hn) nb.1 nb.2 (λhw hwc=>(h r hr hw hwc).out)
def shB:Nat->Fq×List (Nat×Nat)
  |0=>([.list 1 [],.list 1 []],[])|1=>([.int .i64 0,.str ⟨#[]⟩,.int .i64 0],[(0,1),(1,1)])|2=>([.str ⟨#[]⟩,.int .i64 0,.int .i64 0,.list 1 []],[])|3=>([.list 1 [],.list 3 []],[])|4=>([.list 1 [],.list 1 []],[(0,1),(1,1)])|5=>([.int .i64 0,.int .i64 0],[(0,1),(1,1)])|6=>([.list 1 [],.list 3 [],.list 1 [],.list 3 [],.list 1 [],.list 1 [],.list 1 [],.list 1 []],[(0,2),(2,2),(4,2),(6,2)])|7=>([.int .i64 0,.int .i64 0,.int .i64 0],[(0,1),(1,1),(2,1)])|8=>([.list 1 [],.list 3 [],.list 1 [],.list 3 [],.list 1 [],.nil,.nil,.bool T,.int .i64 0,.nil,.nil,.nil],[(0,2),(2,2),(4,1),(5,2),(7,1),(8,1)])|9=>([.list 1 [],.list 1 [],.list 1 []],[(0,2),(2,1)])|10=>([.int .i64 0,.list 1 [],.list 1 [],.list 1 [],.list 5 []],[])|11=>([.int .i64 0,.list 1 [],.list 1 [],.list 1 [],.list 5 []],[(0,1),(4,1)])|12=>([.int .i64 0,.list 1 [],.list 1 [],.list 1 [],.list 5 []],[(1,3),(4,1)])|13=>([.list 4 [],.list 7 [],.list 1 [],.list 3 [],.list 1 [],.bool T],[(0,2),(2,3),(5,1)])|14=>([.str ⟨#[]⟩,.list 1 [],.list 3 [],.list 4 [],.int .i64 0,.list 5 [],.list 1 [],.list 3 [],.list 4 [],.int .i64 0,.list 5 [],.list 1 [],.list 1 [],.list 1 [],.list 1 [],.bool T,.int .i64 0,.list 9 [],.list 1 [],.list 1 [],.list 1 [],.list 3 [],.list 4 [],.int .i64 0,.list 5 [],.list 1 [],.list 1 [],.list 1 [],.list 1 [],.list 3 [],.list 1 [],.list 1 [],.list 3 [],.list 1 [],.list 1 [],.list 1 [],.list 1 [],.list 1 []],[])|15=>([.str ⟨#[]⟩,.list 1 [],.list 3 [],.list 4 [],.int .i64 0,.list 5 [],.list 1 [],.list 3 [],.list 4 [],.int .i64 0,.list 5 [],.list 1 [],.list 1 [],.list 1 [],.list 1 [],.bool T,.int .i64 0,.list 9 [],.list 1 [],.list 1 [],.list 1 [],.list 3 [],.list 4 [],.int .i64 0,.list 5 [],.list 1 [],.list 1 [],.list 1 [],.list 1 [],.list 3 [],.list 1 [],.nil,.nil,.nil,.list 1 [],.list 1 [],.list 1 [],.list 1 []],[(0,25),(25,3),(28,3)])|16=>([.list 1 [],.list 3 [],.list 1 [],.list 4 []],[])|17=>([.list 1 [],.list 3 [],.list 1 [],.list 4 []],[(0,3)])|18=>([.list 1 [],.list 3 [],.list 1 [],.list 4 [],.list 1 [],.list 3 [],.list 1 [],.list 1 [],.list 1 []],[(0,4),(4,3),(7,2)])|19=>([.nil,.nil],[])|20=>([.int .i64 0,.list 1 [],.list 1 [],.list 1 []],[(0,1),(1,3)])|21=>([.list 1 [],.list 3 [],.list 1 [],.list 4 []],[(0,3),(3,1)])|22=>([.list 1 [],.list 3 [],.list 1 [],.list 1 [],.list 3 [],.list 1 [],.list 1 [],.list 1 [],.nil,.nil],[(0,3),(3,3),(6,1),(7,1)])|23=>([.list 1 [],.list 3 [],.list 1 [],.list 4 [],.list 1 [],.list 3 [],.list 1 [],.list 4 [],.list 1 [],.list 1 []],[])|24=>([.list 1 [],.list 3 [],.list 1 [],.list 4 [],.list 1 [],.list 3 [],.list 1 [],.list 4 [],.list 1 [],.list 1 []],[(0,4),(4,4),(8,2)])|25=>([.list 1 [],.list 3 [],.list 1 []],[])|26=>([.int .i64 0,.str ⟨#[]⟩,.int .i64 0],[])|27=>([.list 4 [],.list 7 [],.list 1 [],.list 3 [],.list 1 [],.list 3 [],.list 1 [],.list 1 [],.bool T,.int .i64 0,.nil],[(0,2),(2,2),(4,2),(6,2),(8,1),(9,1)])|28=>([.str ⟨#[]⟩,.list 1 [],.list 3 [],.list 4 [],.int .i64 0,.list 5 [],.list 1 [],.list 3 [],.list 4 [],.int .i64 0,.list 5 [],.list 1 [],.list 1 [],.list 1 [],.list 1 [],.bool T,.int .i64 0,.list 9 [],.list 1 [],.list 1 [],.list 1 [],.list 3 [],.list 4 [],.int .i64 0,.list 5 [],.list 1 [],.list 1 [],.list 1 [],.list 1 [],.list 3 [],.list 1 [],.list 1 [],.list 3 [],.list 1 [],.list 1 [],.list 1 [],.list 1 [],.list 1 []],[(0,25),(25,3),(28,3),(31,3),(34,2),(36,2)])|29=>([.list 1 [],.list 3 []],[(0,1)])|30=>([.int .i64 0,.int .i64 0],[(0,1)])|31=>([.int .i64 0,.int .i64 0,.int .i64 0,.int .i64 0],[(2,2)])|32=>([.list 1 [],.list 3 [],.list 4 [],.int .i64 0,.list 5 []],[(0,2),(3,1),(2,1)])|33=>([.list 1 [],.list 1 []],[(0,1)])|34=>([.int .i64 0,.list 9 [],.list 1 [],.list 1 [],.list 1 [],.list 3 [],.list 4 [],.int .i64 0,.list 5 []],[(0,1)])|35=>([.list 1 [],.list 3 []],[(0,1),(1,1)])|36=>([.list 1 [],.list 3 [],.list 1 []],[(0,2),(2,1)])|37=>([.int .u8 0,.int .u8 0],[])|38=>([.str ⟨#[]⟩,.int .i64 0,.bool T,.list 4 []],[(0,1),(1,1),(2,1)])|39=>([.str ⟨#[]⟩,.int .i64 0,.int .i64 0,.list 1 []],[(0,1),(1,1),(2,1)])
  |40=>([.str ⟨#[]⟩,.int .i64 0,.int .i64 0,.list 1 []],[(0,1),(2,1),(3,1)])|41=>([.str ⟨#[]⟩,.int .i64 0,.int .i64 0,.int .i64 0,.int .i64 0,.int .i64 0,.int .i64 0],[(0,1),(1,1),(2,1),(4,1),(6,1)])|42=>([.int .i64 0,.int .i64 0,.int .i64 0,.int .i64 0,.int .i64 0],[(0,1),(1,2),(3,2)])|43=>([.int .i64 0,.int .i64 0,.int .i64 0,.int .i64 0],[(0,1),(1,1),(2,2)])|44=>([.list 1 [],.list 3 [],.list 4 [],.int .i64 0,.list 5 []],[(0,2),(3,1)])|45=>([.int .i64 0,.list 9 [],.list 1 [],.list 1 [],.list 1 [],.list 3 [],.list 4 [],.int .i64 0,.list 5 []],[(0,1),(2,2),(4,5),(1,1)])|46=>([.int .i64 0,.list 9 [],.list 1 [],.list 1 [],.list 1 [],.list 3 [],.list 4 [],.int .i64 0,.list 5 []],[(0,1),(1,1)])|47=>([.list 1 [],.list 3 [],.list 4 [],.int .i64 0,.list 5 []],[(0,2)])|48=>([.str ⟨#[]⟩,.list 1 [],.list 3 [],.list 4 [],.int .i64 0,.list 5 [],.list 1 [],.list 3 [],.list 4 [],.int .i64 0,.list 5 [],.list 1 [],.list 1 [],.list 1 [],.list 1 [],.bool T,.int .i64 0,.list 9 [],.list 1 [],.list 1 [],.list 1 [],.list 3 [],.list 4 [],.int .i64 0,.list 5 []],[(0,1),(1,5),(6,5),(11,2),(13,2),(15,1),(16,9)])|49=>([.list 1 [],.list 3 [],.list 4 [],.int .i64 0,.list 5 []],[(3,1)])|_=>([],[])
def shC:Nat->List AR
  |0=>[⟨X,.list 1 []⟩,⟨X,.list 1 []⟩]|1=>[⟨T,.str ⟨#[]⟩⟩,⟨T,.int .i64 0⟩,⟨T,.bool T⟩,⟨X,.list 4 []⟩]|2=>[⟨T,.str ⟨#[]⟩⟩,⟨T,.int .i64 0⟩,⟨T,.int .i64 0⟩,⟨T,.int .i64 0⟩,⟨T,.int .i64 0⟩,⟨T,.int .i64 0⟩,⟨T,.int .i64 0⟩]|3=>[⟨T,.str ⟨#[]⟩⟩,⟨T,.int .i64 0⟩,⟨T,.int .i64 0⟩,⟨X,.list 1 []⟩]|4=>[⟨T,.int .i64 0⟩,⟨T,.int .i64 0⟩,⟨T,.int .i64 0⟩,⟨T,.int .i64 0⟩,⟨T,.int .i64 0⟩]|5=>[⟨T,.int .i64 0⟩,⟨T,.int .i64 0⟩,⟨T,.int .i64 0⟩,⟨T,.int .i64 0⟩]|6=>[⟨T,.int .i64 0⟩,⟨T,.int .i64 0⟩]|7=>[⟨X,.list 1 []⟩,⟨X,.list 3 []⟩]|8=>[⟨T,.int .i64 0⟩,⟨T,.int .i64 0⟩,⟨T,.int .i64 0⟩]|9=>[⟨X,.list 1 []⟩,⟨X,.list 3 []⟩,⟨X,.list 4 []⟩,⟨T,.int .i64 0⟩,⟨X,.list 5 []⟩]|10=>[⟨T,.int .i64 0⟩,⟨X,.list 9 []⟩,⟨X,.list 1 []⟩,⟨X,.list 1 []⟩,⟨X,.list 1 []⟩,⟨X,.list 3 []⟩,⟨X,.list 4 []⟩,⟨T,.int .i64 0⟩,⟨X,.list 5 []⟩]|11=>[⟨T,.int .i64 0⟩]|12=>[⟨T,.str ⟨#[]⟩⟩,⟨X,.list 1 []⟩,⟨X,.list 3 []⟩,⟨X,.list 4 []⟩,⟨T,.int .i64 0⟩,⟨X,.list 5 []⟩,⟨X,.list 1 []⟩,⟨X,.list 3 []⟩,⟨X,.list 4 []⟩,⟨T,.int .i64 0⟩,⟨X,.list 5 []⟩,⟨X,.list 1 []⟩,⟨X,.list 1 []⟩,⟨X,.list 1 []⟩,⟨X,.list 1 []⟩,⟨T,.bool T⟩,⟨T,.int .i64 0⟩,⟨X,.list 9 []⟩,⟨X,.list 1 []⟩,⟨X,.list 1 []⟩,⟨X,.list 1 []⟩,⟨X,.list 3 []⟩,⟨X,.list 4 []⟩,⟨T,.int .i64 0⟩,⟨X,.list 5 []⟩]|13=>[⟨X,.list 1 []⟩,⟨X,.list 3 []⟩,⟨X,.list 1 []⟩,⟨X,.list 3 []⟩,⟨X,.list 1 []⟩,⟨X,.list 1 []⟩,⟨X,.list 1 []⟩,⟨X,.list 1 []⟩]|14=>[⟨T,.int .i64 0⟩,⟨X,.list 1 []⟩,⟨X,.list 1 []⟩,⟨X,.list 1 []⟩,⟨X,.list 5 []⟩]|15=>[⟨X,.list 1 []⟩,⟨X,.list 1 []⟩,⟨X,.list 1 []⟩]|16=>[⟨X,.list 1 []⟩,⟨X,.list 3 []⟩,⟨X,.list 1 []⟩]|17=>[⟨T,.str ⟨#[]⟩⟩,⟨X,.list 1 []⟩,⟨X,.list 3 []⟩,⟨X,.list 4 []⟩,⟨T,.int .i64 0⟩,⟨X,.list 5 []⟩,⟨X,.list 1 []⟩,⟨X,.list 3 []⟩,⟨X,.list 4 []⟩,⟨T,.int .i64 0⟩,⟨X,.list 5 []⟩,⟨X,.list 1 []⟩,⟨X,.list 1 []⟩,⟨X,.list 1 []⟩,⟨X,.list 1 []⟩,⟨T,.bool T⟩,⟨T,.int .i64 0⟩,⟨X,.list 9 []⟩,⟨X,.list 1 []⟩,⟨X,.list 1 []⟩,⟨X,.list 1 []⟩,⟨X,.list 3 []⟩,⟨X,.list 4 []⟩,⟨T,.int .i64 0⟩,⟨X,.list 5 []⟩,⟨X,.list 1 []⟩,⟨X,.list 1 []⟩,⟨X,.list 1 []⟩,⟨X,.list 1 []⟩,⟨X,.list 3 []⟩,⟨X,.list 1 []⟩,⟨X,.list 1 []⟩,⟨X,.list 3 []⟩,⟨X,.list 1 []⟩,⟨X,.list 1 []⟩,⟨X,.list 1 []⟩,⟨X,.list 1 []⟩,⟨X,.list 1 []⟩]|18=>[⟨T,.str ⟨#[]⟩⟩,⟨X,.list 1 []⟩,⟨X,.list 3 []⟩,⟨X,.list 4 []⟩,⟨T,.int .i64 0⟩,⟨X,.list 5 []⟩,⟨X,.list 1 []⟩,⟨X,.list 3 []⟩,⟨X,.list 4 []⟩,⟨T,.int .i64 0⟩,⟨X,.list 5 []⟩,⟨X,.list 1 []⟩,⟨X,.list 1 []⟩,⟨X,.list 1 []⟩,⟨X,.list 1 []⟩,⟨T,.bool T⟩,⟨T,.int .i64 0⟩,⟨X,.list 9 []⟩,⟨X,.list 1 []⟩,⟨X,.list 1 []⟩,⟨X,.list 1 []⟩,⟨X,.list 3 []⟩,⟨X,.list 4 []⟩,⟨T,.int .i64 0⟩,⟨X,.list 5 []⟩,⟨X,.list 1 []⟩,⟨X,.list 1 []⟩,⟨X,.list 1 []⟩,⟨X,.list 1 []⟩,⟨X,.list 3 []⟩,⟨X,.list 1 []⟩,⟨X,.list 1 []⟩,⟨X,.list 3 []⟩,⟨X,.xn []⟩,⟨X,.list 1 []⟩,⟨X,.list 1 []⟩,⟨X,.list 1 []⟩,⟨X,.list 1 []⟩]|19=>[⟨T,.int .i64 0⟩,⟨X,.list 1 []⟩,⟨X,.list 1 []⟩,⟨X,.list 1 []⟩]|20=>[⟨X,.list 1 []⟩,⟨X,.list 3 []⟩,⟨X,.list 1 []⟩,⟨X,.list 4 []⟩,⟨X,.list 1 []⟩,⟨X,.list 3 []⟩,⟨X,.list 1 []⟩,⟨X,.list 1 []⟩,⟨X,.list 1 []⟩]|21=>[⟨X,.list 1 []⟩,⟨X,.list 3 []⟩,⟨X,.list 1 []⟩,⟨X,.list 4 []⟩,⟨X,.list 1 []⟩,⟨X,.list 3 []⟩,⟨X,.list 1 []⟩,⟨X,.list 4 []⟩,⟨X,.list 1 []⟩,⟨X,.list 1 []⟩]|22=>[⟨X,.list 1 []⟩,⟨X,.list 3 []⟩,⟨X,.xn []⟩]|23=>[⟨T,.int .i64 0⟩,⟨T,.str ⟨#[]⟩⟩,⟨T,.int .i64 0⟩]|24=>[⟨X,.xl 1 []⟩,⟨X,.xl 3 []⟩]|25=>[⟨X,.xl 1 []⟩,⟨X,.xl 1 []⟩]|26=>[⟨X,.list 4 []⟩,⟨X,.list 7 []⟩]|27=>[⟨T,.int .u8 0⟩,⟨T,.int .u8 0⟩]|28=>[⟨T,.int .u8 0⟩,⟨T,.int .u8 0⟩,⟨T,.int .u8 0⟩]
  |_=>[]
def OD:iR:=⟨shB,shC⟩
def bT:Nat:=0x14007c901032726016561360159467201ef0104809684380b5d00c908c94dcf820204375c5c975990361312827d9a833f030536047e044481595c016a035555045e715d81050a09850b014a6c03880e2644810106051944000048a25538014c00007e5d030076596b5e00000d0c0000743801020b0a6b0300000b5c00000000800e4336064201559202054b08788c4201420442080e6a0408077c380000000000008100034b0000598a020102420944810a36050000000001476200000055590193818100000544818b000000005fff0e5500000000000036005e42650b000000006101030300000000024b000000000000000037410000000000000172050143017370415b0000000000000706010a5f7501ff035b11118560050b010e0000000000000344050401000000000000000000ff85000000009393374301813c5a03023742033800410105ff8100000000000002440000000000000000000000000000000000000000000000000000000000000000000000000000000000000000000000000000000000000000004203010101000000000000000000000000000000000000000000000000000000000000000000000000000000000000000000000000000000000000000000000000000000000000000000000000000000000000000000000000000000000000000000000000000000000000000000000000
theorem nz{P:Prop}(p:P:=by
  intros
  conv=>
    arg 2
    conv=>
      enter [2]
      whnf
    conv=>
      enter [3]
      whnf
    simp only[PC.of,dC,pj,pi,wl,su,dLd,dSt,dIx,sq,wk,dUn,T6,cY,dg,dGd,kL,oP,tP,a0,a1,Te,s9,wX,oO,cV,OD,shB,shC,Nat.reduceDiv,Nat.reduceMod,Nat.reduceMul,Nat.reduceEqDiff,↓reduceIte,List.nil_append,List.cons_append,Bool.or_true,Bool.true_or,Bool.or_false,Bool.false_or,Bool.or_self]
  exact au):P:=p
def OC:List ResultVar->List RV
  |.tmp s::r=>.tmp s::OC r|_=>[]
theorem Fk(fn:Func)(s:Nat)(ζ:List AE)(rv:List RV)(h:∀r,x=Y r → TV.sc ts → HR (λr=>Bb rv (R r)) → WP (AV prog) (PC.of OD fn.body (xq bT s) ζ) ⟨Bb rv (R r),λ_ _=>False,Bb rv (R r)⟩ (DX 0 ts))(hb:fn.body=Y c:=by rfl)(ck:CK fn (PC.of OD fn.body (xq bT s) ζ) rv:=by decide +kernel)(hf:prog.funcs[f]? =Y fn:=by rfl)(hname:fn.name≠ "runtime.NumGoroutine" :=by decide)(hn:v? ts.length fn.ntmps=X:=by rfl)(hp:∀r,(R r).plain=X:=by exact λ_=>rfl):Ct prog x f ts R:=
  Fi ck h hf hb hname hn hp
theorem Fj(fn:Func)(s:Nat)(ζ:List AE)(h:∀{r},x=Y r → ∀{_:TV.sc ts}{_:HR λr=>Bb (OC fn.results.toList) (R r)},WP (AV prog) (PC.of OD fn.body (xq bT s) ζ) ⟨Bb (OC fn.results.toList) (R r),λ_ _=>False,Bb (OC fn.results.toList) (R r)⟩ (DX 0 ts))(hb:fn.body=Y c:=by rfl)(ck:CK fn (PC.of OD fn.body (xq bT s) ζ) (OC fn.results.toList):=by decide +kernel)(hf:prog.funcs[f]? =Y fn:=by rfl)(hname:fn.name≠ "runtime.NumGoroutine" :=by decide)(hn:v? ts.length fn.ntmps=X:=by rfl)(hp:∀r,(R r).plain=X:=by exact λ_=>rfl):Ct prog x f ts R:=
  Fk fn s ζ _ (λr e a b=>@h r e a b) hb ck hf hname hn hp
variable{y:Option α}
theorem Fe{R:α->A9}(fn:Func)(s:Nat)(ζ:List AE)(E:x=y)(h:∀r,y=Y r->TV.sc ts->HR (λr=>Bb (OC fn.results.toList) (R r))->WP (AV prog) (PC.of OD fn.body (xq bT s) ζ) ⟨Bb (OC fn.results.toList) (R r),λ_ _=>False,Bb (OC fn.results.toList) (R r)⟩ (DX 0 ts):=by
  intro r h _ _;exact nz)(hb:fn.body=Y c:=by rfl)(ck:CK fn (PC.of OD fn.body (xq bT s) ζ) (OC fn.results.toList):=by decide +kernel)(hf:prog.funcs[f]? =Y fn:=by rfl)(hname:fn.name≠ "runtime.NumGoroutine" :=by decide)(hn:v? ts.length fn.ntmps=X:=by rfl)(hp:∀r,(R r).plain=X:=by exact λ_=>rfl):Ct prog x f ts R:=
  Fk fn s ζ _ (λr e a b=>h r (E.symm.trans e) a b) hb ck hf hname hn hp
variable{H1:Prop}
theorem B1{R:α->A9}(fn:Func)(s:Nat)(ζ:List AE)(E:x=y)(i1:H1)(h:H1->∀r,y=Y r->TV.sc ts->HR (λr=>Bb (OC fn.results.toList) (R r))->WP (AV prog) (PC.of OD fn.body (xq bT s) ζ) ⟨Bb (OC fn.results.toList) (R r),λ_ _=>False,Bb (OC fn.results.toList) (R r)⟩ (DX 0 ts):=by
  intro _ r h _ _;exact nz)(hb:fn.body=Y c:=by rfl)(ck:CK fn (PC.of OD fn.body (xq bT s) ζ) (OC fn.results.toList):=by decide +kernel)(hf:prog.funcs[f]? =Y fn:=by rfl)(hname:fn.name≠ "runtime.NumGoroutine" :=by decide)(hn:v? ts.length fn.ntmps=X:=by rfl)(hp:∀r,(R r).plain=X:=by exact λ_=>rfl):Ct prog x f ts R:=
  Fk fn s ζ _ (λr e a b=>h i1 r (E.symm.trans e) a b) hb ck hf hname hn hp
variable{H2:Prop}
theorem KD{R:α->A9}(fn:Func)(s:Nat)(ζ:List AE)(E:x=y)(i1:H1)(i2:H2)(h:H1->H2->∀r,y=Y r->TV.sc ts->HR (λr=>Bb (OC fn.results.toList) (R r))->WP (AV prog) (PC.of OD fn.body (xq bT s) ζ) ⟨Bb (OC fn.results.toList) (R r),λ_ _=>False,Bb (OC fn.results.toList) (R r)⟩ (DX 0 ts):=by
  intro _ _ r h _ _;exact nz)(hb:fn.body=Y c:=by rfl)(ck:CK fn (PC.of OD fn.body (xq bT s) ζ) (OC fn.results.toList):=by decide +kernel)(hf:prog.funcs[f]? =Y fn:=by rfl)(hname:fn.name≠ "runtime.NumGoroutine" :=by decide)(hn:v? ts.length fn.ntmps=X:=by rfl)(hp:∀r,(R r).plain=X:=by exact λ_=>rfl):Ct prog x f ts R:=
  Fk fn s ζ _ (λr e a b=>h i1 i2 r (E.symm.trans e) a b) hb ck hf hname hn hp
theorem iO{H3:Prop}{R:α->A9}(fn:Func)(s:Nat)(ζ:List AE)(E:x=y)(i1:H1)(i2:H2)(i3:H3)(h:H1->H2->H3->∀r,y=Y r->TV.sc ts->HR (λr=>Bb (OC fn.results.toList) (R r))->WP (AV prog) (PC.of OD fn.body (xq bT s) ζ) ⟨Bb (OC fn.results.toList) (R r),λ_ _=>False,Bb (OC fn.results.toList) (R r)⟩ (DX 0 ts):=by
  intro _ _ _ r h _ _;exact nz)(hb:fn.body=Y c:=by rfl)(ck:CK fn (PC.of OD fn.body (xq bT s) ζ) (OC fn.results.toList):=by decide +kernel)(hf:prog.funcs[f]? =Y fn:=by rfl)(hname:fn.name≠ "runtime.NumGoroutine" :=by decide)(hn:v? ts.length fn.ntmps=X:=by rfl)(hp:∀r,(R r).plain=X:=by exact λ_=>rfl):Ct prog x f ts R:=
  Fk fn s ζ _ (λr e a b=>h i1 i2 i3 r (E.symm.trans e) a b) hb ck hf hname hn hp
def xA{σ:Type}(c:Nat)(f:σ->List (Nat×EV)):Int->σ->List (Nat×EV):=λi s=>(c,.tv (eI i))::f s
theorem BH(n c q i:Nat){σ:Type}(f:σ->List (Nat×EV)):HA n c q i (xA c f):=⟨⟩
theorem BM(n c q i:Nat):HA n c q i (xA c λ_:Unit=>[]):=⟨⟩
abbrev CT{α:Type}(x:Option α)(f:outParam FuncId)(ts:outParam Fq)(R:outParam (α->A9)):Prop:=Ct prog x f ts R
abbrev rB:Bool->A9:=λr=>.sh (eB r)
abbrev rI:Int->A9:=λr=>.sh (eI r)
abbrev rO{α:Type}(e:α->TV):α->A9:=λr=>.own (e r)
abbrev rS{α:Type}(e:α->TV):α->A9:=λr=>.sh (e r)
abbrev rT{α β:Type}(e:α->TV)(f:β->TV):α×β->A9:=λr=>.tp [e r.1,f r.2]
abbrev hO{α:Type}(k:Nat)(e:α->TV):α->List (Nat×EV):=λs=>[(k,.ow (e s))]
abbrev hT{α:Type}(k:Nat)(e:α->TV):α->List (Nat×EV):=λs=>[(k,.tv (e s))]
abbrev hX{α:Type}(k n:Nat)(e:α->TV):List α->List (Nat×EV):=λs=>[(k,.xo n (List.map e s))]
end Go.Sf.Sc
