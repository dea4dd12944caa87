/- Shorter names for the shapes of rows, and how structs are read. -/
import Derived.Test.YthcncnllajfkfaaGreatSfAuto
import Derived.Test.YthcncnllajfkfaaGreatSfDec
import Derived.Test.YthcncnllajfkfaaGreatFns
set_option linter.all false
set_option maxRecDepth 100000
open Option renaming some->Y,none->W
open Bool renaming true->X,false->T
open Nat renaming ble->v1,le_of_ble_eq_true->v5
namespace Go.Sf
abbrev Rq(o:List PR)(l:Ne)(b:PC):PC:=.seq (.region o l) b
abbrev Sq(a b:PC):PC:=.seq a b
abbrev Re(o:List PR)(l:Ne):PC:=.region o l
abbrev Dr(d:Ne)(o:List PR)(l:Ne):PC:=.draw d o l
abbrev Sk(l:Ne):PC:=.skip l
abbrev Ex(i:Nat)(l:Ne):PC:=.exit i l
abbrev Co(c:Nat)(a b:PC):PC:=.cond (.s c) a b
abbrev Bl(i:Nat)(a:PC):PC:=.block i a
abbrev Lo(l:Ne)(a:PC):PC:=.loop l a
abbrev Aa(x0 x1:Nat):PR:=⟨Y x0,.mv (.s x1),W⟩
abbrev Ab(x0 x1 x2 x3:Nat):PR:=⟨Y x0,.fad (.s x1) x2,Y (x3,T)⟩
abbrev Ac(x0 x1 x2:Nat):PR:=⟨Y x0,.fad (.s x1) x2,W⟩
abbrev Ad(x0 x1 x2:Nat):PR:=⟨Y x0,.ld (.s x1),Y (x2,T)⟩
abbrev Ae(x0 x1:Nat):PR:=⟨Y x0,.tk x1,W⟩
abbrev Af(x0 x1:Nat):PR:=⟨Y x0,.len (.s x1),W⟩
abbrev Ag(x0 x1:Nat):PR:=⟨Y x0,.ld (.s x1),W⟩
abbrev Ah(x0:Nat)(x1:Int):PR:=⟨Y x0,.mv (.c (.int .i64 x1)),W⟩
abbrev Ai(x0 x1 x2:Nat):PR:=⟨Y x0,.mv (.s x1),Y (x2,T)⟩
abbrev Aj(x0 x1 x2:Nat):PR:=⟨Y x0,.bad x1 x2,W⟩
abbrev Ak(x0 x1 x2 x3:Nat):PR:=⟨Y x0,.bad x1 x2,Y (x3,T)⟩
abbrev Al(x0 x1 x2 x3 x4:Nat):PR:=⟨Y x0,.iad (.s x1) (.s x2) x3,Y (x4,T)⟩
abbrev Am(x0 x1:Nat):PR:=⟨Y x0,.Abd (.s x1),W⟩
abbrev An(x0 x1 x2:Nat):PR:=⟨Y x0,.lda (.s x1) x2,W⟩
abbrev Ao(x0 x1 x2:Nat):PR:=⟨Y x0,.bin (.i) .lss (.s x1) (.s x2),W⟩
abbrev Ap(x0 x1:Nat)(x2:Int):PR:=⟨Y x0,.bin (.i) .add (.s x1) (.c (.int .i64 x2)),W⟩
abbrev Aq(x0 x1 x2 x3:Nat):PR:=⟨Y x0,.fad (.s x1) x2,Y (x3,X)⟩
abbrev Ar(x0 x1 x2 x3:Nat):PR:=⟨Y x0,.iad (.s x1) (.s x2) x3,W⟩
abbrev As(x0 x1 x2 x3:Nat):PR:=⟨Y x0,.app x1 (.s x2) (.s x3),W⟩
abbrev Au(x0 x1 x2:Nat):PR:=⟨Y x0,.ld (.s x1),Y (x2,X)⟩
abbrev Av(x0 x1 x2:Nat):PR:=⟨Y x0,.pick (.s x1) (.c (.bool X)) (.s x2),W⟩
end Go.Sf
namespace Go.Sf.Sc
open Go Go.Sf Go.Proofs.Tryz
instance(l:List d5):Ml (Kk l) AJ l:=⟨QC l⟩
instance(l:List BQ):Ml (QD l) FV l:=⟨T1 l⟩
instance:En d5 AJ:=⟨⟩
instance:En BQ FV:=⟨⟩
instance:Fl AJ 9 C9:=⟨MR⟩
instance:Fl FV 5 JQ:=⟨iu⟩
instance:dN Ba:=⟨λl=>match l with|[.int _ x0,.int _ x1,.int _ x2]=>CN.mk x0 x1 x2|_=>CN.mk 0 0 0,λa b=>⟨inferInstance,qU a b⟩⟩
instance:dN Dk:=⟨λl=>match l with|[.int _ x0,.int _ x1,.int _ x2,.int _ x3]=>C4.mk x0 x1 (gl.mk x2 x3)|_=>C4.mk 0 0 (gl.mk 0 0),λa b=>⟨inferInstance,qV a b⟩⟩
instance:dN D7:=⟨λl=>match l with|[.int _ x0,.int _ x1,.int _ x2,.int _ x3,.int _ x4]=>Test.mk x0 (gl.mk x1 x2) (gl.mk x3 x4)|_=>Test.mk 0 (gl.mk 0 0) (gl.mk 0 0),λa b=>⟨inferInstance,qW a b⟩⟩
abbrev CK(fn:Func)(pl:PC)(rv:List RV):Prop:=D9 prog fn.ntmps (VY prog fn.ntmps) pl (fn.body.getD .skip)=X/\Hb prog fn.results.toList rv=X
variable{f:FuncId}{fn:Func}{c:Code}{pl:PC}{rv:List RV}{r:A9}
theorem Fn{args:Fq}(ck:CK fn pl rv)(h:TV.p0 args → WP (AT prog) pl ⟨Bm rv r,λ_ _=>False,Bm rv r⟩ (Dg 0 args))(hf:prog.funcs[f]? =Y fn:=by rfl)(hb:fn.body=Y c:=by rfl)(hname:fn.name≠ "runtime.NumGoroutine" :=by decide)(hn:v1 args.length fn.ntmps=X:=by rfl)(hp:r.plain=X:=by rfl):AT prog f args r:=by
  have h1:=ck.1;rw[hb]at h1;exact eP (NJ Sc.Tryz_follows) hf hb hname h1 ck.2 (v5 hn) hp (λhw=>(h hw).out)
variable{i:Nat}
theorem FnB{args:Fq}{cs cs':List AS}{us:Fq}(ck:CK fn pl rv)(nb:PC.sB pl=X/\PC.tn i pl=X)(h:TV.p0 args → (∀c∈cs,c.t.WF) → WP (AT prog) pl ⟨Bm rv (.bo cs cs' i us),λ_ _=>False,Bm rv (.bo cs cs' i us)⟩ ((i,.bx cs)::Dg 0 args))(hf:prog.funcs[f]? =Y fn:=by rfl)(hb:fn.body=Y c:=by rfl)(hname:fn.name≠ "runtime.NumGoroutine" :=by decide)(hn:v1 args.length fn.ntmps=X:=by rfl):AT prog f args (.bo cs cs' i us):=by
  have h1:=ck.1;rw[hb]at h1;exact ny (NJ Sc.Tryz_follows) hf hb hname h1 ck.2 (v5 hn) nb.1 nb.2 (λhw hwc=>(h hw hwc).out)
variable{α:Type}{x:Option α}{ts:Fq}{R:α → A9}
theorem Fi(ck:CK fn pl rv)(h:∀r,x=Y r → TV.p0 ts → HR (λr=>Bm rv (R r)) → WP (AT prog) pl ⟨Bm rv (R r),λ_ _=>False,Bm rv (R r)⟩ (Dg 0 ts))(hf:prog.funcs[f]? =Y fn:=by rfl)(hb:fn.body=Y c:=by rfl)(hname:fn.name≠ "runtime.NumGoroutine" :=by decide)(hn:v1 ts.length fn.ntmps=X:=by rfl)(hp:∀r,(R r).plain=X:=by exact λ_=>rfl):Ct prog x f ts R:=
  ⟨λr hr=>Fn ck (λhw=>h r hr hw ⟨⟩) hf hb hname hn (hp r)⟩
variable{us:α → Fq}
theorem aA{cs:List AS}{cs':α → List AS}(ck:CK fn pl rv)(nb:PC.sB pl=X/\PC.tn i pl=X)(h:∀r,x=Y r → TV.p0 ts → (∀c∈cs,c.t.WF) → HR (λr=>Bm rv (.bo cs (cs' r) i (us r))) → WP (AT prog) pl ⟨Bm rv (.bo cs (cs' r) i (us r)),λ_ _=>False,Bm rv (.bo cs (cs' r) i (us r))⟩ ((i,.bx cs)::Dg 0 ts))(hf:prog.funcs[f]? =Y fn:=by rfl)(hb:fn.body=Y c:=by rfl)(hname:fn.name≠ "runtime.NumGoroutine" :=by decide)(hn:v1 ts.length fn.ntmps=X:=by rfl):Ct prog x f ts (λr=> .bo cs (cs' r) i (us r)):=
  ⟨λr hr=>FnB ck nb (λhw hwc=>h r hr hw hwc ⟨⟩) hf hb hname hn⟩
theorem FnA{args:Fq}{cs:List AS}(ck:CK fn pl rv)(nb:PC.sB pl=X)(h:TV.p0 args → (∀c∈cs,c.t.WF) → WP (AT prog) pl ⟨Bm rv r,λ_ _=>False,Bm rv r⟩ ((i,.z5 cs)::Dg 0 args))(hf:prog.funcs[f]? =Y fn:=by rfl)(hb:fn.body=Y c:=by rfl)(hname:fn.name≠ "runtime.NumGoroutine" :=by decide)(hn:v1 args.length fn.ntmps=X:=by rfl)(hp:r.plain=X:=by rfl)(hlo:r.lone=T:=by rfl):AT prog f args (.ag cs i r):=by
  have h1:=ck.1;rw[hb]at h1;exact nx (NJ Sc.Tryz_follows) hf hb hname h1 ck.2 (v5 hn) nb hp hlo (λhw hwc=>(h hw hwc).out)
theorem FiA{cs:List AS}(ck:CK fn pl rv)(nb:PC.sB pl=X)(h:∀r,x=Y r → TV.p0 ts → (∀c∈cs,c.t.WF) → HR (λr=>Bm rv (R r)) → WP (AT prog) pl ⟨Bm rv (R r),λ_ _=>False,Bm rv (R r)⟩ ((i,.z5 cs)::Dg 0 ts))(hf:prog.funcs[f]? =Y fn:=by rfl)(hb:fn.body=Y c:=by rfl)(hname:fn.name≠ "runtime.NumGoroutine" :=by decide)(hn:v1 ts.length fn.ntmps=X:=by rfl)(hp:∀r,(R r).plain=X:=by exact λ_=>rfl)(hlo:∀r,(R r).lone=T:=by exact λ_=>rfl):Ct prog x f ts (λr=> .ag cs i (R r)):=
  ⟨λr hr=>FnA ck nb (λhw hwc=>h r hr hw hwc ⟨⟩) hf hb hname hn (hp r) (hlo r)⟩
theorem FiM{x:Option (Bq×Int)}(ck:CK fn pl rv)(h:∀r,x=Y r → TV.p0 ts → HR (λr=>Bm rv (Pa r)) → WP (AT prog) pl ⟨Bm rv (Pa r),λ_ _=>False,Bm rv (Pa r)⟩ (Dg 0 ts))(hf:prog.funcs[f]? =Y fn:=by rfl)(hb:fn.body=Y c:=by rfl)(hname:fn.name≠ "runtime.NumGoroutine" :=by decide)(hn:v1 ts.length fn.ntmps=X:=by rfl):Ct prog x f ts Pa:=by
  refine ⟨λr hr=>?_⟩;have h0:=h r hr;have h1:=ck.1;rw[hb]at h1;by_cases he:r.2=0
  · have e:Pa r=.mpr r.1 [.int .i64 r.2]:=a6 he
    rw [e]at h0|-;exact n7 (NJ Sc.Tryz_follows) hf hb hname h1 ck.2 (v5 hn) (λhw=>(h0 hw ⟨⟩).out)
  · have e:Pa r=.tp [.undef,.int .i64 r.2]:=ac he
    rw [e]at h0|-;exact eP (NJ Sc.Tryz_follows) hf hb hname h1 ck.2 (v5 hn) rfl (λhw=>(h0 hw ⟨⟩).out)
theorem ACH{cs:List AS}{cs':α → List AS}(ck:CK fn pl rv)(nb:PC.sB pl=X/\PC.tn i pl=X)(h:∀r,x=Y r → TV.p0 ts → (∀c∈cs,c.t.WF) → WP (AT prog) pl ⟨iC rv cs (cs' r) i (us r),λ_ _=>False,iC rv cs (cs' r) i (us r)⟩ ((i,.bx cs)::Dg 0 ts))(hf:prog.funcs[f]? =Y fn:=by rfl)(hb:fn.body=Y c:=by rfl)(hname:fn.name≠ "runtime.NumGoroutine" :=by decide)(hn:v1 ts.length fn.ntmps=X:=by rfl):Ct prog x f ts (λr=> .bo cs (cs' r) i (us r)):=by
  refine ⟨λr hr=>?_⟩;have h1:=ck.1;rw[hb]at h1;exact lu (NJ Sc.Tryz_follows) hf hb hname h1 ck.2 (v5 hn) nb.1 nb.2 (λhw hwc=>(h r hr hw hwc).out)
def shB:Nat->Fq×List (Nat×Nat)
  |0=>([.list 1 [],.list 1 []],[])|1=>([.int .i64 0,.str ⟨#[]⟩,.int .i64 0],[(0,1),(1,1)])|2=>([.str ⟨#[]⟩,.int .i64 0,.int .i64 0,.list 1 []],[])|3=>([.list 1 [],.list 3 []],[])|4=>([.list 1 [],.list 1 []],[(0,1),(1,1)])|5=>([.int .i64 0,.int .i64 0],[(0,1),(1,1)])|6=>([.list 1 [],.list 3 [],.list 1 [],.list 3 [],.list 1 [],.list 1 [],.list 1 [],.list 1 []],[(0,2),(2,2),(4,2),(6,2)])|7=>([.int .i64 0,.int .i64 0,.int .i64 0],[(0,1),(1,1),(2,1)])|8=>([.list 1 [],.list 3 [],.list 1 [],.list 3 [],.list 1 [],.nil,.nil,.bool T,.int .i64 0,.nil,.nil,.nil],[(0,2),(2,2),(4,1),(5,2),(7,1),(8,1)])|9=>([.list 1 [],.list 1 [],.list 1 []],[(0,2),(2,1)])|10=>([.int .i64 0,.list 1 [],.list 1 [],.list 1 [],.list 5 []],[])|11=>([.int .i64 0,.list 1 [],.list 1 [],.list 1 [],.list 5 []],[(0,1),(4,1)])|12=>([.int .i64 0,.list 1 [],.list 1 [],.list 1 [],.list 5 []],[(1,3),(4,1)])|13=>([.list 4 [],.list 7 [],.list 1 [],.list 3 [],.list 1 [],.bool T],[(0,2),(2,3),(5,1)])|14=>([.str ⟨#[]⟩,.list 1 [],.list 3 [],.list 4 [],.int .i64 0,.list 5 [],.list 1 [],.list 3 [],.list 4 [],.int .i64 0,.list 5 [],.list 1 [],.list 1 [],.list 1 [],.list 1 [],.bool T,.int .i64 0,.list 9 [],.list 1 [],.list 1 [],.list 1 [],.list 3 [],.list 4 [],.int .i64 0,.list 5 [],.list 1 [],.list 1 [],.list 1 [],.list 1 [],.list 3 [],.list 1 [],.list 1 [],.list 3 [],.list 1 [],.list 1 [],.list 1 [],.list 1 [],.list 1 []],[])|15=>([.str ⟨#[]⟩,.list 1 [],.list 3 [],.list 4 [],.int .i64 0,.list 5 [],.list 1 [],.list 3 [],.list 4 [],.int .i64 0,.list 5 [],.list 1 [],.list 1 [],.list 1 [],.list 1 [],.bool T,.int .i64 0,.list 9 [],.list 1 [],.list 1 [],.list 1 [],.list 3 [],.list 4 [],.int .i64 0,.list 5 [],.list 1 [],.list 1 [],.list 1 [],.list 1 [],.list 3 [],.list 1 [],.nil,.nil,.nil,.list 1 [],.list 1 [],.list 1 [],.list 1 []],[(0,25),(25,3),(28,3)])|16=>([.list 1 [],.list 3 [],.list 1 [],.list 4 []],[])|17=>([.list 1 [],.list 3 [],.list 1 [],.list 4 []],[(0,3)])|18=>([.list 1 [],.list 3 [],.list 1 [],.list 4 [],.list 1 [],.list 3 [],.list 1 [],.list 1 [],.list 1 []],[(0,4),(4,3),(7,2)])|19=>([.nil,.nil],[])|20=>([.int .i64 0,.list 1 [],.list 1 [],.list 1 []],[(0,1),(1,3)])|21=>([.list 1 [],.list 3 [],.list 1 [],.list 4 []],[(0,3),(3,1)])|22=>([.list 1 [],.list 3 [],.list 1 [],.list 1 [],.list 3 [],.list 1 [],.list 1 [],.list 1 [],.nil,.nil],[(0,3),(3,3),(6,1),(7,1)])|23=>([.list 1 [],.list 3 [],.list 1 [],.list 4 [],.list 1 [],.list 3 [],.list 1 [],.list 4 [],.list 1 [],.list 1 []],[])|24=>([.list 1 [],.list 3 [],.list 1 [],.list 4 [],.list 1 [],.list 3 [],.list 1 [],.list 4 [],.list 1 [],.list 1 []],[(0,4),(4,4),(8,2)])|25=>([.list 1 [],.list 3 [],.list 1 []],[])|26=>([.int .i64 0,.str ⟨#[]⟩,.int .i64 0],[])|27=>([.list 4 [],.list 7 [],.list 1 [],.list 3 [],.list 1 [],.list 3 [],.list 1 [],.list 1 [],.bool T,.int .i64 0,.nil],[(0,2),(2,2),(4,2),(6,2),(8,1),(9,1)])|28=>([.str ⟨#[]⟩,.list 1 [],.list 3 [],.list 4 [],.int .i64 0,.list 5 [],.list 1 [],.list 3 [],.list 4 [],.int .i64 0,.list 5 [],.list 1 [],.list 1 [],.list 1 [],.list 1 [],.bool T,.int .i64 0,.list 9 [],.list 1 [],.list 1 [],.list 1 [],.list 3 [],.list 4 [],.int .i64 0,.list 5 [],.list 1 [],.list 1 [],.list 1 [],.list 1 [],.list 3 [],.list 1 [],.list 1 [],.list 3 [],.list 1 [],.list 1 [],.list 1 [],.list 1 [],.list 1 []],[(0,25),(25,3),(28,3),(31,3),(34,2),(36,2)])|29=>([.list 1 [],.list 3 []],[(0,1)])|30=>([.int .i64 0,.int .i64 0],[(0,1)])|31=>([.int .i64 0,.int .i64 0,.int .i64 0,.int .i64 0],[(2,2)])|32=>([.list 1 [],.list 3 [],.list 4 [],.int .i64 0,.list 5 []],[(0,2),(3,1),(2,1)])|33=>([.list 1 [],.list 1 []],[(0,1)])|34=>([.int .i64 0,.list 9 [],.list 1 [],.list 1 [],.list 1 [],.list 3 [],.list 4 [],.int .i64 0,.list 5 []],[(0,1)])|35=>([.list 1 [],.list 3 []],[(0,1),(1,1)])|36=>([.list 1 [],.list 3 [],.list 1 []],[(0,2),(2,1)])|37=>([.list 1 [],.list 3 [],.list 1 [],.list 1 [],.list 3 [],.list 1 [],.list 1 [],.list 1 [],.list 1 [],.list 1 [],.bool T],[(0,3),(3,3),(6,1),(7,1)])
  |38=>([.list 4 [],.list 1 [],.list 3 [],.list 1 [],.list 1 [],.list 1 []],[(0,1),(1,3),(4,2)])|39=>([.list 4 [],.list 1 [],.list 3 [],.list 1 [],.list 1 [],.list 1 []],[(1,3),(4,2)])|_=>([],[])
def shC:Nat->List AS
  |0=>[⟨X,.list 1 []⟩,⟨X,.list 1 []⟩]|1=>[⟨T,.str ⟨#[]⟩⟩,⟨T,.int .i64 0⟩,⟨T,.bool T⟩,⟨X,.list 4 []⟩]|2=>[⟨T,.str ⟨#[]⟩⟩,⟨T,.int .i64 0⟩,⟨T,.int .i64 0⟩,⟨T,.int .i64 0⟩,⟨T,.int .i64 0⟩,⟨T,.int .i64 0⟩,⟨T,.int .i64 0⟩]|3=>[⟨T,.str ⟨#[]⟩⟩,⟨T,.int .i64 0⟩,⟨T,.int .i64 0⟩,⟨X,.list 1 []⟩]|4=>[⟨T,.int .i64 0⟩,⟨T,.int .i64 0⟩,⟨T,.int .i64 0⟩,⟨T,.int .i64 0⟩,⟨T,.int .i64 0⟩]|5=>[⟨T,.int .i64 0⟩,⟨T,.int .i64 0⟩,⟨T,.int .i64 0⟩,⟨T,.int .i64 0⟩]|6=>[⟨T,.int .i64 0⟩,⟨T,.int .i64 0⟩]|7=>[⟨X,.list 1 []⟩,⟨X,.list 3 []⟩]|8=>[⟨T,.int .i64 0⟩,⟨T,.int .i64 0⟩,⟨T,.int .i64 0⟩]|9=>[⟨X,.list 1 []⟩,⟨X,.list 3 []⟩,⟨X,.list 4 []⟩,⟨T,.int .i64 0⟩,⟨X,.list 5 []⟩]|10=>[⟨T,.int .i64 0⟩,⟨X,.list 9 []⟩,⟨X,.list 1 []⟩,⟨X,.list 1 []⟩,⟨X,.list 1 []⟩,⟨X,.list 3 []⟩,⟨X,.list 4 []⟩,⟨T,.int .i64 0⟩,⟨X,.list 5 []⟩]|11=>[⟨T,.int .i64 0⟩]|12=>[⟨T,.str ⟨#[]⟩⟩,⟨X,.list 1 []⟩,⟨X,.list 3 []⟩,⟨X,.list 4 []⟩,⟨T,.int .i64 0⟩,⟨X,.list 5 []⟩,⟨X,.list 1 []⟩,⟨X,.list 3 []⟩,⟨X,.list 4 []⟩,⟨T,.int .i64 0⟩,⟨X,.list 5 []⟩,⟨X,.list 1 []⟩,⟨X,.list 1 []⟩,⟨X,.list 1 []⟩,⟨X,.list 1 []⟩,⟨T,.bool T⟩,⟨T,.int .i64 0⟩,⟨X,.list 9 []⟩,⟨X,.list 1 []⟩,⟨X,.list 1 []⟩,⟨X,.list 1 []⟩,⟨X,.list 3 []⟩,⟨X,.list 4 []⟩,⟨T,.int .i64 0⟩,⟨X,.list 5 []⟩]|13=>[⟨X,.list 1 []⟩,⟨X,.list 3 []⟩,⟨X,.list 1 []⟩,⟨X,.list 3 []⟩,⟨X,.list 1 []⟩,⟨X,.list 1 []⟩,⟨X,.list 1 []⟩,⟨X,.list 1 []⟩]|14=>[⟨T,.int .i64 0⟩,⟨X,.list 1 []⟩,⟨X,.list 1 []⟩,⟨X,.list 1 []⟩,⟨X,.list 5 []⟩]|15=>[⟨X,.list 1 []⟩,⟨X,.list 1 []⟩,⟨X,.list 1 []⟩]|16=>[⟨X,.list 1 []⟩,⟨X,.list 3 []⟩,⟨X,.list 1 []⟩]|17=>[⟨T,.str ⟨#[]⟩⟩,⟨X,.list 1 []⟩,⟨X,.list 3 []⟩,⟨X,.list 4 []⟩,⟨T,.int .i64 0⟩,⟨X,.list 5 []⟩,⟨X,.list 1 []⟩,⟨X,.list 3 []⟩,⟨X,.list 4 []⟩,⟨T,.int .i64 0⟩,⟨X,.list 5 []⟩,⟨X,.list 1 []⟩,⟨X,.list 1 []⟩,⟨X,.list 1 []⟩,⟨X,.list 1 []⟩,⟨T,.bool T⟩,⟨T,.int .i64 0⟩,⟨X,.list 9 []⟩,⟨X,.list 1 []⟩,⟨X,.list 1 []⟩,⟨X,.list 1 []⟩,⟨X,.list 3 []⟩,⟨X,.list 4 []⟩,⟨T,.int .i64 0⟩,⟨X,.list 5 []⟩,⟨X,.list 1 []⟩,⟨X,.list 1 []⟩,⟨X,.list 1 []⟩,⟨X,.list 1 []⟩,⟨X,.list 3 []⟩,⟨X,.list 1 []⟩,⟨X,.list 1 []⟩,⟨X,.list 3 []⟩,⟨X,.list 1 []⟩,⟨X,.list 1 []⟩,⟨X,.list 1 []⟩,⟨X,.list 1 []⟩,⟨X,.list 1 []⟩]|18=>[⟨T,.str ⟨#[]⟩⟩,⟨X,.list 1 []⟩,⟨X,.list 3 []⟩,⟨X,.list 4 []⟩,⟨T,.int .i64 0⟩,⟨X,.list 5 []⟩,⟨X,.list 1 []⟩,⟨X,.list 3 []⟩,⟨X,.list 4 []⟩,⟨T,.int .i64 0⟩,⟨X,.list 5 []⟩,⟨X,.list 1 []⟩,⟨X,.list 1 []⟩,⟨X,.list 1 []⟩,⟨X,.list 1 []⟩,⟨T,.bool T⟩,⟨T,.int .i64 0⟩,⟨X,.list 9 []⟩,⟨X,.list 1 []⟩,⟨X,.list 1 []⟩,⟨X,.list 1 []⟩,⟨X,.list 3 []⟩,⟨X,.list 4 []⟩,⟨T,.int .i64 0⟩,⟨X,.list 5 []⟩,⟨X,.list 1 []⟩,⟨X,.list 1 []⟩,⟨X,.list 1 []⟩,⟨X,.list 1 []⟩,⟨X,.list 3 []⟩,⟨X,.list 1 []⟩,⟨X,.list 1 []⟩,⟨X,.list 3 []⟩,⟨X,.xn []⟩,⟨X,.list 1 []⟩,⟨X,.list 1 []⟩,⟨X,.list 1 []⟩,⟨X,.list 1 []⟩]|19=>[⟨T,.int .i64 0⟩,⟨X,.list 1 []⟩,⟨X,.list 1 []⟩,⟨X,.list 1 []⟩]|20=>[⟨X,.list 1 []⟩,⟨X,.list 3 []⟩,⟨X,.list 1 []⟩,⟨X,.list 4 []⟩,⟨X,.list 1 []⟩,⟨X,.list 3 []⟩,⟨X,.list 1 []⟩,⟨X,.list 1 []⟩,⟨X,.list 1 []⟩]|21=>[⟨X,.list 1 []⟩,⟨X,.list 3 []⟩,⟨X,.list 1 []⟩,⟨X,.list 4 []⟩,⟨X,.list 1 []⟩,⟨X,.list 3 []⟩,⟨X,.list 1 []⟩,⟨X,.list 4 []⟩,⟨X,.list 1 []⟩,⟨X,.list 1 []⟩]|22=>[⟨X,.list 1 []⟩,⟨X,.list 3 []⟩,⟨X,.xn []⟩]|23=>[⟨T,.int .i64 0⟩,⟨T,.str ⟨#[]⟩⟩,⟨T,.int .i64 0⟩]|24=>[⟨X,.xl 1 []⟩,⟨X,.xl 3 []⟩]|25=>[⟨X,.xl 1 []⟩,⟨X,.xl 1 []⟩]|26=>[⟨X,.list 4 []⟩,⟨X,.list 7 []⟩]|27=>[⟨X,.list 4 []⟩,⟨X,.list 1 []⟩,⟨X,.list 3 []⟩,⟨X,.list 1 []⟩,⟨X,.list 1 []⟩,⟨X,.list 1 []⟩]
  |_=>[]
def Nr:jS:=⟨shB,shC⟩
def bT:Nat:=0x8196a1a730a89f099a3060614dd30b01110c7f30466c37cc03000104037608c972050b5a0e62735a0161c9758182049077a801c022420431045b007f48b3840013127d329783019178060b59905a00019e0e0444054b014c000082757003363200000908880e37811944000062030000064236365959010200000d0c0000000060036a3205015e30810537850b0a8d424330020126440147034b013600000000000001420442000030050242000260048100080e000000007132060500000944377c5e0100008181019300000000818b378a0000000000005fff5c0043010000000003030e360000000005440000000000000000024b000000000000810a610b5b423141016c000000000000080701305f746b6501ff050b010a41380504000000000000855d111103380000000000000000010e000000000344ff8501003c55314301819393030231420332000000000000010500000000000000000000000000000000000000000000000000000000000000000000000000000000000000000000000000000000000000000041ff810244000000000000004203010101000000000000000000000000000000000000000000000000000000000000000000000000000000000000000000000000000000000000000000000000000000000000000000000000000000000000000000000000000000000000000000000000
theorem nz{P:Prop}(p:P:=by
  intros
  conv=>
    arg 2
    conv=>
      enter [2]
      whnf
    conv=>
      enter [3]
      whnf
    simp only[PC.of,dC,qS,qR,xW,tj,dLd,dSt,dIx,ti,xV,dUn,Ty,cm,dw,dGd,lf,oP,tP,a0,a1,TS,uB,xN,oO,cV,Nr,shB,shC,Nat.reduceDiv,Nat.reduceMod,Nat.reduceMul,Nat.reduceEqDiff,↓reduceIte,List.nil_append,List.cons_append,Bool.or_true,Bool.true_or,Bool.or_false,Bool.false_or,Bool.or_self]
  exact au):P:=p
def OF:List ResultVar->List RV
  |.tmp s::r=>.tmp s::OF r|_=>[]
theorem Fk(fn:Func)(s:Nat)(ζ:List AE)(rv:List RV)(h:∀r,x=Y r → TV.p0 ts → HR (λr=>Bm rv (R r)) → WP (AT prog) (PC.of Nr fn.body (xq bT s) ζ) ⟨Bm rv (R r),λ_ _=>False,Bm rv (R r)⟩ (Dg 0 ts))(hb:fn.body=Y c:=by rfl)(ck:CK fn (PC.of Nr fn.body (xq bT s) ζ) rv:=by decide +kernel)(hf:prog.funcs[f]? =Y fn:=by rfl)(hname:fn.name≠ "runtime.NumGoroutine" :=by decide)(hn:v1 ts.length fn.ntmps=X:=by rfl)(hp:∀r,(R r).plain=X:=by exact λ_=>rfl):Ct prog x f ts R:=
  Fi ck h hf hb hname hn hp
theorem Fj(fn:Func)(s:Nat)(ζ:List AE)(h:∀{r},x=Y r → ∀{_:TV.p0 ts}{_:HR λr=>Bm (OF fn.results.toList) (R r)},WP (AT prog) (PC.of Nr fn.body (xq bT s) ζ) ⟨Bm (OF fn.results.toList) (R r),λ_ _=>False,Bm (OF fn.results.toList) (R r)⟩ (Dg 0 ts))(hb:fn.body=Y c:=by rfl)(ck:CK fn (PC.of Nr fn.body (xq bT s) ζ) (OF fn.results.toList):=by decide +kernel)(hf:prog.funcs[f]? =Y fn:=by rfl)(hname:fn.name≠ "runtime.NumGoroutine" :=by decide)(hn:v1 ts.length fn.ntmps=X:=by rfl)(hp:∀r,(R r).plain=X:=by exact λ_=>rfl):Ct prog x f ts R:=
  Fk fn s ζ _ (λr e a b=>@h r e a b) hb ck hf hname hn hp
variable{y:Option α}
theorem Fe{R:α->A9}(fn:Func)(s:Nat)(ζ:List AE)(E:x=y)(h:∀r,y=Y r->TV.p0 ts->HR (λr=>Bm (OF fn.results.toList) (R r))->WP (AT prog) (PC.of Nr fn.body (xq bT s) ζ) ⟨Bm (OF fn.results.toList) (R r),λ_ _=>False,Bm (OF fn.results.toList) (R r)⟩ (Dg 0 ts):=by
  intro r h _ _;exact nz)(hb:fn.body=Y c:=by rfl)(ck:CK fn (PC.of Nr fn.body (xq bT s) ζ) (OF fn.results.toList):=by decide +kernel)(hf:prog.funcs[f]? =Y fn:=by rfl)(hname:fn.name≠ "runtime.NumGoroutine" :=by decide)(hn:v1 ts.length fn.ntmps=X:=by rfl)(hp:∀r,(R r).plain=X:=by exact λ_=>rfl):Ct prog x f ts R:=
  Fk fn s ζ _ (λr e a b=>h r (E.symm.trans e) a b) hb ck hf hname hn hp
variable{H1:Prop}
theorem B8{R:α->A9}(fn:Func)(s:Nat)(ζ:List AE)(E:x=y)(i1:H1)(h:H1->∀r,y=Y r->TV.p0 ts->HR (λr=>Bm (OF fn.results.toList) (R r))->WP (AT prog) (PC.of Nr fn.body (xq bT s) ζ) ⟨Bm (OF fn.results.toList) (R r),λ_ _=>False,Bm (OF fn.results.toList) (R r)⟩ (Dg 0 ts):=by
  intro _ r h _ _;exact nz)(hb:fn.body=Y c:=by rfl)(ck:CK fn (PC.of Nr fn.body (xq bT s) ζ) (OF fn.results.toList):=by decide +kernel)(hf:prog.funcs[f]? =Y fn:=by rfl)(hname:fn.name≠ "runtime.NumGoroutine" :=by decide)(hn:v1 ts.length fn.ntmps=X:=by rfl)(hp:∀r,(R r).plain=X:=by exact λ_=>rfl):Ct prog x f ts R:=
  Fk fn s ζ _ (λr e a b=>h i1 r (E.symm.trans e) a b) hb ck hf hname hn hp
variable{H2:Prop}
theorem JK{R:α->A9}(fn:Func)(s:Nat)(ζ:List AE)(E:x=y)(i1:H1)(i2:H2)(h:H1->H2->∀r,y=Y r->TV.p0 ts->HR (λr=>Bm (OF fn.results.toList) (R r))->WP (AT prog) (PC.of Nr fn.body (xq bT s) ζ) ⟨Bm (OF fn.results.toList) (R r),λ_ _=>False,Bm (OF fn.results.toList) (R r)⟩ (Dg 0 ts):=by
  intro _ _ r h _ _;exact nz)(hb:fn.body=Y c:=by rfl)(ck:CK fn (PC.of Nr fn.body (xq bT s) ζ) (OF fn.results.toList):=by decide +kernel)(hf:prog.funcs[f]? =Y fn:=by rfl)(hname:fn.name≠ "runtime.NumGoroutine" :=by decide)(hn:v1 ts.length fn.ntmps=X:=by rfl)(hp:∀r,(R r).plain=X:=by exact λ_=>rfl):Ct prog x f ts R:=
  Fk fn s ζ _ (λr e a b=>h i1 i2 r (E.symm.trans e) a b) hb ck hf hname hn hp
theorem nL{H3:Prop}{R:α->A9}(fn:Func)(s:Nat)(ζ:List AE)(E:x=y)(i1:H1)(i2:H2)(i3:H3)(h:H1->H2->H3->∀r,y=Y r->TV.p0 ts->HR (λr=>Bm (OF fn.results.toList) (R r))->WP (AT prog) (PC.of Nr fn.body (xq bT s) ζ) ⟨Bm (OF fn.results.toList) (R r),λ_ _=>False,Bm (OF fn.results.toList) (R r)⟩ (Dg 0 ts):=by
  intro _ _ _ r h _ _;exact nz)(hb:fn.body=Y c:=by rfl)(ck:CK fn (PC.of Nr fn.body (xq bT s) ζ) (OF fn.results.toList):=by decide +kernel)(hf:prog.funcs[f]? =Y fn:=by rfl)(hname:fn.name≠ "runtime.NumGoroutine" :=by decide)(hn:v1 ts.length fn.ntmps=X:=by rfl)(hp:∀r,(R r).plain=X:=by exact λ_=>rfl):Ct prog x f ts R:=
  Fk fn s ζ _ (λr e a b=>h i1 i2 i3 r (E.symm.trans e) a b) hb ck hf hname hn hp
def xx{σ:Type}(c:Nat)(f:σ->List (Nat×EV)):Int->σ->List (Nat×EV):=λi s=>(c,.tv (eI i))::f s
theorem BI(n c q i:Nat){σ:Type}(f:σ->List (Nat×EV)):HA n c q i (xx c f):=⟨⟩
theorem BM(n c q i:Nat):HA n c q i (xx c λ_:Unit=>[]):=⟨⟩
abbrev CT{α:Type}(x:Option α)(f:outParam FuncId)(ts:outParam Fq)(R:outParam (α->A9)):Prop:=Ct prog x f ts R
abbrev rB:Bool->A9:=λr=>.sh (eB r)
abbrev rI:Int->A9:=λr=>.sh (eI r)
abbrev rO{α:Type}(e:α->TV):α->A9:=λr=>.own (e r)
abbrev rS{α:Type}(e:α->TV):α->A9:=λr=>.sh (e r)
abbrev rT{α β:Type}(e:α->TV)(f:β->TV):α×β->A9:=λr=>.tp [e r.1,f r.2]
abbrev hO{α:Type}(k:Nat)(e:α->TV):α->List (Nat×EV):=λs=>[(k,.ow (e s))]
abbrev hT{α:Type}(k:Nat)(e:α->TV):α->List (Nat×EV):=λs=>[(k,.tv (e s))]
abbrev hX{α:Type}(k n:Nat)(e:α->TV):List α->List (Nat×EV):=λs=>[(k,.xo n (List.map e s))]
end Go.Sf.Sc
