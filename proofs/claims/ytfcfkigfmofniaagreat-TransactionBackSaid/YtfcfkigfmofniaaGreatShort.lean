/- Shorter names for the shapes of rows, and how structs are read. -/
import Derived.Test.YtfcfkigfmofniaaGreatSfAuto
import Derived.Test.YtfcfkigfmofniaaGreatSfDec
import Derived.Test.YtfcfkigfmofniaaGreatFns
set_option linter.all false
set_option maxRecDepth 100000
open Option renaming some->Y
open Bool renaming true->X,false->T
open Nat renaming ble->u!,le_of_ble_eq_true->u?
namespace Go.Sf
abbrev Rq(o:List PR)(l:QQ)(b:PC):PC:=.seq (.region o l) b
abbrev Sq(a b:PC):PC:=.seq a b
abbrev Dr(d:QQ)(o:List PR)(l:QQ):PC:=.draw d o l
abbrev Aa(x0 x1:Nat):PR:=⟨Y x0,.Aaz (.s x1),none⟩
abbrev Ab(x0 x1 x2:Nat):PR:=⟨Y x0,.lda (.s x1) x2,none⟩
abbrev Ac(x0 x1 x2:Nat):PR:=⟨Y x0,.zj (.s x1) x2,none⟩
end Go.Sf
namespace Go.Sf.Sc
open Go Go.Sf Go.Proofs.Tryz
instance(l:List d5):Ml (JA l) AI l:=⟨Lb l⟩
instance(l:List A1):Ml (Oa l) EO l:=⟨SQ l⟩
instance:En d5 AI:=⟨⟩
instance:En A1 EO:=⟨⟩
instance:Fl AI 9 Ey:=⟨Q5⟩
instance:Fl EO 5 Hr:=⟨cF⟩
instance:gS Bu:=⟨λl=>match l with|[.int _ x0,.int _ x1,.int _ x2]=>Bo.mk x0 x1 x2|_=>Bo.mk 0 0 0,λa b=>⟨inferInstance,ke a b⟩⟩
abbrev CK(fn:Func)(pl:PC)(rv:List RV):Prop:=DG prog fn.ntmps (UO prog fn.ntmps) pl (fn.body.getD .skip)=X/\F9 prog fn.results.toList rv=X
variable{f:FuncId}{fn:Func}{c:Code}{pl:PC}{rv:List RV}{r:Al}
theorem Fn{args:Fq}(ck:CK fn pl rv)(h:TV.tl args → WP (AX prog) pl ⟨BE rv r,λ_ _=>False,BE rv r⟩ (Cx 0 args))(hf:prog.funcs[f]? =Y fn:=by rfl)(hb:fn.body=Y c:=by rfl)(hname:fn.name≠ "runtime.NumGoroutine" :=by decide)(hn:u! args.length fn.ntmps=X:=by rfl)(hp:r.plain=X:=by rfl):AX prog f args r:=by
  have h1:=ck.1;rw[hb]at h1;exact aF (La Sc.Tryz_follows) hf hb hname h1 ck.2 (u? hn) hp (λhw=>(h hw).out)
variable{i:Nat}
theorem xw{args:Fq}{cs cs':List AR}{us:Fq}(ck:CK fn pl rv)(nb:PC.yh pl=X/\PC.yj i pl=X)(h:TV.tl args → (∀c∈cs,c.t.WF) → WP (AX prog) pl ⟨BE rv (.bo cs cs' i us),λ_ _=>False,BE rv (.bo cs cs' i us)⟩ ((i,.bx cs)::Cx 0 args))(hf:prog.funcs[f]? =Y fn:=by rfl)(hb:fn.body=Y c:=by rfl)(hname:fn.name≠ "runtime.NumGoroutine" :=by decide)(hn:u! args.length fn.ntmps=X:=by rfl):AX prog f args (.bo cs cs' i us):=by
  have h1:=ck.1;rw[hb]at h1;exact iE (La Sc.Tryz_follows) hf hb hname h1 ck.2 (u? hn) nb.1 nb.2 (λhw hwc=>(h hw hwc).out)
variable{α:Type}{x:Option α}{ts:Fq}{R:α → Al}
theorem Fi(ck:CK fn pl rv)(h:∀r,x=Y r → TV.tl ts → HR (λr=>BE rv (R r)) → WP (AX prog) pl ⟨BE rv (R r),λ_ _=>False,BE rv (R r)⟩ (Cx 0 ts))(hf:prog.funcs[f]? =Y fn:=by rfl)(hb:fn.body=Y c:=by rfl)(hname:fn.name≠ "runtime.NumGoroutine" :=by decide)(hn:u! ts.length fn.ntmps=X:=by rfl)(hp:∀r,(R r).plain=X:=by exact λ_=>rfl):Ct prog x f ts R:=
  ⟨λr hr=>Fn ck (λhw=>h r hr hw ⟨⟩) hf hb hname hn (hp r)⟩
variable{us:α → Fq}
theorem nP{cs:List AR}{cs':α → List AR}(ck:CK fn pl rv)(nb:PC.yh pl=X/\PC.yj i pl=X)(h:∀r,x=Y r → TV.tl ts → (∀c∈cs,c.t.WF) → HR (λr=>BE rv (.bo cs (cs' r) i (us r))) → WP (AX prog) pl ⟨BE rv (.bo cs (cs' r) i (us r)),λ_ _=>False,BE rv (.bo cs (cs' r) i (us r))⟩ ((i,.bx cs)::Cx 0 ts))(hf:prog.funcs[f]? =Y fn:=by rfl)(hb:fn.body=Y c:=by rfl)(hname:fn.name≠ "runtime.NumGoroutine" :=by decide)(hn:u! ts.length fn.ntmps=X:=by rfl):Ct prog x f ts (λr=> .bo cs (cs' r) i (us r)):=
  ⟨λr hr=>xw ck nb (λhw hwc=>h r hr hw hwc ⟨⟩) hf hb hname hn⟩
theorem xu{args:Fq}{cs:List AR}(ck:CK fn pl rv)(nb:PC.yh pl=X)(h:TV.tl args → (∀c∈cs,c.t.WF) → WP (AX prog) pl ⟨BE rv r,λ_ _=>False,BE rv r⟩ ((i,.yy cs)::Cx 0 args))(hf:prog.funcs[f]? =Y fn:=by rfl)(hb:fn.body=Y c:=by rfl)(hname:fn.name≠ "runtime.NumGoroutine" :=by decide)(hn:u! args.length fn.ntmps=X:=by rfl)(hp:r.plain=X:=by rfl)(hlo:r.lone=T:=by rfl):AX prog f args (.ag cs i r):=by
  have h1:=ck.1;rw[hb]at h1;exact iD (La Sc.Tryz_follows) hf hb hname h1 ck.2 (u? hn) nb hp hlo (λhw hwc=>(h hw hwc).out)
theorem wt{cs:List AR}(ck:CK fn pl rv)(nb:PC.yh pl=X)(h:∀r,x=Y r → TV.tl ts → (∀c∈cs,c.t.WF) → HR (λr=>BE rv (R r)) → WP (AX prog) pl ⟨BE rv (R r),λ_ _=>False,BE rv (R r)⟩ ((i,.yy cs)::Cx 0 ts))(hf:prog.funcs[f]? =Y fn:=by rfl)(hb:fn.body=Y c:=by rfl)(hname:fn.name≠ "runtime.NumGoroutine" :=by decide)(hn:u! ts.length fn.ntmps=X:=by rfl)(hp:∀r,(R r).plain=X:=by exact λ_=>rfl)(hlo:∀r,(R r).lone=T:=by exact λ_=>rfl):Ct prog x f ts (λr=> .ag cs i (R r)):=
  ⟨λr hr=>xu ck nb (λhw hwc=>h r hr hw hwc ⟨⟩) hf hb hname hn (hp r) (hlo r)⟩
theorem xt{x:Option (BM×Int)}(ck:CK fn pl rv)(h:∀r,x=Y r → TV.tl ts → HR (λr=>BE rv (Nl r)) → WP (AX prog) pl ⟨BE rv (Nl r),λ_ _=>False,BE rv (Nl r)⟩ (Cx 0 ts))(hf:prog.funcs[f]? =Y fn:=by rfl)(hb:fn.body=Y c:=by rfl)(hname:fn.name≠ "runtime.NumGoroutine" :=by decide)(hn:u! ts.length fn.ntmps=X:=by rfl):Ct prog x f ts Nl:=by
  refine ⟨λr hr=>?_⟩;have h0:=h r hr;have h1:=ck.1;rw[hb]at h1;by_cases he:r.2=0
  · have e:Nl r=.mpr r.1 [.int .i64 r.2]:=ae he
    rw [e]at h0|-;exact iF (La Sc.Tryz_follows) hf hb hname h1 ck.2 (u? hn) (λhw=>(h0 hw ⟨⟩).out)
  · have e:Nl r=.tp [.undef,.int .i64 r.2]:=az he
    rw [e]at h0|-;exact aF (La Sc.Tryz_follows) hf hb hname h1 ck.2 (u? hn) rfl (λhw=>(h0 hw ⟨⟩).out)
theorem xF{cs:List AR}{cs':α → List AR}(ck:CK fn pl rv)(nb:PC.yh pl=X/\PC.yj i pl=X)(h:∀r,x=Y r → TV.tl ts → (∀c∈cs,c.t.WF) → WP (AX prog) pl ⟨bV rv cs (cs' r) i (us r),λ_ _=>False,bV rv cs (cs' r) i (us r)⟩ ((i,.bx cs)::Cx 0 ts))(hf:prog.funcs[f]? =Y fn:=by rfl)(hb:fn.body=Y c:=by rfl)(hname:fn.name≠ "runtime.NumGoroutine" :=by decide)(hn:u! ts.length fn.ntmps=X:=by rfl):Ct prog x f ts (λr=> .bo cs (cs' r) i (us r)):=by
  refine ⟨λr hr=>?_⟩;have h1:=ck.1;rw[hb]at h1;exact eu (La Sc.Tryz_follows) hf hb hname h1 ck.2 (u? hn) nb.1 nb.2 (λhw hwc=>(h r hr hw hwc).out)
def w9:Nat->Fq×List (Nat×Nat)
  |0=>([.int .i64 0,.str ⟨#[]⟩,.int .i64 0],[(0,1),(1,1)])|1=>([.str ⟨#[]⟩,.int .i64 0,.int .i64 0,.list 1 []],[])|2=>([.list 1 [],.list 3 []],[])|3=>([.list 1 [],.list 1 []],[])|4=>([.list 1 [],.list 1 []],[(0,1),(1,1)])|5=>([.int .i64 0,.int .i64 0],[(0,1),(1,1)])|6=>([.list 1 [],.list 3 [],.list 1 [],.list 3 [],.list 1 [],.list 1 [],.list 1 [],.list 1 []],[(0,2),(2,2),(4,2),(6,2)])|7=>([.int .i64 0,.int .i64 0,.int .i64 0],[(0,1),(1,1),(2,1)])|8=>([.list 1 [],.list 3 [],.list 1 [],.list 3 [],.list 1 [],.list 1 [],.list 1 [],.bool T,.int .i64 0,.nil,.nil,.nil],[(0,2),(2,2),(4,1),(5,2),(7,1),(8,1)])|9=>([.list 1 [],.list 1 [],.list 1 []],[(0,2),(2,1)])|10=>([.int .i64 0,.list 1 [],.list 1 [],.list 1 [],.list 5 []],[])|11=>([.int .i64 0,.list 1 [],.list 1 [],.list 1 [],.list 5 []],[(0,1),(4,1)])|12=>([.int .i64 0,.list 1 [],.list 1 [],.list 1 [],.list 5 []],[(1,3),(4,1)])|13=>([.list 4 [],.list 7 [],.list 1 [],.list 3 [],.list 1 [],.bool T],[(0,2),(2,3),(5,1)])|14=>([.str ⟨#[]⟩,.list 1 [],.list 3 [],.list 4 [],.int .i64 0,.list 5 [],.list 1 [],.list 3 [],.list 4 [],.int .i64 0,.list 5 [],.list 1 [],.list 1 [],.list 1 [],.list 1 [],.bool T,.int .i64 0,.list 9 [],.list 1 [],.list 1 [],.list 1 [],.list 3 [],.list 4 [],.int .i64 0,.list 5 [],.list 1 [],.list 1 [],.list 1 [],.list 1 [],.list 3 [],.list 1 [],.list 1 [],.list 3 [],.list 1 [],.list 1 [],.list 1 [],.list 1 [],.list 1 []],[])|15=>([.str ⟨#[]⟩,.list 1 [],.list 3 [],.list 4 [],.int .i64 0,.list 5 [],.list 1 [],.list 3 [],.list 4 [],.int .i64 0,.list 5 [],.list 1 [],.list 1 [],.list 1 [],.list 1 [],.bool T,.int .i64 0,.list 9 [],.list 1 [],.list 1 [],.list 1 [],.list 3 [],.list 4 [],.int .i64 0,.list 5 [],.list 1 [],.list 1 [],.list 1 [],.list 1 [],.list 3 [],.list 1 [],.nil,.nil,.nil,.list 1 [],.list 1 [],.list 1 [],.list 1 []],[(0,25),(25,3),(28,3)])|16=>([.list 1 [],.list 3 []],[(0,1),(1,1)])|17=>([.list 1 [],.list 3 [],.nil],[(0,2)])|18=>([.int .i64 0,.list 1 [],.list 1 [],.list 1 []],[(0,1),(1,3)])|19=>([.list 1 [],.list 3 [],.list 1 [],.list 4 [],.list 1 []],[])|20=>([.list 1 [],.list 3 [],.list 1 []],[])|21=>([.list 1 [],.list 3 [],.list 1 [],.list 4 []],[])|22=>([.list 1 [],.list 3 [],.list 1 [],.list 4 [],.list 1 []],[(0,4),(4,1)])|23=>([.list 1 [],.list 3 [],.list 1 [],.list 4 []],[(0,3)])|24=>([.list 1 [],.list 3 [],.list 1 [],.list 4 [],.list 1 []],[(0,4)])|25=>([.list 1 [],.list 3 []],[(0,1)])|26=>([.list 1 [],.list 3 [],.list 4 [],.int .i64 0,.list 5 []],[(0,2)])|27=>([.int .i64 0,.list 9 [],.list 1 [],.list 1 [],.list 1 [],.list 3 [],.list 4 [],.int .i64 0,.list 5 []],[(0,1)])|28=>([.int .i64 0,.int .i64 0,.list 1 [],.list 1 [],.list 1 []],[(0,1)])|29=>([.int .u8 0,.int .u8 0],[])|30=>([.str ⟨#[]⟩,.int .i64 0,.bool T,.list 4 []],[(0,1),(1,1),(2,1)])|31=>([.str ⟨#[]⟩,.int .i64 0,.int .i64 0,.list 1 []],[(0,1),(1,1),(2,1)])|32=>([.str ⟨#[]⟩,.int .i64 0,.int .i64 0,.list 1 []],[(0,1),(2,1),(3,1)])|33=>([.str ⟨#[]⟩,.int .i64 0,.int .i64 0,.int .i64 0,.int .i64 0,.int .i64 0,.int .i64 0],[(0,1),(1,1),(2,1),(4,1),(6,1)])|34=>([.int .i64 0,.str ⟨#[]⟩,.int .i64 0],[])|35=>([.int .i64 0,.int .i64 0],[(0,1)])|36=>([.int .i64 0,.int .i64 0,.int .i64 0,.int .i64 0,.int .i64 0],[(0,1),(1,2),(3,2)])|37=>([.int .i64 0,.int .i64 0,.int .i64 0,.int .i64 0],[(0,1),(1,1),(2,2)])|38=>([.list 1 [],.list 3 [],.list 4 [],.int .i64 0,.list 5 []],[(0,2),(3,1)])|39=>([.int .i64 0,.list 9 [],.list 1 [],.list 1 [],.list 1 [],.list 3 [],.list 4 [],.int .i64 0,.list 5 []],[(0,1),(2,2),(4,5),(1,1)])|40=>([.int .i64 0,.list 9 [],.list 1 [],.list 1 [],.list 1 [],.list 3 [],.list 4 [],.int .i64 0,.list 5 []],[(0,1),(1,1)])|41=>([.str ⟨#[]⟩,.list 1 [],.list 3 [],.list 4 [],.int .i64 0,.list 5 [],.list 1 [],.list 3 [],.list 4 [],.int .i64 0,.list 5 [],.list 1 [],.list 1 [],.list 1 [],.list 1 [],.bool T,.int .i64 0,.list 9 [],.list 1 [],.list 1 [],.list 1 [],.list 3 [],.list 4 [],.int .i64 0,.list 5 []],[(0,1),(1,5),(6,5),(11,2),(13,2),(15,1),(16,9)])
  |42=>([.list 1 [],.list 3 [],.list 4 [],.int .i64 0,.list 5 []],[(3,1)])|43=>([.list 2 [],.list 3 []],[(0,1),(1,1)])|44=>([.list 4 [],.list 7 [],.list 1 [],.list 3 [],.list 1 [],.list 3 [],.list 1 [],.list 1 [],.bool T,.int .i64 0,.nil],[(0,2),(2,2),(4,2),(6,2),(8,1),(9,1)])|45=>([.str ⟨#[]⟩,.list 1 [],.list 3 [],.list 4 [],.int .i64 0,.list 5 [],.list 1 [],.list 3 [],.list 4 [],.int .i64 0,.list 5 [],.list 1 [],.list 1 [],.list 1 [],.list 1 [],.bool T,.int .i64 0,.list 9 [],.list 1 [],.list 1 [],.list 1 [],.list 3 [],.list 4 [],.int .i64 0,.list 5 [],.list 1 [],.list 1 [],.list 1 [],.list 1 [],.list 3 [],.list 1 [],.list 1 [],.list 3 [],.list 1 [],.list 1 [],.list 1 [],.list 1 [],.list 1 []],[(0,25),(25,3),(28,3),(31,3),(34,2),(36,2)])|_=>([],[])
def xA:Nat->List AR
  |0=>[⟨T,.str ⟨#[]⟩⟩,⟨T,.int .i64 0⟩,⟨T,.bool T⟩,⟨X,.list 4 []⟩]|1=>[⟨T,.str ⟨#[]⟩⟩,⟨T,.int .i64 0⟩,⟨T,.int .i64 0⟩,⟨T,.int .i64 0⟩,⟨T,.int .i64 0⟩,⟨T,.int .i64 0⟩,⟨T,.int .i64 0⟩]|2=>[⟨T,.str ⟨#[]⟩⟩,⟨T,.int .i64 0⟩,⟨T,.int .i64 0⟩,⟨X,.list 1 []⟩]|3=>[⟨T,.int .i64 0⟩,⟨T,.int .i64 0⟩,⟨T,.int .i64 0⟩]|4=>[⟨T,.int .i64 0⟩,⟨T,.int .i64 0⟩,⟨T,.int .i64 0⟩,⟨T,.int .i64 0⟩,⟨T,.int .i64 0⟩]|5=>[⟨T,.int .i64 0⟩,⟨T,.int .i64 0⟩,⟨T,.int .i64 0⟩,⟨T,.int .i64 0⟩]|6=>[⟨T,.int .i64 0⟩,⟨T,.int .i64 0⟩]|7=>[⟨X,.list 1 []⟩,⟨X,.list 3 []⟩]|8=>[⟨X,.list 1 []⟩,⟨X,.list 1 []⟩]|9=>[⟨X,.list 1 []⟩,⟨X,.list 3 []⟩,⟨X,.list 4 []⟩,⟨T,.int .i64 0⟩,⟨X,.list 5 []⟩]|10=>[⟨T,.int .i64 0⟩,⟨X,.list 9 []⟩,⟨X,.list 1 []⟩,⟨X,.list 1 []⟩,⟨X,.list 1 []⟩,⟨X,.list 3 []⟩,⟨X,.list 4 []⟩,⟨T,.int .i64 0⟩,⟨X,.list 5 []⟩]|11=>[⟨T,.int .i64 0⟩]|12=>[⟨T,.str ⟨#[]⟩⟩,⟨X,.list 1 []⟩,⟨X,.list 3 []⟩,⟨X,.list 4 []⟩,⟨T,.int .i64 0⟩,⟨X,.list 5 []⟩,⟨X,.list 1 []⟩,⟨X,.list 3 []⟩,⟨X,.list 4 []⟩,⟨T,.int .i64 0⟩,⟨X,.list 5 []⟩,⟨X,.list 1 []⟩,⟨X,.list 1 []⟩,⟨X,.list 1 []⟩,⟨X,.list 1 []⟩,⟨T,.bool T⟩,⟨T,.int .i64 0⟩,⟨X,.list 9 []⟩,⟨X,.list 1 []⟩,⟨X,.list 1 []⟩,⟨X,.list 1 []⟩,⟨X,.list 3 []⟩,⟨X,.list 4 []⟩,⟨T,.int .i64 0⟩,⟨X,.list 5 []⟩]|13=>[⟨X,.list 1 []⟩,⟨X,.list 3 []⟩,⟨X,.list 1 []⟩,⟨X,.list 3 []⟩,⟨X,.list 1 []⟩,⟨X,.list 1 []⟩,⟨X,.list 1 []⟩,⟨X,.list 1 []⟩]|14=>[⟨T,.int .i64 0⟩,⟨X,.list 1 []⟩,⟨X,.list 1 []⟩,⟨X,.list 1 []⟩,⟨X,.list 5 []⟩]|15=>[⟨X,.list 1 []⟩,⟨X,.list 1 []⟩,⟨X,.list 1 []⟩]|16=>[⟨X,.list 1 []⟩,⟨X,.list 3 []⟩,⟨X,.list 1 []⟩]|17=>[⟨T,.str ⟨#[]⟩⟩,⟨X,.list 1 []⟩,⟨X,.list 3 []⟩,⟨X,.list 4 []⟩,⟨T,.int .i64 0⟩,⟨X,.list 5 []⟩,⟨X,.list 1 []⟩,⟨X,.list 3 []⟩,⟨X,.list 4 []⟩,⟨T,.int .i64 0⟩,⟨X,.list 5 []⟩,⟨X,.list 1 []⟩,⟨X,.list 1 []⟩,⟨X,.list 1 []⟩,⟨X,.list 1 []⟩,⟨T,.bool T⟩,⟨T,.int .i64 0⟩,⟨X,.list 9 []⟩,⟨X,.list 1 []⟩,⟨X,.list 1 []⟩,⟨X,.list 1 []⟩,⟨X,.list 3 []⟩,⟨X,.list 4 []⟩,⟨T,.int .i64 0⟩,⟨X,.list 5 []⟩,⟨X,.list 1 []⟩,⟨X,.list 1 []⟩,⟨X,.list 1 []⟩,⟨X,.list 1 []⟩,⟨X,.list 3 []⟩,⟨X,.list 1 []⟩,⟨X,.list 1 []⟩,⟨X,.list 3 []⟩,⟨X,.list 1 []⟩,⟨X,.list 1 []⟩,⟨X,.list 1 []⟩,⟨X,.list 1 []⟩,⟨X,.list 1 []⟩]|18=>[⟨T,.str ⟨#[]⟩⟩,⟨X,.list 1 []⟩,⟨X,.list 3 []⟩,⟨X,.list 4 []⟩,⟨T,.int .i64 0⟩,⟨X,.list 5 []⟩,⟨X,.list 1 []⟩,⟨X,.list 3 []⟩,⟨X,.list 4 []⟩,⟨T,.int .i64 0⟩,⟨X,.list 5 []⟩,⟨X,.list 1 []⟩,⟨X,.list 1 []⟩,⟨X,.list 1 []⟩,⟨X,.list 1 []⟩,⟨T,.bool T⟩,⟨T,.int .i64 0⟩,⟨X,.list 9 []⟩,⟨X,.list 1 []⟩,⟨X,.list 1 []⟩,⟨X,.list 1 []⟩,⟨X,.list 3 []⟩,⟨X,.list 4 []⟩,⟨T,.int .i64 0⟩,⟨X,.list 5 []⟩,⟨X,.list 1 []⟩,⟨X,.list 1 []⟩,⟨X,.list 1 []⟩,⟨X,.list 1 []⟩,⟨X,.list 3 []⟩,⟨X,.list 1 []⟩,⟨X,.list 1 []⟩,⟨X,.list 3 []⟩,⟨X,.xn []⟩,⟨X,.list 1 []⟩,⟨X,.list 1 []⟩,⟨X,.list 1 []⟩,⟨X,.list 1 []⟩]|19=>[⟨T,.int .i64 0⟩,⟨X,.list 1 []⟩,⟨X,.list 1 []⟩,⟨X,.list 1 []⟩]|20=>[⟨X,.list 1 []⟩,⟨X,.list 3 []⟩,⟨X,.list 1 []⟩,⟨X,.list 4 []⟩,⟨X,.list 1 []⟩]|21=>[⟨X,.list 1 []⟩,⟨X,.list 3 []⟩,⟨X,.list 1 []⟩,⟨X,.list 4 []⟩]|22=>[⟨T,.int .i64 0⟩,⟨T,.int .i64 0⟩,⟨X,.list 1 []⟩,⟨X,.list 1 []⟩,⟨X,.list 1 []⟩]|23=>[⟨X,.list 4 []⟩,⟨X,.list 7 []⟩]|24=>[⟨T,.int .u8 0⟩,⟨T,.int .u8 0⟩]|25=>[⟨T,.int .i64 0⟩,⟨T,.str ⟨#[]⟩⟩,⟨T,.int .i64 0⟩]|26=>[⟨T,.int .u8 0⟩,⟨T,.int .u8 0⟩,⟨T,.int .u8 0⟩]|27=>[⟨X,.xl 1 []⟩,⟨X,.xl 3 []⟩]|28=>[⟨X,.list 1 []⟩,⟨X,.list 3 []⟩,⟨X,.list 3 []⟩,⟨X,.list 4 []⟩,⟨T,.int .u64 0⟩,⟨X,.list 1 []⟩,⟨X,.list 3 []⟩,⟨X,.list 3 []⟩,⟨T,.bool T⟩,⟨T,.bool T⟩,⟨T,.int .u8 0⟩,⟨T,.int .u8 0⟩,⟨T,.int .u8 0⟩,⟨T,.int .u8 0⟩,⟨X,.list 1 []⟩]
  |29=>[⟨X,.list 2 []⟩,⟨X,.list 3 []⟩]|30=>[⟨X,.list 1 []⟩,⟨X,.list 3 []⟩,⟨X,.xn []⟩]|31=>[⟨X,.xl 1 []⟩,⟨X,.xl 1 []⟩]|_=>[]
def OI:ce:=⟨w9,xA⟩
def bT:Nat:=0x264b0a9e043607c9650197040a0593a26dc403c908c90b01460e04420b5b82023f0303069b421944385c827455ca06e2014a045d9a654dd192040b0a603055750381558114c95d70a183713793300300c0010642044b81750d0c014c066338370000036e48ac0102880e000090370000047381050373013800004330000000007c3002427f42635d558501428101840237015d42810a0872094438380000000000000444014700007d77080e08070a0981009300000000006200818b0000034b053091ff00000304558a0000000001005e0100000000000058005f05415c000000003801024b000000008181000000000000000030000000000000006001030336415501640b0000000000000201690e5b01054b6a6b43010706035c420105446cff03445f58010e11118561000000000000050bff8505049393018136433c01364203020041033700000000050100000000ff810000000000000000000000000000000000000000000000000000000000000000000000000000000000000000000000000000000000000000024400420301000000000000000000000101000000000000000000000000000000000000000000000000000000000000000000000000000000000000000000000000000000000000000000000000000000000000000000000000000000000000000000000000000000000000000000000000
theorem nz{P:Prop}(p:P:=by
  intros
  conv=>
    arg 2
    conv=>
      enter [2]
      whnf
    conv=>
      enter [3]
      whnf
    simp only[PC.of,dC,kZ,kY,rL,na,wz,w2,wy,nZ,rK,w3,SO,ZO,Z2,wx,eY,oP,tP,a0,a1,R0,nj,rC,oO,cV,OI,w9,xA,Nat.reduceDiv,Nat.reduceMod,Nat.reduceMul,Nat.reduceEqDiff,↓reduceIte,List.nil_append,List.cons_append,Bool.or_true,Bool.true_or,Bool.or_false,Bool.false_or,Bool.or_self]
  exact au):P:=p
def MY:List ResultVar->List RV
  |.tmp s::r=>.tmp s::MY r|_=>[]
theorem Fk(fn:Func)(s:Nat)(ζ:List AD)(rv:List RV)(h:∀r,x=Y r → TV.tl ts → HR (λr=>BE rv (R r)) → WP (AX prog) (PC.of OI fn.body (xq bT s) ζ) ⟨BE rv (R r),λ_ _=>False,BE rv (R r)⟩ (Cx 0 ts))(hb:fn.body=Y c:=by rfl)(ck:CK fn (PC.of OI fn.body (xq bT s) ζ) rv:=by decide +kernel)(hf:prog.funcs[f]? =Y fn:=by rfl)(hname:fn.name≠ "runtime.NumGoroutine" :=by decide)(hn:u! ts.length fn.ntmps=X:=by rfl)(hp:∀r,(R r).plain=X:=by exact λ_=>rfl):Ct prog x f ts R:=
  Fi ck h hf hb hname hn hp
theorem Fj(fn:Func)(s:Nat)(ζ:List AD)(h:∀{r},x=Y r → ∀{_:TV.tl ts}{_:HR λr=>BE (MY fn.results.toList) (R r)},WP (AX prog) (PC.of OI fn.body (xq bT s) ζ) ⟨BE (MY fn.results.toList) (R r),λ_ _=>False,BE (MY fn.results.toList) (R r)⟩ (Cx 0 ts))(hb:fn.body=Y c:=by rfl)(ck:CK fn (PC.of OI fn.body (xq bT s) ζ) (MY fn.results.toList):=by decide +kernel)(hf:prog.funcs[f]? =Y fn:=by rfl)(hname:fn.name≠ "runtime.NumGoroutine" :=by decide)(hn:u! ts.length fn.ntmps=X:=by rfl)(hp:∀r,(R r).plain=X:=by exact λ_=>rfl):Ct prog x f ts R:=
  Fk fn s ζ _ (λr e a b=>@h r e a b) hb ck hf hname hn hp
variable{y:Option α}
theorem Fe{R:α->Al}(fn:Func)(s:Nat)(ζ:List AD)(E:x=y)(h:∀r,y=Y r->TV.tl ts->HR (λr=>BE (MY fn.results.toList) (R r))->WP (AX prog) (PC.of OI fn.body (xq bT s) ζ) ⟨BE (MY fn.results.toList) (R r),λ_ _=>False,BE (MY fn.results.toList) (R r)⟩ (Cx 0 ts):=by
  intro r h _ _;exact nz)(hb:fn.body=Y c:=by rfl)(ck:CK fn (PC.of OI fn.body (xq bT s) ζ) (MY fn.results.toList):=by decide +kernel)(hf:prog.funcs[f]? =Y fn:=by rfl)(hname:fn.name≠ "runtime.NumGoroutine" :=by decide)(hn:u! ts.length fn.ntmps=X:=by rfl)(hp:∀r,(R r).plain=X:=by exact λ_=>rfl):Ct prog x f ts R:=
  Fk fn s ζ _ (λr e a b=>h r (E.symm.trans e) a b) hb ck hf hname hn hp
variable{H1:Prop}
theorem Bl{R:α->Al}(fn:Func)(s:Nat)(ζ:List AD)(E:x=y)(i1:H1)(h:H1->∀r,y=Y r->TV.tl ts->HR (λr=>BE (MY fn.results.toList) (R r))->WP (AX prog) (PC.of OI fn.body (xq bT s) ζ) ⟨BE (MY fn.results.toList) (R r),λ_ _=>False,BE (MY fn.results.toList) (R r)⟩ (Cx 0 ts):=by
  intro _ r h _ _;exact nz)(hb:fn.body=Y c:=by rfl)(ck:CK fn (PC.of OI fn.body (xq bT s) ζ) (MY fn.results.toList):=by decide +kernel)(hf:prog.funcs[f]? =Y fn:=by rfl)(hname:fn.name≠ "runtime.NumGoroutine" :=by decide)(hn:u! ts.length fn.ntmps=X:=by rfl)(hp:∀r,(R r).plain=X:=by exact λ_=>rfl):Ct prog x f ts R:=
  Fk fn s ζ _ (λr e a b=>h i1 r (E.symm.trans e) a b) hb ck hf hname hn hp
variable{H2:Prop}
theorem Hz{R:α->Al}(fn:Func)(s:Nat)(ζ:List AD)(E:x=y)(i1:H1)(i2:H2)(h:H1->H2->∀r,y=Y r->TV.tl ts->HR (λr=>BE (MY fn.results.toList) (R r))->WP (AX prog) (PC.of OI fn.body (xq bT s) ζ) ⟨BE (MY fn.results.toList) (R r),λ_ _=>False,BE (MY fn.results.toList) (R r)⟩ (Cx 0 ts):=by
  intro _ _ r h _ _;exact nz)(hb:fn.body=Y c:=by rfl)(ck:CK fn (PC.of OI fn.body (xq bT s) ζ) (MY fn.results.toList):=by decide +kernel)(hf:prog.funcs[f]? =Y fn:=by rfl)(hname:fn.name≠ "runtime.NumGoroutine" :=by decide)(hn:u! ts.length fn.ntmps=X:=by rfl)(hp:∀r,(R r).plain=X:=by exact λ_=>rfl):Ct prog x f ts R:=
  Fk fn s ζ _ (λr e a b=>h i1 i2 r (E.symm.trans e) a b) hb ck hf hname hn hp
theorem gT{H3:Prop}{R:α->Al}(fn:Func)(s:Nat)(ζ:List AD)(E:x=y)(i1:H1)(i2:H2)(i3:H3)(h:H1->H2->H3->∀r,y=Y r->TV.tl ts->HR (λr=>BE (MY fn.results.toList) (R r))->WP (AX prog) (PC.of OI fn.body (xq bT s) ζ) ⟨BE (MY fn.results.toList) (R r),λ_ _=>False,BE (MY fn.results.toList) (R r)⟩ (Cx 0 ts):=by
  intro _ _ _ r h _ _;exact nz)(hb:fn.body=Y c:=by rfl)(ck:CK fn (PC.of OI fn.body (xq bT s) ζ) (MY fn.results.toList):=by decide +kernel)(hf:prog.funcs[f]? =Y fn:=by rfl)(hname:fn.name≠ "runtime.NumGoroutine" :=by decide)(hn:u! ts.length fn.ntmps=X:=by rfl)(hp:∀r,(R r).plain=X:=by exact λ_=>rfl):Ct prog x f ts R:=
  Fk fn s ζ _ (λr e a b=>h i1 i2 i3 r (E.symm.trans e) a b) hb ck hf hname hn hp
def rl{σ:Type}(c:Nat)(f:σ->List (Nat×EV)):Int->σ->List (Nat×EV):=λi s=>(c,.tv (eI i))::f s
theorem Ay(n c q i:Nat){σ:Type}(f:σ->List (Nat×EV)):HA n c q i (rl c f):=⟨⟩
theorem A3(n c q i:Nat):HA n c q i (rl c λ_:Unit=>[]):=⟨⟩
abbrev CT{α:Type}(x:Option α)(f:outParam FuncId)(ts:outParam Fq)(R:outParam (α->Al)):Prop:=Ct prog x f ts R
abbrev rB:Bool->Al:=λr=>.sh (eB r)
abbrev rI:Int->Al:=λr=>.sh (eI r)
abbrev rO{α:Type}(e:α->TV):α->Al:=λr=>.own (e r)
abbrev rS{α:Type}(e:α->TV):α->Al:=λr=>.sh (e r)
abbrev rT{α β:Type}(e:α->TV)(f:β->TV):α×β->Al:=λr=>.tp [e r.1,f r.2]
abbrev hO{α:Type}(k:Nat)(e:α->TV):α->List (Nat×EV):=λs=>[(k,.ow (e s))]
abbrev hT{α:Type}(k:Nat)(e:α->TV):α->List (Nat×EV):=λs=>[(k,.tv (e s))]
abbrev hX{α:Type}(k n:Nat)(e:α->TV):List α->List (Nat×EV):=λs=>[(k,.xo n (List.map e s))]
end Go.Sf.Sc
