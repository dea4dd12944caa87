/- Shorter names for the shapes of rows, and how structs are read. -/
import Derived.Test.YtpagkickoiafkaaGreatSfAuto
import Derived.Test.YtpagkickoiafkaaGreatSfDec
import Derived.Test.YtpagkickoiafkaaGreatFns
set_option linter.all false
set_option maxRecDepth 100000
open Option renaming some->Y
open Bool renaming true->X,false->T
open Nat renaming ble->l!,le_of_ble_eq_true->l?
namespace Go.Sf
abbrev Rq(o:List PR)(l:Ne)(b:PC):PC:=.seq (.region o l) b
abbrev Sq(a b:PC):PC:=.seq a b
abbrev Re(o:List PR)(l:Ne):PC:=.region o l
abbrev Dr(d:Ne)(o:List PR)(l:Ne):PC:=.draw d o l
abbrev Sk(l:Ne):PC:=.skip l
abbrev Ex(i:Nat)(l:Ne):PC:=.exit i l
abbrev Co(c:Nat)(a b:PC):PC:=.cond (.s c) a b
abbrev Bl(i:Nat)(a:PC):PC:=.block i a
abbrev Lo(l:Ne)(a:PC):PC:=.loop l a
abbrev Aa(x0 x1:Nat):PR:=⟨Y x0,.mv (.s x1),none⟩
abbrev Ab(x0 x1:Nat):PR:=⟨Y x0,.tk x1,none⟩
abbrev Ac(x0 x1:Nat):PR:=⟨Y x0,.mq (.s x1),none⟩
abbrev Ad(x0 x1 x2:Nat):PR:=⟨Y x0,.mn (.s x1) x2,none⟩
abbrev Ae(x0 x1 x2:Nat):PR:=⟨Y x0,.kK (.s x1) x2,none⟩
abbrev Af(x0:Nat)(x1:Int):PR:=⟨Y x0,.mv (.c (.int .i64 x1)),none⟩
end Go.Sf
namespace Go.Sf.Sc
open Go Go.Sf Go.Proofs.Tryz
instance(l:List gt):Ml (Ek l) AG l:=⟨Ii l⟩
instance(l:List A7):Ml (Ij l) CW l:=⟨Mh l⟩
instance:En gt AG:=⟨⟩
instance:En A7 CW:=⟨⟩
instance:Fl AG 9 CU:=⟨QM⟩
instance:Fl CW 5 D5:=⟨TE⟩
instance:SD BS:=⟨λl=>match l with|[.int _ x0,.int _ x1,.int _ x2]=>Bp.mk x0 x1 x2|_=>Bp.mk 0 0 0,λa b=>⟨inferInstance,Wd a b⟩⟩
instance:SD Cp:=⟨λl=>match l with|[.int _ x0,.int _ x1,.int _ x2,.int _ x3]=>Ci.mk x0 x1 (jm.mk x2 x3)|_=>Ci.mk 0 0 (jm.mk 0 0),λa b=>⟨inferInstance,We a b⟩⟩
instance:SD DB:=⟨λl=>match l with|[.int _ x0,.int _ x1,.int _ x2,.int _ x3,.int _ x4]=>Test.mk x0 (jm.mk x1 x2) (jm.mk x3 x4)|_=>Test.mk 0 (jm.mk 0 0) (jm.mk 0 0),λa b=>⟨inferInstance,Wf a b⟩⟩
abbrev CK(fn:Func)(pl:PC)(rv:List RV):Prop:=B4 prog fn.ntmps (Of prog fn.ntmps) pl (fn.body.getD .skip)=X/\DD prog fn.results.toList rv=X
variable{f:FuncId}{fn:Func}{c:Code}{pl:PC}{rv:List RV}{r:AZ}
theorem Fn{args:Fq}(ck:CK fn pl rv)(h:TV.jU args → WP (AO prog) pl ⟨Ax rv r,λ_ _=>False,Ax rv r⟩ (Bt 0 args))(hf:prog.funcs[f]? =Y fn:=by rfl)(hb:fn.body=Y c:=by rfl)(hname:fn.name≠ "runtime.NumGoroutine" :=by decide)(hn:l! args.length fn.ntmps=X:=by rfl)(hp:r.plain=X:=by rfl):AO prog f args r:=by
  have h1:=ck.1;rw[hb]at h1;exact SR (Gd Sc.Tryz_follows) hf hb hname h1 ck.2 (l? hn) hp (λhw=>(h hw).out)
variable{i:Nat}
theorem gk{args:Fq}{cs cs':List AI}{us:Fq}(ck:CK fn pl rv)(nb:PC.kg pl=X/\PC.kh i pl=X)(h:TV.jU args → (∀c∈cs,c.t.WF) → WP (AO prog) pl ⟨Ax rv (.bo cs cs' i us),λ_ _=>False,Ax rv (.bo cs cs' i us)⟩ ((i,.bx cs)::Bt 0 args))(hf:prog.funcs[f]? =Y fn:=by rfl)(hb:fn.body=Y c:=by rfl)(hname:fn.name≠ "runtime.NumGoroutine" :=by decide)(hn:l! args.length fn.ntmps=X:=by rfl):AO prog f args (.bo cs cs' i us):=by
  have h1:=ck.1;rw[hb]at h1;exact VT (Gd Sc.Tryz_follows) hf hb hname h1 ck.2 (l? hn) nb.1 nb.2 (λhw hwc=>(h hw hwc).out)
variable{α:Type}{x:Option α}{ts:Fq}{R:α → AZ}
theorem Fi(ck:CK fn pl rv)(h:∀r,x=Y r → TV.jU ts → HR (λr=>Ax rv (R r)) → WP (AO prog) pl ⟨Ax rv (R r),λ_ _=>False,Ax rv (R r)⟩ (Bt 0 ts))(hf:prog.funcs[f]? =Y fn:=by rfl)(hb:fn.body=Y c:=by rfl)(hname:fn.name≠ "runtime.NumGoroutine" :=by decide)(hn:l! ts.length fn.ntmps=X:=by rfl)(hp:∀r,(R r).plain=X:=by exact λ_=>rfl):Ct prog x f ts R:=
  ⟨λr hr=>Fn ck (λhw=>h r hr hw ⟨⟩) hf hb hname hn (hp r)⟩
variable{us:α → Fq}
theorem X8{cs:List AI}{cs':α → List AI}(ck:CK fn pl rv)(nb:PC.kg pl=X/\PC.kh i pl=X)(h:∀r,x=Y r → TV.jU ts → (∀c∈cs,c.t.WF) → HR (λr=>Ax rv (.bo cs (cs' r) i (us r))) → WP (AO prog) pl ⟨Ax rv (.bo cs (cs' r) i (us r)),λ_ _=>False,Ax rv (.bo cs (cs' r) i (us r))⟩ ((i,.bx cs)::Bt 0 ts))(hf:prog.funcs[f]? =Y fn:=by rfl)(hb:fn.body=Y c:=by rfl)(hname:fn.name≠ "runtime.NumGoroutine" :=by decide)(hn:l! ts.length fn.ntmps=X:=by rfl):Ct prog x f ts (λr=> .bo cs (cs' r) i (us r)):=
  ⟨λr hr=>gk ck nb (λhw hwc=>h r hr hw hwc ⟨⟩) hf hb hname hn⟩
theorem gj{args:Fq}{cs:List AI}(ck:CK fn pl rv)(nb:PC.kg pl=X)(h:TV.jU args → (∀c∈cs,c.t.WF) → WP (AO prog) pl ⟨Ax rv r,λ_ _=>False,Ax rv r⟩ ((i,.kC cs)::Bt 0 args))(hf:prog.funcs[f]? =Y fn:=by rfl)(hb:fn.body=Y c:=by rfl)(hname:fn.name≠ "runtime.NumGoroutine" :=by decide)(hn:l! args.length fn.ntmps=X:=by rfl)(hp:r.plain=X:=by rfl)(hlo:r.lone=T:=by rfl):AO prog f args (.ag cs i r):=by
  have h1:=ck.1;rw[hb]at h1;exact VS (Gd Sc.Tryz_follows) hf hb hname h1 ck.2 (l? hn) nb hp hlo (λhw hwc=>(h hw hwc).out)
theorem ea{cs:List AI}(ck:CK fn pl rv)(nb:PC.kg pl=X)(h:∀r,x=Y r → TV.jU ts → (∀c∈cs,c.t.WF) → HR (λr=>Ax rv (R r)) → WP (AO prog) pl ⟨Ax rv (R r),λ_ _=>False,Ax rv (R r)⟩ ((i,.kC cs)::Bt 0 ts))(hf:prog.funcs[f]? =Y fn:=by rfl)(hb:fn.body=Y c:=by rfl)(hname:fn.name≠ "runtime.NumGoroutine" :=by decide)(hn:l! ts.length fn.ntmps=X:=by rfl)(hp:∀r,(R r).plain=X:=by exact λ_=>rfl)(hlo:∀r,(R r).lone=T:=by exact λ_=>rfl):Ct prog x f ts (λr=> .ag cs i (R r)):=
  ⟨λr hr=>gj ck nb (λhw hwc=>h r hr hw hwc ⟨⟩) hf hb hname hn (hp r) (hlo r)⟩
theorem gi{x:Option (Be×Int)}(ck:CK fn pl rv)(h:∀r,x=Y r → TV.jU ts → HR (λr=>Ax rv (H4 r)) → WP (AO prog) pl ⟨Ax rv (H4 r),λ_ _=>False,Ax rv (H4 r)⟩ (Bt 0 ts))(hf:prog.funcs[f]? =Y fn:=by rfl)(hb:fn.body=Y c:=by rfl)(hname:fn.name≠ "runtime.NumGoroutine" :=by decide)(hn:l! ts.length fn.ntmps=X:=by rfl):Ct prog x f ts H4:=by
  refine ⟨λr hr=>?_⟩;have h0:=h r hr;have h1:=ck.1;rw[hb]at h1;by_cases he:r.2=0
  · have e:H4 r=.mpr r.1 [.int .i64 r.2]:=ae he
    rw [e]at h0|-;exact VU (Gd Sc.Tryz_follows) hf hb hname h1 ck.2 (l? hn) (λhw=>(h0 hw ⟨⟩).out)
  · have e:H4 r=.tp [.undef,.int .i64 r.2]:=az he
    rw [e]at h0|-;exact SR (Gd Sc.Tryz_follows) hf hb hname h1 ck.2 (l? hn) rfl (λhw=>(h0 hw ⟨⟩).out)
theorem fE{cs:List AI}{cs':α → List AI}(ck:CK fn pl rv)(nb:PC.kg pl=X/\PC.kh i pl=X)(h:∀r,x=Y r → TV.jU ts → (∀c∈cs,c.t.WF) → WP (AO prog) pl ⟨St rv cs (cs' r) i (us r),λ_ _=>False,St rv cs (cs' r) i (us r)⟩ ((i,.bx cs)::Bt 0 ts))(hf:prog.funcs[f]? =Y fn:=by rfl)(hb:fn.body=Y c:=by rfl)(hname:fn.name≠ "runtime.NumGoroutine" :=by decide)(hn:l! ts.length fn.ntmps=X:=by rfl):Ct prog x f ts (λr=> .bo cs (cs' r) i (us r)):=by
  refine ⟨λr hr=>?_⟩;have h1:=ck.1;rw[hb]at h1;exact UO (Gd Sc.Tryz_follows) hf hb hname h1 ck.2 (l? hn) nb.1 nb.2 (λhw hwc=>(h r hr hw hwc).out)
def ex:Nat->Fq×List (Nat×Nat)
  |0=>([.str ⟨#[]⟩,.int .i64 0,.int .i64 0,.int .i64 0,.int .i64 0,.int .i64 0,.int .i64 0],[(0,1),(1,1),(2,1),(4,1),(6,1)])|1=>([.list 4 [],.list 7 []],[(0,1),(1,1)])|2=>([.list 1 [],.list 1 []],[(0,1),(1,1)])|3=>([.int .i64 0,.str ⟨#[]⟩,.int .i64 0],[(0,1),(1,1)])|4=>([.str ⟨#[]⟩,.int .i64 0,.int .i64 0,.list 1 []],[])|5=>([.list 1 [],.list 3 []],[])|6=>([.list 1 [],.list 1 []],[])|7=>([.int .i64 0,.int .i64 0,.int .i64 0],[(0,1),(1,1),(2,1)])|8=>([.list 1 [],.list 3 [],.list 4 [],.int .i64 0,.list 5 []],[(0,2)])|9=>([.int .i64 0,.list 9 [],.list 1 [],.list 1 [],.list 1 [],.list 3 [],.list 4 [],.int .i64 0,.list 5 []],[(0,1)])|10=>([.str ⟨#[]⟩,.list 1 [],.list 3 [],.list 4 [],.int .i64 0,.list 5 [],.list 1 [],.list 3 [],.list 4 [],.int .i64 0,.list 5 [],.list 1 [],.list 1 [],.list 1 [],.list 1 [],.bool T,.int .i64 0,.list 9 [],.list 1 [],.list 1 [],.list 1 [],.list 3 [],.list 4 [],.int .i64 0,.list 5 []],[(0,1),(1,5),(6,5),(11,2),(13,2),(15,1),(16,9)])|11=>([.str ⟨#[]⟩,.list 1 [],.list 3 [],.list 4 [],.int .i64 0,.list 5 [],.list 1 [],.list 3 [],.list 4 [],.int .i64 0,.list 5 [],.list 1 [],.list 1 [],.list 1 [],.list 1 [],.bool T,.int .i64 0,.list 9 [],.list 1 [],.list 1 [],.list 1 [],.list 3 [],.list 4 [],.int .i64 0,.list 5 []],[])|12=>([.list 1 [],.list 3 []],[(0,1),(1,1)])|13=>([.int .i64 0,.str ⟨#[]⟩,.int .i64 0],[])|14=>([.list 2 [],.list 3 []],[(0,1),(1,1)])|15=>([.int .i64 0,.int .i64 0],[(0,1),(1,1)])|16=>([.list 4 [],.list 7 [],.list 1 [],.list 3 [],.list 1 [],.list 3 [],.list 1 [],.list 1 [],.bool T,.int .i64 0,.nil],[(0,2),(2,2),(4,2),(6,2),(8,1),(9,1)])|17=>([.list 1 [],.list 1 [],.list 1 []],[(0,2),(2,1)])|18=>([.int .i64 0,.list 1 [],.list 1 [],.list 1 [],.list 5 []],[])|19=>([.int .i64 0,.list 1 [],.list 1 [],.list 1 [],.list 5 []],[(0,1),(4,1)])|20=>([.int .i64 0,.list 1 [],.list 1 [],.list 1 [],.list 5 []],[(1,3),(4,1)])|21=>([.list 1 [],.list 3 [],.list 1 []],[])|22=>([.str ⟨#[]⟩,.list 1 [],.list 3 [],.list 4 [],.int .i64 0,.list 5 [],.list 1 [],.list 3 [],.list 4 [],.int .i64 0,.list 5 [],.list 1 [],.list 1 [],.list 1 [],.list 1 [],.bool T,.int .i64 0,.list 9 [],.list 1 [],.list 1 [],.list 1 [],.list 3 [],.list 4 [],.int .i64 0,.list 5 [],.list 1 [],.list 1 [],.list 1 [],.list 1 [],.list 3 [],.list 1 [],.list 1 [],.list 3 [],.list 1 [],.list 1 [],.list 1 [],.list 1 [],.list 1 []],[])|23=>([.str ⟨#[]⟩,.list 1 [],.list 3 [],.list 4 [],.int .i64 0,.list 5 [],.list 1 [],.list 3 [],.list 4 [],.int .i64 0,.list 5 [],.list 1 [],.list 1 [],.list 1 [],.list 1 [],.bool T,.int .i64 0,.list 9 [],.list 1 [],.list 1 [],.list 1 [],.list 3 [],.list 4 [],.int .i64 0,.list 5 [],.list 1 [],.list 1 [],.list 1 [],.list 1 [],.list 3 [],.list 1 [],.list 1 [],.list 3 [],.list 1 [],.list 1 [],.list 1 [],.list 1 [],.list 1 []],[(0,25),(25,3),(28,3),(31,3),(34,2),(36,2)])|24=>([.list 1 [],.list 3 [],.list 1 [],.list 3 [],.list 1 [],.list 1 [],.list 1 [],.list 1 []],[(0,2),(2,2),(4,2),(6,2)])|25=>([.list 1 [],.list 3 [],.list 1 [],.list 3 [],.list 1 [],.list 1 [],.list 1 [],.bool T,.int .i64 0,.nil,.nil,.nil],[(0,2),(2,2),(4,1),(5,2),(7,1),(8,1)])|26=>([.list 4 [],.list 7 [],.list 1 [],.list 3 [],.list 1 [],.bool T],[(0,2),(2,3),(5,1)])|27=>([.str ⟨#[]⟩,.list 1 [],.list 3 [],.list 4 [],.int .i64 0,.list 5 [],.list 1 [],.list 3 [],.list 4 [],.int .i64 0,.list 5 [],.list 1 [],.list 1 [],.list 1 [],.list 1 [],.bool T,.int .i64 0,.list 9 [],.list 1 [],.list 1 [],.list 1 [],.list 3 [],.list 4 [],.int .i64 0,.list 5 [],.list 1 [],.list 1 [],.list 1 [],.list 1 [],.list 3 [],.list 1 [],.nil,.nil,.nil,.list 1 [],.list 1 [],.list 1 [],.list 1 []],[(0,25),(25,3),(28,3)])|28=>([.list 1 [],.list 1 [],.list 1 []],[(0,2)])|_=>([],[])
def ey:Nat->List AI
  |0=>[⟨T,.str ⟨#[]⟩⟩,⟨T,.int .i64 0⟩,⟨T,.int .i64 0⟩,⟨T,.int .i64 0⟩,⟨T,.int .i64 0⟩,⟨T,.int .i64 0⟩,⟨T,.int .i64 0⟩]|1=>[⟨X,.list 4 []⟩,⟨X,.list 7 []⟩]|2=>[⟨X,.list 1 []⟩,⟨X,.list 1 []⟩]|3=>[⟨T,.str ⟨#[]⟩⟩,⟨T,.int .i64 0⟩,⟨T,.bool T⟩,⟨X,.list 4 []⟩]|4=>[⟨T,.str ⟨#[]⟩⟩,⟨T,.int .i64 0⟩,⟨T,.int .i64 0⟩,⟨X,.list 1 []⟩]|5=>[⟨T,.int .i64 0⟩,⟨T,.int .i64 0⟩,⟨T,.int .i64 0⟩,⟨T,.int .i64 0⟩,⟨T,.int .i64 0⟩]|6=>[⟨T,.int .i64 0⟩,⟨T,.int .i64 0⟩,⟨T,.int .i64 0⟩,⟨T,.int .i64 0⟩]|7=>[⟨T,.int .i64 0⟩,⟨T,.int .i64 0⟩]|8=>[⟨X,.list 1 []⟩,⟨X,.list 3 []⟩]|9=>[⟨T,.int .i64 0⟩,⟨T,.int .i64 0⟩,⟨T,.int .i64 0⟩]|10=>[⟨X,.list 1 []⟩,⟨X,.list 3 []⟩,⟨X,.list 4 []⟩,⟨T,.int .i64 0⟩,⟨X,.list 5 []⟩]|11=>[⟨T,.int .i64 0⟩,⟨X,.list 9 []⟩,⟨X,.list 1 []⟩,⟨X,.list 1 []⟩,⟨X,.list 1 []⟩,⟨X,.list 3 []⟩,⟨X,.list 4 []⟩,⟨T,.int .i64 0⟩,⟨X,.list 5 []⟩]|12=>[⟨T,.int .i64 0⟩]|13=>[⟨X,.list 1 []⟩,⟨X,.list 3 []⟩,⟨X,.list 1 []⟩,⟨X,.list 1 []⟩]|14=>[⟨T,.str ⟨#[]⟩⟩,⟨X,.list 1 []⟩,⟨X,.list 3 []⟩,⟨X,.list 4 []⟩,⟨T,.int .i64 0⟩,⟨X,.list 5 []⟩,⟨X,.list 1 []⟩,⟨X,.list 3 []⟩,⟨X,.list 4 []⟩,⟨T,.int .i64 0⟩,⟨X,.list 5 []⟩,⟨X,.list 1 []⟩,⟨X,.list 1 []⟩,⟨X,.list 1 []⟩,⟨X,.list 1 []⟩,⟨T,.bool T⟩,⟨T,.int .i64 0⟩,⟨X,.list 9 []⟩,⟨X,.list 1 []⟩,⟨X,.list 1 []⟩,⟨X,.list 1 []⟩,⟨X,.list 3 []⟩,⟨X,.list 4 []⟩,⟨T,.int .i64 0⟩,⟨X,.list 5 []⟩]|15=>[⟨T,.int .i64 0⟩,⟨T,.str ⟨#[]⟩⟩,⟨T,.int .i64 0⟩]|16=>[⟨X,.list 1 []⟩,⟨X,.list 3 []⟩,⟨X,.list 1 []⟩]|17=>[⟨X,.xl 1 []⟩,⟨X,.xl 3 []⟩]|18=>[⟨T,.int .i64 0⟩,⟨X,.list 1 []⟩,⟨X,.list 1 []⟩,⟨X,.list 1 []⟩,⟨X,.list 5 []⟩]|19=>[⟨X,.list 1 []⟩,⟨X,.list 3 []⟩,⟨X,.xn []⟩]|20=>[⟨T,.str ⟨#[]⟩⟩,⟨X,.list 1 []⟩,⟨X,.list 3 []⟩,⟨X,.list 4 []⟩,⟨T,.int .i64 0⟩,⟨X,.list 5 []⟩,⟨X,.list 1 []⟩,⟨X,.list 3 []⟩,⟨X,.list 4 []⟩,⟨T,.int .i64 0⟩,⟨X,.list 5 []⟩,⟨X,.list 1 []⟩,⟨X,.list 1 []⟩,⟨X,.list 1 []⟩,⟨X,.list 1 []⟩,⟨T,.bool T⟩,⟨T,.int .i64 0⟩,⟨X,.list 9 []⟩,⟨X,.list 1 []⟩,⟨X,.list 1 []⟩,⟨X,.list 1 []⟩,⟨X,.list 3 []⟩,⟨X,.list 4 []⟩,⟨T,.int .i64 0⟩,⟨X,.list 5 []⟩,⟨X,.list 1 []⟩,⟨X,.list 1 []⟩,⟨X,.list 1 []⟩,⟨X,.list 1 []⟩,⟨X,.list 3 []⟩,⟨X,.list 1 []⟩,⟨X,.list 1 []⟩,⟨X,.list 3 []⟩,⟨X,.list 1 []⟩,⟨X,.list 1 []⟩,⟨X,.list 1 []⟩,⟨X,.list 1 []⟩,⟨X,.list 1 []⟩]|21=>[⟨X,.xl 1 []⟩,⟨X,.xl 1 []⟩]|22=>[⟨X,.list 1 []⟩,⟨X,.list 3 []⟩,⟨X,.list 1 []⟩,⟨X,.list 3 []⟩,⟨X,.list 1 []⟩,⟨X,.list 1 []⟩,⟨X,.list 1 []⟩,⟨X,.list 1 []⟩]|23=>[⟨X,.list 1 []⟩,⟨X,.list 1 []⟩,⟨X,.list 1 []⟩]|24=>[⟨T,.str ⟨#[]⟩⟩,⟨X,.list 1 []⟩,⟨X,.list 3 []⟩,⟨X,.list 4 []⟩,⟨T,.int .i64 0⟩,⟨X,.list 5 []⟩,⟨X,.list 1 []⟩,⟨X,.list 3 []⟩,⟨X,.list 4 []⟩,⟨T,.int .i64 0⟩,⟨X,.list 5 []⟩,⟨X,.list 1 []⟩,⟨X,.list 1 []⟩,⟨X,.list 1 []⟩,⟨X,.list 1 []⟩,⟨T,.bool T⟩,⟨T,.int .i64 0⟩,⟨X,.list 9 []⟩,⟨X,.list 1 []⟩,⟨X,.list 1 []⟩,⟨X,.list 1 []⟩,⟨X,.list 3 []⟩,⟨X,.list 4 []⟩,⟨T,.int .i64 0⟩,⟨X,.list 5 []⟩,⟨X,.list 1 []⟩,⟨X,.list 1 []⟩,⟨X,.list 1 []⟩,⟨X,.list 1 []⟩,⟨X,.list 3 []⟩,⟨X,.list 1 []⟩,⟨X,.list 1 []⟩,⟨X,.list 3 []⟩,⟨X,.xn []⟩,⟨X,.list 1 []⟩,⟨X,.list 1 []⟩,⟨X,.list 1 []⟩,⟨X,.list 1 []⟩]|25=>[⟨X,.list 1 []⟩,⟨X,.xl 1 []⟩]|_=>[]
def IS:TT:=⟨ex,ey⟩
def bT:Nat:=0x6a5b69650789827c01bd5b03810a014a5c5881828a053838015503008d30044b466d939209c909080444014c809002c904430b5a04010f0e5b6e264b850b0478054b9b835d309330064281016c325f7603785fffa142194403040d0c880e05010000973202428a7469030000800e00003832000048a9930000000a09000000005c018c028105034b75ff32010a0e066a080e014281550201757669040000000000000944380100008100014738555b42024b0a05000000008181030300005a01000000000000818b0544000000004159300500000000000060005d010e3800000000650b300000000000060500000000000000000807000000000000016d0000000000006f7300000000000043013141ff555f01050b010e00000000000011114201855e0359034405040100000000000000ff85000000000000000093933c58018131433142030203320041010500000000ff810000000000000000000000000000000000000000000000000000000000000000000000000000000000000000000000000000000000000000024400000000000000000000004203010101000000000000000000000000000000000000000000000000000000000000000000000000000000000000000000000000000000000000000000000000000000000000000000000000000000000000000000000000000000000000000000000000
theorem nz{P:Prop}(p:P:=by
  intros
  conv=>
    arg 2
    conv=>
      enter [2]
      whnf
    conv=>
      enter [3]
      whnf
    simp only[PC.of,dC,Wc,Wb,aC,YG,ei,ej,eh,YF,aB,ek,Me,Rw,SL,eg,UI,oP,tP,a0,a1,MI,YN,Z2,oO,cV,IS,ex,ey,Nat.reduceDiv,Nat.reduceMod,Nat.reduceMul,Nat.reduceEqDiff,↓reduceIte,List.nil_append,List.cons_append,Bool.or_true,Bool.true_or,Bool.or_false,Bool.false_or,Bool.or_self]
  exact au):P:=p
def G6:List ResultVar->List RV
  |.tmp s::r=>.tmp s::G6 r|_=>[]
theorem Fk(fn:Func)(s:Nat)(ζ:List AB)(rv:List RV)(h:∀r,x=Y r → TV.jU ts → HR (λr=>Ax rv (R r)) → WP (AO prog) (PC.of IS fn.body (xq bT s) ζ) ⟨Ax rv (R r),λ_ _=>False,Ax rv (R r)⟩ (Bt 0 ts))(hb:fn.body=Y c:=by rfl)(ck:CK fn (PC.of IS fn.body (xq bT s) ζ) rv:=by decide +kernel)(hf:prog.funcs[f]? =Y fn:=by rfl)(hname:fn.name≠ "runtime.NumGoroutine" :=by decide)(hn:l! ts.length fn.ntmps=X:=by rfl)(hp:∀r,(R r).plain=X:=by exact λ_=>rfl):Ct prog x f ts R:=
  Fi ck h hf hb hname hn hp
theorem Fj(fn:Func)(s:Nat)(ζ:List AB)(h:∀{r},x=Y r → ∀{_:TV.jU ts}{_:HR λr=>Ax (G6 fn.results.toList) (R r)},WP (AO prog) (PC.of IS fn.body (xq bT s) ζ) ⟨Ax (G6 fn.results.toList) (R r),λ_ _=>False,Ax (G6 fn.results.toList) (R r)⟩ (Bt 0 ts))(hb:fn.body=Y c:=by rfl)(ck:CK fn (PC.of IS fn.body (xq bT s) ζ) (G6 fn.results.toList):=by decide +kernel)(hf:prog.funcs[f]? =Y fn:=by rfl)(hname:fn.name≠ "runtime.NumGoroutine" :=by decide)(hn:l! ts.length fn.ntmps=X:=by rfl)(hp:∀r,(R r).plain=X:=by exact λ_=>rfl):Ct prog x f ts R:=
  Fk fn s ζ _ (λr e a b=>@h r e a b) hb ck hf hname hn hp
variable{y:Option α}
theorem Fe{R:α->AZ}(fn:Func)(s:Nat)(ζ:List AB)(E:x=y)(h:∀r,y=Y r->TV.jU ts->HR (λr=>Ax (G6 fn.results.toList) (R r))->WP (AO prog) (PC.of IS fn.body (xq bT s) ζ) ⟨Ax (G6 fn.results.toList) (R r),λ_ _=>False,Ax (G6 fn.results.toList) (R r)⟩ (Bt 0 ts):=by
  intro r h _ _;exact nz)(hb:fn.body=Y c:=by rfl)(ck:CK fn (PC.of IS fn.body (xq bT s) ζ) (G6 fn.results.toList):=by decide +kernel)(hf:prog.funcs[f]? =Y fn:=by rfl)(hname:fn.name≠ "runtime.NumGoroutine" :=by decide)(hn:l! ts.length fn.ntmps=X:=by rfl)(hp:∀r,(R r).plain=X:=by exact λ_=>rfl):Ct prog x f ts R:=
  Fk fn s ζ _ (λr e a b=>h r (E.symm.trans e) a b) hb ck hf hname hn hp
variable{H1:Prop}
theorem BJ{R:α->AZ}(fn:Func)(s:Nat)(ζ:List AB)(E:x=y)(i1:H1)(h:H1->∀r,y=Y r->TV.jU ts->HR (λr=>Ax (G6 fn.results.toList) (R r))->WP (AO prog) (PC.of IS fn.body (xq bT s) ζ) ⟨Ax (G6 fn.results.toList) (R r),λ_ _=>False,Ax (G6 fn.results.toList) (R r)⟩ (Bt 0 ts):=by
  intro _ r h _ _;exact nz)(hb:fn.body=Y c:=by rfl)(ck:CK fn (PC.of IS fn.body (xq bT s) ζ) (G6 fn.results.toList):=by decide +kernel)(hf:prog.funcs[f]? =Y fn:=by rfl)(hname:fn.name≠ "runtime.NumGoroutine" :=by decide)(hn:l! ts.length fn.ntmps=X:=by rfl)(hp:∀r,(R r).plain=X:=by exact λ_=>rfl):Ct prog x f ts R:=
  Fk fn s ζ _ (λr e a b=>h i1 r (E.symm.trans e) a b) hb ck hf hname hn hp
variable{H2:Prop}
theorem D4{R:α->AZ}(fn:Func)(s:Nat)(ζ:List AB)(E:x=y)(i1:H1)(i2:H2)(h:H1->H2->∀r,y=Y r->TV.jU ts->HR (λr=>Ax (G6 fn.results.toList) (R r))->WP (AO prog) (PC.of IS fn.body (xq bT s) ζ) ⟨Ax (G6 fn.results.toList) (R r),λ_ _=>False,Ax (G6 fn.results.toList) (R r)⟩ (Bt 0 ts):=by
  intro _ _ r h _ _;exact nz)(hb:fn.body=Y c:=by rfl)(ck:CK fn (PC.of IS fn.body (xq bT s) ζ) (G6 fn.results.toList):=by decide +kernel)(hf:prog.funcs[f]? =Y fn:=by rfl)(hname:fn.name≠ "runtime.NumGoroutine" :=by decide)(hn:l! ts.length fn.ntmps=X:=by rfl)(hp:∀r,(R r).plain=X:=by exact λ_=>rfl):Ct prog x f ts R:=
  Fk fn s ζ _ (λr e a b=>h i1 i2 r (E.symm.trans e) a b) hb ck hf hname hn hp
theorem X7{H3:Prop}{R:α->AZ}(fn:Func)(s:Nat)(ζ:List AB)(E:x=y)(i1:H1)(i2:H2)(i3:H3)(h:H1->H2->H3->∀r,y=Y r->TV.jU ts->HR (λr=>Ax (G6 fn.results.toList) (R r))->WP (AO prog) (PC.of IS fn.body (xq bT s) ζ) ⟨Ax (G6 fn.results.toList) (R r),λ_ _=>False,Ax (G6 fn.results.toList) (R r)⟩ (Bt 0 ts):=by
  intro _ _ _ r h _ _;exact nz)(hb:fn.body=Y c:=by rfl)(ck:CK fn (PC.of IS fn.body (xq bT s) ζ) (G6 fn.results.toList):=by decide +kernel)(hf:prog.funcs[f]? =Y fn:=by rfl)(hname:fn.name≠ "runtime.NumGoroutine" :=by decide)(hn:l! ts.length fn.ntmps=X:=by rfl)(hp:∀r,(R r).plain=X:=by exact λ_=>rfl):Ct prog x f ts R:=
  Fk fn s ζ _ (λr e a b=>h i1 i2 i3 r (E.symm.trans e) a b) hb ck hf hname hn hp
def aY{σ:Type}(c:Nat)(f:σ->List (Nat×EV)):Int->σ->List (Nat×EV):=λi s=>(c,.tv (eI i))::f s
theorem As(n c q i:Nat){σ:Type}(f:σ->List (Nat×EV)):HA n c q i (aY c f):=⟨⟩
theorem Ap(n c q i:Nat):HA n c q i (aY c λ_:Unit=>[]):=⟨⟩
abbrev CT{α:Type}(x:Option α)(f:outParam FuncId)(ts:outParam Fq)(R:outParam (α->AZ)):Prop:=Ct prog x f ts R
abbrev rB:Bool->AZ:=λr=>.sh (eB r)
abbrev rI:Int->AZ:=λr=>.sh (eI r)
abbrev rO{α:Type}(e:α->TV):α->AZ:=λr=>.own (e r)
abbrev rS{α:Type}(e:α->TV):α->AZ:=λr=>.sh (e r)
abbrev rT{α β:Type}(e:α->TV)(f:β->TV):α×β->AZ:=λr=>.tp [e r.1,f r.2]
abbrev hO{α:Type}(k:Nat)(e:α->TV):α->List (Nat×EV):=λs=>[(k,.ow (e s))]
abbrev hT{α:Type}(k:Nat)(e:α->TV):α->List (Nat×EV):=λs=>[(k,.tv (e s))]
abbrev hX{α:Type}(k n:Nat)(e:α->TV):List α->List (Nat×EV):=λs=>[(k,.xo n (List.map e s))]
end Go.Sf.Sc
