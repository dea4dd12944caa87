/- Shorter names for the shapes of rows, and how structs are read. -/
import Derived.Test.YtpagkickoiafkaaGreatSfAuto
import Derived.Test.YtpagkickoiafkaaGreatSfDec
import Derived.Test.YtpagkickoiafkaaGreatFns
set_option linter.all false
set_option maxRecDepth 100000
open Option renaming some->Y
open Bool renaming true->X,false->T
open Nat renaming ble->v?,le_of_ble_eq_true->w_
namespace Go.Sf
abbrev Rq(o:List PR)(l:I2)(b:PC):PC:=.seq (.region o l) b
abbrev Sq(a b:PC):PC:=.seq a b
abbrev Re(o:List PR)(l:I2):PC:=.region o l
abbrev Dr(d:I2)(o:List PR)(l:I2):PC:=.draw d o l
abbrev Sk(l:I2):PC:=.skip l
abbrev Ex(i:Nat)(l:I2):PC:=.exit i l
abbrev Co(c:Nat)(a b:PC):PC:=.cond (.s c) a b
abbrev Bl(i:Nat)(a:PC):PC:=.block i a
abbrev Lo(l:I2)(a:PC):PC:=.loop l a
abbrev Aa(x0 x1:Nat):PR:=⟨Y x0,.mv (.s x1),none⟩
abbrev Ab(x0 x1:Nat):PR:=⟨Y x0,.tk x1,none⟩
abbrev Ac(x0 x1:Nat):PR:=⟨Y x0,.Aa3 (.s x1),none⟩
abbrev Ad(x0 x1 x2:Nat):PR:=⟨Y x0,.lda (.s x1) x2,none⟩
abbrev Ae(x0 x1 x2:Nat):PR:=⟨Y x0,.zt (.s x1) x2,none⟩
abbrev Af(x0:Nat)(x1:Int):PR:=⟨Y x0,.mv (.c (.int .i64 x1)),none⟩
end Go.Sf
namespace Go.Sf.Sc
open Go Go.Sf Go.Proofs.Tryz
instance(l:List c9):Ml (JN l) AI l:=⟨Lr l⟩
instance(l:List BC):Ml (Oi l) Ea l:=⟨TK l⟩
instance:En c9 AI:=⟨⟩
instance:En BC Ea:=⟨⟩
instance:Fl AI 9 D1:=⟨Rf⟩
instance:Fl Ea 5 H8:=⟨eP⟩
instance:bH CD:=⟨λl=>match l with|[.int _ x0,.int _ x1,.int _ x2]=>Bu.mk x0 x1 x2|_=>Bu.mk 0 0 0,λa b=>⟨inferInstance,nt a b⟩⟩
instance:bH El:=⟨λl=>match l with|[.int _ x0,.int _ x1,.int _ x2,.int _ x3]=>Cz.mk x0 x1 (fb.mk x2 x3)|_=>Cz.mk 0 0 (fb.mk 0 0),λa b=>⟨inferInstance,nu a b⟩⟩
instance:bH FQ:=⟨λl=>match l with|[.int _ x0,.int _ x1,.int _ x2,.int _ x3,.int _ x4]=>Test.mk x0 (fb.mk x1 x2) (fb.mk x3 x4)|_=>Test.mk 0 (fb.mk 0 0) (fb.mk 0 0),λa b=>⟨inferInstance,nv a b⟩⟩
abbrev CK(fn:Func)(pl:PC)(rv:List RV):Prop:=DW prog fn.ntmps (U7 prog fn.ntmps) pl (fn.body.getD .skip)=X/\GK prog fn.results.toList rv=X
variable{f:FuncId}{fn:Func}{c:Code}{pl:PC}{rv:List RV}{r:At}
theorem Fn{args:Fq}(ck:CK fn pl rv)(h:TV.k7 args → WP (AV prog) pl ⟨BU rv r,λ_ _=>False,BU rv r⟩ (C6 0 args))(hf:prog.funcs[f]? =Y fn:=by rfl)(hb:fn.body=Y c:=by rfl)(hname:fn.name≠ "runtime.NumGoroutine" :=by decide)(hn:v? args.length fn.ntmps=X:=by rfl)(hp:r.plain=X:=by rfl):AV prog f args r:=by
  have h1:=ck.1;rw[hb]at h1;exact b6 (Lq Sc.Tryz_follows) hf hb hname h1 ck.2 (w_ hn) hp (λhw=>(h hw).out)
variable{i:Nat}
theorem FnB{args:Fq}{cs cs':List AQ}{us:Fq}(ck:CK fn pl rv)(nb:PC.pE pl=X/\PC.r0 i pl=X)(h:TV.k7 args → (∀c∈cs,c.t.WF) → WP (AV prog) pl ⟨BU rv (.bo cs cs' i us),λ_ _=>False,BU rv (.bo cs cs' i us)⟩ ((i,.bx cs)::C6 0 args))(hf:prog.funcs[f]? =Y fn:=by rfl)(hb:fn.body=Y c:=by rfl)(hname:fn.name≠ "runtime.NumGoroutine" :=by decide)(hn:v? args.length fn.ntmps=X:=by rfl):AV prog f args (.bo cs cs' i us):=by
  have h1:=ck.1;rw[hb]at h1;exact kj (Lq Sc.Tryz_follows) hf hb hname h1 ck.2 (w_ hn) nb.1 nb.2 (λhw hwc=>(h hw hwc).out)
variable{α:Type}{x:Option α}{ts:Fq}{R:α → At}
theorem Fi(ck:CK fn pl rv)(h:∀r,x=Y r → TV.k7 ts → HR (λr=>BU rv (R r)) → WP (AV prog) pl ⟨BU rv (R r),λ_ _=>False,BU rv (R r)⟩ (C6 0 ts))(hf:prog.funcs[f]? =Y fn:=by rfl)(hb:fn.body=Y c:=by rfl)(hname:fn.name≠ "runtime.NumGoroutine" :=by decide)(hn:v? ts.length fn.ntmps=X:=by rfl)(hp:∀r,(R r).plain=X:=by exact λ_=>rfl):Ct prog x f ts R:=
  ⟨λr hr=>Fn ck (λhw=>h r hr hw ⟨⟩) hf hb hname hn (hp r)⟩
variable{us:α → Fq}
theorem qh{cs:List AQ}{cs':α → List AQ}(ck:CK fn pl rv)(nb:PC.pE pl=X/\PC.r0 i pl=X)(h:∀r,x=Y r → TV.k7 ts → (∀c∈cs,c.t.WF) → HR (λr=>BU rv (.bo cs (cs' r) i (us r))) → WP (AV prog) pl ⟨BU rv (.bo cs (cs' r) i (us r)),λ_ _=>False,BU rv (.bo cs (cs' r) i (us r))⟩ ((i,.bx cs)::C6 0 ts))(hf:prog.funcs[f]? =Y fn:=by rfl)(hb:fn.body=Y c:=by rfl)(hname:fn.name≠ "runtime.NumGoroutine" :=by decide)(hn:v? ts.length fn.ntmps=X:=by rfl):Ct prog x f ts (λr=> .bo cs (cs' r) i (us r)):=
  ⟨λr hr=>FnB ck nb (λhw hwc=>h r hr hw hwc ⟨⟩) hf hb hname hn⟩
theorem FnA{args:Fq}{cs:List AQ}(ck:CK fn pl rv)(nb:PC.pE pl=X)(h:TV.k7 args → (∀c∈cs,c.t.WF) → WP (AV prog) pl ⟨BU rv r,λ_ _=>False,BU rv r⟩ ((i,.vS cs)::C6 0 args))(hf:prog.funcs[f]? =Y fn:=by rfl)(hb:fn.body=Y c:=by rfl)(hname:fn.name≠ "runtime.NumGoroutine" :=by decide)(hn:v? args.length fn.ntmps=X:=by rfl)(hp:r.plain=X:=by rfl)(hlo:r.lone=T:=by rfl):AV prog f args (.ag cs i r):=by
  have h1:=ck.1;rw[hb]at h1;exact ki (Lq Sc.Tryz_follows) hf hb hname h1 ck.2 (w_ hn) nb hp hlo (λhw hwc=>(h hw hwc).out)
theorem zv{cs:List AQ}(ck:CK fn pl rv)(nb:PC.pE pl=X)(h:∀r,x=Y r → TV.k7 ts → (∀c∈cs,c.t.WF) → HR (λr=>BU rv (R r)) → WP (AV prog) pl ⟨BU rv (R r),λ_ _=>False,BU rv (R r)⟩ ((i,.vS cs)::C6 0 ts))(hf:prog.funcs[f]? =Y fn:=by rfl)(hb:fn.body=Y c:=by rfl)(hname:fn.name≠ "runtime.NumGoroutine" :=by decide)(hn:v? ts.length fn.ntmps=X:=by rfl)(hp:∀r,(R r).plain=X:=by exact λ_=>rfl)(hlo:∀r,(R r).lone=T:=by exact λ_=>rfl):Ct prog x f ts (λr=> .ag cs i (R r)):=
  ⟨λr hr=>FnA ck nb (λhw hwc=>h r hr hw hwc ⟨⟩) hf hb hname hn (hp r) (hlo r)⟩
theorem FiM{x:Option (BZ×Int)}(ck:CK fn pl rv)(h:∀r,x=Y r → TV.k7 ts → HR (λr=>BU rv (Nt r)) → WP (AV prog) pl ⟨BU rv (Nt r),λ_ _=>False,BU rv (Nt r)⟩ (C6 0 ts))(hf:prog.funcs[f]? =Y fn:=by rfl)(hb:fn.body=Y c:=by rfl)(hname:fn.name≠ "runtime.NumGoroutine" :=by decide)(hn:v? ts.length fn.ntmps=X:=by rfl):Ct prog x f ts Nt:=by
  refine ⟨λr hr=>?_⟩;have h0:=h r hr;have h1:=ck.1;rw[hb]at h1;by_cases he:r.2=0
  · have e:Nt r=.mpr r.1 [.int .i64 r.2]:=QQ he
    rw [e]at h0|-;exact km (Lq Sc.Tryz_follows) hf hb hname h1 ck.2 (w_ hn) (λhw=>(h0 hw ⟨⟩).out)
  · have e:Nt r=.tp [.undef,.int .i64 r.2]:=aE he
    rw [e]at h0|-;exact b6 (Lq Sc.Tryz_follows) hf hb hname h1 ck.2 (w_ hn) rfl (λhw=>(h0 hw ⟨⟩).out)
theorem AAD{cs:List AQ}{cs':α → List AQ}(ck:CK fn pl rv)(nb:PC.pE pl=X/\PC.r0 i pl=X)(h:∀r,x=Y r → TV.k7 ts → (∀c∈cs,c.t.WF) → WP (AV prog) pl ⟨dT rv cs (cs' r) i (us r),λ_ _=>False,dT rv cs (cs' r) i (us r)⟩ ((i,.bx cs)::C6 0 ts))(hf:prog.funcs[f]? =Y fn:=by rfl)(hb:fn.body=Y c:=by rfl)(hname:fn.name≠ "runtime.NumGoroutine" :=by decide)(hn:v? ts.length fn.ntmps=X:=by rfl):Ct prog x f ts (λr=> .bo cs (cs' r) i (us r)):=by
  refine ⟨λr hr=>?_⟩;have h1:=ck.1;rw[hb]at h1;exact jB (Lq Sc.Tryz_follows) hf hb hname h1 ck.2 (w_ hn) nb.1 nb.2 (λhw hwc=>(h r hr hw hwc).out)
def shB:Nat->Fq×List (Nat×Nat)
  |0=>([.str ⟨#[]⟩,.int .i64 0,.int .i64 0,.int .i64 0,.int .i64 0,.int .i64 0,.int .i64 0],[(0,1),(1,1),(2,1),(4,1),(6,1)])|1=>([.list 4 [],.list 7 []],[(0,1),(1,1)])|2=>([.list 1 [],.list 1 []],[(0,1),(1,1)])|3=>([.int .i64 0,.str ⟨#[]⟩,.int .i64 0],[(0,1),(1,1)])|4=>([.str ⟨#[]⟩,.int .i64 0,.int .i64 0,.list 1 []],[])|5=>([.list 1 [],.list 3 []],[])|6=>([.list 1 [],.list 1 []],[])|7=>([.int .i64 0,.int .i64 0,.int .i64 0],[(0,1),(1,1),(2,1)])|8=>([.list 1 [],.list 3 [],.list 4 [],.int .i64 0,.list 5 []],[(0,2)])|9=>([.int .i64 0,.list 9 [],.list 1 [],.list 1 [],.list 1 [],.list 3 [],.list 4 [],.int .i64 0,.list 5 []],[(0,1)])|10=>([.str ⟨#[]⟩,.list 1 [],.list 3 [],.list 4 [],.int .i64 0,.list 5 [],.list 1 [],.list 3 [],.list 4 [],.int .i64 0,.list 5 [],.list 1 [],.list 1 [],.list 1 [],.list 1 [],.bool T,.int .i64 0,.list 9 [],.list 1 [],.list 1 [],.list 1 [],.list 3 [],.list 4 [],.int .i64 0,.list 5 []],[(0,1),(1,5),(6,5),(11,2),(13,2),(15,1),(16,9)])|11=>([.str ⟨#[]⟩,.list 1 [],.list 3 [],.list 4 [],.int .i64 0,.list 5 [],.list 1 [],.list 3 [],.list 4 [],.int .i64 0,.list 5 [],.list 1 [],.list 1 [],.list 1 [],.list 1 [],.bool T,.int .i64 0,.list 9 [],.list 1 [],.list 1 [],.list 1 [],.list 3 [],.list 4 [],.int .i64 0,.list 5 []],[])|12=>([.list 1 [],.list 3 []],[(0,1),(1,1)])|13=>([.int .i64 0,.str ⟨#[]⟩,.int .i64 0],[])|14=>([.list 2 [],.list 3 []],[(0,1),(1,1)])|15=>([.int .i64 0,.int .i64 0],[(0,1),(1,1)])|16=>([.list 4 [],.list 7 [],.list 1 [],.list 3 [],.list 1 [],.list 3 [],.list 1 [],.list 1 [],.bool T,.int .i64 0,.nil],[(0,2),(2,2),(4,2),(6,2),(8,1),(9,1)])|17=>([.list 1 [],.list 1 [],.list 1 []],[(0,2),(2,1)])|18=>([.int .i64 0,.list 1 [],.list 1 [],.list 1 [],.list 5 []],[])|19=>([.int .i64 0,.list 1 [],.list 1 [],.list 1 [],.list 5 []],[(0,1),(4,1)])|20=>([.int .i64 0,.list 1 [],.list 1 [],.list 1 [],.list 5 []],[(1,3),(4,1)])|21=>([.list 1 [],.list 3 [],.list 1 []],[])|22=>([.str ⟨#[]⟩,.list 1 [],.list 3 [],.list 4 [],.int .i64 0,.list 5 [],.list 1 [],.list 3 [],.list 4 [],.int .i64 0,.list 5 [],.list 1 [],.list 1 [],.list 1 [],.list 1 [],.bool T,.int .i64 0,.list 9 [],.list 1 [],.list 1 [],.list 1 [],.list 3 [],.list 4 [],.int .i64 0,.list 5 [],.list 1 [],.list 1 [],.list 1 [],.list 1 [],.list 3 [],.list 1 [],.list 1 [],.list 3 [],.list 1 [],.list 1 [],.list 1 [],.list 1 [],.list 1 []],[])|23=>([.str ⟨#[]⟩,.list 1 [],.list 3 [],.list 4 [],.int .i64 0,.list 5 [],.list 1 [],.list 3 [],.list 4 [],.int .i64 0,.list 5 [],.list 1 [],.list 1 [],.list 1 [],.list 1 [],.bool T,.int .i64 0,.list 9 [],.list 1 [],.list 1 [],.list 1 [],.list 3 [],.list 4 [],.int .i64 0,.list 5 [],.list 1 [],.list 1 [],.list 1 [],.list 1 [],.list 3 [],.list 1 [],.list 1 [],.list 3 [],.list 1 [],.list 1 [],.list 1 [],.list 1 [],.list 1 []],[(0,25),(25,3),(28,3),(31,3),(34,2),(36,2)])|24=>([.list 1 [],.list 3 [],.list 1 [],.list 3 [],.list 1 [],.list 1 [],.list 1 [],.list 1 []],[(0,2),(2,2),(4,2),(6,2)])|25=>([.list 1 [],.list 3 [],.list 1 [],.list 3 [],.list 1 [],.list 1 [],.list 1 [],.bool T,.int .i64 0,.nil,.nil,.nil],[(0,2),(2,2),(4,1),(5,2),(7,1),(8,1)])|26=>([.list 4 [],.list 7 [],.list 1 [],.list 3 [],.list 1 [],.bool T],[(0,2),(2,3),(5,1)])|27=>([.str ⟨#[]⟩,.list 1 [],.list 3 [],.list 4 [],.int .i64 0,.list 5 [],.list 1 [],.list 3 [],.list 4 [],.int .i64 0,.list 5 [],.list 1 [],.list 1 [],.list 1 [],.list 1 [],.bool T,.int .i64 0,.list 9 [],.list 1 [],.list 1 [],.list 1 [],.list 3 [],.list 4 [],.int .i64 0,.list 5 [],.list 1 [],.list 1 [],.list 1 [],.list 1 [],.list 3 [],.list 1 [],.nil,.nil,.nil,.list 1 [],.list 1 [],.list 1 [],.list 1 []],[(0,25),(25,3),(28,3)])|28=>([.list 1 [],.list 1 [],.list 1 []],[(0,2)])|_=>([],[])
def shC:Nat->List AQ
  |0=>[⟨T,.str ⟨#[]⟩⟩,⟨T,.int .i64 0⟩,⟨T,.int .i64 0⟩,⟨T,.int .i64 0⟩,⟨T,.int .i64 0⟩,⟨T,.int .i64 0⟩,⟨T,.int .i64 0⟩]|1=>[⟨X,.list 4 []⟩,⟨X,.list 7 []⟩]|2=>[⟨X,.list 1 []⟩,⟨X,.list 1 []⟩]|3=>[⟨T,.str ⟨#[]⟩⟩,⟨T,.int .i64 0⟩,⟨T,.bool T⟩,⟨X,.list 4 []⟩]|4=>[⟨T,.str ⟨#[]⟩⟩,⟨T,.int .i64 0⟩,⟨T,.int .i64 0⟩,⟨X,.list 1 []⟩]|5=>[⟨T,.int .i64 0⟩,⟨T,.int .i64 0⟩,⟨T,.int .i64 0⟩,⟨T,.int .i64 0⟩,⟨T,.int .i64 0⟩]|6=>[⟨T,.int .i64 0⟩,⟨T,.int .i64 0⟩,⟨T,.int .i64 0⟩,⟨T,.int .i64 0⟩]|7=>[⟨T,.int .i64 0⟩,⟨T,.int .i64 0⟩]|8=>[⟨X,.list 1 []⟩,⟨X,.list 3 []⟩]|9=>[⟨T,.int .i64 0⟩,⟨T,.int .i64 0⟩,⟨T,.int .i64 0⟩]|10=>[⟨X,.list 1 []⟩,⟨X,.list 3 []⟩,⟨X,.list 4 []⟩,⟨T,.int .i64 0⟩,⟨X,.list 5 []⟩]|11=>[⟨T,.int .i64 0⟩,⟨X,.list 9 []⟩,⟨X,.list 1 []⟩,⟨X,.list 1 []⟩,⟨X,.list 1 []⟩,⟨X,.list 3 []⟩,⟨X,.list 4 []⟩,⟨T,.int .i64 0⟩,⟨X,.list 5 []⟩]|12=>[⟨T,.int .i64 0⟩]|13=>[⟨X,.list 1 []⟩,⟨X,.list 3 []⟩,⟨X,.list 1 []⟩,⟨X,.list 1 []⟩]|14=>[⟨T,.str ⟨#[]⟩⟩,⟨X,.list 1 []⟩,⟨X,.list 3 []⟩,⟨X,.list 4 []⟩,⟨T,.int .i64 0⟩,⟨X,.list 5 []⟩,⟨X,.list 1 []⟩,⟨X,.list 3 []⟩,⟨X,.list 4 []⟩,⟨T,.int .i64 0⟩,⟨X,.list 5 []⟩,⟨X,.list 1 []⟩,⟨X,.list 1 []⟩,⟨X,.list 1 []⟩,⟨X,.list 1 []⟩,⟨T,.bool T⟩,⟨T,.int .i64 0⟩,⟨X,.list 9 []⟩,⟨X,.list 1 []⟩,⟨X,.list 1 []⟩,⟨X,.list 1 []⟩,⟨X,.list 3 []⟩,⟨X,.list 4 []⟩,⟨T,.int .i64 0⟩,⟨X,.list 5 []⟩]|15=>[⟨T,.int .i64 0⟩,⟨T,.str ⟨#[]⟩⟩,⟨T,.int .i64 0⟩]|16=>[⟨X,.list 1 []⟩,⟨X,.list 3 []⟩,⟨X,.list 1 []⟩]|17=>[⟨X,.xl 1 []⟩,⟨X,.xl 3 []⟩]|18=>[⟨T,.int .i64 0⟩,⟨X,.list 1 []⟩,⟨X,.list 1 []⟩,⟨X,.list 1 []⟩,⟨X,.list 5 []⟩]|19=>[⟨X,.list 1 []⟩,⟨X,.list 3 []⟩,⟨X,.xn []⟩]|20=>[⟨T,.str ⟨#[]⟩⟩,⟨X,.list 1 []⟩,⟨X,.list 3 []⟩,⟨X,.list 4 []⟩,⟨T,.int .i64 0⟩,⟨X,.list 5 []⟩,⟨X,.list 1 []⟩,⟨X,.list 3 []⟩,⟨X,.list 4 []⟩,⟨T,.int .i64 0⟩,⟨X,.list 5 []⟩,⟨X,.list 1 []⟩,⟨X,.list 1 []⟩,⟨X,.list 1 []⟩,⟨X,.list 1 []⟩,⟨T,.bool T⟩,⟨T,.int .i64 0⟩,⟨X,.list 9 []⟩,⟨X,.list 1 []⟩,⟨X,.list 1 []⟩,⟨X,.list 1 []⟩,⟨X,.list 3 []⟩,⟨X,.list 4 []⟩,⟨T,.int .i64 0⟩,⟨X,.list 5 []⟩,⟨X,.list 1 []⟩,⟨X,.list 1 []⟩,⟨X,.list 1 []⟩,⟨X,.list 1 []⟩,⟨X,.list 3 []⟩,⟨X,.list 1 []⟩,⟨X,.list 1 []⟩,⟨X,.list 3 []⟩,⟨X,.list 1 []⟩,⟨X,.list 1 []⟩,⟨X,.list 1 []⟩,⟨X,.list 1 []⟩,⟨X,.list 1 []⟩]|21=>[⟨X,.xl 1 []⟩,⟨X,.xl 1 []⟩]|22=>[⟨X,.list 1 []⟩,⟨X,.list 3 []⟩,⟨X,.list 1 []⟩,⟨X,.list 3 []⟩,⟨X,.list 1 []⟩,⟨X,.list 1 []⟩,⟨X,.list 1 []⟩,⟨X,.list 1 []⟩]|23=>[⟨X,.list 1 []⟩,⟨X,.list 1 []⟩,⟨X,.list 1 []⟩]|24=>[⟨T,.str ⟨#[]⟩⟩,⟨X,.list 1 []⟩,⟨X,.list 3 []⟩,⟨X,.list 4 []⟩,⟨T,.int .i64 0⟩,⟨X,.list 5 []⟩,⟨X,.list 1 []⟩,⟨X,.list 3 []⟩,⟨X,.list 4 []⟩,⟨T,.int .i64 0⟩,⟨X,.list 5 []⟩,⟨X,.list 1 []⟩,⟨X,.list 1 []⟩,⟨X,.list 1 []⟩,⟨X,.list 1 []⟩,⟨T,.bool T⟩,⟨T,.int .i64 0⟩,⟨X,.list 9 []⟩,⟨X,.list 1 []⟩,⟨X,.list 1 []⟩,⟨X,.list 1 []⟩,⟨X,.list 3 []⟩,⟨X,.list 4 []⟩,⟨T,.int .i64 0⟩,⟨X,.list 5 []⟩,⟨X,.list 1 []⟩,⟨X,.list 1 []⟩,⟨X,.list 1 []⟩,⟨X,.list 1 []⟩,⟨X,.list 3 []⟩,⟨X,.list 1 []⟩,⟨X,.list 1 []⟩,⟨X,.list 3 []⟩,⟨X,.xn []⟩,⟨X,.list 1 []⟩,⟨X,.list 1 []⟩,⟨X,.list 1 []⟩,⟨X,.list 1 []⟩]|25=>[⟨X,.list 1 []⟩,⟨X,.xl 1 []⟩]|_=>[]
def OK:fD:=⟨shB,shC⟩
def bT:Nat:=0x6a5b69650789827c01bd5b03810a014a5c5881828a053838015503008d30044b466d939209c909080444014c809002c904430b5a04010f0e5b6e264b850b0478054b9b835d309330064281016c325f7603785fffa142194403040d0c880e05010000973202428a7469030000800e00003832000048a9930000000a09000000005c018c028105034b75ff32010a0e066a080e014281550201757669040000000000000944380100008100014738555b42024b0a05000000008181030300005a01000000000000818b0544000000004159300500000000000060005d010e3800000000650b300000000000060500000000000000000807000000000000016d0000000000006f7300000000000043013141ff555f01050b010e00000000000011114201855e0359034405040100000000000000ff85000000000000000093933c58018131433142030203320041010500000000ff810000000000000000000000000000000000000000000000000000000000000000000000000000000000000000000000000000000000000000024400000000000000000000004203010101000000000000000000000000000000000000000000000000000000000000000000000000000000000000000000000000000000000000000000000000000000000000000000000000000000000000000000000000000000000000000000000000
theorem nz{P:Prop}(p:P:=by
  intros
  conv=>
    arg 2
    conv=>
      enter [2]
      whnf
    conv=>
      enter [3]
      whnf
    simp only[PC.of,dC,np,nk,ux,qw,z7,z8,z6,qv,uw,dUn,TH,ak,bf,zy,iv,oP,tP,a0,a1,Sh,q8,ul,oO,cV,OK,shB,shC,Nat.reduceDiv,Nat.reduceMod,Nat.reduceMul,Nat.reduceEqDiff,↓reduceIte,List.nil_append,List.cons_append,Bool.or_true,Bool.true_or,Bool.or_false,Bool.false_or,Bool.or_self]
  exact au):P:=p
def Mh:List ResultVar->List RV
  |.tmp s::r=>.tmp s::Mh r|_=>[]
theorem Fk(fn:Func)(s:Nat)(ζ:List AE)(rv:List RV)(h:∀r,x=Y r → TV.k7 ts → HR (λr=>BU rv (R r)) → WP (AV prog) (PC.of OK fn.body (xq bT s) ζ) ⟨BU rv (R r),λ_ _=>False,BU rv (R r)⟩ (C6 0 ts))(hb:fn.body=Y c:=by rfl)(ck:CK fn (PC.of OK fn.body (xq bT s) ζ) rv:=by decide +kernel)(hf:prog.funcs[f]? =Y fn:=by rfl)(hname:fn.name≠ "runtime.NumGoroutine" :=by decide)(hn:v? ts.length fn.ntmps=X:=by rfl)(hp:∀r,(R r).plain=X:=by exact λ_=>rfl):Ct prog x f ts R:=
  Fi ck h hf hb hname hn hp
theorem Fj(fn:Func)(s:Nat)(ζ:List AE)(h:∀{r},x=Y r → ∀{_:TV.k7 ts}{_:HR λr=>BU (Mh fn.results.toList) (R r)},WP (AV prog) (PC.of OK fn.body (xq bT s) ζ) ⟨BU (Mh fn.results.toList) (R r),λ_ _=>False,BU (Mh fn.results.toList) (R r)⟩ (C6 0 ts))(hb:fn.body=Y c:=by rfl)(ck:CK fn (PC.of OK fn.body (xq bT s) ζ) (Mh fn.results.toList):=by decide +kernel)(hf:prog.funcs[f]? =Y fn:=by rfl)(hname:fn.name≠ "runtime.NumGoroutine" :=by decide)(hn:v? ts.length fn.ntmps=X:=by rfl)(hp:∀r,(R r).plain=X:=by exact λ_=>rfl):Ct prog x f ts R:=
  Fk fn s ζ _ (λr e a b=>@h r e a b) hb ck hf hname hn hp
variable{y:Option α}
theorem Fe{R:α->At}(fn:Func)(s:Nat)(ζ:List AE)(E:x=y)(h:∀r,y=Y r->TV.k7 ts->HR (λr=>BU (Mh fn.results.toList) (R r))->WP (AV prog) (PC.of OK fn.body (xq bT s) ζ) ⟨BU (Mh fn.results.toList) (R r),λ_ _=>False,BU (Mh fn.results.toList) (R r)⟩ (C6 0 ts):=by
  intro r h _ _;exact nz)(hb:fn.body=Y c:=by rfl)(ck:CK fn (PC.of OK fn.body (xq bT s) ζ) (Mh fn.results.toList):=by decide +kernel)(hf:prog.funcs[f]? =Y fn:=by rfl)(hname:fn.name≠ "runtime.NumGoroutine" :=by decide)(hn:v? ts.length fn.ntmps=X:=by rfl)(hp:∀r,(R r).plain=X:=by exact λ_=>rfl):Ct prog x f ts R:=
  Fk fn s ζ _ (λr e a b=>h r (E.symm.trans e) a b) hb ck hf hname hn hp
variable{H1:Prop}
theorem B0{R:α->At}(fn:Func)(s:Nat)(ζ:List AE)(E:x=y)(i1:H1)(h:H1->∀r,y=Y r->TV.k7 ts->HR (λr=>BU (Mh fn.results.toList) (R r))->WP (AV prog) (PC.of OK fn.body (xq bT s) ζ) ⟨BU (Mh fn.results.toList) (R r),λ_ _=>False,BU (Mh fn.results.toList) (R r)⟩ (C6 0 ts):=by
  intro _ r h _ _;exact nz)(hb:fn.body=Y c:=by rfl)(ck:CK fn (PC.of OK fn.body (xq bT s) ζ) (Mh fn.results.toList):=by decide +kernel)(hf:prog.funcs[f]? =Y fn:=by rfl)(hname:fn.name≠ "runtime.NumGoroutine" :=by decide)(hn:v? ts.length fn.ntmps=X:=by rfl)(hp:∀r,(R r).plain=X:=by exact λ_=>rfl):Ct prog x f ts R:=
  Fk fn s ζ _ (λr e a b=>h i1 r (E.symm.trans e) a b) hb ck hf hname hn hp
variable{H2:Prop}
theorem H6{R:α->At}(fn:Func)(s:Nat)(ζ:List AE)(E:x=y)(i1:H1)(i2:H2)(h:H1->H2->∀r,y=Y r->TV.k7 ts->HR (λr=>BU (Mh fn.results.toList) (R r))->WP (AV prog) (PC.of OK fn.body (xq bT s) ζ) ⟨BU (Mh fn.results.toList) (R r),λ_ _=>False,BU (Mh fn.results.toList) (R r)⟩ (C6 0 ts):=by
  intro _ _ r h _ _;exact nz)(hb:fn.body=Y c:=by rfl)(ck:CK fn (PC.of OK fn.body (xq bT s) ζ) (Mh fn.results.toList):=by decide +kernel)(hf:prog.funcs[f]? =Y fn:=by rfl)(hname:fn.name≠ "runtime.NumGoroutine" :=by decide)(hn:v? ts.length fn.ntmps=X:=by rfl)(hp:∀r,(R r).plain=X:=by exact λ_=>rfl):Ct prog x f ts R:=
  Fk fn s ζ _ (λr e a b=>h i1 i2 r (E.symm.trans e) a b) hb ck hf hname hn hp
theorem qf{H3:Prop}{R:α->At}(fn:Func)(s:Nat)(ζ:List AE)(E:x=y)(i1:H1)(i2:H2)(i3:H3)(h:H1->H2->H3->∀r,y=Y r->TV.k7 ts->HR (λr=>BU (Mh fn.results.toList) (R r))->WP (AV prog) (PC.of OK fn.body (xq bT s) ζ) ⟨BU (Mh fn.results.toList) (R r),λ_ _=>False,BU (Mh fn.results.toList) (R r)⟩ (C6 0 ts):=by
  intro _ _ _ r h _ _;exact nz)(hb:fn.body=Y c:=by rfl)(ck:CK fn (PC.of OK fn.body (xq bT s) ζ) (Mh fn.results.toList):=by decide +kernel)(hf:prog.funcs[f]? =Y fn:=by rfl)(hname:fn.name≠ "runtime.NumGoroutine" :=by decide)(hn:v? ts.length fn.ntmps=X:=by rfl)(hp:∀r,(R r).plain=X:=by exact λ_=>rfl):Ct prog x f ts R:=
  Fk fn s ζ _ (λr e a b=>h i1 i2 i3 r (E.symm.trans e) a b) hb ck hf hname hn hp
def vX{σ:Type}(c:Nat)(f:σ->List (Nat×EV)):Int->σ->List (Nat×EV):=λi s=>(c,.tv (eI i))::f s
theorem BG(n c q i:Nat){σ:Type}(f:σ->List (Nat×EV)):HA n c q i (vX c f):=⟨⟩
theorem BA(n c q i:Nat):HA n c q i (vX c λ_:Unit=>[]):=⟨⟩
abbrev CT{α:Type}(x:Option α)(f:outParam FuncId)(ts:outParam Fq)(R:outParam (α->At)):Prop:=Ct prog x f ts R
abbrev rB:Bool->At:=λr=>.sh (eB r)
abbrev rI:Int->At:=λr=>.sh (eI r)
abbrev rO{α:Type}(e:α->TV):α->At:=λr=>.own (e r)
abbrev rS{α:Type}(e:α->TV):α->At:=λr=>.sh (e r)
abbrev rT{α β:Type}(e:α->TV)(f:β->TV):α×β->At:=λr=>.tp [e r.1,f r.2]
abbrev hO{α:Type}(k:Nat)(e:α->TV):α->List (Nat×EV):=λs=>[(k,.ow (e s))]
abbrev hT{α:Type}(k:Nat)(e:α->TV):α->List (Nat×EV):=λs=>[(k,.tv (e s))]
abbrev hX{α:Type}(k n:Nat)(e:α->TV):List α->List (Nat×EV):=λs=>[(k,.xo n (List.map e s))]
end Go.Sf.Sc
