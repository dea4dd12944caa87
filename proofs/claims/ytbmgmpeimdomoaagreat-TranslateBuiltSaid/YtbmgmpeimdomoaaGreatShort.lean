/- Shorter names for the shapes of rows, and how structs are read. -/
import Derived.Test.YtbmgmpeimdomoaaGreatSfAuto
import Derived.Test.YtbmgmpeimdomoaaGreatSfDec
import Derived.Test.YtbmgmpeimdomoaaGreatFns
set_option linter.all false
set_option maxRecDepth 100000
open Option renaming some->Y
open Bool renaming true->X,false->T
open Nat renaming ble->w!,le_of_ble_eq_true->w?
namespace Go.Sf
abbrev Rq(o:List PR)(l:I2)(b:PC):PC:=.seq (.region o l) b
abbrev Sq(a b:PC):PC:=.seq a b
abbrev Re(o:List PR)(l:I2):PC:=.region o l
abbrev Dr(d:I2)(o:List PR)(l:I2):PC:=.draw d o l
abbrev Sk(l:I2):PC:=.skip l
abbrev Ex(i:Nat)(l:I2):PC:=.exit i l
abbrev Co(c:Nat)(a b:PC):PC:=.cond (.s c) a b
abbrev Bl(i:Nat)(a:PC):PC:=.block i a
abbrev Lo(l:I2)(a:PC):PC:=.loop l a
abbrev Aa(x0 x1:Nat):PR:=⟨Y x0,.mv (.s x1),none⟩
abbrev Ab(x0 x1:Nat):PR:=⟨Y x0,.tk x1,none⟩
abbrev Ac(x0 x1:Nat):PR:=⟨Y x0,.Abp (.s x1),none⟩
abbrev Ad(x0 x1 x2:Nat):PR:=⟨Y x0,.lda (.s x1) x2,none⟩
abbrev Ae(x0 x1 x2:Nat):PR:=⟨Y x0,.fad (.s x1) x2,none⟩
abbrev Af(x0:Nat)(x1:Int):PR:=⟨Y x0,.mv (.c (.int .i64 x1)),none⟩
end Go.Sf
namespace Go.Sf.Sc
open Go Go.Sf Go.Proofs.Tryz
instance(l:List bq):Ml (Jv l) AQ l:=⟨MI l⟩
instance(l:List BD):Ml (PA l) E7 l:=⟨TG l⟩
instance:En bq AQ:=⟨⟩
instance:En BD E7:=⟨⟩
instance:Fl AQ 9 Fo:=⟨Rg⟩
instance:Fl E7 5 Ie:=⟨eG⟩
instance:j8 B6:=⟨λl=>match l with|[.int _ x0,.int _ x1,.int _ x2]=>Bw.mk x0 x1 x2|_=>Bw.mk 0 0 0,λa b=>⟨inferInstance,na a b⟩⟩
abbrev CK(fn:Func)(pl:PC)(rv:List RV):Prop:=Ds prog fn.ntmps (Uo prog fn.ntmps) pl (fn.body.getD .skip)=X/\Gr prog fn.results.toList rv=X
variable{f:FuncId}{fn:Func}{c:Code}{pl:PC}{rv:List RV}{r:As}
theorem Fn{args:Fq}(ck:CK fn pl rv)(h:TV.ns args → WP (AS prog) pl ⟨BQ rv r,λ_ _=>False,BQ rv r⟩ (DL 0 args))(hf:prog.funcs[f]? =Y fn:=by rfl)(hb:fn.body=Y c:=by rfl)(hname:fn.name≠ "runtime.NumGoroutine" :=by decide)(hn:w! args.length fn.ntmps=X:=by rfl)(hp:r.plain=X:=by rfl):AS prog f args r:=by
  have h1:=ck.1;rw[hb]at h1;exact b9 (MH Sc.Tryz_follows) hf hb hname h1 ck.2 (w? hn) hp (λhw=>(h hw).out)
variable{i:Nat}
theorem FnB{args:Fq}{cs cs':List AO}{us:Fq}(ck:CK fn pl rv)(nb:PC.sx pl=X/\PC.tl i pl=X)(h:TV.ns args → (∀c∈cs,c.t.WF) → WP (AS prog) pl ⟨BQ rv (.bo cs cs' i us),λ_ _=>False,BQ rv (.bo cs cs' i us)⟩ ((i,.bx cs)::DL 0 args))(hf:prog.funcs[f]? =Y fn:=by rfl)(hb:fn.body=Y c:=by rfl)(hname:fn.name≠ "runtime.NumGoroutine" :=by decide)(hn:w! args.length fn.ntmps=X:=by rfl):AS prog f args (.bo cs cs' i us):=by
  have h1:=ck.1;rw[hb]at h1;exact kU (MH Sc.Tryz_follows) hf hb hname h1 ck.2 (w? hn) nb.1 nb.2 (λhw hwc=>(h hw hwc).out)
variable{α:Type}{x:Option α}{ts:Fq}{R:α → As}
theorem Fi(ck:CK fn pl rv)(h:∀r,x=Y r → TV.ns ts → HR (λr=>BQ rv (R r)) → WP (AS prog) pl ⟨BQ rv (R r),λ_ _=>False,BQ rv (R r)⟩ (DL 0 ts))(hf:prog.funcs[f]? =Y fn:=by rfl)(hb:fn.body=Y c:=by rfl)(hname:fn.name≠ "runtime.NumGoroutine" :=by decide)(hn:w! ts.length fn.ntmps=X:=by rfl)(hp:∀r,(R r).plain=X:=by exact λ_=>rfl):Ct prog x f ts R:=
  ⟨λr hr=>Fn ck (λhw=>h r hr hw ⟨⟩) hf hb hname hn (hp r)⟩
variable{us:α → Fq}
theorem av{cs:List AO}{cs':α → List AO}(ck:CK fn pl rv)(nb:PC.sx pl=X/\PC.tl i pl=X)(h:∀r,x=Y r → TV.ns ts → (∀c∈cs,c.t.WF) → HR (λr=>BQ rv (.bo cs (cs' r) i (us r))) → WP (AS prog) pl ⟨BQ rv (.bo cs (cs' r) i (us r)),λ_ _=>False,BQ rv (.bo cs (cs' r) i (us r))⟩ ((i,.bx cs)::DL 0 ts))(hf:prog.funcs[f]? =Y fn:=by rfl)(hb:fn.body=Y c:=by rfl)(hname:fn.name≠ "runtime.NumGoroutine" :=by decide)(hn:w! ts.length fn.ntmps=X:=by rfl):Ct prog x f ts (λr=> .bo cs (cs' r) i (us r)):=
  ⟨λr hr=>FnB ck nb (λhw hwc=>h r hr hw hwc ⟨⟩) hf hb hname hn⟩
theorem FnA{args:Fq}{cs:List AO}(ck:CK fn pl rv)(nb:PC.sx pl=X)(h:TV.ns args → (∀c∈cs,c.t.WF) → WP (AS prog) pl ⟨BQ rv r,λ_ _=>False,BQ rv r⟩ ((i,.oag cs)::DL 0 args))(hf:prog.funcs[f]? =Y fn:=by rfl)(hb:fn.body=Y c:=by rfl)(hname:fn.name≠ "runtime.NumGoroutine" :=by decide)(hn:w! args.length fn.ntmps=X:=by rfl)(hp:r.plain=X:=by rfl)(hlo:r.lone=T:=by rfl):AS prog f args (.ag cs i r):=by
  have h1:=ck.1;rw[hb]at h1;exact kT (MH Sc.Tryz_follows) hf hb hname h1 ck.2 (w? hn) nb hp hlo (λhw hwc=>(h hw hwc).out)
theorem zh{cs:List AO}(ck:CK fn pl rv)(nb:PC.sx pl=X)(h:∀r,x=Y r → TV.ns ts → (∀c∈cs,c.t.WF) → HR (λr=>BQ rv (R r)) → WP (AS prog) pl ⟨BQ rv (R r),λ_ _=>False,BQ rv (R r)⟩ ((i,.oag cs)::DL 0 ts))(hf:prog.funcs[f]? =Y fn:=by rfl)(hb:fn.body=Y c:=by rfl)(hname:fn.name≠ "runtime.NumGoroutine" :=by decide)(hn:w! ts.length fn.ntmps=X:=by rfl)(hp:∀r,(R r).plain=X:=by exact λ_=>rfl)(hlo:∀r,(R r).lone=T:=by exact λ_=>rfl):Ct prog x f ts (λr=> .ag cs i (R r)):=
  ⟨λr hr=>FnA ck nb (λhw hwc=>h r hr hw hwc ⟨⟩) hf hb hname hn (hp r) (hlo r)⟩
theorem FiM{x:Option (BW×Int)}(ck:CK fn pl rv)(h:∀r,x=Y r → TV.ns ts → HR (λr=>BQ rv (OT r)) → WP (AS prog) pl ⟨BQ rv (OT r),λ_ _=>False,BQ rv (OT r)⟩ (DL 0 ts))(hf:prog.funcs[f]? =Y fn:=by rfl)(hb:fn.body=Y c:=by rfl)(hname:fn.name≠ "runtime.NumGoroutine" :=by decide)(hn:w! ts.length fn.ntmps=X:=by rfl):Ct prog x f ts OT:=by
  refine ⟨λr hr=>?_⟩;have h0:=h r hr;have h1:=ck.1;rw[hb]at h1;by_cases he:r.2=0
  · have e:OT r=.mpr r.1 [.int .i64 r.2]:=Ne he
    rw [e]at h0|-;exact kV (MH Sc.Tryz_follows) hf hb hname h1 ck.2 (w? hn) (λhw=>(h0 hw ⟨⟩).out)
  · have e:OT r=.tp [.undef,.int .i64 r.2]:=QQ he
    rw [e]at h0|-;exact b9 (MH Sc.Tryz_follows) hf hb hname h1 ck.2 (w? hn) rfl (λhw=>(h0 hw ⟨⟩).out)
theorem AAB{cs:List AO}{cs':α → List AO}(ck:CK fn pl rv)(nb:PC.sx pl=X/\PC.tl i pl=X)(h:∀r,x=Y r → TV.ns ts → (∀c∈cs,c.t.WF) → WP (AS prog) pl ⟨dQ rv cs (cs' r) i (us r),λ_ _=>False,dQ rv cs (cs' r) i (us r)⟩ ((i,.bx cs)::DL 0 ts))(hf:prog.funcs[f]? =Y fn:=by rfl)(hb:fn.body=Y c:=by rfl)(hname:fn.name≠ "runtime.NumGoroutine" :=by decide)(hn:w! ts.length fn.ntmps=X:=by rfl):Ct prog x f ts (λr=> .bo cs (cs' r) i (us r)):=by
  refine ⟨λr hr=>?_⟩;have h1:=ck.1;rw[hb]at h1;exact ig (MH Sc.Tryz_follows) hf hb hname h1 ck.2 (w? hn) nb.1 nb.2 (λhw hwc=>(h r hr hw hwc).out)
def zx:Nat->Fq×List (Nat×Nat)
  |0=>([.int .i64 0,.str ⟨#[]⟩,.int .i64 0],[(0,1),(1,1)])|1=>([.list 1 [],.list 1 []],[])|2=>([.list 1 [],.list 1 []],[(0,1),(1,1)])|3=>([.str ⟨#[]⟩,.int .i64 0,.int .i64 0,.list 1 []],[])|4=>([.list 1 [],.list 3 []],[])|5=>([.int .i64 0,.int .i64 0],[(0,1),(1,1)])|6=>([.list 1 [],.list 3 [],.list 1 [],.list 3 [],.list 1 [],.list 1 [],.list 1 [],.list 1 []],[(0,2),(2,2),(4,2),(6,2)])|7=>([.int .i64 0,.int .i64 0,.int .i64 0],[(0,1),(1,1),(2,1)])|8=>([.list 1 [],.list 3 [],.list 1 [],.list 3 [],.list 1 [],.nil,.nil,.bool T,.int .i64 0,.nil,.nil,.nil],[(0,2),(2,2),(4,1),(5,2),(7,1),(8,1)])|9=>([.list 1 [],.list 1 [],.list 1 []],[(0,2),(2,1)])|10=>([.int .i64 0,.list 1 [],.list 1 [],.list 1 [],.list 5 []],[])|11=>([.int .i64 0,.list 1 [],.list 1 [],.list 1 [],.list 5 []],[(0,1),(4,1)])|12=>([.int .i64 0,.list 1 [],.list 1 [],.list 1 [],.list 5 []],[(1,3),(4,1)])|13=>([.list 4 [],.list 7 [],.list 1 [],.list 3 [],.list 1 [],.bool T],[(0,2),(2,3),(5,1)])|14=>([.str ⟨#[]⟩,.list 1 [],.list 3 [],.list 4 [],.int .i64 0,.list 5 [],.list 1 [],.list 3 [],.list 4 [],.int .i64 0,.list 5 [],.list 1 [],.list 1 [],.list 1 [],.list 1 [],.bool T,.int .i64 0,.list 9 [],.list 1 [],.list 1 [],.list 1 [],.list 3 [],.list 4 [],.int .i64 0,.list 5 [],.list 1 [],.list 1 [],.list 1 [],.list 1 [],.list 3 [],.list 1 [],.list 1 [],.list 3 [],.list 1 [],.list 1 [],.list 1 [],.list 1 [],.list 1 []],[])|15=>([.str ⟨#[]⟩,.list 1 [],.list 3 [],.list 4 [],.int .i64 0,.list 5 [],.list 1 [],.list 3 [],.list 4 [],.int .i64 0,.list 5 [],.list 1 [],.list 1 [],.list 1 [],.list 1 [],.bool T,.int .i64 0,.list 9 [],.list 1 [],.list 1 [],.list 1 [],.list 3 [],.list 4 [],.int .i64 0,.list 5 [],.list 1 [],.list 1 [],.list 1 [],.list 1 [],.list 3 [],.list 1 [],.nil,.nil,.nil,.list 1 [],.list 1 [],.list 1 [],.list 1 []],[(0,25),(25,3),(28,3)])|16=>([.list 4 [],.list 7 [],.list 1 [],.list 1 [],.list 25 []],[(0,2),(2,2),(4,1)])|17=>([.list 1 [],.list 3 [],.list 1 []],[])|18=>([.nil,.nil],[])|19=>([.list 1 [],.list 1 [],.list 1 []],[(0,2)])|20=>([.int .i64 0,.list 1 [],.list 1 [],.list 1 []],[(0,1),(1,3)])|21=>([.list 1 [],.list 3 [],.list 1 []],[(0,2),(2,1)])|22=>([.list 1 [],.list 3 [],.list 1 [],.list 4 [],.list 1 [],.list 1 []],[(0,3),(3,1),(4,2)])|23=>([.list 1 [],.list 3 []],[(0,1),(1,1)])|24=>([.list 1 [],.list 3 [],.list 1 [],.list 1 [],.list 4 [],.list 1 [],.list 1 []],[(0,2),(2,1),(3,1)])|25=>([.list 4 [],.list 7 [],.list 1 [],.list 1 [],.list 25 [],.list 1 [],.int .i64 0,.list 1 [],.list 3 [],.list 1 [],.list 4 [],.list 1 [],.list 1 [],.int .i64 0],[(0,5),(5,1)])|26=>([.list 1 [],.list 3 [],.list 1 [],.list 4 [],.list 1 [],.list 1 []],[])|27=>([.str ⟨#[]⟩,.int .i64 0,.int .i64 0,.int .i64 0,.int .i64 0,.int .i64 0,.int .i64 0],[(0,1),(1,1),(2,1),(4,1),(6,1)])|28=>([.list 4 [],.list 7 []],[(0,1),(1,1)])|29=>([.int .i64 0,.str ⟨#[]⟩,.int .i64 0],[])|30=>([.list 1 [],.list 3 [],.list 4 [],.int .i64 0,.list 5 []],[(0,2)])|31=>([.int .i64 0,.list 9 [],.list 1 [],.list 1 [],.list 1 [],.list 3 [],.list 4 [],.int .i64 0,.list 5 []],[(0,1)])|32=>([.str ⟨#[]⟩,.list 1 [],.list 3 [],.list 4 [],.int .i64 0,.list 5 [],.list 1 [],.list 3 [],.list 4 [],.int .i64 0,.list 5 [],.list 1 [],.list 1 [],.list 1 [],.list 1 [],.bool T,.int .i64 0,.list 9 [],.list 1 [],.list 1 [],.list 1 [],.list 3 [],.list 4 [],.int .i64 0,.list 5 []],[(0,1),(1,5),(6,5),(11,2),(13,2),(15,1),(16,9)])|33=>([.list 2 [],.list 3 []],[(0,1),(1,1)])|34=>([.int .u8 0,.int .u8 0,.int .u8 0],[(0,1),(1,1),(2,1)])|35=>([.list 2 [],.list 3 [],.list 1 [],.list 3 []],[(2,1),(3,1)])|36=>([.int .u8 0,.int .u8 0],[(0,1),(1,1)])|37=>([.list 2 [],.list 3 [],.list 1 [],.list 3 []],[(0,2),(2,1),(3,1)])|38=>([.int .i64 0,.int .i64 0,.int .i64 0],[(1,1),(2,1)])|39=>([.list 1 [],.list 3 []],[(0,1)])|40=>([.str ⟨#[]⟩,.list 1 [],.list 3 [],.list 4 [],.int .i64 0,.list 5 [],.list 1 [],.list 3 [],.list 4 [],.int .i64 0,.list 5 [],.list 1 [],.list 1 [],.list 1 [],.list 1 [],.bool T,.int .i64 0,.list 9 [],.list 1 [],.list 1 [],.list 1 [],.list 3 [],.list 4 [],.int .i64 0,.list 5 []],[])
  |41=>([.list 4 [],.list 7 [],.list 1 [],.list 3 [],.list 1 [],.list 3 [],.list 1 [],.list 1 [],.bool T,.int .i64 0,.nil],[(0,2),(2,2),(4,2),(6,2),(8,1),(9,1)])|42=>([.str ⟨#[]⟩,.list 1 [],.list 3 [],.list 4 [],.int .i64 0,.list 5 [],.list 1 [],.list 3 [],.list 4 [],.int .i64 0,.list 5 [],.list 1 [],.list 1 [],.list 1 [],.list 1 [],.bool T,.int .i64 0,.list 9 [],.list 1 [],.list 1 [],.list 1 [],.list 3 [],.list 4 [],.int .i64 0,.list 5 [],.list 1 [],.list 1 [],.list 1 [],.list 1 [],.list 3 [],.list 1 [],.list 1 [],.list 3 [],.list 1 [],.list 1 [],.list 1 [],.list 1 [],.list 1 []],[(0,25),(25,3),(28,3),(31,3),(34,2),(36,2)])|_=>([],[])
def zy:Nat->List AO
  |0=>[⟨T,.str ⟨#[]⟩⟩,⟨T,.int .i64 0⟩,⟨T,.bool T⟩,⟨X,.list 4 []⟩]|1=>[⟨T,.str ⟨#[]⟩⟩,⟨T,.int .i64 0⟩,⟨T,.int .i64 0⟩,⟨T,.int .i64 0⟩,⟨T,.int .i64 0⟩,⟨T,.int .i64 0⟩,⟨T,.int .i64 0⟩]|2=>[⟨X,.list 1 []⟩,⟨X,.list 1 []⟩]|3=>[⟨T,.str ⟨#[]⟩⟩,⟨T,.int .i64 0⟩,⟨T,.int .i64 0⟩,⟨X,.list 1 []⟩]|4=>[⟨T,.int .i64 0⟩,⟨T,.int .i64 0⟩,⟨T,.int .i64 0⟩,⟨T,.int .i64 0⟩,⟨T,.int .i64 0⟩]|5=>[⟨T,.int .i64 0⟩,⟨T,.int .i64 0⟩,⟨T,.int .i64 0⟩,⟨T,.int .i64 0⟩]|6=>[⟨T,.int .i64 0⟩,⟨T,.int .i64 0⟩]|7=>[⟨T,.int .i64 0⟩,⟨T,.int .i64 0⟩,⟨T,.int .i64 0⟩]|8=>[⟨X,.list 1 []⟩,⟨X,.list 3 []⟩]|9=>[⟨X,.list 1 []⟩,⟨X,.list 3 []⟩,⟨X,.list 4 []⟩,⟨T,.int .i64 0⟩,⟨X,.list 5 []⟩]|10=>[⟨T,.int .i64 0⟩,⟨X,.list 9 []⟩,⟨X,.list 1 []⟩,⟨X,.list 1 []⟩,⟨X,.list 1 []⟩,⟨X,.list 3 []⟩,⟨X,.list 4 []⟩,⟨T,.int .i64 0⟩,⟨X,.list 5 []⟩]|11=>[⟨T,.int .i64 0⟩]|12=>[⟨T,.str ⟨#[]⟩⟩,⟨X,.list 1 []⟩,⟨X,.list 3 []⟩,⟨X,.list 4 []⟩,⟨T,.int .i64 0⟩,⟨X,.list 5 []⟩,⟨X,.list 1 []⟩,⟨X,.list 3 []⟩,⟨X,.list 4 []⟩,⟨T,.int .i64 0⟩,⟨X,.list 5 []⟩,⟨X,.list 1 []⟩,⟨X,.list 1 []⟩,⟨X,.list 1 []⟩,⟨X,.list 1 []⟩,⟨T,.bool T⟩,⟨T,.int .i64 0⟩,⟨X,.list 9 []⟩,⟨X,.list 1 []⟩,⟨X,.list 1 []⟩,⟨X,.list 1 []⟩,⟨X,.list 3 []⟩,⟨X,.list 4 []⟩,⟨T,.int .i64 0⟩,⟨X,.list 5 []⟩]|13=>[⟨X,.list 1 []⟩,⟨X,.list 3 []⟩,⟨X,.list 1 []⟩,⟨X,.list 3 []⟩,⟨X,.list 1 []⟩,⟨X,.list 1 []⟩,⟨X,.list 1 []⟩,⟨X,.list 1 []⟩]|14=>[⟨T,.int .i64 0⟩,⟨X,.list 1 []⟩,⟨X,.list 1 []⟩,⟨X,.list 1 []⟩,⟨X,.list 5 []⟩]|15=>[⟨X,.list 1 []⟩,⟨X,.list 1 []⟩,⟨X,.list 1 []⟩]|16=>[⟨X,.list 1 []⟩,⟨X,.list 3 []⟩,⟨X,.list 1 []⟩]|17=>[⟨T,.str ⟨#[]⟩⟩,⟨X,.list 1 []⟩,⟨X,.list 3 []⟩,⟨X,.list 4 []⟩,⟨T,.int .i64 0⟩,⟨X,.list 5 []⟩,⟨X,.list 1 []⟩,⟨X,.list 3 []⟩,⟨X,.list 4 []⟩,⟨T,.int .i64 0⟩,⟨X,.list 5 []⟩,⟨X,.list 1 []⟩,⟨X,.list 1 []⟩,⟨X,.list 1 []⟩,⟨X,.list 1 []⟩,⟨T,.bool T⟩,⟨T,.int .i64 0⟩,⟨X,.list 9 []⟩,⟨X,.list 1 []⟩,⟨X,.list 1 []⟩,⟨X,.list 1 []⟩,⟨X,.list 3 []⟩,⟨X,.list 4 []⟩,⟨T,.int .i64 0⟩,⟨X,.list 5 []⟩,⟨X,.list 1 []⟩,⟨X,.list 1 []⟩,⟨X,.list 1 []⟩,⟨X,.list 1 []⟩,⟨X,.list 3 []⟩,⟨X,.list 1 []⟩,⟨X,.list 1 []⟩,⟨X,.list 3 []⟩,⟨X,.list 1 []⟩,⟨X,.list 1 []⟩,⟨X,.list 1 []⟩,⟨X,.list 1 []⟩,⟨X,.list 1 []⟩]|18=>[⟨T,.str ⟨#[]⟩⟩,⟨X,.list 1 []⟩,⟨X,.list 3 []⟩,⟨X,.list 4 []⟩,⟨T,.int .i64 0⟩,⟨X,.list 5 []⟩,⟨X,.list 1 []⟩,⟨X,.list 3 []⟩,⟨X,.list 4 []⟩,⟨T,.int .i64 0⟩,⟨X,.list 5 []⟩,⟨X,.list 1 []⟩,⟨X,.list 1 []⟩,⟨X,.list 1 []⟩,⟨X,.list 1 []⟩,⟨T,.bool T⟩,⟨T,.int .i64 0⟩,⟨X,.list 9 []⟩,⟨X,.list 1 []⟩,⟨X,.list 1 []⟩,⟨X,.list 1 []⟩,⟨X,.list 3 []⟩,⟨X,.list 4 []⟩,⟨T,.int .i64 0⟩,⟨X,.list 5 []⟩,⟨X,.list 1 []⟩,⟨X,.list 1 []⟩,⟨X,.list 1 []⟩,⟨X,.list 1 []⟩,⟨X,.list 3 []⟩,⟨X,.list 1 []⟩,⟨X,.list 1 []⟩,⟨X,.list 3 []⟩,⟨X,.xn []⟩,⟨X,.list 1 []⟩,⟨X,.list 1 []⟩,⟨X,.list 1 []⟩,⟨X,.list 1 []⟩]|19=>[⟨T,.list 1 []⟩,⟨T,.list 3 []⟩,⟨T,.list 1 []⟩]|20=>[⟨T,.int .i64 0⟩,⟨X,.list 1 []⟩,⟨X,.list 1 []⟩,⟨X,.list 1 []⟩]|21=>[⟨X,.list 1 []⟩,⟨X,.list 3 []⟩,⟨X,.list 1 []⟩,⟨X,.list 1 []⟩]|22=>[⟨X,.list 1 []⟩,⟨X,.list 3 []⟩,⟨X,.list 1 []⟩,⟨X,.list 1 []⟩,⟨X,.list 4 []⟩,⟨X,.list 1 []⟩,⟨X,.list 1 []⟩]|23=>[⟨X,.list 1 []⟩,⟨X,.list 3 []⟩,⟨X,.xl 1 []⟩,⟨X,.xl 1 []⟩,⟨X,.list 4 []⟩,⟨X,.list 1 []⟩,⟨X,.list 1 []⟩]|24=>[⟨X,.list 1 []⟩,⟨X,.list 3 []⟩,⟨X,.list 1 []⟩,⟨X,.list 4 []⟩,⟨X,.list 1 []⟩,⟨X,.list 1 []⟩]|25=>[⟨X,.list 4 []⟩,⟨X,.list 7 []⟩,⟨X,.list 1 []⟩,⟨X,.list 1 []⟩,⟨X,.list 25 []⟩]|26=>[⟨X,.list 4 []⟩,⟨X,.list 7 []⟩]|27=>[⟨T,.int .i64 0⟩,⟨T,.str ⟨#[]⟩⟩,⟨T,.int .i64 0⟩]
  |28=>[⟨X,.list 2 []⟩,⟨X,.list 3 []⟩,⟨X,.list 1 []⟩,⟨X,.list 3 []⟩]|29=>[⟨X,.xl 1 []⟩,⟨X,.xl 3 []⟩]|30=>[⟨X,.list 1 []⟩,⟨X,.list 3 []⟩,⟨X,.xn []⟩]|31=>[⟨X,.xl 1 []⟩,⟨X,.xl 1 []⟩]|_=>[]
def Mp:e8:=⟨zx,zy⟩
def bT:Nat:=0x79ee8d50b01580182025e8093b1044b045e82890e010104014a4ddd915d0b5f466c6030064281019230044407c95e03100f765f58c4810a553204438c5f93301944014ca1835501024248b59f42054b588173030b5d048c0000030001426b030000743201020c0b050100000304000009445f01880e960200005885000000008105843293006b044255000000000000066d01475e420544589a6900000000000000024b02010000080e0a098100034b5d010a05000000008181818b000003030605588a000065ff7f0e00000000300530000000000000006a0b6001314100000000555543010000000077750000000000000000415c0000000000004201016c0807657c01ff00000000000000001111050b010e035c034400000000000000000000050485610100ff8593930000000000003c5b000000000000018131433142030203320041010500000000ff810000000002440000000000000000000000000000000000000000000000000000000000000000000000000000000000000000000000000000000000000000000000000000000000000000004203010101000000000000000000000000000000000000000000000000000000000000000000000000000000000000000000000000000000000000000000000000000000000000000000000000000000000000000000000000000000000000000000000000
theorem nz{P:Prop}(p:P:=by
  intros
  conv=>
    arg 2
    conv=>
      enter [2]
      whnf
    conv=>
      enter [3]
      whnf
    simp only[PC.of,dC,nX,nW,uY,qV,zm,zp,zl,qU,uX,zq,TD,aU,bj,zk,iX,oP,tP,a0,a1,So,qc,uP,oO,cV,Mp,zx,zy,Nat.reduceDiv,Nat.reduceMod,Nat.reduceMul,Nat.reduceEqDiff,↓reduceIte,List.nil_append,List.cons_append,Bool.or_true,Bool.true_or,Bool.or_false,Bool.false_or,Bool.or_self]
  exact au):P:=p
def ND:List ResultVar->List RV
  |.tmp s::r=>.tmp s::ND r|_=>[]
theorem Fk(fn:Func)(s:Nat)(ζ:List AE)(rv:List RV)(h:∀r,x=Y r → TV.ns ts → HR (λr=>BQ rv (R r)) → WP (AS prog) (PC.of Mp fn.body (xq bT s) ζ) ⟨BQ rv (R r),λ_ _=>False,BQ rv (R r)⟩ (DL 0 ts))(hb:fn.body=Y c:=by rfl)(ck:CK fn (PC.of Mp fn.body (xq bT s) ζ) rv:=by decide +kernel)(hf:prog.funcs[f]? =Y fn:=by rfl)(hname:fn.name≠ "runtime.NumGoroutine" :=by decide)(hn:w! ts.length fn.ntmps=X:=by rfl)(hp:∀r,(R r).plain=X:=by exact λ_=>rfl):Ct prog x f ts R:=
  Fi ck h hf hb hname hn hp
theorem Fj(fn:Func)(s:Nat)(ζ:List AE)(h:∀{r},x=Y r → ∀{_:TV.ns ts}{_:HR λr=>BQ (ND fn.results.toList) (R r)},WP (AS prog) (PC.of Mp fn.body (xq bT s) ζ) ⟨BQ (ND fn.results.toList) (R r),λ_ _=>False,BQ (ND fn.results.toList) (R r)⟩ (DL 0 ts))(hb:fn.body=Y c:=by rfl)(ck:CK fn (PC.of Mp fn.body (xq bT s) ζ) (ND fn.results.toList):=by decide +kernel)(hf:prog.funcs[f]? =Y fn:=by rfl)(hname:fn.name≠ "runtime.NumGoroutine" :=by decide)(hn:w! ts.length fn.ntmps=X:=by rfl)(hp:∀r,(R r).plain=X:=by exact λ_=>rfl):Ct prog x f ts R:=
  Fk fn s ζ _ (λr e a b=>@h r e a b) hb ck hf hname hn hp
variable{y:Option α}
theorem Fe{R:α->As}(fn:Func)(s:Nat)(ζ:List AE)(E:x=y)(h:∀r,y=Y r->TV.ns ts->HR (λr=>BQ (ND fn.results.toList) (R r))->WP (AS prog) (PC.of Mp fn.body (xq bT s) ζ) ⟨BQ (ND fn.results.toList) (R r),λ_ _=>False,BQ (ND fn.results.toList) (R r)⟩ (DL 0 ts):=by
  intro r h _ _;exact nz)(hb:fn.body=Y c:=by rfl)(ck:CK fn (PC.of Mp fn.body (xq bT s) ζ) (ND fn.results.toList):=by decide +kernel)(hf:prog.funcs[f]? =Y fn:=by rfl)(hname:fn.name≠ "runtime.NumGoroutine" :=by decide)(hn:w! ts.length fn.ntmps=X:=by rfl)(hp:∀r,(R r).plain=X:=by exact λ_=>rfl):Ct prog x f ts R:=
  Fk fn s ζ _ (λr e a b=>h r (E.symm.trans e) a b) hb ck hf hname hn hp
variable{H1:Prop}
theorem CA{R:α->As}(fn:Func)(s:Nat)(ζ:List AE)(E:x=y)(i1:H1)(h:H1->∀r,y=Y r->TV.ns ts->HR (λr=>BQ (ND fn.results.toList) (R r))->WP (AS prog) (PC.of Mp fn.body (xq bT s) ζ) ⟨BQ (ND fn.results.toList) (R r),λ_ _=>False,BQ (ND fn.results.toList) (R r)⟩ (DL 0 ts):=by
  intro _ r h _ _;exact nz)(hb:fn.body=Y c:=by rfl)(ck:CK fn (PC.of Mp fn.body (xq bT s) ζ) (ND fn.results.toList):=by decide +kernel)(hf:prog.funcs[f]? =Y fn:=by rfl)(hname:fn.name≠ "runtime.NumGoroutine" :=by decide)(hn:w! ts.length fn.ntmps=X:=by rfl)(hp:∀r,(R r).plain=X:=by exact λ_=>rfl):Ct prog x f ts R:=
  Fk fn s ζ _ (λr e a b=>h i1 r (E.symm.trans e) a b) hb ck hf hname hn hp
variable{H2:Prop}
theorem H9{R:α->As}(fn:Func)(s:Nat)(ζ:List AE)(E:x=y)(i1:H1)(i2:H2)(h:H1->H2->∀r,y=Y r->TV.ns ts->HR (λr=>BQ (ND fn.results.toList) (R r))->WP (AS prog) (PC.of Mp fn.body (xq bT s) ζ) ⟨BQ (ND fn.results.toList) (R r),λ_ _=>False,BQ (ND fn.results.toList) (R r)⟩ (DL 0 ts):=by
  intro _ _ r h _ _;exact nz)(hb:fn.body=Y c:=by rfl)(ck:CK fn (PC.of Mp fn.body (xq bT s) ζ) (ND fn.results.toList):=by decide +kernel)(hf:prog.funcs[f]? =Y fn:=by rfl)(hname:fn.name≠ "runtime.NumGoroutine" :=by decide)(hn:w! ts.length fn.ntmps=X:=by rfl)(hp:∀r,(R r).plain=X:=by exact λ_=>rfl):Ct prog x f ts R:=
  Fk fn s ζ _ (λr e a b=>h i1 i2 r (E.symm.trans e) a b) hb ck hf hname hn hp
theorem ez{H3:Prop}{R:α->As}(fn:Func)(s:Nat)(ζ:List AE)(E:x=y)(i1:H1)(i2:H2)(i3:H3)(h:H1->H2->H3->∀r,y=Y r->TV.ns ts->HR (λr=>BQ (ND fn.results.toList) (R r))->WP (AS prog) (PC.of Mp fn.body (xq bT s) ζ) ⟨BQ (ND fn.results.toList) (R r),λ_ _=>False,BQ (ND fn.results.toList) (R r)⟩ (DL 0 ts):=by
  intro _ _ _ r h _ _;exact nz)(hb:fn.body=Y c:=by rfl)(ck:CK fn (PC.of Mp fn.body (xq bT s) ζ) (ND fn.results.toList):=by decide +kernel)(hf:prog.funcs[f]? =Y fn:=by rfl)(hname:fn.name≠ "runtime.NumGoroutine" :=by decide)(hn:w! ts.length fn.ntmps=X:=by rfl)(hp:∀r,(R r).plain=X:=by exact λ_=>rfl):Ct prog x f ts R:=
  Fk fn s ζ _ (λr e a b=>h i1 i2 i3 r (E.symm.trans e) a b) hb ck hf hname hn hp
def uv{σ:Type}(c:Nat)(f:σ->List (Nat×EV)):Int->σ->List (Nat×EV):=λi s=>(c,.tv (eI i))::f s
theorem BI(n c q i:Nat){σ:Type}(f:σ->List (Nat×EV)):HA n c q i (uv c f):=⟨⟩
theorem BA(n c q i:Nat):HA n c q i (uv c λ_:Unit=>[]):=⟨⟩
abbrev CT{α:Type}(x:Option α)(f:outParam FuncId)(ts:outParam Fq)(R:outParam (α->As)):Prop:=Ct prog x f ts R
abbrev rB:Bool->As:=λr=>.sh (eB r)
abbrev rI:Int->As:=λr=>.sh (eI r)
abbrev rO{α:Type}(e:α->TV):α->As:=λr=>.own (e r)
abbrev rS{α:Type}(e:α->TV):α->As:=λr=>.sh (e r)
abbrev rT{α β:Type}(e:α->TV)(f:β->TV):α×β->As:=λr=>.tp [e r.1,f r.2]
abbrev hO{α:Type}(k:Nat)(e:α->TV):α->List (Nat×EV):=λs=>[(k,.ow (e s))]
abbrev hT{α:Type}(k:Nat)(e:α->TV):α->List (Nat×EV):=λs=>[(k,.tv (e s))]
abbrev hX{α:Type}(k n:Nat)(e:α->TV):List α->List (Nat×EV):=λs=>[(k,.xo n (List.map e s))]
end Go.Sf.Sc
