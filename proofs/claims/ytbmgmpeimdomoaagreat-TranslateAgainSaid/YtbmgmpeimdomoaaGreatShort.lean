/- Shorter names for the shapes of rows, and how structs are read. -/
import Derived.Test.YtbmgmpeimdomoaaGreatSfAuto
import Derived.Test.YtbmgmpeimdomoaaGreatSfDec
import Derived.Test.YtbmgmpeimdomoaaGreatFns
set_option linter.all false
set_option maxRecDepth 100000
open Option renaming some->Y
open Bool renaming true->X,false->T
open Nat renaming ble->w_,le_of_ble_eq_true->w!
namespace Go.Sf
abbrev Rq(o:List PR)(l:I2)(b:PC):PC:=.seq (.region o l) b
abbrev Sq(a b:PC):PC:=.seq a b
abbrev Re(o:List PR)(l:I2):PC:=.region o l
abbrev Dr(d:I2)(o:List PR)(l:I2):PC:=.draw d o l
abbrev Sk(l:I2):PC:=.skip l
abbrev Ex(i:Nat)(l:I2):PC:=.exit i l
abbrev Co(c:Nat)(a b:PC):PC:=.cond (.s c) a b
abbrev Bl(i:Nat)(a:PC):PC:=.block i a
abbrev Lo(l:I2)(a:PC):PC:=.loop l a
abbrev Aa(x0 x1:Nat):PR:=⟨Y x0,.mv (.s x1),none⟩
abbrev Ab(x0 x1:Nat):PR:=⟨Y x0,.tk x1,none⟩
abbrev Ac(x0 x1:Nat):PR:=⟨Y x0,.Abp (.s x1),none⟩
abbrev Ad(x0 x1 x2:Nat):PR:=⟨Y x0,.lda (.s x1) x2,none⟩
abbrev Ae(x0 x1 x2:Nat):PR:=⟨Y x0,.fad (.s x1) x2,none⟩
abbrev Af(x0:Nat)(x1:Int):PR:=⟨Y x0,.mv (.c (.int .i64 x1)),none⟩
end Go.Sf
namespace Go.Sf.Sc
open Go Go.Sf Go.Proofs.Tryz
instance(l:List ca):Ml (KF l) AQ l:=⟨Me l⟩
instance(l:List BD):Ml (PT l) FJ l:=⟨Tc l⟩
instance:En ca AQ:=⟨⟩
instance:En BD FJ:=⟨⟩
instance:Fl AQ 9 F6:=⟨Rw⟩
instance:Fl FJ 5 Iy:=⟨gC⟩
instance:lh CC:=⟨λl=>match l with|[.int _ x0,.int _ x1,.int _ x2]=>B1.mk x0 x1 x2|_=>B1.mk 0 0 0,λa b=>⟨inferInstance,pB a b⟩⟩
abbrev CK(fn:Func)(pl:PC)(rv:List RV):Prop:=D2 prog fn.ntmps (VL prog fn.ntmps) pl (fn.body.getD .skip)=X/\HD prog fn.results.toList rv=X
variable{f:FuncId}{fn:Func}{c:Code}{pl:PC}{rv:List RV}{r:As}
theorem Fn{args:Fq}(ck:CK fn pl rv)(h:TV.nm args → WP (AT prog) pl ⟨BT rv r,λ_ _=>False,BT rv r⟩ (DU 0 args))(hf:prog.funcs[f]? =Y fn:=by rfl)(hb:fn.body=Y c:=by rfl)(hname:fn.name≠ "runtime.NumGoroutine" :=by decide)(hn:w_ args.length fn.ntmps=X:=by rfl)(hp:r.plain=X:=by rfl):AT prog f args r:=by
  have h1:=ck.1;rw[hb]at h1;exact dc (Md Sc.Tryz_follows) hf hb hname h1 ck.2 (w! hn) hp (λhw=>(h hw).out)
variable{i:Nat}
theorem FnB{args:Fq}{cs cs':List AO}{us:Fq}(ck:CK fn pl rv)(nb:PC.p0 pl=X/\PC.r0 i pl=X)(h:TV.nm args → (∀c∈cs,c.t.WF) → WP (AT prog) pl ⟨BT rv (.bo cs cs' i us),λ_ _=>False,BT rv (.bo cs cs' i us)⟩ ((i,.bx cs)::DU 0 args))(hf:prog.funcs[f]? =Y fn:=by rfl)(hb:fn.body=Y c:=by rfl)(hname:fn.name≠ "runtime.NumGoroutine" :=by decide)(hn:w_ args.length fn.ntmps=X:=by rfl):AT prog f args (.bo cs cs' i us):=by
  have h1:=ck.1;rw[hb]at h1;exact mL (Md Sc.Tryz_follows) hf hb hname h1 ck.2 (w! hn) nb.1 nb.2 (λhw hwc=>(h hw hwc).out)
variable{α:Type}{x:Option α}{ts:Fq}{R:α → As}
theorem Fi(ck:CK fn pl rv)(h:∀r,x=Y r → TV.nm ts → HR (λr=>BT rv (R r)) → WP (AT prog) pl ⟨BT rv (R r),λ_ _=>False,BT rv (R r)⟩ (DU 0 ts))(hf:prog.funcs[f]? =Y fn:=by rfl)(hb:fn.body=Y c:=by rfl)(hname:fn.name≠ "runtime.NumGoroutine" :=by decide)(hn:w_ ts.length fn.ntmps=X:=by rfl)(hp:∀r,(R r).plain=X:=by exact λ_=>rfl):Ct prog x f ts R:=
  ⟨λr hr=>Fn ck (λhw=>h r hr hw ⟨⟩) hf hb hname hn (hp r)⟩
variable{us:α → Fq}
theorem cb{cs:List AO}{cs':α → List AO}(ck:CK fn pl rv)(nb:PC.p0 pl=X/\PC.r0 i pl=X)(h:∀r,x=Y r → TV.nm ts → (∀c∈cs,c.t.WF) → HR (λr=>BT rv (.bo cs (cs' r) i (us r))) → WP (AT prog) pl ⟨BT rv (.bo cs (cs' r) i (us r)),λ_ _=>False,BT rv (.bo cs (cs' r) i (us r))⟩ ((i,.bx cs)::DU 0 ts))(hf:prog.funcs[f]? =Y fn:=by rfl)(hb:fn.body=Y c:=by rfl)(hname:fn.name≠ "runtime.NumGoroutine" :=by decide)(hn:w_ ts.length fn.ntmps=X:=by rfl):Ct prog x f ts (λr=> .bo cs (cs' r) i (us r)):=
  ⟨λr hr=>FnB ck nb (λhw hwc=>h r hr hw hwc ⟨⟩) hf hb hname hn⟩
theorem FnA{args:Fq}{cs:List AO}(ck:CK fn pl rv)(nb:PC.p0 pl=X)(h:TV.nm args → (∀c∈cs,c.t.WF) → WP (AT prog) pl ⟨BT rv r,λ_ _=>False,BT rv r⟩ ((i,.oag cs)::DU 0 args))(hf:prog.funcs[f]? =Y fn:=by rfl)(hb:fn.body=Y c:=by rfl)(hname:fn.name≠ "runtime.NumGoroutine" :=by decide)(hn:w_ args.length fn.ntmps=X:=by rfl)(hp:r.plain=X:=by rfl)(hlo:r.lone=T:=by rfl):AT prog f args (.ag cs i r):=by
  have h1:=ck.1;rw[hb]at h1;exact mK (Md Sc.Tryz_follows) hf hb hname h1 ck.2 (w! hn) nb hp hlo (λhw hwc=>(h hw hwc).out)
theorem FiA{cs:List AO}(ck:CK fn pl rv)(nb:PC.p0 pl=X)(h:∀r,x=Y r → TV.nm ts → (∀c∈cs,c.t.WF) → HR (λr=>BT rv (R r)) → WP (AT prog) pl ⟨BT rv (R r),λ_ _=>False,BT rv (R r)⟩ ((i,.oag cs)::DU 0 ts))(hf:prog.funcs[f]? =Y fn:=by rfl)(hb:fn.body=Y c:=by rfl)(hname:fn.name≠ "runtime.NumGoroutine" :=by decide)(hn:w_ ts.length fn.ntmps=X:=by rfl)(hp:∀r,(R r).plain=X:=by exact λ_=>rfl)(hlo:∀r,(R r).lone=T:=by exact λ_=>rfl):Ct prog x f ts (λr=> .ag cs i (R r)):=
  ⟨λr hr=>FnA ck nb (λhw hwc=>h r hr hw hwc ⟨⟩) hf hb hname hn (hp r) (hlo r)⟩
theorem FiM{x:Option (Be×Int)}(ck:CK fn pl rv)(h:∀r,x=Y r → TV.nm ts → HR (λr=>BT rv (Oi r)) → WP (AT prog) pl ⟨BT rv (Oi r),λ_ _=>False,BT rv (Oi r)⟩ (DU 0 ts))(hf:prog.funcs[f]? =Y fn:=by rfl)(hb:fn.body=Y c:=by rfl)(hname:fn.name≠ "runtime.NumGoroutine" :=by decide)(hn:w_ ts.length fn.ntmps=X:=by rfl):Ct prog x f ts Oi:=by
  refine ⟨λr hr=>?_⟩;have h0:=h r hr;have h1:=ck.1;rw[hb]at h1;by_cases he:r.2=0
  · have e:Oi r=.mpr r.1 [.int .i64 r.2]:=Ne he
    rw [e]at h0|-;exact mM (Md Sc.Tryz_follows) hf hb hname h1 ck.2 (w! hn) (λhw=>(h0 hw ⟨⟩).out)
  · have e:Oi r=.tp [.undef,.int .i64 r.2]:=QQ he
    rw [e]at h0|-;exact dc (Md Sc.Tryz_follows) hf hb hname h1 ck.2 (w! hn) rfl (λhw=>(h0 hw ⟨⟩).out)
theorem AA0{cs:List AO}{cs':α → List AO}(ck:CK fn pl rv)(nb:PC.p0 pl=X/\PC.r0 i pl=X)(h:∀r,x=Y r → TV.nm ts → (∀c∈cs,c.t.WF) → WP (AT prog) pl ⟨fJ rv cs (cs' r) i (us r),λ_ _=>False,fJ rv cs (cs' r) i (us r)⟩ ((i,.bx cs)::DU 0 ts))(hf:prog.funcs[f]? =Y fn:=by rfl)(hb:fn.body=Y c:=by rfl)(hname:fn.name≠ "runtime.NumGoroutine" :=by decide)(hn:w_ ts.length fn.ntmps=X:=by rfl):Ct prog x f ts (λr=> .bo cs (cs' r) i (us r)):=by
  refine ⟨λr hr=>?_⟩;have h1:=ck.1;rw[hb]at h1;exact kB (Md Sc.Tryz_follows) hf hb hname h1 ck.2 (w! hn) nb.1 nb.2 (λhw hwc=>(h r hr hw hwc).out)
def shB:Nat->Fq×List (Nat×Nat)
  |0=>([.int .i64 0,.str ⟨#[]⟩,.int .i64 0],[(0,1),(1,1)])|1=>([.list 1 [],.list 1 []],[])|2=>([.list 1 [],.list 1 []],[(0,1),(1,1)])|3=>([.str ⟨#[]⟩,.int .i64 0,.int .i64 0,.list 1 []],[])|4=>([.list 1 [],.list 3 []],[])|5=>([.int .i64 0,.int .i64 0],[(0,1),(1,1)])|6=>([.list 1 [],.list 3 [],.list 1 [],.list 3 [],.list 1 [],.list 1 [],.list 1 [],.list 1 []],[(0,2),(2,2),(4,2),(6,2)])|7=>([.int .i64 0,.int .i64 0,.int .i64 0],[(0,1),(1,1),(2,1)])|8=>([.list 1 [],.list 3 [],.list 1 [],.list 3 [],.list 1 [],.nil,.nil,.bool T,.int .i64 0,.nil,.nil,.nil],[(0,2),(2,2),(4,1),(5,2),(7,1),(8,1)])|9=>([.list 1 [],.list 1 [],.list 1 []],[(0,2),(2,1)])|10=>([.int .i64 0,.list 1 [],.list 1 [],.list 1 [],.list 5 []],[])|11=>([.int .i64 0,.list 1 [],.list 1 [],.list 1 [],.list 5 []],[(0,1),(4,1)])|12=>([.int .i64 0,.list 1 [],.list 1 [],.list 1 [],.list 5 []],[(1,3),(4,1)])|13=>([.list 4 [],.list 7 [],.list 1 [],.list 3 [],.list 1 [],.bool T],[(0,2),(2,3),(5,1)])|14=>([.str ⟨#[]⟩,.list 1 [],.list 3 [],.list 4 [],.int .i64 0,.list 5 [],.list 1 [],.list 3 [],.list 4 [],.int .i64 0,.list 5 [],.list 1 [],.list 1 [],.list 1 [],.list 1 [],.bool T,.int .i64 0,.list 9 [],.list 1 [],.list 1 [],.list 1 [],.list 3 [],.list 4 [],.int .i64 0,.list 5 [],.list 1 [],.list 1 [],.list 1 [],.list 1 [],.list 3 [],.list 1 [],.list 1 [],.list 3 [],.list 1 [],.list 1 [],.list 1 [],.list 1 [],.list 1 []],[])|15=>([.str ⟨#[]⟩,.list 1 [],.list 3 [],.list 4 [],.int .i64 0,.list 5 [],.list 1 [],.list 3 [],.list 4 [],.int .i64 0,.list 5 [],.list 1 [],.list 1 [],.list 1 [],.list 1 [],.bool T,.int .i64 0,.list 9 [],.list 1 [],.list 1 [],.list 1 [],.list 3 [],.list 4 [],.int .i64 0,.list 5 [],.list 1 [],.list 1 [],.list 1 [],.list 1 [],.list 3 [],.list 1 [],.nil,.nil,.nil,.list 1 [],.list 1 [],.list 1 [],.list 1 []],[(0,25),(25,3),(28,3)])|16=>([.list 4 [],.list 7 [],.list 1 [],.list 1 [],.list 25 []],[(0,2),(2,2),(4,1)])|17=>([.list 1 [],.list 3 [],.list 1 []],[])|18=>([.nil,.nil],[])|19=>([.list 1 [],.list 1 [],.list 1 []],[(0,2)])|20=>([.int .i64 0,.list 1 [],.list 1 [],.list 1 []],[(0,1),(1,3)])|21=>([.list 1 [],.list 3 [],.list 1 []],[(0,2),(2,1)])|22=>([.list 1 [],.list 3 [],.list 1 [],.list 4 [],.list 1 [],.list 1 []],[(0,3),(3,1),(4,2)])|23=>([.list 1 [],.list 3 []],[(0,1),(1,1)])|24=>([.list 1 [],.list 3 [],.list 1 [],.list 1 [],.list 4 [],.list 1 [],.list 1 []],[(0,2),(2,1),(3,1)])|25=>([.list 4 [],.list 7 [],.list 1 [],.list 1 [],.list 25 [],.list 1 [],.int .i64 0,.list 1 [],.list 3 [],.list 1 [],.list 4 [],.list 1 [],.list 1 [],.int .i64 0],[(0,5),(5,1)])|26=>([.list 1 [],.list 3 [],.list 1 [],.list 4 [],.list 1 [],.list 1 []],[])|27=>([.str ⟨#[]⟩,.int .i64 0,.int .i64 0,.int .i64 0,.int .i64 0,.int .i64 0,.int .i64 0],[(0,1),(1,1),(2,1),(4,1),(6,1)])|28=>([.list 4 [],.list 7 []],[(0,1),(1,1)])|29=>([.int .i64 0,.str ⟨#[]⟩,.int .i64 0],[])|30=>([.list 1 [],.list 3 [],.list 4 [],.int .i64 0,.list 5 []],[(0,2)])|31=>([.int .i64 0,.list 9 [],.list 1 [],.list 1 [],.list 1 [],.list 3 [],.list 4 [],.int .i64 0,.list 5 []],[(0,1)])|32=>([.str ⟨#[]⟩,.list 1 [],.list 3 [],.list 4 [],.int .i64 0,.list 5 [],.list 1 [],.list 3 [],.list 4 [],.int .i64 0,.list 5 [],.list 1 [],.list 1 [],.list 1 [],.list 1 [],.bool T,.int .i64 0,.list 9 [],.list 1 [],.list 1 [],.list 1 [],.list 3 [],.list 4 [],.int .i64 0,.list 5 []],[(0,1),(1,5),(6,5),(11,2),(13,2),(15,1),(16,9)])|33=>([.list 2 [],.list 3 []],[(0,1),(1,1)])|34=>([.int .u8 0,.int .u8 0,.int .u8 0],[(0,1),(1,1),(2,1)])|35=>([.list 2 [],.list 3 [],.list 1 [],.list 3 []],[(2,1),(3,1)])|36=>([.int .u8 0,.int .u8 0],[(0,1),(1,1)])|37=>([.list 2 [],.list 3 [],.list 1 [],.list 3 []],[(0,2),(2,1),(3,1)])|38=>([.int .i64 0,.int .i64 0,.int .i64 0],[(1,1),(2,1)])|39=>([.list 1 [],.list 3 []],[(0,1)])|40=>([.str ⟨#[]⟩,.list 1 [],.list 3 [],.list 4 [],.int .i64 0,.list 5 [],.list 1 [],.list 3 [],.list 4 [],.int .i64 0,.list 5 [],.list 1 [],.list 1 [],.list 1 [],.list 1 [],.bool T,.int .i64 0,.list 9 [],.list 1 [],.list 1 [],.list 1 [],.list 3 [],.list 4 [],.int .i64 0,.list 5 []],[])
  |41=>([.list 4 [],.list 7 [],.list 1 [],.list 3 [],.list 1 [],.list 3 [],.list 1 [],.list 1 [],.bool T,.int .i64 0,.nil],[(0,2),(2,2),(4,2),(6,2),(8,1),(9,1)])|42=>([.str ⟨#[]⟩,.list 1 [],.list 3 [],.list 4 [],.int .i64 0,.list 5 [],.list 1 [],.list 3 [],.list 4 [],.int .i64 0,.list 5 [],.list 1 [],.list 1 [],.list 1 [],.list 1 [],.bool T,.int .i64 0,.list 9 [],.list 1 [],.list 1 [],.list 1 [],.list 3 [],.list 4 [],.int .i64 0,.list 5 [],.list 1 [],.list 1 [],.list 1 [],.list 1 [],.list 3 [],.list 1 [],.list 1 [],.list 3 [],.list 1 [],.list 1 [],.list 1 [],.list 1 [],.list 1 []],[(0,25),(25,3),(28,3),(31,3),(34,2),(36,2)])|_=>([],[])
def shC:Nat->List AO
  |0=>[⟨T,.str ⟨#[]⟩⟩,⟨T,.int .i64 0⟩,⟨T,.bool T⟩,⟨X,.list 4 []⟩]|1=>[⟨T,.str ⟨#[]⟩⟩,⟨T,.int .i64 0⟩,⟨T,.int .i64 0⟩,⟨T,.int .i64 0⟩,⟨T,.int .i64 0⟩,⟨T,.int .i64 0⟩,⟨T,.int .i64 0⟩]|2=>[⟨X,.list 1 []⟩,⟨X,.list 1 []⟩]|3=>[⟨T,.str ⟨#[]⟩⟩,⟨T,.int .i64 0⟩,⟨T,.int .i64 0⟩,⟨X,.list 1 []⟩]|4=>[⟨T,.int .i64 0⟩,⟨T,.int .i64 0⟩,⟨T,.int .i64 0⟩,⟨T,.int .i64 0⟩,⟨T,.int .i64 0⟩]|5=>[⟨T,.int .i64 0⟩,⟨T,.int .i64 0⟩,⟨T,.int .i64 0⟩,⟨T,.int .i64 0⟩]|6=>[⟨T,.int .i64 0⟩,⟨T,.int .i64 0⟩]|7=>[⟨T,.int .i64 0⟩,⟨T,.int .i64 0⟩,⟨T,.int .i64 0⟩]|8=>[⟨X,.list 1 []⟩,⟨X,.list 3 []⟩]|9=>[⟨X,.list 1 []⟩,⟨X,.list 3 []⟩,⟨X,.list 4 []⟩,⟨T,.int .i64 0⟩,⟨X,.list 5 []⟩]|10=>[⟨T,.int .i64 0⟩,⟨X,.list 9 []⟩,⟨X,.list 1 []⟩,⟨X,.list 1 []⟩,⟨X,.list 1 []⟩,⟨X,.list 3 []⟩,⟨X,.list 4 []⟩,⟨T,.int .i64 0⟩,⟨X,.list 5 []⟩]|11=>[⟨T,.int .i64 0⟩]|12=>[⟨T,.str ⟨#[]⟩⟩,⟨X,.list 1 []⟩,⟨X,.list 3 []⟩,⟨X,.list 4 []⟩,⟨T,.int .i64 0⟩,⟨X,.list 5 []⟩,⟨X,.list 1 []⟩,⟨X,.list 3 []⟩,⟨X,.list 4 []⟩,⟨T,.int .i64 0⟩,⟨X,.list 5 []⟩,⟨X,.list 1 []⟩,⟨X,.list 1 []⟩,⟨X,.list 1 []⟩,⟨X,.list 1 []⟩,⟨T,.bool T⟩,⟨T,.int .i64 0⟩,⟨X,.list 9 []⟩,⟨X,.list 1 []⟩,⟨X,.list 1 []⟩,⟨X,.list 1 []⟩,⟨X,.list 3 []⟩,⟨X,.list 4 []⟩,⟨T,.int .i64 0⟩,⟨X,.list 5 []⟩]|13=>[⟨X,.list 1 []⟩,⟨X,.list 3 []⟩,⟨X,.list 1 []⟩,⟨X,.list 3 []⟩,⟨X,.list 1 []⟩,⟨X,.list 1 []⟩,⟨X,.list 1 []⟩,⟨X,.list 1 []⟩]|14=>[⟨T,.int .i64 0⟩,⟨X,.list 1 []⟩,⟨X,.list 1 []⟩,⟨X,.list 1 []⟩,⟨X,.list 5 []⟩]|15=>[⟨X,.list 1 []⟩,⟨X,.list 1 []⟩,⟨X,.list 1 []⟩]|16=>[⟨X,.list 1 []⟩,⟨X,.list 3 []⟩,⟨X,.list 1 []⟩]|17=>[⟨T,.str ⟨#[]⟩⟩,⟨X,.list 1 []⟩,⟨X,.list 3 []⟩,⟨X,.list 4 []⟩,⟨T,.int .i64 0⟩,⟨X,.list 5 []⟩,⟨X,.list 1 []⟩,⟨X,.list 3 []⟩,⟨X,.list 4 []⟩,⟨T,.int .i64 0⟩,⟨X,.list 5 []⟩,⟨X,.list 1 []⟩,⟨X,.list 1 []⟩,⟨X,.list 1 []⟩,⟨X,.list 1 []⟩,⟨T,.bool T⟩,⟨T,.int .i64 0⟩,⟨X,.list 9 []⟩,⟨X,.list 1 []⟩,⟨X,.list 1 []⟩,⟨X,.list 1 []⟩,⟨X,.list 3 []⟩,⟨X,.list 4 []⟩,⟨T,.int .i64 0⟩,⟨X,.list 5 []⟩,⟨X,.list 1 []⟩,⟨X,.list 1 []⟩,⟨X,.list 1 []⟩,⟨X,.list 1 []⟩,⟨X,.list 3 []⟩,⟨X,.list 1 []⟩,⟨X,.list 1 []⟩,⟨X,.list 3 []⟩,⟨X,.list 1 []⟩,⟨X,.list 1 []⟩,⟨X,.list 1 []⟩,⟨X,.list 1 []⟩,⟨X,.list 1 []⟩]|18=>[⟨T,.str ⟨#[]⟩⟩,⟨X,.list 1 []⟩,⟨X,.list 3 []⟩,⟨X,.list 4 []⟩,⟨T,.int .i64 0⟩,⟨X,.list 5 []⟩,⟨X,.list 1 []⟩,⟨X,.list 3 []⟩,⟨X,.list 4 []⟩,⟨T,.int .i64 0⟩,⟨X,.list 5 []⟩,⟨X,.list 1 []⟩,⟨X,.list 1 []⟩,⟨X,.list 1 []⟩,⟨X,.list 1 []⟩,⟨T,.bool T⟩,⟨T,.int .i64 0⟩,⟨X,.list 9 []⟩,⟨X,.list 1 []⟩,⟨X,.list 1 []⟩,⟨X,.list 1 []⟩,⟨X,.list 3 []⟩,⟨X,.list 4 []⟩,⟨T,.int .i64 0⟩,⟨X,.list 5 []⟩,⟨X,.list 1 []⟩,⟨X,.list 1 []⟩,⟨X,.list 1 []⟩,⟨X,.list 1 []⟩,⟨X,.list 3 []⟩,⟨X,.list 1 []⟩,⟨X,.list 1 []⟩,⟨X,.list 3 []⟩,⟨X,.xn []⟩,⟨X,.list 1 []⟩,⟨X,.list 1 []⟩,⟨X,.list 1 []⟩,⟨X,.list 1 []⟩]|19=>[⟨T,.list 1 []⟩,⟨T,.list 3 []⟩,⟨T,.list 1 []⟩]|20=>[⟨T,.int .i64 0⟩,⟨X,.list 1 []⟩,⟨X,.list 1 []⟩,⟨X,.list 1 []⟩]|21=>[⟨X,.list 1 []⟩,⟨X,.list 3 []⟩,⟨X,.list 1 []⟩,⟨X,.list 1 []⟩]|22=>[⟨X,.list 1 []⟩,⟨X,.list 3 []⟩,⟨X,.list 1 []⟩,⟨X,.list 1 []⟩,⟨X,.list 4 []⟩,⟨X,.list 1 []⟩,⟨X,.list 1 []⟩]|23=>[⟨X,.list 1 []⟩,⟨X,.list 3 []⟩,⟨X,.xl 1 []⟩,⟨X,.xl 1 []⟩,⟨X,.list 4 []⟩,⟨X,.list 1 []⟩,⟨X,.list 1 []⟩]|24=>[⟨X,.list 1 []⟩,⟨X,.list 3 []⟩,⟨X,.list 1 []⟩,⟨X,.list 4 []⟩,⟨X,.list 1 []⟩,⟨X,.list 1 []⟩]|25=>[⟨X,.list 4 []⟩,⟨X,.list 7 []⟩,⟨X,.list 1 []⟩,⟨X,.list 1 []⟩,⟨X,.list 25 []⟩]|26=>[⟨X,.list 4 []⟩,⟨X,.list 7 []⟩]|27=>[⟨T,.int .i64 0⟩,⟨T,.str ⟨#[]⟩⟩,⟨T,.int .i64 0⟩]
  |28=>[⟨X,.list 2 []⟩,⟨X,.list 3 []⟩,⟨X,.list 1 []⟩,⟨X,.list 3 []⟩]|29=>[⟨X,.xl 1 []⟩,⟨X,.xl 3 []⟩]|30=>[⟨X,.list 1 []⟩,⟨X,.list 3 []⟩,⟨X,.xn []⟩]|31=>[⟨X,.xl 1 []⟩,⟨X,.xl 1 []⟩]|_=>[]
def M9:gl:=⟨shB,shC⟩
def bT:Nat:=0x5e89820261305881028910c9e8dc044b827d6d03010a037e93b34ddf01040b5f0642925d9a300444014a775f07c9100f905f58c4c0015532044393301944014c045e6b0373038105810a024255019f420b5d9e8304900300000048b501027632000001420c0b81019d0200000944000058855f01880e054b00000304000000008c326b049300066d5e420000000000000a050147847f69003005054400000000000002010a0900008100080e42555d01588a060500000000024b818100000303818b3000000065ff6a0b00000000034b0501000000000000610131414301000000005555415c0000000042010000000000000000580100000000000008076c0e657c747501ff0000000000000000050b035c010e1111034400000000000000000000050485600100ff8593930000000000003c5b000000000000314301813142030203320041010500000000ff810000000002440000000000000000000000000000000000000000000000000000000000000000000000000000000000000000000000000000000000000000000000000000000000000000004203010101000000000000000000000000000000000000000000000000000000000000000000000000000000000000000000000000000000000000000000000000000000000000000000000000000000000000000000000000000000000000000000000000
theorem nz{P:Prop}(p:P:=by
  intros
  conv=>
    arg 2
    conv=>
      enter [2]
      whnf
    conv=>
      enter [3]
      whnf
    simp only[PC.of,dC,o8,o7,v7,sI,dLd,dSt,dIx,sH,vz,dUn,Ta,cG,dQ,dGd,jz,oP,tP,a0,a1,S8,sP,vn,oO,cV,M9,shB,shC,Nat.reduceDiv,Nat.reduceMod,Nat.reduceMul,Nat.reduceEqDiff,↓reduceIte,List.nil_append,List.cons_append,Bool.or_true,Bool.true_or,Bool.or_false,Bool.false_or,Bool.or_self]
  exact au):P:=p
def Na:List ResultVar->List RV
  |.tmp s::r=>.tmp s::Na r|_=>[]
theorem Fk(fn:Func)(s:Nat)(ζ:List AE)(rv:List RV)(h:∀r,x=Y r → TV.nm ts → HR (λr=>BT rv (R r)) → WP (AT prog) (PC.of M9 fn.body (xq bT s) ζ) ⟨BT rv (R r),λ_ _=>False,BT rv (R r)⟩ (DU 0 ts))(hb:fn.body=Y c:=by rfl)(ck:CK fn (PC.of M9 fn.body (xq bT s) ζ) rv:=by decide +kernel)(hf:prog.funcs[f]? =Y fn:=by rfl)(hname:fn.name≠ "runtime.NumGoroutine" :=by decide)(hn:w_ ts.length fn.ntmps=X:=by rfl)(hp:∀r,(R r).plain=X:=by exact λ_=>rfl):Ct prog x f ts R:=
  Fi ck h hf hb hname hn hp
theorem Fj(fn:Func)(s:Nat)(ζ:List AE)(h:∀{r},x=Y r → ∀{_:TV.nm ts}{_:HR λr=>BT (Na fn.results.toList) (R r)},WP (AT prog) (PC.of M9 fn.body (xq bT s) ζ) ⟨BT (Na fn.results.toList) (R r),λ_ _=>False,BT (Na fn.results.toList) (R r)⟩ (DU 0 ts))(hb:fn.body=Y c:=by rfl)(ck:CK fn (PC.of M9 fn.body (xq bT s) ζ) (Na fn.results.toList):=by decide +kernel)(hf:prog.funcs[f]? =Y fn:=by rfl)(hname:fn.name≠ "runtime.NumGoroutine" :=by decide)(hn:w_ ts.length fn.ntmps=X:=by rfl)(hp:∀r,(R r).plain=X:=by exact λ_=>rfl):Ct prog x f ts R:=
  Fk fn s ζ _ (λr e a b=>@h r e a b) hb ck hf hname hn hp
variable{y:Option α}
theorem Fe{R:α->As}(fn:Func)(s:Nat)(ζ:List AE)(E:x=y)(h:∀r,y=Y r->TV.nm ts->HR (λr=>BT (Na fn.results.toList) (R r))->WP (AT prog) (PC.of M9 fn.body (xq bT s) ζ) ⟨BT (Na fn.results.toList) (R r),λ_ _=>False,BT (Na fn.results.toList) (R r)⟩ (DU 0 ts):=by
  intro r h _ _;exact nz)(hb:fn.body=Y c:=by rfl)(ck:CK fn (PC.of M9 fn.body (xq bT s) ζ) (Na fn.results.toList):=by decide +kernel)(hf:prog.funcs[f]? =Y fn:=by rfl)(hname:fn.name≠ "runtime.NumGoroutine" :=by decide)(hn:w_ ts.length fn.ntmps=X:=by rfl)(hp:∀r,(R r).plain=X:=by exact λ_=>rfl):Ct prog x f ts R:=
  Fk fn s ζ _ (λr e a b=>h r (E.symm.trans e) a b) hb ck hf hname hn hp
variable{H1:Prop}
theorem CJ{R:α->As}(fn:Func)(s:Nat)(ζ:List AE)(E:x=y)(i1:H1)(h:H1->∀r,y=Y r->TV.nm ts->HR (λr=>BT (Na fn.results.toList) (R r))->WP (AT prog) (PC.of M9 fn.body (xq bT s) ζ) ⟨BT (Na fn.results.toList) (R r),λ_ _=>False,BT (Na fn.results.toList) (R r)⟩ (DU 0 ts):=by
  intro _ r h _ _;exact nz)(hb:fn.body=Y c:=by rfl)(ck:CK fn (PC.of M9 fn.body (xq bT s) ζ) (Na fn.results.toList):=by decide +kernel)(hf:prog.funcs[f]? =Y fn:=by rfl)(hname:fn.name≠ "runtime.NumGoroutine" :=by decide)(hn:w_ ts.length fn.ntmps=X:=by rfl)(hp:∀r,(R r).plain=X:=by exact λ_=>rfl):Ct prog x f ts R:=
  Fk fn s ζ _ (λr e a b=>h i1 r (E.symm.trans e) a b) hb ck hf hname hn hp
variable{H2:Prop}
theorem IU{R:α->As}(fn:Func)(s:Nat)(ζ:List AE)(E:x=y)(i1:H1)(i2:H2)(h:H1->H2->∀r,y=Y r->TV.nm ts->HR (λr=>BT (Na fn.results.toList) (R r))->WP (AT prog) (PC.of M9 fn.body (xq bT s) ζ) ⟨BT (Na fn.results.toList) (R r),λ_ _=>False,BT (Na fn.results.toList) (R r)⟩ (DU 0 ts):=by
  intro _ _ r h _ _;exact nz)(hb:fn.body=Y c:=by rfl)(ck:CK fn (PC.of M9 fn.body (xq bT s) ζ) (Na fn.results.toList):=by decide +kernel)(hf:prog.funcs[f]? =Y fn:=by rfl)(hname:fn.name≠ "runtime.NumGoroutine" :=by decide)(hn:w_ ts.length fn.ntmps=X:=by rfl)(hp:∀r,(R r).plain=X:=by exact λ_=>rfl):Ct prog x f ts R:=
  Fk fn s ζ _ (λr e a b=>h i1 i2 r (E.symm.trans e) a b) hb ck hf hname hn hp
theorem gj{H3:Prop}{R:α->As}(fn:Func)(s:Nat)(ζ:List AE)(E:x=y)(i1:H1)(i2:H2)(i3:H3)(h:H1->H2->H3->∀r,y=Y r->TV.nm ts->HR (λr=>BT (Na fn.results.toList) (R r))->WP (AT prog) (PC.of M9 fn.body (xq bT s) ζ) ⟨BT (Na fn.results.toList) (R r),λ_ _=>False,BT (Na fn.results.toList) (R r)⟩ (DU 0 ts):=by
  intro _ _ _ r h _ _;exact nz)(hb:fn.body=Y c:=by rfl)(ck:CK fn (PC.of M9 fn.body (xq bT s) ζ) (Na fn.results.toList):=by decide +kernel)(hf:prog.funcs[f]? =Y fn:=by rfl)(hname:fn.name≠ "runtime.NumGoroutine" :=by decide)(hn:w_ ts.length fn.ntmps=X:=by rfl)(hp:∀r,(R r).plain=X:=by exact λ_=>rfl):Ct prog x f ts R:=
  Fk fn s ζ _ (λr e a b=>h i1 i2 i3 r (E.symm.trans e) a b) hb ck hf hname hn hp
def wT{σ:Type}(c:Nat)(f:σ->List (Nat×EV)):Int->σ->List (Nat×EV):=λi s=>(c,.tv (eI i))::f s
theorem BG(n c q i:Nat){σ:Type}(f:σ->List (Nat×EV)):HA n c q i (wT c f):=⟨⟩
theorem BC(n c q i:Nat):HA n c q i (wT c λ_:Unit=>[]):=⟨⟩
abbrev CT{α:Type}(x:Option α)(f:outParam FuncId)(ts:outParam Fq)(R:outParam (α->As)):Prop:=Ct prog x f ts R
abbrev rB:Bool->As:=λr=>.sh (eB r)
abbrev rI:Int->As:=λr=>.sh (eI r)
abbrev rO{α:Type}(e:α->TV):α->As:=λr=>.own (e r)
abbrev rS{α:Type}(e:α->TV):α->As:=λr=>.sh (e r)
abbrev rT{α β:Type}(e:α->TV)(f:β->TV):α×β->As:=λr=>.tp [e r.1,f r.2]
abbrev hO{α:Type}(k:Nat)(e:α->TV):α->List (Nat×EV):=λs=>[(k,.ow (e s))]
abbrev hT{α:Type}(k:Nat)(e:α->TV):α->List (Nat×EV):=λs=>[(k,.tv (e s))]
abbrev hX{α:Type}(k n:Nat)(e:α->TV):List α->List (Nat×EV):=λs=>[(k,.xo n (List.map e s))]
end Go.Sf.Sc
