/- Shorter names for the shapes of rows, and how structs are read. -/
import Derived.Test.YtagcclhejecceaaGreatSfAuto
import Derived.Test.YtagcclhejecceaaGreatSfDec
import Derived.Test.YtagcclhejecceaaGreatSfK
import Derived.Test.YtagcclhejecceaaGreatSfLib
import Derived.Test.YtagcclhejecceaaGreatFns
set_option linter.all false
set_option maxRecDepth 100000
namespace Go.Sf
abbrev Rq(o:List PR)(l:Ne)(b:PC):PC:=.seq (.region o l) b
abbrev Sq(a b:PC):PC:=.seq a b
abbrev Re(o:List PR)(l:Ne):PC:=.region o l
abbrev Dr(d:Ne)(o:List PR)(l:Ne):PC:=.draw d o l
abbrev Sk(l:Ne):PC:=.skip l
abbrev Ex(i:Nat)(l:Ne):PC:=.exit i l
abbrev Co(c:Nat)(a b:PC):PC:=.cond (.s c) a b
abbrev Bl(i:Nat)(a:PC):PC:=.block i a
abbrev Lo(l:Ne)(a:PC):PC:=.loop l a
abbrev Aa(x0 x1:Nat):PR:=⟨some x0,.mv (.s x1),none⟩
abbrev Ab(x0 x1:Nat):PR:=⟨some x0,.tk x1,none⟩
abbrev Ac(x0 x1:Nat):PR:=⟨some x0,.yr (.s x1),none⟩
abbrev Ad(x0 x1 x2:Nat):PR:=⟨some x0,.yt (.s x1) x2,none⟩
abbrev Ae(x0 x1 x2:Nat):PR:=⟨some x0,.w3 (.s x1) x2,none⟩
abbrev Af(x0:Nat)(x1:Int):PR:=⟨some x0,.mv (.c (.int .i64 x1)),none⟩
end Go.Sf
namespace Go.Sf.Sc
open Go Go.Sf Go.Proofs.Tryz
instance(l:List d5):Ml (Ij l) AP l:=⟨Nf l⟩
instance(l:List A6):Ml (Ng l) EN l:=⟨RD l⟩
instance:En d5 AP:=⟨⟩
instance:En A6 EN:=⟨⟩
instance:Fl AP 9 DW:=⟨J3⟩
instance:Fl EN 5 Hj:=⟨aX⟩
instance:eR Bp:=⟨fun l=>match l with|[.int _ x0,.int _ x1,.int _ x2]=>Bw.mk x0 x1 x2|_=>Bw.mk 0 0 0,fun a b=>⟨inferInstance,iE a b⟩⟩
abbrev CK(fn:Func)(pl:PC)(rv:List RV):Prop:=DR prog fn.ntmps (Sp prog fn.ntmps) pl (fn.body.getD .skip)=true/\Fw prog fn.results.toList rv=true
variable{f:FuncId}{fn:Func}{c:Code}{pl:PC}{rv:List RV}{r:Am}
theorem Fn{args:Fq}(ck:CK fn pl rv)(h:TV.tn args → WP (AR prog) pl ⟨BO rv r,fun _ _=>False,BO rv r⟩ (C3 0 args))(hf:prog.funcs[f]? =some fn:=by rfl)(hb:fn.body=some c:=by rfl)(hname:fn.name≠ "runtime.NumGoroutine" :=by decide)(hn:Nat.ble args.length fn.ntmps=true:=by rfl)(hp:r.plain=true:=by rfl):AR prog f args r:=by
  have h1:=ck.1;rw[hb]at h1;exact ZK (Ko Sc.Tryz_follows) hf hb hname h1 ck.2 (Nat.le_of_ble_eq_true hn) hp (fun hw=>(h hw).out)
variable{i:Nat}
theorem vI{args:Fq}{cs cs':List AN}{us:Fq}(ck:CK fn pl rv)(nb:PC.wl pl=true/\PC.wm i pl=true)(h:TV.tn args → (∀c∈cs,c.t.WF) → WP (AR prog) pl ⟨BO rv (.bo cs cs' i us),fun _ _=>False,BO rv (.bo cs cs' i us)⟩ ((i,.bx cs)::C3 0 args))(hf:prog.funcs[f]? =some fn:=by rfl)(hb:fn.body=some c:=by rfl)(hname:fn.name≠ "runtime.NumGoroutine" :=by decide)(hn:Nat.ble args.length fn.ntmps=true:=by rfl):AR prog f args (.bo cs cs' i us):=by
  have h1:=ck.1;rw[hb]at h1;exact e8 (Ko Sc.Tryz_follows) hf hb hname h1 ck.2 (Nat.le_of_ble_eq_true hn) nb.1 nb.2 (fun hw hwc=>(h hw hwc).out)
variable{α:Type}{x:Option α}{ts:Fq}{R:α → Am}
theorem Fi(ck:CK fn pl rv)(h:∀r,x=some r → TV.tn ts → HR (fun r=>BO rv (R r)) → WP (AR prog) pl ⟨BO rv (R r),fun _ _=>False,BO rv (R r)⟩ (C3 0 ts))(hf:prog.funcs[f]? =some fn:=by rfl)(hb:fn.body=some c:=by rfl)(hname:fn.name≠ "runtime.NumGoroutine" :=by decide)(hn:Nat.ble ts.length fn.ntmps=true:=by rfl)(hp:∀r,(R r).plain=true:=by exact fun _=>rfl):Ct prog x f ts R:=
  ⟨fun r hr=>Fn ck (fun hw=>h r hr hw ⟨⟩) hf hb hname hn (hp r)⟩
variable{us:α → Fq}
theorem Yk{cs:List AN}{cs':α → List AN}(ck:CK fn pl rv)(nb:PC.wl pl=true/\PC.wm i pl=true)(h:∀r,x=some r → TV.tn ts → (∀c∈cs,c.t.WF) → HR (fun r=>BO rv (.bo cs (cs' r) i (us r))) → WP (AR prog) pl ⟨BO rv (.bo cs (cs' r) i (us r)),fun _ _=>False,BO rv (.bo cs (cs' r) i (us r))⟩ ((i,.bx cs)::C3 0 ts))(hf:prog.funcs[f]? =some fn:=by rfl)(hb:fn.body=some c:=by rfl)(hname:fn.name≠ "runtime.NumGoroutine" :=by decide)(hn:Nat.ble ts.length fn.ntmps=true:=by rfl):Ct prog x f ts (fun r=> .bo cs (cs' r) i (us r)):=
  ⟨fun r hr=>vI ck nb (fun hw hwc=>h r hr hw hwc ⟨⟩) hf hb hname hn⟩
theorem vH{args:Fq}{cs:List AN}(ck:CK fn pl rv)(nb:PC.wl pl=true)(h:TV.tn args → (∀c∈cs,c.t.WF) → WP (AR prog) pl ⟨BO rv r,fun _ _=>False,BO rv r⟩ ((i,.wQ cs)::C3 0 args))(hf:prog.funcs[f]? =some fn:=by rfl)(hb:fn.body=some c:=by rfl)(hname:fn.name≠ "runtime.NumGoroutine" :=by decide)(hn:Nat.ble args.length fn.ntmps=true:=by rfl)(hp:r.plain=true:=by rfl)(hlo:r.lone=false:=by rfl):AR prog f args (.ag cs i r):=by
  have h1:=ck.1;rw[hb]at h1;exact ez (Ko Sc.Tryz_follows) hf hb hname h1 ck.2 (Nat.le_of_ble_eq_true hn) nb hp hlo (fun hw hwc=>(h hw hwc).out)
theorem t7{cs:List AN}(ck:CK fn pl rv)(nb:PC.wl pl=true)(h:∀r,x=some r → TV.tn ts → (∀c∈cs,c.t.WF) → HR (fun r=>BO rv (R r)) → WP (AR prog) pl ⟨BO rv (R r),fun _ _=>False,BO rv (R r)⟩ ((i,.wQ cs)::C3 0 ts))(hf:prog.funcs[f]? =some fn:=by rfl)(hb:fn.body=some c:=by rfl)(hname:fn.name≠ "runtime.NumGoroutine" :=by decide)(hn:Nat.ble ts.length fn.ntmps=true:=by rfl)(hp:∀r,(R r).plain=true:=by exact fun _=>rfl)(hlo:∀r,(R r).lone=false:=by exact fun _=>rfl):Ct prog x f ts (fun r=> .ag cs i (R r)):=
  ⟨fun r hr=>vH ck nb (fun hw hwc=>h r hr hw hwc ⟨⟩) hf hb hname hn (hp r) (hlo r)⟩
theorem vG{x:Option (BT×Int)}(ck:CK fn pl rv)(h:∀r,x=some r → TV.tn ts → HR (fun r=>BO rv (Mu r)) → WP (AR prog) pl ⟨BO rv (Mu r),fun _ _=>False,BO rv (Mu r)⟩ (C3 0 ts))(hf:prog.funcs[f]? =some fn:=by rfl)(hb:fn.body=some c:=by rfl)(hname:fn.name≠ "runtime.NumGoroutine" :=by decide)(hn:Nat.ble ts.length fn.ntmps=true:=by rfl):Ct prog x f ts Mu:=by
  refine ⟨fun r hr=>?_⟩;have h0:=h r hr;have h1:=ck.1;rw[hb]at h1;by_cases he:r.2=0
  · have e:Mu r=.mpr r.1 [.int .i64 r.2]:=a6 he
    rw [e]at h0|-;exact fA (Ko Sc.Tryz_follows) hf hb hname h1 ck.2 (Nat.le_of_ble_eq_true hn) (fun hw=>(h0 hw ⟨⟩).out)
  · have e:Mu r=.tp [.undef,.int .i64 r.2]:=ae he
    rw [e]at h0|-;exact ZK (Ko Sc.Tryz_follows) hf hb hname h1 ck.2 (Nat.le_of_ble_eq_true hn) rfl (fun hw=>(h0 hw ⟨⟩).out)
theorem uT{cs:List AN}{cs':α → List AN}(ck:CK fn pl rv)(nb:PC.wl pl=true/\PC.wm i pl=true)(h:∀r,x=some r → TV.tn ts → (∀c∈cs,c.t.WF) → WP (AR prog) pl ⟨Z5 rv cs (cs' r) i (us r),fun _ _=>False,Z5 rv cs (cs' r) i (us r)⟩ ((i,.bx cs)::C3 0 ts))(hf:prog.funcs[f]? =some fn:=by rfl)(hb:fn.body=some c:=by rfl)(hname:fn.name≠ "runtime.NumGoroutine" :=by decide)(hn:Nat.ble ts.length fn.ntmps=true:=by rfl):Ct prog x f ts (fun r=> .bo cs (cs' r) i (us r)):=by
  refine ⟨fun r hr=>?_⟩;have h1:=ck.1;rw[hb]at h1;exact cx (Ko Sc.Tryz_follows) hf hb hname h1 ck.2 (Nat.le_of_ble_eq_true hn) nb.1 nb.2 (fun hw hwc=>(h r hr hw hwc).out)
def uL:Nat->Fq×List (Nat×Nat)
  |0=>([.int .i64 0,.str ⟨#[]⟩,.int .i64 0],[(0,1),(1,1)])|1=>([.list 1 [],.list 1 []],[])|2=>([.list 1 [],.list 1 []],[(0,1),(1,1)])|3=>([.str ⟨#[]⟩,.int .i64 0,.int .i64 0,.list 1 []],[])|4=>([.list 1 [],.list 3 []],[])|5=>([.int .i64 0,.int .i64 0],[(0,1),(1,1)])|6=>([.list 1 [],.list 3 [],.list 1 [],.list 3 [],.list 1 [],.list 1 [],.list 1 [],.list 1 []],[(0,2),(2,2),(4,2),(6,2)])|7=>([.int .i64 0,.int .i64 0,.int .i64 0],[(0,1),(1,1),(2,1)])|8=>([.list 1 [],.list 3 [],.list 1 [],.list 3 [],.list 1 [],.nil,.nil,.bool false,.int .i64 0,.nil,.nil,.nil],[(0,2),(2,2),(4,1),(5,2),(7,1),(8,1)])|9=>([.list 1 [],.list 1 [],.list 1 []],[(0,2),(2,1)])|10=>([.int .i64 0,.list 1 [],.list 1 [],.list 1 [],.list 5 []],[])|11=>([.int .i64 0,.list 1 [],.list 1 [],.list 1 [],.list 5 []],[(0,1),(4,1)])|12=>([.int .i64 0,.list 1 [],.list 1 [],.list 1 [],.list 5 []],[(1,3),(4,1)])|13=>([.list 4 [],.list 7 [],.list 1 [],.list 3 [],.list 1 [],.bool false],[(0,2),(2,3),(5,1)])|14=>([.str ⟨#[]⟩,.list 1 [],.list 3 [],.list 4 [],.int .i64 0,.list 5 [],.list 1 [],.list 3 [],.list 4 [],.int .i64 0,.list 5 [],.list 1 [],.list 1 [],.list 1 [],.list 1 [],.bool false,.int .i64 0,.list 9 [],.list 1 [],.list 1 [],.list 1 [],.list 3 [],.list 4 [],.int .i64 0,.list 5 [],.list 1 [],.list 1 [],.list 1 [],.list 1 [],.list 3 [],.list 1 [],.list 1 [],.list 3 [],.list 1 [],.list 1 [],.list 1 [],.list 1 [],.list 1 []],[])|15=>([.str ⟨#[]⟩,.list 1 [],.list 3 [],.list 4 [],.int .i64 0,.list 5 [],.list 1 [],.list 3 [],.list 4 [],.int .i64 0,.list 5 [],.list 1 [],.list 1 [],.list 1 [],.list 1 [],.bool false,.int .i64 0,.list 9 [],.list 1 [],.list 1 [],.list 1 [],.list 3 [],.list 4 [],.int .i64 0,.list 5 [],.list 1 [],.list 1 [],.list 1 [],.list 1 [],.list 3 [],.list 1 [],.nil,.nil,.nil,.list 1 [],.list 1 [],.list 1 [],.list 1 []],[(0,25),(25,3),(28,3)])|16=>([.list 4 [],.list 7 [],.list 1 [],.list 1 [],.list 25 []],[(0,2),(2,2),(4,1)])|17=>([.list 1 [],.list 3 [],.list 1 []],[])|18=>([.str ⟨#[]⟩,.int .i64 0,.int .i64 0,.int .i64 0,.int .i64 0,.int .i64 0,.int .i64 0],[(0,1),(1,1),(2,1),(4,1),(6,1)])|19=>([.list 4 [],.list 7 []],[(0,1),(1,1)])|20=>([.nil,.nil],[])|21=>([.list 1 [],.list 1 [],.list 1 []],[(0,2)])|22=>([.int .i64 0,.list 1 [],.list 1 [],.list 1 []],[(0,1),(1,3)])|23=>([.list 1 [],.list 3 [],.list 1 []],[(0,2),(2,1)])|24=>([.list 1 [],.list 3 [],.list 1 [],.list 4 [],.list 1 [],.list 1 []],[(0,3),(3,1),(4,2)])|25=>([.list 1 [],.list 3 []],[(0,1),(1,1)])|26=>([.list 1 [],.list 3 [],.list 1 [],.list 1 [],.list 4 [],.list 1 [],.list 1 []],[(0,2),(2,1),(3,1)])|27=>([.list 4 [],.list 7 [],.list 1 [],.list 1 [],.list 25 [],.list 1 [],.int .i64 0,.list 1 [],.list 3 [],.list 1 [],.list 4 [],.list 1 [],.list 1 [],.int .i64 0],[(0,5),(5,1)])|28=>([.list 1 [],.list 3 [],.list 1 [],.list 4 [],.list 1 [],.list 1 []],[])|29=>([.int .i64 0,.str ⟨#[]⟩,.int .i64 0],[])|30=>([.list 1 [],.list 3 [],.list 4 [],.int .i64 0,.list 5 []],[(0,2)])|31=>([.int .i64 0,.list 9 [],.list 1 [],.list 1 [],.list 1 [],.list 3 [],.list 4 [],.int .i64 0,.list 5 []],[(0,1)])|32=>([.str ⟨#[]⟩,.list 1 [],.list 3 [],.list 4 [],.int .i64 0,.list 5 [],.list 1 [],.list 3 [],.list 4 [],.int .i64 0,.list 5 [],.list 1 [],.list 1 [],.list 1 [],.list 1 [],.bool false,.int .i64 0,.list 9 [],.list 1 [],.list 1 [],.list 1 [],.list 3 [],.list 4 [],.int .i64 0,.list 5 []],[(0,1),(1,5),(6,5),(11,2),(13,2),(15,1),(16,9)])|33=>([.list 2 [],.list 3 []],[(0,1),(1,1)])|34=>([.int .u8 0,.int .u8 0,.int .u8 0],[(0,1),(1,1),(2,1)])|35=>([.list 2 [],.list 3 [],.list 1 [],.list 3 []],[(2,1),(3,1)])|36=>([.int .u8 0,.int .u8 0],[(0,1),(1,1)])|37=>([.list 2 [],.list 3 [],.list 1 [],.list 3 []],[(0,2),(2,1),(3,1)])|38=>([.int .i64 0,.int .i64 0,.int .i64 0],[(1,1),(2,1)])|39=>([.list 1 [],.list 3 []],[(0,1)])|40=>([.str ⟨#[]⟩,.list 1 [],.list 3 [],.list 4 [],.int .i64 0,.list 5 [],.list 1 [],.list 3 [],.list 4 [],.int .i64 0,.list 5 [],.list 1 [],.list 1 [],.list 1 [],.list 1 [],.bool false,.int .i64 0,.list 9 [],.list 1 [],.list 1 [],.list 1 [],.list 3 [],.list 4 [],.int .i64 0,.list 5 []],[])
  |41=>([.list 4 [],.list 7 [],.list 1 [],.list 3 [],.list 1 [],.list 3 [],.list 1 [],.list 1 [],.bool false,.int .i64 0,.nil],[(0,2),(2,2),(4,2),(6,2),(8,1),(9,1)])|42=>([.str ⟨#[]⟩,.list 1 [],.list 3 [],.list 4 [],.int .i64 0,.list 5 [],.list 1 [],.list 3 [],.list 4 [],.int .i64 0,.list 5 [],.list 1 [],.list 1 [],.list 1 [],.list 1 [],.bool false,.int .i64 0,.list 9 [],.list 1 [],.list 1 [],.list 1 [],.list 3 [],.list 4 [],.int .i64 0,.list 5 [],.list 1 [],.list 1 [],.list 1 [],.list 1 [],.list 3 [],.list 1 [],.list 1 [],.list 3 [],.list 1 [],.list 1 [],.list 1 [],.list 1 [],.list 1 []],[(0,25),(25,3),(28,3),(31,3),(34,2),(36,2)])|_=>([],[])
def uM:Nat->List AN
  |0=>[⟨false,.str ⟨#[]⟩⟩,⟨false,.int .i64 0⟩,⟨false,.bool false⟩,⟨true,.list 4 []⟩]|1=>[⟨false,.str ⟨#[]⟩⟩,⟨false,.int .i64 0⟩,⟨false,.int .i64 0⟩,⟨false,.int .i64 0⟩,⟨false,.int .i64 0⟩,⟨false,.int .i64 0⟩,⟨false,.int .i64 0⟩]|2=>[⟨true,.list 1 []⟩,⟨true,.list 1 []⟩]|3=>[⟨false,.str ⟨#[]⟩⟩,⟨false,.int .i64 0⟩,⟨false,.int .i64 0⟩,⟨true,.list 1 []⟩]|4=>[⟨false,.int .i64 0⟩,⟨false,.int .i64 0⟩,⟨false,.int .i64 0⟩,⟨false,.int .i64 0⟩,⟨false,.int .i64 0⟩]|5=>[⟨false,.int .i64 0⟩,⟨false,.int .i64 0⟩,⟨false,.int .i64 0⟩,⟨false,.int .i64 0⟩]|6=>[⟨false,.int .i64 0⟩,⟨false,.int .i64 0⟩]|7=>[⟨false,.int .i64 0⟩,⟨false,.int .i64 0⟩,⟨false,.int .i64 0⟩]|8=>[⟨true,.list 1 []⟩,⟨true,.list 3 []⟩]|9=>[⟨true,.list 1 []⟩,⟨true,.list 3 []⟩,⟨true,.list 4 []⟩,⟨false,.int .i64 0⟩,⟨true,.list 5 []⟩]|10=>[⟨false,.int .i64 0⟩,⟨true,.list 9 []⟩,⟨true,.list 1 []⟩,⟨true,.list 1 []⟩,⟨true,.list 1 []⟩,⟨true,.list 3 []⟩,⟨true,.list 4 []⟩,⟨false,.int .i64 0⟩,⟨true,.list 5 []⟩]|11=>[⟨false,.int .i64 0⟩]|12=>[⟨false,.str ⟨#[]⟩⟩,⟨true,.list 1 []⟩,⟨true,.list 3 []⟩,⟨true,.list 4 []⟩,⟨false,.int .i64 0⟩,⟨true,.list 5 []⟩,⟨true,.list 1 []⟩,⟨true,.list 3 []⟩,⟨true,.list 4 []⟩,⟨false,.int .i64 0⟩,⟨true,.list 5 []⟩,⟨true,.list 1 []⟩,⟨true,.list 1 []⟩,⟨true,.list 1 []⟩,⟨true,.list 1 []⟩,⟨false,.bool false⟩,⟨false,.int .i64 0⟩,⟨true,.list 9 []⟩,⟨true,.list 1 []⟩,⟨true,.list 1 []⟩,⟨true,.list 1 []⟩,⟨true,.list 3 []⟩,⟨true,.list 4 []⟩,⟨false,.int .i64 0⟩,⟨true,.list 5 []⟩]|13=>[⟨true,.list 1 []⟩,⟨true,.list 3 []⟩,⟨true,.list 1 []⟩,⟨true,.list 3 []⟩,⟨true,.list 1 []⟩,⟨true,.list 1 []⟩,⟨true,.list 1 []⟩,⟨true,.list 1 []⟩]|14=>[⟨false,.int .i64 0⟩,⟨true,.list 1 []⟩,⟨true,.list 1 []⟩,⟨true,.list 1 []⟩,⟨true,.list 5 []⟩]|15=>[⟨true,.list 1 []⟩,⟨true,.list 1 []⟩,⟨true,.list 1 []⟩]|16=>[⟨true,.list 1 []⟩,⟨true,.list 3 []⟩,⟨true,.list 1 []⟩]|17=>[⟨false,.str ⟨#[]⟩⟩,⟨true,.list 1 []⟩,⟨true,.list 3 []⟩,⟨true,.list 4 []⟩,⟨false,.int .i64 0⟩,⟨true,.list 5 []⟩,⟨true,.list 1 []⟩,⟨true,.list 3 []⟩,⟨true,.list 4 []⟩,⟨false,.int .i64 0⟩,⟨true,.list 5 []⟩,⟨true,.list 1 []⟩,⟨true,.list 1 []⟩,⟨true,.list 1 []⟩,⟨true,.list 1 []⟩,⟨false,.bool false⟩,⟨false,.int .i64 0⟩,⟨true,.list 9 []⟩,⟨true,.list 1 []⟩,⟨true,.list 1 []⟩,⟨true,.list 1 []⟩,⟨true,.list 3 []⟩,⟨true,.list 4 []⟩,⟨false,.int .i64 0⟩,⟨true,.list 5 []⟩,⟨true,.list 1 []⟩,⟨true,.list 1 []⟩,⟨true,.list 1 []⟩,⟨true,.list 1 []⟩,⟨true,.list 3 []⟩,⟨true,.list 1 []⟩,⟨true,.list 1 []⟩,⟨true,.list 3 []⟩,⟨true,.list 1 []⟩,⟨true,.list 1 []⟩,⟨true,.list 1 []⟩,⟨true,.list 1 []⟩,⟨true,.list 1 []⟩]|18=>[⟨false,.str ⟨#[]⟩⟩,⟨true,.list 1 []⟩,⟨true,.list 3 []⟩,⟨true,.list 4 []⟩,⟨false,.int .i64 0⟩,⟨true,.list 5 []⟩,⟨true,.list 1 []⟩,⟨true,.list 3 []⟩,⟨true,.list 4 []⟩,⟨false,.int .i64 0⟩,⟨true,.list 5 []⟩,⟨true,.list 1 []⟩,⟨true,.list 1 []⟩,⟨true,.list 1 []⟩,⟨true,.list 1 []⟩,⟨false,.bool false⟩,⟨false,.int .i64 0⟩,⟨true,.list 9 []⟩,⟨true,.list 1 []⟩,⟨true,.list 1 []⟩,⟨true,.list 1 []⟩,⟨true,.list 3 []⟩,⟨true,.list 4 []⟩,⟨false,.int .i64 0⟩,⟨true,.list 5 []⟩,⟨true,.list 1 []⟩,⟨true,.list 1 []⟩,⟨true,.list 1 []⟩,⟨true,.list 1 []⟩,⟨true,.list 3 []⟩,⟨true,.list 1 []⟩,⟨true,.list 1 []⟩,⟨true,.list 3 []⟩,⟨true,.xn []⟩,⟨true,.list 1 []⟩,⟨true,.list 1 []⟩,⟨true,.list 1 []⟩,⟨true,.list 1 []⟩]|19=>[⟨false,.list 1 []⟩,⟨false,.list 3 []⟩,⟨false,.list 1 []⟩]|20=>[⟨false,.int .i64 0⟩,⟨true,.list 1 []⟩,⟨true,.list 1 []⟩,⟨true,.list 1 []⟩]|21=>[⟨true,.list 4 []⟩,⟨true,.list 7 []⟩]|22=>[⟨true,.list 1 []⟩,⟨true,.list 3 []⟩,⟨true,.list 1 []⟩,⟨true,.list 1 []⟩]|23=>[⟨true,.list 1 []⟩,⟨true,.list 3 []⟩,⟨true,.list 1 []⟩,⟨true,.list 1 []⟩,⟨true,.list 4 []⟩,⟨true,.list 1 []⟩,⟨true,.list 1 []⟩]|24=>[⟨true,.list 1 []⟩,⟨true,.list 3 []⟩,⟨true,.xl 1 []⟩,⟨true,.xl 1 []⟩,⟨true,.list 4 []⟩,⟨true,.list 1 []⟩,⟨true,.list 1 []⟩]|25=>[⟨true,.list 1 []⟩,⟨true,.list 3 []⟩,⟨true,.list 1 []⟩,⟨true,.list 4 []⟩,⟨true,.list 1 []⟩,⟨true,.list 1 []⟩]|26=>[⟨true,.list 4 []⟩,⟨true,.list 7 []⟩,⟨true,.list 1 []⟩,⟨true,.list 1 []⟩,⟨true,.list 25 []⟩]|27=>[⟨false,.int .i64 0⟩,⟨false,.str ⟨#[]⟩⟩,⟨false,.int .i64 0⟩]
  |28=>[⟨true,.list 2 []⟩,⟨true,.list 3 []⟩,⟨true,.list 1 []⟩,⟨true,.list 3 []⟩]|29=>[⟨true,.xl 1 []⟩,⟨true,.xl 3 []⟩]|30=>[⟨true,.list 1 []⟩,⟨true,.list 3 []⟩,⟨true,.xn []⟩]|_=>[]
def LH:bA:=⟨uL,uM⟩
def bT:Nat:=0x9032016a04420158027e9db577de014a044b5f7e4de10104079d93a88a0596300b5e5f030444915d603007c90c0b1944555b850b0443589a054b014ca18393300389810a48b1064265ff550181019b420b5d657c048903000000733201026b030000030405017dff8a740000094400005e01880e02420a090000553200000000930092027f3201428105000000000000066d6b04054402018158014700000000000055587d7c00005f42024b6900034b080e8100000000005d01818b00000a05818106050000030301840000000030056a0b000000000000300060013141000000005555767500000000430100000000000000006c0e0000000000000807415b42016501ff58000000000000000003441111010e050b035b00000000000000000000050485610100ff8593930000000000003c5c000000000000018131430302314203320105004100000000ff810000000002440000000000000000000000000000000000000000000000000000000000000000000000000000000000000000000000000000000000000000000000000000000000000000004203010101000000000000000000000000000000000000000000000000000000000000000000000000000000000000000000000000000000000000000000000000000000000000000000000000000000000000000000000000000000000000000000000000
theorem nz{P:Prop}(p:P:=by
  intros
  conv=>
    arg 2
    conv=>
      enter [2]
      whnf
    conv=>
      enter [3]
      whnf
    simp only[PC.of,dC,iC,iB,oU,kw,uD,uE,uC,kv,oT,uF,RB,YT,Y5,uB,cr,oP,tP,a0,a1,Qi,k9,oI,oO,cV,LH,uL,uM,Nat.reduceDiv,Nat.reduceMod,Nat.reduceMul,Nat.reduceEqDiff,↓reduceIte,List.nil_append,List.cons_append,Bool.or_true,Bool.true_or,Bool.or_false,Bool.false_or,Bool.or_self]
  exact au):P:=p
def Lk:List ResultVar->List RV
  |.tmp s::r=>.tmp s::Lk r|_=>[]
theorem Fk(fn:Func)(s:Nat)(X:List AE)(rv:List RV)(h:∀r,x=some r → TV.tn ts → HR (fun r=>BO rv (R r)) → WP (AR prog) (PC.of LH fn.body (xq bT s) X) ⟨BO rv (R r),fun _ _=>False,BO rv (R r)⟩ (C3 0 ts))(hb:fn.body=some c:=by rfl)(ck:CK fn (PC.of LH fn.body (xq bT s) X) rv:=by decide +kernel)(hf:prog.funcs[f]? =some fn:=by rfl)(hname:fn.name≠ "runtime.NumGoroutine" :=by decide)(hn:Nat.ble ts.length fn.ntmps=true:=by rfl)(hp:∀r,(R r).plain=true:=by exact fun _=>rfl):Ct prog x f ts R:=
  Fi ck h hf hb hname hn hp
theorem Fj(fn:Func)(s:Nat)(X:List AE)(h:∀{r},x=some r → ∀{_:TV.tn ts}{_:HR fun r=>BO (Lk fn.results.toList) (R r)},WP (AR prog) (PC.of LH fn.body (xq bT s) X) ⟨BO (Lk fn.results.toList) (R r),fun _ _=>False,BO (Lk fn.results.toList) (R r)⟩ (C3 0 ts))(hb:fn.body=some c:=by rfl)(ck:CK fn (PC.of LH fn.body (xq bT s) X) (Lk fn.results.toList):=by decide +kernel)(hf:prog.funcs[f]? =some fn:=by rfl)(hname:fn.name≠ "runtime.NumGoroutine" :=by decide)(hn:Nat.ble ts.length fn.ntmps=true:=by rfl)(hp:∀r,(R r).plain=true:=by exact fun _=>rfl):Ct prog x f ts R:=
  Fk fn s X _ (fun r e a b=>@h r e a b) hb ck hf hname hn hp
variable{y:Option α}
theorem Fe{R:α->Am}(fn:Func)(s:Nat)(X:List AE)(E:x=y)(h:∀r,y=some r->TV.tn ts->HR (fun r=>BO (Lk fn.results.toList) (R r))->WP (AR prog) (PC.of LH fn.body (xq bT s) X) ⟨BO (Lk fn.results.toList) (R r),fun _ _=>False,BO (Lk fn.results.toList) (R r)⟩ (C3 0 ts):=by
  intro r h _ _;exact nz)(hb:fn.body=some c:=by rfl)(ck:CK fn (PC.of LH fn.body (xq bT s) X) (Lk fn.results.toList):=by decide +kernel)(hf:prog.funcs[f]? =some fn:=by rfl)(hname:fn.name≠ "runtime.NumGoroutine" :=by decide)(hn:Nat.ble ts.length fn.ntmps=true:=by rfl)(hp:∀r,(R r).plain=true:=by exact fun _=>rfl):Ct prog x f ts R:=
  Fk fn s X _ (fun r e a b=>h r (E.symm.trans e) a b) hb ck hf hname hn hp
variable{H1:Prop}
theorem Bz{R:α->Am}(fn:Func)(s:Nat)(X:List AE)(E:x=y)(i1:H1)(h:H1->∀r,y=some r->TV.tn ts->HR (fun r=>BO (Lk fn.results.toList) (R r))->WP (AR prog) (PC.of LH fn.body (xq bT s) X) ⟨BO (Lk fn.results.toList) (R r),fun _ _=>False,BO (Lk fn.results.toList) (R r)⟩ (C3 0 ts):=by
  intro _ r h _ _;exact nz)(hb:fn.body=some c:=by rfl)(ck:CK fn (PC.of LH fn.body (xq bT s) X) (Lk fn.results.toList):=by decide +kernel)(hf:prog.funcs[f]? =some fn:=by rfl)(hname:fn.name≠ "runtime.NumGoroutine" :=by decide)(hn:Nat.ble ts.length fn.ntmps=true:=by rfl)(hp:∀r,(R r).plain=true:=by exact fun _=>rfl):Ct prog x f ts R:=
  Fk fn s X _ (fun r e a b=>h i1 r (E.symm.trans e) a b) hb ck hf hname hn hp
variable{H2:Prop}
theorem Gr{R:α->Am}(fn:Func)(s:Nat)(X:List AE)(E:x=y)(i1:H1)(i2:H2)(h:H1->H2->∀r,y=some r->TV.tn ts->HR (fun r=>BO (Lk fn.results.toList) (R r))->WP (AR prog) (PC.of LH fn.body (xq bT s) X) ⟨BO (Lk fn.results.toList) (R r),fun _ _=>False,BO (Lk fn.results.toList) (R r)⟩ (C3 0 ts):=by
  intro _ _ r h _ _;exact nz)(hb:fn.body=some c:=by rfl)(ck:CK fn (PC.of LH fn.body (xq bT s) X) (Lk fn.results.toList):=by decide +kernel)(hf:prog.funcs[f]? =some fn:=by rfl)(hname:fn.name≠ "runtime.NumGoroutine" :=by decide)(hn:Nat.ble ts.length fn.ntmps=true:=by rfl)(hp:∀r,(R r).plain=true:=by exact fun _=>rfl):Ct prog x f ts R:=
  Fk fn s X _ (fun r e a b=>h i1 i2 r (E.symm.trans e) a b) hb ck hf hname hn hp
theorem kZ{H3:Prop}{R:α->Am}(fn:Func)(s:Nat)(X:List AE)(E:x=y)(i1:H1)(i2:H2)(i3:H3)(h:H1->H2->H3->∀r,y=some r->TV.tn ts->HR (fun r=>BO (Lk fn.results.toList) (R r))->WP (AR prog) (PC.of LH fn.body (xq bT s) X) ⟨BO (Lk fn.results.toList) (R r),fun _ _=>False,BO (Lk fn.results.toList) (R r)⟩ (C3 0 ts):=by
  intro _ _ _ r h _ _;exact nz)(hb:fn.body=some c:=by rfl)(ck:CK fn (PC.of LH fn.body (xq bT s) X) (Lk fn.results.toList):=by decide +kernel)(hf:prog.funcs[f]? =some fn:=by rfl)(hname:fn.name≠ "runtime.NumGoroutine" :=by decide)(hn:Nat.ble ts.length fn.ntmps=true:=by rfl)(hp:∀r,(R r).plain=true:=by exact fun _=>rfl):Ct prog x f ts R:=
  Fk fn s X _ (fun r e a b=>h i1 i2 i3 r (E.symm.trans e) a b) hb ck hf hname hn hp
def oy{σ:Type}(c:Nat)(f:σ->List (Nat×EV)):Int->σ->List (Nat×EV):=fun i s=>(c,.tv (eI i))::f s
theorem BH(n c q i:Nat){σ:Type}(f:σ->List (Nat×EV)):HA n c q i (oy c f):=⟨⟩
theorem A4(n c q i:Nat):HA n c q i (oy c fun _:Unit=>[]):=⟨⟩
abbrev CT{α:Type}(x:Option α)(f:outParam FuncId)(ts:outParam Fq)(R:outParam (α->Am)):Prop:=Ct prog x f ts R
abbrev rB:Bool->Am:=fun r=>.sh (eB r)
abbrev rI:Int->Am:=fun r=>.sh (eI r)
abbrev rO{α:Type}(e:α->TV):α->Am:=fun r=>.own (e r)
abbrev rS{α:Type}(e:α->TV):α->Am:=fun r=>.sh (e r)
abbrev rT{α β:Type}(e:α->TV)(f:β->TV):α×β->Am:=fun r=>.tp [e r.1,f r.2]
abbrev hO{α:Type}(k:Nat)(e:α->TV):α->List (Nat×EV):=fun s=>[(k,.ow (e s))]
abbrev hT{α:Type}(k:Nat)(e:α->TV):α->List (Nat×EV):=fun s=>[(k,.tv (e s))]
abbrev hX{α:Type}(k n:Nat)(e:α->TV):List α->List (Nat×EV):=fun s=>[(k,.xo n (List.map e s))]
end Go.Sf.Sc
