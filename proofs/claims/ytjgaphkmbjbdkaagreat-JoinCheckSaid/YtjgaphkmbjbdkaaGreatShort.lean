/- Shorter names for the shapes of rows, and how structs are read. -/
import Derived.Test.YtjgaphkmbjbdkaaGreatSfAuto
import Derived.Test.YtjgaphkmbjbdkaaGreatSfDec
import Derived.Test.YtjgaphkmbjbdkaaGreatSfK
import Derived.Test.YtjgaphkmbjbdkaaGreatSfLib
import Derived.Test.YtjgaphkmbjbdkaaGreatFns
set_option linter.all false
set_option maxRecDepth 100000
namespace Go.Sf
abbrev Rq(o:List PR)(l:Ne)(b:PC):PC:=.seq (.region o l) b
abbrev Sq(a b:PC):PC:=.seq a b
abbrev Re(o:List PR)(l:Ne):PC:=.region o l
abbrev Dr(d:Ne)(o:List PR)(l:Ne):PC:=.draw d o l
abbrev Sk(l:Ne):PC:=.skip l
abbrev Ex(i:Nat)(l:Ne):PC:=.exit i l
abbrev Co(c:Nat)(a b:PC):PC:=.cond (.s c) a b
abbrev Bl(i:Nat)(a:PC):PC:=.block i a
abbrev Lo(l:Ne)(a:PC):PC:=.loop l a
abbrev Aa(x0 x1:Nat):PR:=⟨some x0,.mv (.s x1),none⟩
abbrev Ab(x0 x1:Nat):PR:=⟨some x0,.tk x1,none⟩
abbrev Ac(x0 x1:Nat):PR:=⟨some x0,.ld (.s x1),none⟩
abbrev Ad(x0:Nat)(x1:Int):PR:=⟨some x0,.mv (.c (.int .i64 x1)),none⟩
abbrev Ae(x0 x1:Nat):PR:=⟨some x0,.len (.s x1),none⟩
abbrev Af(x0 x1:Nat):PR:=⟨some x0,.Abe (.s x1),none⟩
abbrev Ag(x0 x1 x2:Nat):PR:=⟨some x0,.lda (.s x1) x2,none⟩
abbrev Ah(x0 x1 x2:Nat):PR:=⟨some x0,.fad (.s x1) x2,none⟩
abbrev Ai(x0 x1 x2:Nat):PR:=⟨some x0,.bin (.i) .lss (.s x1) (.s x2),none⟩
abbrev Aj(x0 x1 x2 x3:Nat):PR:=⟨some x0,.iad (.s x1) (.s x2) x3,none⟩
abbrev Ak(x0 x1:Nat)(x2:Int):PR:=⟨some x0,.bin (.i) .add (.s x1) (.c (.int .i64 x2)),none⟩
end Go.Sf
namespace Go.Sf.Sc
open Go Go.Sf Go.Proofs.Tryz
instance(l:List d7):Ml (JS l) AH l:=⟨OZ l⟩
instance(l:List BA):Ml (Oa l) Eb l:=⟨SG l⟩
instance:En d7 AH:=⟨⟩
instance:En BA Eb:=⟨⟩
instance:Fl AH 9 DB:=⟨Nu⟩
instance:Fl Eb 5 IE:=⟨bv⟩
instance:ZQ BP:=⟨fun l=>match l with|[.int _ x0,.int _ x1,.int _ x2]=>Bk.mk x0 x1 x2|_=>Bk.mk 0 0 0,fun a b=>⟨inferInstance,kM a b⟩⟩
instance:ZQ Da:=⟨fun l=>match l with|[.int _ x0,.int _ x1,.int _ x2,.int _ x3]=>CP.mk x0 x1 (gn.mk x2 x3)|_=>CP.mk 0 0 (gn.mk 0 0),fun a b=>⟨inferInstance,kN a b⟩⟩
instance:ZQ Dv:=⟨fun l=>match l with|[.int _ x0,.int _ x1,.int _ x2,.int _ x3,.int _ x4]=>Test.mk x0 (gn.mk x1 x2) (gn.mk x3 x4)|_=>Test.mk 0 (gn.mk 0 0) (gn.mk 0 0),fun a b=>⟨inferInstance,kO a b⟩⟩
abbrev CK(fn:Func)(pl:PC)(rv:List RV):Prop:=De prog fn.ntmps (Tk prog fn.ntmps) pl (fn.body.getD .skip)=true/\GJ prog fn.results.toList rv=true
variable{f:FuncId}{fn:Func}{c:Code}{pl:PC}{rv:List RV}{r:Ax}
theorem Fn{args:Fq}(ck:CK fn pl rv)(h:TV.sc args → WP (AU prog) pl ⟨Bx rv r,fun _ _=>False,Bx rv r⟩ (Du 0 args))(hf:prog.funcs[f]? =some fn:=by rfl)(hb:fn.body=some c:=by rfl)(hname:fn.name≠ "runtime.NumGoroutine" :=by decide)(hn:Nat.ble args.length fn.ntmps=true:=by rfl)(hp:r.plain=true:=by rfl):AU prog f args r:=by
  have h1:=ck.1;rw[hb]at h1;exact Zz (L4 Sc.Tryz_follows) hf hb hname h1 ck.2 (Nat.le_of_ble_eq_true hn) hp (fun hw=>(h hw).out)
variable{i:Nat}
theorem xT{args:Fq}{cs cs':List AS}{us:Fq}(ck:CK fn pl rv)(nb:PC.t1 pl=true/\PC.t5 i pl=true)(h:TV.sc args → (∀c∈cs,c.t.WF) → WP (AU prog) pl ⟨Bx rv (.bo cs cs' i us),fun _ _=>False,Bx rv (.bo cs cs' i us)⟩ ((i,.bx cs)::Du 0 args))(hf:prog.funcs[f]? =some fn:=by rfl)(hb:fn.body=some c:=by rfl)(hname:fn.name≠ "runtime.NumGoroutine" :=by decide)(hn:Nat.ble args.length fn.ntmps=true:=by rfl):AU prog f args (.bo cs cs' i us):=by
  have h1:=ck.1;rw[hb]at h1;exact gu (L4 Sc.Tryz_follows) hf hb hname h1 ck.2 (Nat.le_of_ble_eq_true hn) nb.1 nb.2 (fun hw hwc=>(h hw hwc).out)
variable{α:Type}{x:Option α}{ts:Fq}{R:α → Ax}
theorem Fi(ck:CK fn pl rv)(h:∀r,x=some r → TV.sc ts → HR (fun r=>Bx rv (R r)) → WP (AU prog) pl ⟨Bx rv (R r),fun _ _=>False,Bx rv (R r)⟩ (Du 0 ts))(hf:prog.funcs[f]? =some fn:=by rfl)(hb:fn.body=some c:=by rfl)(hname:fn.name≠ "runtime.NumGoroutine" :=by decide)(hn:Nat.ble ts.length fn.ntmps=true:=by rfl)(hp:∀r,(R r).plain=true:=by exact fun _=>rfl):Ct prog x f ts R:=
  ⟨fun r hr=>Fn ck (fun hw=>h r hr hw ⟨⟩) hf hb hname hn (hp r)⟩
variable{us:α → Fq}
theorem cR{cs:List AS}{cs':α → List AS}(ck:CK fn pl rv)(nb:PC.t1 pl=true/\PC.t5 i pl=true)(h:∀r,x=some r → TV.sc ts → (∀c∈cs,c.t.WF) → HR (fun r=>Bx rv (.bo cs (cs' r) i (us r))) → WP (AU prog) pl ⟨Bx rv (.bo cs (cs' r) i (us r)),fun _ _=>False,Bx rv (.bo cs (cs' r) i (us r))⟩ ((i,.bx cs)::Du 0 ts))(hf:prog.funcs[f]? =some fn:=by rfl)(hb:fn.body=some c:=by rfl)(hname:fn.name≠ "runtime.NumGoroutine" :=by decide)(hn:Nat.ble ts.length fn.ntmps=true:=by rfl):Ct prog x f ts (fun r=> .bo cs (cs' r) i (us r)):=
  ⟨fun r hr=>xT ck nb (fun hw hwc=>h r hr hw hwc ⟨⟩) hf hb hname hn⟩
theorem xS{args:Fq}{cs:List AS}(ck:CK fn pl rv)(nb:PC.t1 pl=true)(h:TV.sc args → (∀c∈cs,c.t.WF) → WP (AU prog) pl ⟨Bx rv r,fun _ _=>False,Bx rv r⟩ ((i,.x8 cs)::Du 0 args))(hf:prog.funcs[f]? =some fn:=by rfl)(hb:fn.body=some c:=by rfl)(hname:fn.name≠ "runtime.NumGoroutine" :=by decide)(hn:Nat.ble args.length fn.ntmps=true:=by rfl)(hp:r.plain=true:=by rfl)(hlo:r.lone=false:=by rfl):AU prog f args (.ag cs i r):=by
  have h1:=ck.1;rw[hb]at h1;exact gq (L4 Sc.Tryz_follows) hf hb hname h1 ck.2 (Nat.le_of_ble_eq_true hn) nb hp hlo (fun hw hwc=>(h hw hwc).out)
theorem v7{cs:List AS}(ck:CK fn pl rv)(nb:PC.t1 pl=true)(h:∀r,x=some r → TV.sc ts → (∀c∈cs,c.t.WF) → HR (fun r=>Bx rv (R r)) → WP (AU prog) pl ⟨Bx rv (R r),fun _ _=>False,Bx rv (R r)⟩ ((i,.x8 cs)::Du 0 ts))(hf:prog.funcs[f]? =some fn:=by rfl)(hb:fn.body=some c:=by rfl)(hname:fn.name≠ "runtime.NumGoroutine" :=by decide)(hn:Nat.ble ts.length fn.ntmps=true:=by rfl)(hp:∀r,(R r).plain=true:=by exact fun _=>rfl)(hlo:∀r,(R r).lone=false:=by exact fun _=>rfl):Ct prog x f ts (fun r=> .ag cs i (R r)):=
  ⟨fun r hr=>xS ck nb (fun hw hwc=>h r hr hw hwc ⟨⟩) hf hb hname hn (hp r) (hlo r)⟩
theorem xR{x:Option (BX×Int)}(ck:CK fn pl rv)(h:∀r,x=some r → TV.sc ts → HR (fun r=>Bx rv (N2 r)) → WP (AU prog) pl ⟨Bx rv (N2 r),fun _ _=>False,Bx rv (N2 r)⟩ (Du 0 ts))(hf:prog.funcs[f]? =some fn:=by rfl)(hb:fn.body=some c:=by rfl)(hname:fn.name≠ "runtime.NumGoroutine" :=by decide)(hn:Nat.ble ts.length fn.ntmps=true:=by rfl):Ct prog x f ts N2:=by
  refine ⟨fun r hr=>?_⟩;have h0:=h r hr;have h1:=ck.1;rw[hb]at h1;by_cases he:r.2=0
  · have e:N2 r=.mpr r.1 [.int .i64 r.2]:=a6 he
    rw [e]at h0|-;exact gv (L4 Sc.Tryz_follows) hf hb hname h1 ck.2 (Nat.le_of_ble_eq_true hn) (fun hw=>(h0 hw ⟨⟩).out)
  · have e:N2 r=.tp [.undef,.int .i64 r.2]:=ae he
    rw [e]at h0|-;exact Zz (L4 Sc.Tryz_follows) hf hb hname h1 ck.2 (Nat.le_of_ble_eq_true hn) rfl (fun hw=>(h0 hw ⟨⟩).out)
theorem wP{cs:List AS}{cs':α → List AS}(ck:CK fn pl rv)(nb:PC.t1 pl=true/\PC.t5 i pl=true)(h:∀r,x=some r → TV.sc ts → (∀c∈cs,c.t.WF) → WP (AU prog) pl ⟨bH rv cs (cs' r) i (us r),fun _ _=>False,bH rv cs (cs' r) i (us r)⟩ ((i,.bx cs)::Du 0 ts))(hf:prog.funcs[f]? =some fn:=by rfl)(hb:fn.body=some c:=by rfl)(hname:fn.name≠ "runtime.NumGoroutine" :=by decide)(hn:Nat.ble ts.length fn.ntmps=true:=by rfl):Ct prog x f ts (fun r=> .bo cs (cs' r) i (us r)):=by
  refine ⟨fun r hr=>?_⟩;have h1:=ck.1;rw[hb]at h1;exact ew (L4 Sc.Tryz_follows) hf hb hname h1 ck.2 (Nat.le_of_ble_eq_true hn) nb.1 nb.2 (fun hw hwc=>(h r hr hw hwc).out)
def wJ:Nat->Fq×List (Nat×Nat)
  |0=>([.list 1 [],.list 1 []],[])|1=>([.int .i64 0,.str ⟨#[]⟩,.int .i64 0],[(0,1),(1,1)])|2=>([.str ⟨#[]⟩,.int .i64 0,.int .i64 0,.list 1 []],[])|3=>([.list 1 [],.list 3 []],[])|4=>([.list 1 [],.list 1 []],[(0,1),(1,1)])|5=>([.int .i64 0,.int .i64 0],[(0,1),(1,1)])|6=>([.list 1 [],.list 3 [],.list 1 [],.list 3 [],.list 1 [],.list 1 [],.list 1 [],.list 1 []],[(0,2),(2,2),(4,2),(6,2)])|7=>([.int .i64 0,.int .i64 0,.int .i64 0],[(0,1),(1,1),(2,1)])|8=>([.list 1 [],.list 3 [],.list 1 [],.list 3 [],.list 1 [],.nil,.nil,.bool false,.int .i64 0,.nil,.nil,.nil],[(0,2),(2,2),(4,1),(5,2),(7,1),(8,1)])|9=>([.list 1 [],.list 1 [],.list 1 []],[(0,2),(2,1)])|10=>([.int .i64 0,.list 1 [],.list 1 [],.list 1 [],.list 5 []],[])|11=>([.int .i64 0,.list 1 [],.list 1 [],.list 1 [],.list 5 []],[(0,1),(4,1)])|12=>([.int .i64 0,.list 1 [],.list 1 [],.list 1 [],.list 5 []],[(1,3),(4,1)])|13=>([.list 4 [],.list 7 [],.list 1 [],.list 3 [],.list 1 [],.bool false],[(0,2),(2,3),(5,1)])|14=>([.str ⟨#[]⟩,.list 1 [],.list 3 [],.list 4 [],.int .i64 0,.list 5 [],.list 1 [],.list 3 [],.list 4 [],.int .i64 0,.list 5 [],.list 1 [],.list 1 [],.list 1 [],.list 1 [],.bool false,.int .i64 0,.list 9 [],.list 1 [],.list 1 [],.list 1 [],.list 3 [],.list 4 [],.int .i64 0,.list 5 [],.list 1 [],.list 1 [],.list 1 [],.list 1 [],.list 3 [],.list 1 [],.list 1 [],.list 3 [],.list 1 [],.list 1 [],.list 1 [],.list 1 [],.list 1 []],[])|15=>([.str ⟨#[]⟩,.list 1 [],.list 3 [],.list 4 [],.int .i64 0,.list 5 [],.list 1 [],.list 3 [],.list 4 [],.int .i64 0,.list 5 [],.list 1 [],.list 1 [],.list 1 [],.list 1 [],.bool false,.int .i64 0,.list 9 [],.list 1 [],.list 1 [],.list 1 [],.list 3 [],.list 4 [],.int .i64 0,.list 5 [],.list 1 [],.list 1 [],.list 1 [],.list 1 [],.list 3 [],.list 1 [],.nil,.nil,.nil,.list 1 [],.list 1 [],.list 1 [],.list 1 []],[(0,25),(25,3),(28,3)])|16=>([.list 1 [],.list 3 [],.list 1 [],.list 4 []],[])|17=>([.list 1 [],.list 3 [],.list 1 []],[])|18=>([.list 1 [],.list 3 [],.list 1 [],.list 1 [],.list 3 [],.list 1 [],.list 1 [],.list 1 [],.nil,.nil],[(0,3),(3,3),(6,1),(7,1)])|19=>([.list 1 [],.list 3 [],.list 1 [],.list 4 []],[(0,3)])|20=>([.list 1 [],.list 3 [],.list 1 [],.list 4 [],.list 1 [],.list 3 [],.list 1 [],.list 1 [],.list 1 []],[(0,4),(4,3),(7,2)])|21=>([.list 1 [],.list 3 []],[(0,1)])|22=>([.int .i64 0,.int .i64 0],[(0,1)])|23=>([.int .i64 0,.int .i64 0,.int .i64 0,.int .i64 0],[(2,2)])|24=>([.list 1 [],.list 3 [],.list 4 [],.int .i64 0,.list 5 []],[(0,2),(3,1),(2,1)])|25=>([.list 1 [],.list 1 []],[(0,1)])|26=>([.int .i64 0,.list 9 [],.list 1 [],.list 1 [],.list 1 [],.list 3 [],.list 4 [],.int .i64 0,.list 5 []],[(0,1)])|27=>([.int .i64 0,.str ⟨#[]⟩,.int .i64 0],[])|28=>([.list 4 [],.list 7 [],.list 1 [],.list 3 [],.list 1 [],.list 3 [],.list 1 [],.list 1 [],.bool false,.int .i64 0,.nil],[(0,2),(2,2),(4,2),(6,2),(8,1),(9,1)])|29=>([.str ⟨#[]⟩,.list 1 [],.list 3 [],.list 4 [],.int .i64 0,.list 5 [],.list 1 [],.list 3 [],.list 4 [],.int .i64 0,.list 5 [],.list 1 [],.list 1 [],.list 1 [],.list 1 [],.bool false,.int .i64 0,.list 9 [],.list 1 [],.list 1 [],.list 1 [],.list 3 [],.list 4 [],.int .i64 0,.list 5 [],.list 1 [],.list 1 [],.list 1 [],.list 1 [],.list 3 [],.list 1 [],.list 1 [],.list 3 [],.list 1 [],.list 1 [],.list 1 [],.list 1 [],.list 1 []],[(0,25),(25,3),(28,3),(31,3),(34,2),(36,2)])|30=>([.list 1 [],.list 3 []],[(0,1),(1,1)])|31=>([.list 1 [],.list 3 [],.list 1 []],[(0,2),(2,1)])|32=>([.nil,.nil],[])|33=>([.int .i64 0,.list 1 [],.list 1 [],.list 1 []],[(0,1),(1,3)])|34=>([.list 1 [],.list 3 [],.list 1 [],.list 4 []],[(0,3),(3,1)])|35=>([.list 1 [],.list 3 [],.list 1 [],.list 4 [],.list 1 [],.list 3 [],.list 1 [],.list 4 [],.list 1 [],.list 1 []],[])|36=>([.list 1 [],.list 3 [],.list 1 [],.list 4 [],.list 1 [],.list 3 [],.list 1 [],.list 4 [],.list 1 [],.list 1 []],[(0,4),(4,4),(8,2)])|37=>([.list 4 [],.list 1 [],.list 3 [],.list 1 [],.list 1 [],.list 1 []],[(1,3),(4,2)])|_=>([],[])
def wK:Nat->List AS
  |0=>[⟨true,.list 1 []⟩,⟨true,.list 1 []⟩]|1=>[⟨false,.str ⟨#[]⟩⟩,⟨false,.int .i64 0⟩,⟨false,.bool false⟩,⟨true,.list 4 []⟩]|2=>[⟨false,.str ⟨#[]⟩⟩,⟨false,.int .i64 0⟩,⟨false,.int .i64 0⟩,⟨false,.int .i64 0⟩,⟨false,.int .i64 0⟩,⟨false,.int .i64 0⟩,⟨false,.int .i64 0⟩]|3=>[⟨false,.str ⟨#[]⟩⟩,⟨false,.int .i64 0⟩,⟨false,.int .i64 0⟩,⟨true,.list 1 []⟩]|4=>[⟨false,.int .i64 0⟩,⟨false,.int .i64 0⟩,⟨false,.int .i64 0⟩,⟨false,.int .i64 0⟩,⟨false,.int .i64 0⟩]|5=>[⟨false,.int .i64 0⟩,⟨false,.int .i64 0⟩,⟨false,.int .i64 0⟩,⟨false,.int .i64 0⟩]|6=>[⟨false,.int .i64 0⟩,⟨false,.int .i64 0⟩]|7=>[⟨true,.list 1 []⟩,⟨true,.list 3 []⟩]|8=>[⟨false,.int .i64 0⟩,⟨false,.int .i64 0⟩,⟨false,.int .i64 0⟩]|9=>[⟨true,.list 1 []⟩,⟨true,.list 3 []⟩,⟨true,.list 4 []⟩,⟨false,.int .i64 0⟩,⟨true,.list 5 []⟩]|10=>[⟨false,.int .i64 0⟩,⟨true,.list 9 []⟩,⟨true,.list 1 []⟩,⟨true,.list 1 []⟩,⟨true,.list 1 []⟩,⟨true,.list 3 []⟩,⟨true,.list 4 []⟩,⟨false,.int .i64 0⟩,⟨true,.list 5 []⟩]|11=>[⟨false,.int .i64 0⟩]|12=>[⟨false,.str ⟨#[]⟩⟩,⟨true,.list 1 []⟩,⟨true,.list 3 []⟩,⟨true,.list 4 []⟩,⟨false,.int .i64 0⟩,⟨true,.list 5 []⟩,⟨true,.list 1 []⟩,⟨true,.list 3 []⟩,⟨true,.list 4 []⟩,⟨false,.int .i64 0⟩,⟨true,.list 5 []⟩,⟨true,.list 1 []⟩,⟨true,.list 1 []⟩,⟨true,.list 1 []⟩,⟨true,.list 1 []⟩,⟨false,.bool false⟩,⟨false,.int .i64 0⟩,⟨true,.list 9 []⟩,⟨true,.list 1 []⟩,⟨true,.list 1 []⟩,⟨true,.list 1 []⟩,⟨true,.list 3 []⟩,⟨true,.list 4 []⟩,⟨false,.int .i64 0⟩,⟨true,.list 5 []⟩]|13=>[⟨true,.list 1 []⟩,⟨true,.list 3 []⟩,⟨true,.list 1 []⟩,⟨true,.list 3 []⟩,⟨true,.list 1 []⟩,⟨true,.list 1 []⟩,⟨true,.list 1 []⟩,⟨true,.list 1 []⟩]|14=>[⟨false,.int .i64 0⟩,⟨true,.list 1 []⟩,⟨true,.list 1 []⟩,⟨true,.list 1 []⟩,⟨true,.list 5 []⟩]|15=>[⟨true,.list 1 []⟩,⟨true,.list 1 []⟩,⟨true,.list 1 []⟩]|16=>[⟨true,.list 1 []⟩,⟨true,.list 3 []⟩,⟨true,.list 1 []⟩]|17=>[⟨false,.str ⟨#[]⟩⟩,⟨true,.list 1 []⟩,⟨true,.list 3 []⟩,⟨true,.list 4 []⟩,⟨false,.int .i64 0⟩,⟨true,.list 5 []⟩,⟨true,.list 1 []⟩,⟨true,.list 3 []⟩,⟨true,.list 4 []⟩,⟨false,.int .i64 0⟩,⟨true,.list 5 []⟩,⟨true,.list 1 []⟩,⟨true,.list 1 []⟩,⟨true,.list 1 []⟩,⟨true,.list 1 []⟩,⟨false,.bool false⟩,⟨false,.int .i64 0⟩,⟨true,.list 9 []⟩,⟨true,.list 1 []⟩,⟨true,.list 1 []⟩,⟨true,.list 1 []⟩,⟨true,.list 3 []⟩,⟨true,.list 4 []⟩,⟨false,.int .i64 0⟩,⟨true,.list 5 []⟩,⟨true,.list 1 []⟩,⟨true,.list 1 []⟩,⟨true,.list 1 []⟩,⟨true,.list 1 []⟩,⟨true,.list 3 []⟩,⟨true,.list 1 []⟩,⟨true,.list 1 []⟩,⟨true,.list 3 []⟩,⟨true,.list 1 []⟩,⟨true,.list 1 []⟩,⟨true,.list 1 []⟩,⟨true,.list 1 []⟩,⟨true,.list 1 []⟩]|18=>[⟨false,.str ⟨#[]⟩⟩,⟨true,.list 1 []⟩,⟨true,.list 3 []⟩,⟨true,.list 4 []⟩,⟨false,.int .i64 0⟩,⟨true,.list 5 []⟩,⟨true,.list 1 []⟩,⟨true,.list 3 []⟩,⟨true,.list 4 []⟩,⟨false,.int .i64 0⟩,⟨true,.list 5 []⟩,⟨true,.list 1 []⟩,⟨true,.list 1 []⟩,⟨true,.list 1 []⟩,⟨true,.list 1 []⟩,⟨false,.bool false⟩,⟨false,.int .i64 0⟩,⟨true,.list 9 []⟩,⟨true,.list 1 []⟩,⟨true,.list 1 []⟩,⟨true,.list 1 []⟩,⟨true,.list 3 []⟩,⟨true,.list 4 []⟩,⟨false,.int .i64 0⟩,⟨true,.list 5 []⟩,⟨true,.list 1 []⟩,⟨true,.list 1 []⟩,⟨true,.list 1 []⟩,⟨true,.list 1 []⟩,⟨true,.list 3 []⟩,⟨true,.list 1 []⟩,⟨true,.list 1 []⟩,⟨true,.list 3 []⟩,⟨true,.xn []⟩,⟨true,.list 1 []⟩,⟨true,.list 1 []⟩,⟨true,.list 1 []⟩,⟨true,.list 1 []⟩]|19=>[⟨false,.int .i64 0⟩,⟨true,.list 1 []⟩,⟨true,.list 1 []⟩,⟨true,.list 1 []⟩]|20=>[⟨true,.list 1 []⟩,⟨true,.list 3 []⟩,⟨true,.list 1 []⟩,⟨true,.list 4 []⟩,⟨true,.list 1 []⟩,⟨true,.list 3 []⟩,⟨true,.list 1 []⟩,⟨true,.list 1 []⟩,⟨true,.list 1 []⟩]|21=>[⟨true,.list 4 []⟩,⟨true,.list 7 []⟩]|22=>[⟨true,.list 1 []⟩,⟨true,.list 3 []⟩,⟨true,.xn []⟩]|23=>[⟨false,.int .i64 0⟩,⟨false,.str ⟨#[]⟩⟩,⟨false,.int .i64 0⟩]|24=>[⟨true,.xl 1 []⟩,⟨true,.xl 3 []⟩]|25=>[⟨true,.xl 1 []⟩,⟨true,.xl 1 []⟩]|26=>[⟨true,.list 1 []⟩,⟨true,.list 3 []⟩,⟨true,.list 1 []⟩,⟨true,.list 4 []⟩,⟨true,.list 1 []⟩,⟨true,.list 3 []⟩,⟨true,.list 1 []⟩,⟨true,.list 4 []⟩,⟨true,.list 1 []⟩,⟨true,.list 1 []⟩]|27=>[⟨true,.list 4 []⟩,⟨true,.list 1 []⟩,⟨true,.list 3 []⟩,⟨true,.list 1 []⟩,⟨true,.list 1 []⟩,⟨true,.list 1 []⟩]
  |_=>[]
def Rz:cT:=⟨wJ,wK⟩
def bT:Nat:=0x40934ddf7005900ea1090161606130a701049a30264b466a820237c808c903000b01725a04920706bd040a090b5a0e62427078a77d32827501c0045b00c9014c018d13120b599783925a48aa0001600481059f0e0444194400007c0684300376000062030381010271030000880e0000064226443632433000006c3200000000363606960b0a5e3059593781054b0d0c053037858c420142020105010000000000000442013600000147024274320002080e034b0000000081000944000037775e0181810000378a019300000000818b056000000000000043015fff810a000000005c0003030000000005440000000000000000610b000000000000024b0e365b42314108070000000000000130016a5f736b65413801ff050b0504010a00000000000003381111855d0000000000000000010e000000000344ff8501003c55314301819393030231420332000000000000010500000000000000000000000000000000000000000000000000000000000000000000000000000000000000000000000000000000000000000041ff810244000000000000004203010101000000000000000000000000000000000000000000000000000000000000000000000000000000000000000000000000000000000000000000000000000000000000000000000000000000000000000000000000000000000000000000000000
theorem nz{P:Prop}(p:P:=by
  intros
  conv=>
    arg 2
    conv=>
      enter [2]
      whnf
    conv=>
      enter [3]
      whnf
    simp only[PC.of,dC,kK,kJ,qU,nC,wF,wG,wE,nB,qT,wH,SE,Y9,Zm,wD,eY,oP,tP,a0,a1,Rp,nG,qN,oO,cV,Rz,wJ,wK,Nat.reduceDiv,Nat.reduceMod,Nat.reduceMul,Nat.reduceEqDiff,↓reduceIte,List.nil_append,List.cons_append,Bool.or_true,Bool.true_or,Bool.or_false,Bool.false_or,Bool.or_self]
  exact au):P:=p
def jR:List ResultVar->List RV
  |.tmp s::r=>.tmp s::jR r|_=>[]
theorem Fk(fn:Func)(s:Nat)(X:List AE)(rv:List RV)(h:∀r,x=some r → TV.sc ts → HR (fun r=>Bx rv (R r)) → WP (AU prog) (PC.of Rz fn.body (xq bT s) X) ⟨Bx rv (R r),fun _ _=>False,Bx rv (R r)⟩ (Du 0 ts))(hb:fn.body=some c:=by rfl)(ck:CK fn (PC.of Rz fn.body (xq bT s) X) rv:=by decide +kernel)(hf:prog.funcs[f]? =some fn:=by rfl)(hname:fn.name≠ "runtime.NumGoroutine" :=by decide)(hn:Nat.ble ts.length fn.ntmps=true:=by rfl)(hp:∀r,(R r).plain=true:=by exact fun _=>rfl):Ct prog x f ts R:=
  Fi ck h hf hb hname hn hp
theorem Fj(fn:Func)(s:Nat)(X:List AE)(h:∀{r},x=some r → ∀{_:TV.sc ts}{_:HR fun r=>Bx (jR fn.results.toList) (R r)},WP (AU prog) (PC.of Rz fn.body (xq bT s) X) ⟨Bx (jR fn.results.toList) (R r),fun _ _=>False,Bx (jR fn.results.toList) (R r)⟩ (Du 0 ts))(hb:fn.body=some c:=by rfl)(ck:CK fn (PC.of Rz fn.body (xq bT s) X) (jR fn.results.toList):=by decide +kernel)(hf:prog.funcs[f]? =some fn:=by rfl)(hname:fn.name≠ "runtime.NumGoroutine" :=by decide)(hn:Nat.ble ts.length fn.ntmps=true:=by rfl)(hp:∀r,(R r).plain=true:=by exact fun _=>rfl):Ct prog x f ts R:=
  Fk fn s X _ (fun r e a b=>@h r e a b) hb ck hf hname hn hp
abbrev CT{α:Type}(x:Option α)(f:outParam FuncId)(ts:outParam Fq)(R:outParam (α->Ax)):Prop:=Ct prog x f ts R
abbrev rB:Bool->Ax:=fun r=>.sh (eB r)
abbrev rI:Int->Ax:=fun r=>.sh (eI r)
end Go.Sf.Sc
