/- Shorter names for the shapes of rows, and how structs are read. -/
import Derived.Test.YtiefejhapgafkaaGreatSfAuto
import Derived.Test.YtiefejhapgafkaaGreatFns
set_option linter.all false
set_option maxRecDepth 100000
open Option renaming some->Y,none->W
open Bool renaming true->X,false->T
open Nat renaming ble->x!,le_of_ble_eq_true->x?
namespace Go.Sf
abbrev Rq(o:List PR)(l:QQ)(b:PC):PC:=.seq (.region o l) b
abbrev Sq(a b:PC):PC:=.seq a b
abbrev Re(o:List PR)(l:QQ):PC:=.region o l
abbrev Dr(d:QQ)(o:List PR)(l:QQ):PC:=.draw d o l
abbrev Sk(l:QQ):PC:=.skip l
abbrev Ex(i:Nat)(l:QQ):PC:=.exit i l
abbrev Co(c:Nat)(a b:PC):PC:=.cond (.s c) a b
abbrev Bl(i:Nat)(a:PC):PC:=.block i a
abbrev Lo(l:QQ)(a:PC):PC:=.loop l a
abbrev Aa(x0 x1:Nat):PR:=⟨Y x0,.mv (.s x1),W⟩
abbrev Ab(x0 x1 x2:Nat):PR:=⟨Y x0,.lda (.s x1) x2,W⟩
abbrev Ac(x0 x1 x2 x3:Nat):PR:=⟨Y x0,.fad (.s x1) x2,Y (x3,T)⟩
abbrev Ad(x0 x1:Nat):PR:=⟨Y x0,.tk x1,W⟩
abbrev Ae(x0 x1 x2 x3:Nat):PR:=⟨Y x0,.bad x1 x2,Y (x3,T)⟩
abbrev Af(x0 x1 x2:Nat):PR:=⟨Y x0,.ld (.s x1),Y (x2,T)⟩
abbrev Ag(x0 x1 x2:Nat):PR:=⟨Y x0,.len (.s x1),Y (x2,T)⟩
abbrev Ah(x0 x1:Nat)(x2:Int)(x3:Nat):PR:=⟨Y x0,.bin (.i) .gtr (.s x1) (.c (.int .i64 x2)),Y (x3,T)⟩
abbrev Ai(x0 x1 x2:Nat):PR:=⟨Y x0,.pick (.s x1) (.c (.bool X)) (.s x2),W⟩
abbrev Aj(x0 x1:Nat):PR:=⟨Y x0,.ld (.s x1),W⟩
abbrev Ak(x0 x1 x2:Nat):PR:=⟨Y x0,.bad x1 x2,W⟩
abbrev Al(x0 x1:Nat):PR:=⟨Y x0,.len (.s x1),W⟩
abbrev Am(x0 x1 x2:Nat):PR:=⟨W,.stb x0 x1 (.s x2),W⟩
abbrev An(x0 x1:Nat):PR:=⟨Y x0,.Abn (.s x1),W⟩
abbrev Ao(x0:Nat)(x1:Int):PR:=⟨Y x0,.mv (.c (.int .i64 x1)),W⟩
abbrev Ap(x0 x1:Nat):PR:=⟨Y x0,.Abu x1,W⟩
abbrev Aq(x0 x1 x2 x3:Nat):PR:=⟨Y x0,.call x1 [.s x2,.s x3],W⟩
abbrev Ar(x0 x1 x2:Nat):PR:=⟨Y x0,.fad (.s x1) x2,W⟩
abbrev As(x0 x1 x2:Nat):PR:=⟨Y x0,.bin (.i) .lss (.s x1) (.s x2),W⟩
abbrev Au(x0 x1 x2 x3:Nat):PR:=⟨Y x0,.iad (.s x1) (.s x2) x3,W⟩
abbrev Av(x0 x1:Nat)(x2:Int):PR:=⟨Y x0,.bin (.i) .add (.s x1) (.c (.int .i64 x2)),W⟩
abbrev Aw(x0 x1 x2:Nat):PR:=⟨Y x0,.alc [⟨X,.list x1 []⟩,⟨X,.list x2 []⟩],W⟩
abbrev Ax(x0 x1 x2 x3:Nat):PR:=⟨Y x0,.alc [⟨X,.list x1 []⟩,⟨X,.list x2 []⟩,⟨X,.list x3 []⟩],W⟩
end Go.Sf
namespace Go.Sf.Sc
open Go Go.Sf Go.Proofs.Tryz
instance(l:List d5):Ml (Km l) AI l:=⟨NR l⟩
instance(l:List BO):Ml (QB l) FI l:=⟨UL l⟩
instance:En d5 AI:=⟨⟩
instance:En BO FI:=⟨⟩
instance:Fl AI 9 Ei:=⟨St⟩
instance:Fl FI 5 JM:=⟨iL⟩
instance:dR CB:=⟨λl=>match l with|[.int _ x0,.int _ x1,.int _ x2]=>B0.mk x0 x1 x2|_=>B0.mk 0 0 0,λa b=>⟨inferInstance,qW a b⟩⟩
instance:dR FQ:=⟨λl=>match l with|[.int _ x0,.int _ x1,.int _ x2,.int _ x3]=>CF.mk x0 x1 (gl.mk x2 x3)|_=>CF.mk 0 0 (gl.mk 0 0),λa b=>⟨inferInstance,qX a b⟩⟩
instance:dR F9:=⟨λl=>match l with|[.int _ x0,.int _ x1,.int _ x2,.int _ x3,.int _ x4]=>Test.mk x0 (gl.mk x1 x2) (gl.mk x3 x4)|_=>Test.mk 0 (gl.mk 0 0) (gl.mk 0 0),λa b=>⟨inferInstance,qY a b⟩⟩
abbrev CK(fn:Func)(pl:PC)(rv:List RV):Prop:=D6 prog fn.ntmps (Vu prog fn.ntmps) pl (fn.body.getD .skip)=X/\HQ prog fn.results.toList rv=X
variable{f:FuncId}{fn:Func}{c:Code}{pl:PC}{rv:List RV}{r:BA}
theorem Fn{args:Fq}(ck:CK fn pl rv)(h:TV.pq args → WP (AV prog) pl ⟨Bf rv r,λ_ _=>False,Bf rv r⟩ (De 0 args))(hf:prog.funcs[f]? =Y fn:=by rfl)(hb:fn.body=Y c:=by rfl)(hname:fn.name≠ "runtime.NumGoroutine" :=by decide)(hn:x! args.length fn.ntmps=X:=by rfl)(hp:r.plain=X:=by rfl):AV prog f args r:=by
  have h1:=ck.1;rw[hb]at h1;exact eQ (NQ Sc.Tryz_follows) hf hb hname h1 ck.2 (x? hn) hp (λhw=>(h hw).out)
variable{i:Nat}
theorem FnB{args:Fq}{cs cs':List AS}{us:Fq}(ck:CK fn pl rv)(nb:PC.t1 pl=X/\PC.t2 i pl=X)(h:TV.pq args → (∀c∈cs,c.t.WF) → WP (AV prog) pl ⟨Bf rv (.bo cs cs' i us),λ_ _=>False,Bf rv (.bo cs cs' i us)⟩ ((i,.bx cs)::De 0 args))(hf:prog.funcs[f]? =Y fn:=by rfl)(hb:fn.body=Y c:=by rfl)(hname:fn.name≠ "runtime.NumGoroutine" :=by decide)(hn:x! args.length fn.ntmps=X:=by rfl):AV prog f args (.bo cs cs' i us):=by
  have h1:=ck.1;rw[hb]at h1;exact nf (NQ Sc.Tryz_follows) hf hb hname h1 ck.2 (x? hn) nb.1 nb.2 (λhw hwc=>(h hw hwc).out)
variable{α:Type}{x:Option α}{ts:Fq}{R:α → BA}
theorem Fi(ck:CK fn pl rv)(h:∀r,x=Y r → TV.pq ts → HR (λr=>Bf rv (R r)) → WP (AV prog) pl ⟨Bf rv (R r),λ_ _=>False,Bf rv (R r)⟩ (De 0 ts))(hf:prog.funcs[f]? =Y fn:=by rfl)(hb:fn.body=Y c:=by rfl)(hname:fn.name≠ "runtime.NumGoroutine" :=by decide)(hn:x! ts.length fn.ntmps=X:=by rfl)(hp:∀r,(R r).plain=X:=by exact λ_=>rfl):Ct prog x f ts R:=
  ⟨λr hr=>Fn ck (λhw=>h r hr hw ⟨⟩) hf hb hname hn (hp r)⟩
variable{us:α → Fq}
theorem ir{cs:List AS}{cs':α → List AS}(ck:CK fn pl rv)(nb:PC.t1 pl=X/\PC.t2 i pl=X)(h:∀r,x=Y r → TV.pq ts → (∀c∈cs,c.t.WF) → HR (λr=>Bf rv (.bo cs (cs' r) i (us r))) → WP (AV prog) pl ⟨Bf rv (.bo cs (cs' r) i (us r)),λ_ _=>False,Bf rv (.bo cs (cs' r) i (us r))⟩ ((i,.bx cs)::De 0 ts))(hf:prog.funcs[f]? =Y fn:=by rfl)(hb:fn.body=Y c:=by rfl)(hname:fn.name≠ "runtime.NumGoroutine" :=by decide)(hn:x! ts.length fn.ntmps=X:=by rfl):Ct prog x f ts (λr=> .bo cs (cs' r) i (us r)):=
  ⟨λr hr=>FnB ck nb (λhw hwc=>h r hr hw hwc ⟨⟩) hf hb hname hn⟩
theorem FnA{args:Fq}{cs:List AS}(ck:CK fn pl rv)(nb:PC.t1 pl=X)(h:TV.pq args → (∀c∈cs,c.t.WF) → WP (AV prog) pl ⟨Bf rv r,λ_ _=>False,Bf rv r⟩ ((i,.oag cs)::De 0 args))(hf:prog.funcs[f]? =Y fn:=by rfl)(hb:fn.body=Y c:=by rfl)(hname:fn.name≠ "runtime.NumGoroutine" :=by decide)(hn:x! args.length fn.ntmps=X:=by rfl)(hp:r.plain=X:=by rfl)(hlo:r.lone=T:=by rfl):AV prog f args (.ag cs i r):=by
  have h1:=ck.1;rw[hb]at h1;exact nc (NQ Sc.Tryz_follows) hf hb hname h1 ck.2 (x? hn) nb hp hlo (λhw hwc=>(h hw hwc).out)
theorem FiA{cs:List AS}(ck:CK fn pl rv)(nb:PC.t1 pl=X)(h:∀r,x=Y r → TV.pq ts → (∀c∈cs,c.t.WF) → HR (λr=>Bf rv (R r)) → WP (AV prog) pl ⟨Bf rv (R r),λ_ _=>False,Bf rv (R r)⟩ ((i,.oag cs)::De 0 ts))(hf:prog.funcs[f]? =Y fn:=by rfl)(hb:fn.body=Y c:=by rfl)(hname:fn.name≠ "runtime.NumGoroutine" :=by decide)(hn:x! ts.length fn.ntmps=X:=by rfl)(hp:∀r,(R r).plain=X:=by exact λ_=>rfl)(hlo:∀r,(R r).lone=T:=by exact λ_=>rfl):Ct prog x f ts (λr=> .ag cs i (R r)):=
  ⟨λr hr=>FnA ck nb (λhw hwc=>h r hr hw hwc ⟨⟩) hf hb hname hn (hp r) (hlo r)⟩
theorem FiM{x:Option (Bj×Int)}(ck:CK fn pl rv)(h:∀r,x=Y r → TV.pq ts → HR (λr=>Bf rv (PY r)) → WP (AV prog) pl ⟨Bf rv (PY r),λ_ _=>False,Bf rv (PY r)⟩ (De 0 ts))(hf:prog.funcs[f]? =Y fn:=by rfl)(hb:fn.body=Y c:=by rfl)(hname:fn.name≠ "runtime.NumGoroutine" :=by decide)(hn:x! ts.length fn.ntmps=X:=by rfl):Ct prog x f ts PY:=by
  refine ⟨λr hr=>?_⟩;have h0:=h r hr;have h1:=ck.1;rw[hb]at h1;by_cases he:r.2=0
  · have e:PY r=.mpr r.1 [.int .i64 r.2]:=ac he
    rw [e]at h0|-;exact ng (NQ Sc.Tryz_follows) hf hb hname h1 ck.2 (x? hn) (λhw=>(h0 hw ⟨⟩).out)
  · have e:PY r=.tp [.undef,.int .i64 r.2]:=ae he
    rw [e]at h0|-;exact eQ (NQ Sc.Tryz_follows) hf hb hname h1 ck.2 (x? hn) rfl (λhw=>(h0 hw ⟨⟩).out)
theorem ACG{cs:List AS}{cs':α → List AS}(ck:CK fn pl rv)(nb:PC.t1 pl=X/\PC.t2 i pl=X)(h:∀r,x=Y r → TV.pq ts → (∀c∈cs,c.t.WF) → WP (AV prog) pl ⟨gQ rv cs (cs' r) i (us r),λ_ _=>False,gQ rv cs (cs' r) i (us r)⟩ ((i,.bx cs)::De 0 ts))(hf:prog.funcs[f]? =Y fn:=by rfl)(hb:fn.body=Y c:=by rfl)(hname:fn.name≠ "runtime.NumGoroutine" :=by decide)(hn:x! ts.length fn.ntmps=X:=by rfl):Ct prog x f ts (λr=> .bo cs (cs' r) i (us r)):=by
  refine ⟨λr hr=>?_⟩;have h1:=ck.1;rw[hb]at h1;exact lH (NQ Sc.Tryz_follows) hf hb hname h1 ck.2 (x? hn) nb.1 nb.2 (λhw hwc=>(h r hr hw hwc).out)
def shB:Nat->Fq×List (Nat×Nat)
  |0=>([.int .u8 0,.int .u8 0],[])|1=>([.str ⟨#[]⟩,.int .i64 0,.bool T,.list 4 []],[(0,1),(1,1),(2,1)])|2=>([.str ⟨#[]⟩,.int .i64 0,.int .i64 0,.list 1 []],[(0,1),(1,1),(2,1)])|3=>([.str ⟨#[]⟩,.int .i64 0,.int .i64 0,.list 1 []],[(0,1),(2,1),(3,1)])|4=>([.str ⟨#[]⟩,.int .i64 0,.int .i64 0,.int .i64 0,.int .i64 0,.int .i64 0,.int .i64 0],[(0,1),(1,1),(2,1),(4,1),(6,1)])|5=>([.int .i64 0,.str ⟨#[]⟩,.int .i64 0],[])|6=>([.int .i64 0,.str ⟨#[]⟩,.int .i64 0],[(0,1),(1,1)])|7=>([.int .i64 0,.int .i64 0,.int .i64 0],[(0,1),(1,1),(2,1)])|8=>([.int .i64 0,.int .i64 0],[(0,1)])|9=>([.int .i64 0,.int .i64 0],[(0,1),(1,1)])|10=>([.int .i64 0,.int .i64 0,.int .i64 0,.int .i64 0,.int .i64 0],[(0,1),(1,2),(3,2)])|11=>([.int .i64 0,.int .i64 0,.int .i64 0,.int .i64 0],[(0,1),(1,1),(2,2)])|12=>([.list 1 [],.list 3 []],[])|13=>([.list 1 [],.list 1 []],[])|14=>([.list 1 [],.list 1 []],[(0,1),(1,1)])|15=>([.int .i64 0,.list 9 [],.list 1 [],.list 1 [],.list 1 [],.list 3 [],.list 4 [],.int .i64 0,.list 5 []],[(0,1)])|16=>([.list 1 [],.list 3 [],.list 4 [],.int .i64 0,.list 5 []],[(0,2),(3,1)])|17=>([.int .i64 0,.list 9 [],.list 1 [],.list 1 [],.list 1 [],.list 3 [],.list 4 [],.int .i64 0,.list 5 []],[(0,1),(2,2),(4,5),(1,1)])|18=>([.int .i64 0,.list 9 [],.list 1 [],.list 1 [],.list 1 [],.list 3 [],.list 4 [],.int .i64 0,.list 5 []],[(0,1),(1,1)])|19=>([.list 1 [],.list 3 [],.list 4 [],.int .i64 0,.list 5 []],[(0,2)])|20=>([.str ⟨#[]⟩,.list 1 [],.list 3 [],.list 4 [],.int .i64 0,.list 5 [],.list 1 [],.list 3 [],.list 4 [],.int .i64 0,.list 5 [],.list 1 [],.list 1 [],.list 1 [],.list 1 [],.bool T,.int .i64 0,.list 9 [],.list 1 [],.list 1 [],.list 1 [],.list 3 [],.list 4 [],.int .i64 0,.list 5 []],[(0,1),(1,5),(6,5),(11,2),(13,2),(15,1),(16,9)])|21=>([.list 1 [],.list 3 [],.list 4 [],.int .i64 0,.list 5 []],[(3,1)])|22=>([.str ⟨#[]⟩,.int .i64 0,.int .i64 0,.list 1 []],[])|23=>([.list 4 [],.list 7 [],.list 1 [],.list 3 [],.list 1 [],.list 3 [],.list 1 [],.list 1 [],.bool T,.int .i64 0,.nil],[(0,2),(2,2),(4,2),(6,2),(8,1),(9,1)])|24=>([.list 1 [],.list 1 [],.list 1 []],[(0,2),(2,1)])|25=>([.int .i64 0,.list 1 [],.list 1 [],.list 1 [],.list 5 []],[])|26=>([.int .i64 0,.list 1 [],.list 1 [],.list 1 [],.list 5 []],[(0,1),(4,1)])|27=>([.int .i64 0,.list 1 [],.list 1 [],.list 1 [],.list 5 []],[(1,3),(4,1)])|28=>([.list 1 [],.list 3 [],.list 1 []],[])|29=>([.str ⟨#[]⟩,.list 1 [],.list 3 [],.list 4 [],.int .i64 0,.list 5 [],.list 1 [],.list 3 [],.list 4 [],.int .i64 0,.list 5 [],.list 1 [],.list 1 [],.list 1 [],.list 1 [],.bool T,.int .i64 0,.list 9 [],.list 1 [],.list 1 [],.list 1 [],.list 3 [],.list 4 [],.int .i64 0,.list 5 [],.list 1 [],.list 1 [],.list 1 [],.list 1 [],.list 3 [],.list 1 [],.list 1 [],.list 3 [],.list 1 [],.list 1 [],.list 1 [],.list 1 [],.list 1 []],[])|30=>([.str ⟨#[]⟩,.list 1 [],.list 3 [],.list 4 [],.int .i64 0,.list 5 [],.list 1 [],.list 3 [],.list 4 [],.int .i64 0,.list 5 [],.list 1 [],.list 1 [],.list 1 [],.list 1 [],.bool T,.int .i64 0,.list 9 [],.list 1 [],.list 1 [],.list 1 [],.list 3 [],.list 4 [],.int .i64 0,.list 5 [],.list 1 [],.list 1 [],.list 1 [],.list 1 [],.list 3 [],.list 1 [],.list 1 [],.list 3 [],.list 1 [],.list 1 [],.list 1 [],.list 1 [],.list 1 []],[(0,25),(25,3),(28,3),(31,3),(34,2),(36,2)])|31=>([.list 1 [],.list 3 [],.list 1 [],.list 3 [],.list 1 [],.list 1 [],.list 1 [],.list 1 []],[(0,2),(2,2),(4,2),(6,2)])|32=>([.list 1 [],.list 3 [],.list 1 [],.list 3 [],.list 1 [],.nil,.nil,.bool T,.int .i64 0,.nil,.nil,.nil],[(0,2),(2,2),(4,1),(5,2),(7,1),(8,1)])|33=>([.list 4 [],.list 7 [],.list 1 [],.list 3 [],.list 1 [],.bool T],[(0,2),(2,3),(5,1)])|34=>([.str ⟨#[]⟩,.list 1 [],.list 3 [],.list 4 [],.int .i64 0,.list 5 [],.list 1 [],.list 3 [],.list 4 [],.int .i64 0,.list 5 [],.list 1 [],.list 1 [],.list 1 [],.list 1 [],.bool T,.int .i64 0,.list 9 [],.list 1 [],.list 1 [],.list 1 [],.list 3 [],.list 4 [],.int .i64 0,.list 5 [],.list 1 [],.list 1 [],.list 1 [],.list 1 [],.list 3 [],.list 1 [],.nil,.nil,.nil,.list 1 [],.list 1 [],.list 1 [],.list 1 []],[(0,25),(25,3),(28,3)])
  |35=>([.list 1 [],.list 3 [],.list 1 [],.list 4 []],[])|36=>([.list 1 [],.list 3 [],.list 1 [],.list 1 [],.list 3 [],.list 1 [],.list 1 [],.list 1 [],.nil,.nil],[(0,3),(3,3),(6,1),(7,1)])|37=>([.list 1 [],.list 3 [],.list 1 [],.list 4 []],[(0,3)])|38=>([.list 1 [],.list 3 [],.list 1 [],.list 4 [],.list 1 [],.list 3 [],.list 1 [],.list 1 [],.list 1 []],[(0,4),(4,3),(7,2)])|39=>([.list 1 [],.list 3 []],[(0,1)])|40=>([.int .i64 0,.int .i64 0,.int .i64 0,.int .i64 0],[(2,2)])|41=>([.list 1 [],.list 3 [],.list 4 [],.int .i64 0,.list 5 []],[(0,2),(3,1),(2,1)])|42=>([.list 1 [],.list 1 []],[(0,1)])|43=>([.list 1 [],.list 3 []],[(0,1),(1,1)])|44=>([.list 1 [],.list 3 [],.list 1 []],[(0,2),(2,1)])|45=>([.nil,.nil],[])|46=>([.int .i64 0,.list 1 [],.list 1 [],.list 1 []],[(0,1),(1,3)])|47=>([.list 1 [],.list 3 [],.list 1 [],.list 4 []],[(0,3),(3,1)])|48=>([.list 1 [],.list 3 [],.list 1 [],.list 4 [],.list 1 [],.list 3 [],.list 1 [],.list 4 [],.list 1 [],.list 1 []],[])|49=>([.list 1 [],.list 3 [],.list 1 [],.list 4 [],.list 1 [],.list 3 [],.list 1 [],.list 4 [],.list 1 [],.list 1 []],[(0,4),(4,4),(8,2)])|_=>([],[])
def shC:Nat->List AS
  |0=>[⟨X,.list 4 []⟩,⟨X,.list 7 []⟩]|1=>[⟨T,.int .u8 0⟩,⟨T,.int .u8 0⟩]|2=>[⟨T,.str ⟨#[]⟩⟩,⟨T,.int .i64 0⟩,⟨T,.bool T⟩,⟨X,.list 4 []⟩]|3=>[⟨T,.int .i64 0⟩,⟨T,.str ⟨#[]⟩⟩,⟨T,.int .i64 0⟩]|4=>[⟨T,.str ⟨#[]⟩⟩,⟨T,.int .i64 0⟩,⟨T,.int .i64 0⟩,⟨T,.int .i64 0⟩,⟨T,.int .i64 0⟩,⟨T,.int .i64 0⟩,⟨T,.int .i64 0⟩]|5=>[⟨T,.str ⟨#[]⟩⟩,⟨T,.int .i64 0⟩,⟨T,.int .i64 0⟩,⟨X,.list 1 []⟩]|6=>[⟨X,.list 1 []⟩,⟨X,.list 3 []⟩]|7=>[⟨T,.int .i64 0⟩,⟨T,.int .i64 0⟩,⟨T,.int .i64 0⟩,⟨T,.int .i64 0⟩,⟨T,.int .i64 0⟩]|8=>[⟨X,.list 1 []⟩,⟨X,.list 3 []⟩,⟨X,.list 4 []⟩,⟨T,.int .i64 0⟩,⟨X,.list 5 []⟩]|9=>[⟨T,.int .u8 0⟩,⟨T,.int .u8 0⟩,⟨T,.int .u8 0⟩]|10=>[⟨T,.int .i64 0⟩,⟨T,.int .i64 0⟩]|11=>[⟨T,.int .i64 0⟩,⟨T,.int .i64 0⟩,⟨T,.int .i64 0⟩,⟨T,.int .i64 0⟩]|12=>[⟨X,.list 1 []⟩,⟨X,.list 1 []⟩]|13=>[⟨T,.int .i64 0⟩,⟨T,.int .i64 0⟩,⟨T,.int .i64 0⟩]|14=>[⟨X,.xl 1 []⟩,⟨X,.xl 3 []⟩]|15=>[⟨T,.int .i64 0⟩,⟨X,.list 9 []⟩,⟨X,.list 1 []⟩,⟨X,.list 1 []⟩,⟨X,.list 1 []⟩,⟨X,.list 3 []⟩,⟨X,.list 4 []⟩,⟨T,.int .i64 0⟩,⟨X,.list 5 []⟩]|16=>[⟨T,.str ⟨#[]⟩⟩,⟨X,.list 1 []⟩,⟨X,.list 3 []⟩,⟨X,.list 4 []⟩,⟨T,.int .i64 0⟩,⟨X,.list 5 []⟩,⟨X,.list 1 []⟩,⟨X,.list 3 []⟩,⟨X,.list 4 []⟩,⟨T,.int .i64 0⟩,⟨X,.list 5 []⟩,⟨X,.list 1 []⟩,⟨X,.list 1 []⟩,⟨X,.list 1 []⟩,⟨X,.list 1 []⟩,⟨T,.bool T⟩,⟨T,.int .i64 0⟩,⟨X,.list 9 []⟩,⟨X,.list 1 []⟩,⟨X,.list 1 []⟩,⟨X,.list 1 []⟩,⟨X,.list 3 []⟩,⟨X,.list 4 []⟩,⟨T,.int .i64 0⟩,⟨X,.list 5 []⟩]|17=>[⟨X,.list 1 []⟩,⟨X,.list 3 []⟩,⟨X,.list 1 []⟩]|18=>[⟨T,.int .i64 0⟩,⟨X,.list 1 []⟩,⟨X,.list 1 []⟩,⟨X,.list 1 []⟩,⟨X,.list 5 []⟩]|19=>[⟨X,.list 1 []⟩,⟨X,.list 3 []⟩,⟨X,.xn []⟩]|20=>[⟨T,.str ⟨#[]⟩⟩,⟨X,.list 1 []⟩,⟨X,.list 3 []⟩,⟨X,.list 4 []⟩,⟨T,.int .i64 0⟩,⟨X,.list 5 []⟩,⟨X,.list 1 []⟩,⟨X,.list 3 []⟩,⟨X,.list 4 []⟩,⟨T,.int .i64 0⟩,⟨X,.list 5 []⟩,⟨X,.list 1 []⟩,⟨X,.list 1 []⟩,⟨X,.list 1 []⟩,⟨X,.list 1 []⟩,⟨T,.bool T⟩,⟨T,.int .i64 0⟩,⟨X,.list 9 []⟩,⟨X,.list 1 []⟩,⟨X,.list 1 []⟩,⟨X,.list 1 []⟩,⟨X,.list 3 []⟩,⟨X,.list 4 []⟩,⟨T,.int .i64 0⟩,⟨X,.list 5 []⟩,⟨X,.list 1 []⟩,⟨X,.list 1 []⟩,⟨X,.list 1 []⟩,⟨X,.list 1 []⟩,⟨X,.list 3 []⟩,⟨X,.list 1 []⟩,⟨X,.list 1 []⟩,⟨X,.list 3 []⟩,⟨X,.list 1 []⟩,⟨X,.list 1 []⟩,⟨X,.list 1 []⟩,⟨X,.list 1 []⟩,⟨X,.list 1 []⟩]|21=>[⟨X,.xl 1 []⟩,⟨X,.xl 1 []⟩]|22=>[⟨T,.int .i64 0⟩]|23=>[⟨X,.list 1 []⟩,⟨X,.list 3 []⟩,⟨X,.list 1 []⟩,⟨X,.list 3 []⟩,⟨X,.list 1 []⟩,⟨X,.list 1 []⟩,⟨X,.list 1 []⟩,⟨X,.list 1 []⟩]|24=>[⟨X,.list 1 []⟩,⟨X,.list 1 []⟩,⟨X,.list 1 []⟩]|25=>[⟨T,.str ⟨#[]⟩⟩,⟨X,.list 1 []⟩,⟨X,.list 3 []⟩,⟨X,.list 4 []⟩,⟨T,.int .i64 0⟩,⟨X,.list 5 []⟩,⟨X,.list 1 []⟩,⟨X,.list 3 []⟩,⟨X,.list 4 []⟩,⟨T,.int .i64 0⟩,⟨X,.list 5 []⟩,⟨X,.list 1 []⟩,⟨X,.list 1 []⟩,⟨X,.list 1 []⟩,⟨X,.list 1 []⟩,⟨T,.bool T⟩,⟨T,.int .i64 0⟩,⟨X,.list 9 []⟩,⟨X,.list 1 []⟩,⟨X,.list 1 []⟩,⟨X,.list 1 []⟩,⟨X,.list 3 []⟩,⟨X,.list 4 []⟩,⟨T,.int .i64 0⟩,⟨X,.list 5 []⟩,⟨X,.list 1 []⟩,⟨X,.list 1 []⟩,⟨X,.list 1 []⟩,⟨X,.list 1 []⟩,⟨X,.list 3 []⟩,⟨X,.list 1 []⟩,⟨X,.list 1 []⟩,⟨X,.list 3 []⟩,⟨X,.xn []⟩,⟨X,.list 1 []⟩,⟨X,.list 1 []⟩,⟨X,.list 1 []⟩,⟨X,.list 1 []⟩]|26=>[⟨T,.int .i64 0⟩,⟨X,.list 1 []⟩,⟨X,.list 1 []⟩,⟨X,.list 1 []⟩]|27=>[⟨X,.list 1 []⟩,⟨X,.list 3 []⟩,⟨X,.list 1 []⟩,⟨X,.list 4 []⟩,⟨X,.list 1 []⟩,⟨X,.list 3 []⟩,⟨X,.list 1 []⟩,⟨X,.list 1 []⟩,⟨X,.list 1 []⟩]|28=>[⟨X,.list 1 []⟩,⟨X,.list 3 []⟩,⟨X,.list 1 []⟩,⟨X,.list 4 []⟩,⟨X,.list 1 []⟩,⟨X,.list 3 []⟩,⟨X,.list 1 []⟩,⟨X,.list 4 []⟩,⟨X,.list 1 []⟩,⟨X,.list 1 []⟩]
  |_=>[]
def OP:iv:=⟨shB,shC⟩
def bT:Nat:=0x79e06c90165598193a10b5d467161367f9601ef0437803804420dc982024dcd0a0e01559259705d6a038d36014a6a5e13127e5d827897833f030b0a0b5c8159047e6b039336045e010204440cc981056c03880e064226440000850b194448b20000014c90420304765900000d0c00005538030081017438000001420000000002427f0e43365d019102054b9300810a0a09080e5e426b0401477738000000000000034b81000000598a02010944066a0a05360500000000550162000000555906058181000005445c0100000000818b0e550000000000005fff3600030300000000650b610100000000024b00000000000000000501000000000000374101714301420108070000000000007372415b5f7501ff035b1111010e8560050b0000000000000344010005040000000000000000ff85000000009393374301813c5a03023742033800410105ff8100000000000002440000000000000000000000000000000000000000000000000000000000000000000000000000000000000000000000000000000000000000004203010101000000000000000000000000000000000000000000000000000000000000000000000000000000000000000000000000000000000000000000000000000000000000000000000000000000000000000000000000000000000000000000000000000000000000000000000000
theorem nz{P:Prop}(p:P:=by
  intros
  conv=>
    arg 2
    conv=>
      enter [2]
      whnf
    conv=>
      enter [3]
      whnf
    simp only[PC.of,dC,qT,qS,xP,tf,dLd,dSt,dIx,te,xO,dUn,UJ,cv,eA,dGd,k7,oP,tP,a0,a1,Tq,tw,xG,oO,cV,OP,shB,shC,Nat.reduceDiv,Nat.reduceMod,Nat.reduceMul,Nat.reduceEqDiff,↓reduceIte,List.nil_append,List.cons_append,Bool.or_true,Bool.true_or,Bool.or_false,Bool.false_or,Bool.or_self]
  exact au):P:=p
def OO:List ResultVar->List RV
  |.tmp s::r=>.tmp s::OO r|_=>[]
theorem Fk(fn:Func)(s:Nat)(ζ:List AF)(rv:List RV)(h:∀r,x=Y r → TV.pq ts → HR (λr=>Bf rv (R r)) → WP (AV prog) (PC.of OP fn.body (xq bT s) ζ) ⟨Bf rv (R r),λ_ _=>False,Bf rv (R r)⟩ (De 0 ts))(hb:fn.body=Y c:=by rfl)(ck:CK fn (PC.of OP fn.body (xq bT s) ζ) rv:=by decide +kernel)(hf:prog.funcs[f]? =Y fn:=by rfl)(hname:fn.name≠ "runtime.NumGoroutine" :=by decide)(hn:x! ts.length fn.ntmps=X:=by rfl)(hp:∀r,(R r).plain=X:=by exact λ_=>rfl):Ct prog x f ts R:=
  Fi ck h hf hb hname hn hp
theorem Fj(fn:Func)(s:Nat)(ζ:List AF)(h:∀{r},x=Y r → ∀{_:TV.pq ts}{_:HR λr=>Bf (OO fn.results.toList) (R r)},WP (AV prog) (PC.of OP fn.body (xq bT s) ζ) ⟨Bf (OO fn.results.toList) (R r),λ_ _=>False,Bf (OO fn.results.toList) (R r)⟩ (De 0 ts))(hb:fn.body=Y c:=by rfl)(ck:CK fn (PC.of OP fn.body (xq bT s) ζ) (OO fn.results.toList):=by decide +kernel)(hf:prog.funcs[f]? =Y fn:=by rfl)(hname:fn.name≠ "runtime.NumGoroutine" :=by decide)(hn:x! ts.length fn.ntmps=X:=by rfl)(hp:∀r,(R r).plain=X:=by exact λ_=>rfl):Ct prog x f ts R:=
  Fk fn s ζ _ (λr e a b=>@h r e a b) hb ck hf hname hn hp
variable{y:Option α}
theorem Fe{R:α->BA}(fn:Func)(s:Nat)(ζ:List AF)(E:x=y)(h:∀r,y=Y r->TV.pq ts->HR (λr=>Bf (OO fn.results.toList) (R r))->WP (AV prog) (PC.of OP fn.body (xq bT s) ζ) ⟨Bf (OO fn.results.toList) (R r),λ_ _=>False,Bf (OO fn.results.toList) (R r)⟩ (De 0 ts):=by
  intro r h _ _;exact nz)(hb:fn.body=Y c:=by rfl)(ck:CK fn (PC.of OP fn.body (xq bT s) ζ) (OO fn.results.toList):=by decide +kernel)(hf:prog.funcs[f]? =Y fn:=by rfl)(hname:fn.name≠ "runtime.NumGoroutine" :=by decide)(hn:x! ts.length fn.ntmps=X:=by rfl)(hp:∀r,(R r).plain=X:=by exact λ_=>rfl):Ct prog x f ts R:=
  Fk fn s ζ _ (λr e a b=>h r (E.symm.trans e) a b) hb ck hf hname hn hp
variable{H1:Prop}
theorem B3{R:α->BA}(fn:Func)(s:Nat)(ζ:List AF)(E:x=y)(i1:H1)(h:H1->∀r,y=Y r->TV.pq ts->HR (λr=>Bf (OO fn.results.toList) (R r))->WP (AV prog) (PC.of OP fn.body (xq bT s) ζ) ⟨Bf (OO fn.results.toList) (R r),λ_ _=>False,Bf (OO fn.results.toList) (R r)⟩ (De 0 ts):=by
  intro _ r h _ _;exact nz)(hb:fn.body=Y c:=by rfl)(ck:CK fn (PC.of OP fn.body (xq bT s) ζ) (OO fn.results.toList):=by decide +kernel)(hf:prog.funcs[f]? =Y fn:=by rfl)(hname:fn.name≠ "runtime.NumGoroutine" :=by decide)(hn:x! ts.length fn.ntmps=X:=by rfl)(hp:∀r,(R r).plain=X:=by exact λ_=>rfl):Ct prog x f ts R:=
  Fk fn s ζ _ (λr e a b=>h i1 r (E.symm.trans e) a b) hb ck hf hname hn hp
variable{H2:Prop}
theorem KV{R:α->BA}(fn:Func)(s:Nat)(ζ:List AF)(E:x=y)(i1:H1)(i2:H2)(h:H1->H2->∀r,y=Y r->TV.pq ts->HR (λr=>Bf (OO fn.results.toList) (R r))->WP (AV prog) (PC.of OP fn.body (xq bT s) ζ) ⟨Bf (OO fn.results.toList) (R r),λ_ _=>False,Bf (OO fn.results.toList) (R r)⟩ (De 0 ts):=by
  intro _ _ r h _ _;exact nz)(hb:fn.body=Y c:=by rfl)(ck:CK fn (PC.of OP fn.body (xq bT s) ζ) (OO fn.results.toList):=by decide +kernel)(hf:prog.funcs[f]? =Y fn:=by rfl)(hname:fn.name≠ "runtime.NumGoroutine" :=by decide)(hn:x! ts.length fn.ntmps=X:=by rfl)(hp:∀r,(R r).plain=X:=by exact λ_=>rfl):Ct prog x f ts R:=
  Fk fn s ζ _ (λr e a b=>h i1 i2 r (E.symm.trans e) a b) hb ck hf hname hn hp
theorem iq{H3:Prop}{R:α->BA}(fn:Func)(s:Nat)(ζ:List AF)(E:x=y)(i1:H1)(i2:H2)(i3:H3)(h:H1->H2->H3->∀r,y=Y r->TV.pq ts->HR (λr=>Bf (OO fn.results.toList) (R r))->WP (AV prog) (PC.of OP fn.body (xq bT s) ζ) ⟨Bf (OO fn.results.toList) (R r),λ_ _=>False,Bf (OO fn.results.toList) (R r)⟩ (De 0 ts):=by
  intro _ _ _ r h _ _;exact nz)(hb:fn.body=Y c:=by rfl)(ck:CK fn (PC.of OP fn.body (xq bT s) ζ) (OO fn.results.toList):=by decide +kernel)(hf:prog.funcs[f]? =Y fn:=by rfl)(hname:fn.name≠ "runtime.NumGoroutine" :=by decide)(hn:x! ts.length fn.ntmps=X:=by rfl)(hp:∀r,(R r).plain=X:=by exact λ_=>rfl):Ct prog x f ts R:=
  Fk fn s ζ _ (λr e a b=>h i1 i2 i3 r (E.symm.trans e) a b) hb ck hf hname hn hp
def xr{σ:Type}(c:Nat)(f:σ->List (Nat×EV)):Int->σ->List (Nat×EV):=λi s=>(c,.tv (eI i))::f s
theorem BH(n c q i:Nat){σ:Type}(f:σ->List (Nat×EV)):HA n c q i (xr c f):=⟨⟩
theorem BN(n c q i:Nat):HA n c q i (xr c λ_:Unit=>[]):=⟨⟩
abbrev CT{α:Type}(x:Option α)(f:outParam FuncId)(ts:outParam Fq)(R:outParam (α->BA)):Prop:=Ct prog x f ts R
abbrev rB:Bool->BA:=λr=>.sh (eB r)
abbrev rI:Int->BA:=λr=>.sh (eI r)
abbrev rO{α:Type}(e:α->TV):α->BA:=λr=>.own (e r)
abbrev rS{α:Type}(e:α->TV):α->BA:=λr=>.sh (e r)
abbrev rT{α β:Type}(e:α->TV)(f:β->TV):α×β->BA:=λr=>.tp [e r.1,f r.2]
abbrev hO{α:Type}(k:Nat)(e:α->TV):α->List (Nat×EV):=λs=>[(k,.ow (e s))]
abbrev hT{α:Type}(k:Nat)(e:α->TV):α->List (Nat×EV):=λs=>[(k,.tv (e s))]
abbrev hX{α:Type}(k n:Nat)(e:α->TV):List α->List (Nat×EV):=λs=>[(k,.xo n (List.map e s))]
end Go.Sf.Sc
