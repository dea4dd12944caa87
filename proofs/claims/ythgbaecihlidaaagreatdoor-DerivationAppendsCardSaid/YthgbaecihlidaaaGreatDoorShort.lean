/- Shorter names for the shapes of rows, and how structs are read. -/
import Derived.Test.YthgbaecihlidaaaGreatDoorSfAuto
import Derived.Test.YthgbaecihlidaaaGreatDoorSfDec
import Derived.Test.YthgbaecihlidaaaGreatDoorSfK
import Derived.Test.YthgbaecihlidaaaGreatDoorSfLib
import Derived.Test.YthgbaecihlidaaaGreatDoorFns
set_option linter.all false
set_option maxRecDepth 100000
namespace Go.Sf
abbrev Rq(o:List PR)(l:QQ)(b:PC):PC:=.seq (.region o l) b
abbrev Sq(a b:PC):PC:=.seq a b
abbrev Re(o:List PR)(l:QQ):PC:=.region o l
abbrev Dr(d:QQ)(o:List PR)(l:QQ):PC:=.draw d o l
abbrev Sk(l:QQ):PC:=.skip l
abbrev Ex(i:Nat)(l:QQ):PC:=.exit i l
abbrev Co(c:Nat)(a b:PC):PC:=.cond (.s c) a b
abbrev Bl(i:Nat)(a:PC):PC:=.block i a
abbrev Lo(l:QQ)(a:PC):PC:=.loop l a
abbrev Aa(x0 x1:Nat):PR:=⟨some x0,.mv (.s x1),none⟩
abbrev Ab(x0 x1 x2:Nat):PR:=⟨some x0,.lda (.s x1) x2,none⟩
abbrev Ac(x0 x1 x2:Nat):PR:=⟨some x0,.ext (.s x1) x2,none⟩
abbrev Ad(x0 x1 x2:Nat):PR:=⟨none,.stb x0 x1 (.s x2),none⟩
abbrev Ae(x0 x1 x2:Nat):PR:=⟨some x0,.mv (.s x1),some (x2,false)⟩
abbrev Af(x0 x1 x2:Nat):PR:=⟨some x0,.fad (.s x1) x2,none⟩
abbrev Ag(x0 x1:Nat):PR:=⟨some x0,.Abx (.s x1),none⟩
abbrev Ah(x0 x1:Nat):PR:=⟨some x0,.tk x1,none⟩
abbrev Ai(x0 x1 x2:Nat):PR:=⟨some x0,.pick (.s x1) (.c (.bool true)) (.s x2),none⟩
abbrev Aj(x0 x1 x2:Nat):PR:=⟨some x0,.bad x1 x2,none⟩
abbrev Ak(x0 x1:Nat):PR:=⟨some x0,.ld (.s x1),none⟩
abbrev Al(x0 x1 x2 x3:Nat):PR:=⟨some x0,.lda (.s x1) x2,some (x3,true)⟩
abbrev Am(x0:Nat):PR:=⟨some x0,.mv (.c (.bool false)),none⟩
abbrev An(x0 x1 x2:Nat):PR:=⟨some x0,.len (.s x1),some (x2,false)⟩
abbrev Ao(x0 x1 x2 x3 x4:Nat):PR:=⟨some x0,.call x1 [.s x2,.s x3,.s x4],none⟩
abbrev Ap(x0 x1 x2 x3:Nat):PR:=⟨some x0,.iad (.s x1) (.s x2) x3,none⟩
abbrev Aq(x0 x1 x2:Nat):PR:=⟨some x0,.alc [⟨true,.list x1 []⟩,⟨true,.list x2 []⟩],none⟩
abbrev Ar(x0 x1 x2 x3:Nat):PR:=⟨some x0,.alc [⟨true,.list x1 []⟩,⟨true,.list x2 []⟩,⟨true,.list x3 []⟩],none⟩
abbrev As(x0 x1 x2 x3 x4:Nat):PR:=⟨some x0,.alc [⟨true,.list x1 []⟩,⟨true,.list x2 []⟩,⟨true,.list x3 []⟩,⟨true,.list x4 []⟩],none⟩
end Go.Sf
namespace Go.Sf.Sc
open Go Go.Sf Go.Proofs.Tryz
instance(l:List ea):Ml (IJ l) AI l:=⟨KS l⟩
instance(l:List B1):Ml (M5 l) F2 l:=⟨RD l⟩
instance:En ea AI:=⟨⟩
instance:En B1 F2:=⟨⟩
instance:Fl AI 9 Ek:=⟨PV⟩
instance:Fl F2 5 Ln:=⟨ZT⟩
instance:dI CF:=⟨fun l=>match l with|[.int _ x0,.int _ x1,.int _ x2]=>Bc.mk x0 x1 x2|_=>Bc.mk 0 0 0,fun a b=>⟨inferInstance,gv a b⟩⟩
abbrev CK(fn:Func)(pl:PC)(rv:List RV):Prop:=DB prog fn.ntmps (SY prog fn.ntmps) pl (fn.body.getD .skip)=true/\Fw prog fn.results.toList rv=true
variable{f:FuncId}{fn:Func}{c:Code}{pl:PC}{rv:List RV}
theorem Fn{args:Fq}{r:Az}(ck:CK fn pl rv)(h:TV.tn args → WP (AO prog) pl ⟨Bp rv r,fun _ _=>False,Bp rv r⟩ (Dh 0 args))(hf:prog.funcs[f]? =some fn:=by rfl)(hb:fn.body=some c:=by rfl)(hname:fn.name≠ "runtime.NumGoroutine" :=by decide)(hn:Nat.ble args.length fn.ntmps=true:=by rfl)(hp:r.plain=true:=by rfl):AO prog f args r:=by
  have h1:=ck.1;rw[hb]at h1;exact X4 (KQ Sc.Tryz_follows) hf hb hname h1 ck.2 (Nat.le_of_ble_eq_true hn) hp (fun hw=>(h hw).out)
variable{i:Nat}
theorem uw{args:Fq}{cs cs':List AQ}{us:Fq}(ck:CK fn pl rv)(nb:PC.Aal pl=true/\PC.Aad i pl=true)(h:TV.tn args → (∀c∈cs,c.t.WF) → WP (AO prog) pl ⟨Bp rv (.bo cs cs' i us),fun _ _=>False,Bp rv (.bo cs cs' i us)⟩ ((i,.bx cs)::Dh 0 args))(hf:prog.funcs[f]? =some fn:=by rfl)(hb:fn.body=some c:=by rfl)(hname:fn.name≠ "runtime.NumGoroutine" :=by decide)(hn:Nat.ble args.length fn.ntmps=true:=by rfl):AO prog f args (.bo cs cs' i us):=by
  have h1:=ck.1;rw[hb]at h1;exact dw (KQ Sc.Tryz_follows) hf hb hname h1 ck.2 (Nat.le_of_ble_eq_true hn) nb.1 nb.2 (fun hw hwc=>(h hw hwc).out)
variable{α:Type}{x:Option α}{R:α → Az}
theorem Fi{ts:Fq}(ck:CK fn pl rv)(h:∀r,x=some r → TV.tn ts → HR (fun r=>Bp rv (R r)) → WP (AO prog) pl ⟨Bp rv (R r),fun _ _=>False,Bp rv (R r)⟩ (Dh 0 ts))(hf:prog.funcs[f]? =some fn:=by rfl)(hb:fn.body=some c:=by rfl)(hname:fn.name≠ "runtime.NumGoroutine" :=by decide)(hn:Nat.ble ts.length fn.ntmps=true:=by rfl)(hp:∀r,(R r).plain=true:=by exact fun _=>rfl):Ct prog x f ts R:=
  ⟨fun r hr=>Fn ck (fun hw=>h r hr hw ⟨⟩) hf hb hname hn (hp r)⟩
variable{us:α → Fq}
theorem tX{ts:Fq}{cs:List AQ}{cs':α → List AQ}(ck:CK fn pl rv)(nb:PC.Aal pl=true/\PC.Aad i pl=true)(h:∀r,x=some r → TV.tn ts → (∀c∈cs,c.t.WF) → HR (fun r=>Bp rv (.bo cs (cs' r) i (us r))) → WP (AO prog) pl ⟨Bp rv (.bo cs (cs' r) i (us r)),fun _ _=>False,Bp rv (.bo cs (cs' r) i (us r))⟩ ((i,.bx cs)::Dh 0 ts))(hf:prog.funcs[f]? =some fn:=by rfl)(hb:fn.body=some c:=by rfl)(hname:fn.name≠ "runtime.NumGoroutine" :=by decide)(hn:Nat.ble ts.length fn.ntmps=true:=by rfl):Ct prog x f ts (fun r=> .bo cs (cs' r) i (us r)):=
  ⟨fun r hr=>uw ck nb (fun hw hwc=>h r hr hw hwc ⟨⟩) hf hb hname hn⟩
theorem uv{l:Fp}{ts:Fq}{zs:α → Fp}(ck:CK fn pl rv)(nb:PC.Aal pl=true/\PC.Aad 0 pl=true)(h:∀r,x=some r → TV.tn ts → HR (fun r=>Bp rv (.turn (zs r) (us r))) → WP (AO prog) pl ⟨Bp rv (.turn (zs r) (us r)),fun _ _=>False,Bp rv (.turn (zs r) (us r))⟩ ((0,.xo 1 (l.map (TV.int .i64)))::Dh 0 (.undef::ts)))(hf:prog.funcs[f]? =some fn:=by rfl)(hb:fn.body=some c:=by rfl)(hname:fn.name≠ "runtime.NumGoroutine" :=by decide)(hn:Nat.ble (ts.length+1) fn.ntmps=true:=by rfl)(hu:∀r,TV.Aac (us r)=true:=by exact fun _=>rfl):Ct prog x f (.list 1 (l.map (TV.int .i64))::ts) (fun r=> .turn (zs r) (us r)):=by
  refine ⟨fun r hr=>?_⟩;have h1:=ck.1;rw[hb]at h1;exact dy (KQ Sc.Tryz_follows) hf hb hname h1 ck.2 (Nat.le_of_ble_eq_true hn) nb.1 nb.2 (hu r) (fun hw=>(h r hr hw ⟨⟩).out)
theorem uu{x:Option (BR×Int)}{ts:Fq}(ck:CK fn pl rv)(h:∀r,x=some r → TV.tn ts → HR (fun r=>Bp rv (MJ r)) → WP (AO prog) pl ⟨Bp rv (MJ r),fun _ _=>False,Bp rv (MJ r)⟩ (Dh 0 ts))(hf:prog.funcs[f]? =some fn:=by rfl)(hb:fn.body=some c:=by rfl)(hname:fn.name≠ "runtime.NumGoroutine" :=by decide)(hn:Nat.ble ts.length fn.ntmps=true:=by rfl):Ct prog x f ts MJ:=by
  refine ⟨fun r hr=>?_⟩;have h0:=h r hr;have h1:=ck.1;rw[hb]at h1;by_cases he:r.2=0
  · have e:MJ r=.mpr r.1 [.int .i64 r.2]:=az he
    rw [e]at h0|-;exact dx (KQ Sc.Tryz_follows) hf hb hname h1 ck.2 (Nat.le_of_ble_eq_true hn) (fun hw=>(h0 hw ⟨⟩).out)
  · have e:MJ r=.tp [.undef,.int .i64 r.2]:=b6 he
    rw [e]at h0|-;exact X4 (KQ Sc.Tryz_follows) hf hb hname h1 ck.2 (Nat.le_of_ble_eq_true hn) rfl (fun hw=>(h0 hw ⟨⟩).out)
theorem uA{ts:Fq}{cs:List AQ}{cs':α → List AQ}(ck:CK fn pl rv)(nb:PC.Aal pl=true/\PC.Aad i pl=true)(h:∀r,x=some r → TV.tn ts → (∀c∈cs,c.t.WF) → WP (AO prog) pl ⟨Yv rv cs (cs' r) i (us r),fun _ _=>False,Yv rv cs (cs' r) i (us r)⟩ ((i,.bx cs)::Dh 0 ts))(hf:prog.funcs[f]? =some fn:=by rfl)(hb:fn.body=some c:=by rfl)(hname:fn.name≠ "runtime.NumGoroutine" :=by decide)(hn:Nat.ble ts.length fn.ntmps=true:=by rfl):Ct prog x f ts (fun r=> .bo cs (cs' r) i (us r)):=by
  refine ⟨fun r hr=>?_⟩;have h1:=ck.1;rw[hb]at h1;exact bd (KQ Sc.Tryz_follows) hf hb hname h1 ck.2 (Nat.le_of_ble_eq_true hn) nb.1 nb.2 (fun hw hwc=>(h r hr hw hwc).out)
def tu:Nat->Fq×List (Nat×Nat)
  |0=>([.int .i64 0,.str ⟨#[]⟩,.int .i64 0],[(0,1),(1,1)])|1=>([.str ⟨#[]⟩,.int .i64 0,.int .i64 0,.list 1 []],[])|2=>([.list 1 [],.list 3 []],[])|3=>([.list 1 [],.list 1 []],[])|4=>([.list 1 [],.list 1 []],[(0,1),(1,1)])|5=>([.int .i64 0,.int .i64 0,.int .i64 0],[(0,1),(1,1),(2,1)])|6=>([.list 1 [],.list 3 [],.list 1 [],.list 3 [],.list 1 [],.nil,.nil,.bool false,.int .i64 0,.nil,.nil,.nil],[(0,2),(2,2),(4,1),(5,2),(7,1),(8,1)])|7=>([.nil,.nil],[])|8=>([.list 1 [],.list 1 [],.list 1 []],[(0,2),(2,1)])|9=>([.int .i64 0,.int .i64 0],[(0,1),(1,1)])|10=>([.list 1 [],.list 3 [],.list 1 [],.list 3 [],.list 1 [],.list 1 [],.list 1 [],.list 1 []],[(0,2),(2,2),(4,2),(6,2)])|11=>([.int .i64 0,.list 1 [],.list 1 [],.list 1 [],.list 5 []],[])|12=>([.int .i64 0,.list 1 [],.list 1 [],.list 1 [],.list 5 []],[(0,1),(4,1)])|13=>([.int .i64 0,.list 1 [],.list 1 [],.list 1 [],.list 5 []],[(1,3),(4,1)])|14=>([.list 4 [],.list 7 [],.list 1 [],.list 3 [],.list 1 [],.bool false],[(0,2),(2,3),(5,1)])|15=>([.str ⟨#[]⟩,.list 1 [],.list 3 [],.list 4 [],.int .i64 0,.list 5 [],.list 1 [],.list 3 [],.list 4 [],.int .i64 0,.list 5 [],.list 1 [],.list 1 [],.list 1 [],.list 1 [],.bool false,.int .i64 0,.list 9 [],.list 1 [],.list 1 [],.list 1 [],.list 3 [],.list 4 [],.int .i64 0,.list 5 [],.list 1 [],.list 1 [],.list 1 [],.list 1 [],.list 3 [],.list 1 [],.list 1 [],.list 3 [],.list 1 [],.list 1 [],.list 1 [],.list 1 [],.list 1 []],[])|16=>([.str ⟨#[]⟩,.list 1 [],.list 3 [],.list 4 [],.int .i64 0,.list 5 [],.list 1 [],.list 3 [],.list 4 [],.int .i64 0,.list 5 [],.list 1 [],.list 1 [],.list 1 [],.list 1 [],.bool false,.int .i64 0,.list 9 [],.list 1 [],.list 1 [],.list 1 [],.list 3 [],.list 4 [],.int .i64 0,.list 5 [],.list 1 [],.list 1 [],.list 1 [],.list 1 [],.list 3 [],.list 1 [],.nil,.nil,.nil,.list 1 [],.list 1 [],.list 1 [],.list 1 []],[(0,25),(25,3),(28,3)])|17=>([.int .i64 0,.list 1 [],.list 1 [],.list 1 []],[(0,1),(1,3)])|18=>([.list 1 [],.list 3 [],.list 1 [],.list 4 []],[])|19=>([.list 1 [],.list 3 [],.list 1 []],[])|20=>([.list 1 [],.list 3 []],[(0,1)])|21=>([.list 1 [],.list 3 [],.list 4 [],.int .i64 0,.list 5 []],[(0,2)])|22=>([.int .i64 0,.list 9 [],.list 1 [],.list 1 [],.list 1 [],.list 3 [],.list 4 [],.int .i64 0,.list 5 []],[(0,1)])|23=>([.int .u8 0,.int .u8 0],[])|24=>([.str ⟨#[]⟩,.int .i64 0,.bool false,.list 4 []],[(0,1),(1,1),(2,1)])|25=>([.str ⟨#[]⟩,.int .i64 0,.int .i64 0,.list 1 []],[(0,1),(1,1),(2,1)])|26=>([.str ⟨#[]⟩,.int .i64 0,.int .i64 0,.list 1 []],[(0,1),(2,1),(3,1)])|27=>([.str ⟨#[]⟩,.int .i64 0,.int .i64 0,.int .i64 0,.int .i64 0,.int .i64 0,.int .i64 0],[(0,1),(1,1),(2,1),(4,1),(6,1)])|28=>([.list 1 [],.list 3 []],[(0,1),(1,1)])|29=>([.int .i64 0,.str ⟨#[]⟩,.int .i64 0],[])|30=>([.int .i64 0,.int .i64 0],[(0,1)])|31=>([.int .i64 0,.int .i64 0,.int .i64 0,.int .i64 0,.int .i64 0],[(0,1),(1,2),(3,2)])|32=>([.int .i64 0,.int .i64 0,.int .i64 0,.int .i64 0],[(0,1),(1,1),(2,2)])|33=>([.list 1 [],.list 3 [],.list 4 [],.int .i64 0,.list 5 []],[(0,2),(3,1)])|34=>([.int .i64 0,.list 9 [],.list 1 [],.list 1 [],.list 1 [],.list 3 [],.list 4 [],.int .i64 0,.list 5 []],[(0,1),(2,2),(4,5),(1,1)])|35=>([.int .i64 0,.list 9 [],.list 1 [],.list 1 [],.list 1 [],.list 3 [],.list 4 [],.int .i64 0,.list 5 []],[(0,1),(1,1)])|36=>([.str ⟨#[]⟩,.list 1 [],.list 3 [],.list 4 [],.int .i64 0,.list 5 [],.list 1 [],.list 3 [],.list 4 [],.int .i64 0,.list 5 [],.list 1 [],.list 1 [],.list 1 [],.list 1 [],.bool false,.int .i64 0,.list 9 [],.list 1 [],.list 1 [],.list 1 [],.list 3 [],.list 4 [],.int .i64 0,.list 5 []],[(0,1),(1,5),(6,5),(11,2),(13,2),(15,1),(16,9)])|37=>([.list 1 [],.list 3 [],.list 4 [],.int .i64 0,.list 5 []],[(3,1)])|38=>([.list 2 [],.list 3 []],[(0,1),(1,1)])|39=>([.list 1 [],.list 3 [],.list 1 [],.list 4 []],[(0,3)])|_=>([],[])
def tw:Nat->List AQ
  |0=>[⟨false,.str ⟨#[]⟩⟩,⟨false,.int .i64 0⟩,⟨false,.bool false⟩,⟨true,.list 4 []⟩]|1=>[⟨false,.str ⟨#[]⟩⟩,⟨false,.int .i64 0⟩,⟨false,.int .i64 0⟩,⟨false,.int .i64 0⟩,⟨false,.int .i64 0⟩,⟨false,.int .i64 0⟩,⟨false,.int .i64 0⟩]|2=>[⟨false,.str ⟨#[]⟩⟩,⟨false,.int .i64 0⟩,⟨false,.int .i64 0⟩,⟨true,.list 1 []⟩]|3=>[⟨false,.int .i64 0⟩,⟨false,.int .i64 0⟩,⟨false,.int .i64 0⟩,⟨false,.int .i64 0⟩,⟨false,.int .i64 0⟩]|4=>[⟨false,.int .i64 0⟩,⟨false,.int .i64 0⟩,⟨false,.int .i64 0⟩,⟨false,.int .i64 0⟩]|5=>[⟨false,.int .i64 0⟩,⟨false,.int .i64 0⟩]|6=>[⟨true,.list 1 []⟩,⟨true,.list 3 []⟩]|7=>[⟨true,.list 1 []⟩,⟨true,.list 1 []⟩]|8=>[⟨false,.int .i64 0⟩,⟨false,.int .i64 0⟩,⟨false,.int .i64 0⟩]|9=>[⟨true,.list 1 []⟩,⟨true,.list 3 []⟩,⟨true,.list 4 []⟩,⟨false,.int .i64 0⟩,⟨true,.list 5 []⟩]|10=>[⟨false,.int .i64 0⟩,⟨true,.list 9 []⟩,⟨true,.list 1 []⟩,⟨true,.list 1 []⟩,⟨true,.list 1 []⟩,⟨true,.list 3 []⟩,⟨true,.list 4 []⟩,⟨false,.int .i64 0⟩,⟨true,.list 5 []⟩]|11=>[⟨false,.int .i64 0⟩]|12=>[⟨false,.str ⟨#[]⟩⟩,⟨true,.list 1 []⟩,⟨true,.list 3 []⟩,⟨true,.list 4 []⟩,⟨false,.int .i64 0⟩,⟨true,.list 5 []⟩,⟨true,.list 1 []⟩,⟨true,.list 3 []⟩,⟨true,.list 4 []⟩,⟨false,.int .i64 0⟩,⟨true,.list 5 []⟩,⟨true,.list 1 []⟩,⟨true,.list 1 []⟩,⟨true,.list 1 []⟩,⟨true,.list 1 []⟩,⟨false,.bool false⟩,⟨false,.int .i64 0⟩,⟨true,.list 9 []⟩,⟨true,.list 1 []⟩,⟨true,.list 1 []⟩,⟨true,.list 1 []⟩,⟨true,.list 3 []⟩,⟨true,.list 4 []⟩,⟨false,.int .i64 0⟩,⟨true,.list 5 []⟩]|13=>[⟨true,.list 1 []⟩,⟨true,.list 3 []⟩,⟨true,.list 1 []⟩]|14=>[⟨true,.list 1 []⟩,⟨true,.list 3 []⟩,⟨true,.list 1 []⟩,⟨true,.list 3 []⟩,⟨true,.list 1 []⟩,⟨true,.list 1 []⟩,⟨true,.list 1 []⟩,⟨true,.list 1 []⟩]|15=>[⟨false,.int .i64 0⟩,⟨true,.list 1 []⟩,⟨true,.list 1 []⟩,⟨true,.list 1 []⟩,⟨true,.list 5 []⟩]|16=>[⟨true,.list 1 []⟩,⟨true,.list 1 []⟩,⟨true,.list 1 []⟩]|17=>[⟨false,.str ⟨#[]⟩⟩,⟨true,.list 1 []⟩,⟨true,.list 3 []⟩,⟨true,.list 4 []⟩,⟨false,.int .i64 0⟩,⟨true,.list 5 []⟩,⟨true,.list 1 []⟩,⟨true,.list 3 []⟩,⟨true,.list 4 []⟩,⟨false,.int .i64 0⟩,⟨true,.list 5 []⟩,⟨true,.list 1 []⟩,⟨true,.list 1 []⟩,⟨true,.list 1 []⟩,⟨true,.list 1 []⟩,⟨false,.bool false⟩,⟨false,.int .i64 0⟩,⟨true,.list 9 []⟩,⟨true,.list 1 []⟩,⟨true,.list 1 []⟩,⟨true,.list 1 []⟩,⟨true,.list 3 []⟩,⟨true,.list 4 []⟩,⟨false,.int .i64 0⟩,⟨true,.list 5 []⟩,⟨true,.list 1 []⟩,⟨true,.list 1 []⟩,⟨true,.list 1 []⟩,⟨true,.list 1 []⟩,⟨true,.list 3 []⟩,⟨true,.list 1 []⟩,⟨true,.list 1 []⟩,⟨true,.list 3 []⟩,⟨true,.list 1 []⟩,⟨true,.list 1 []⟩,⟨true,.list 1 []⟩,⟨true,.list 1 []⟩,⟨true,.list 1 []⟩]|18=>[⟨false,.str ⟨#[]⟩⟩,⟨true,.list 1 []⟩,⟨true,.list 3 []⟩,⟨true,.list 4 []⟩,⟨false,.int .i64 0⟩,⟨true,.list 5 []⟩,⟨true,.list 1 []⟩,⟨true,.list 3 []⟩,⟨true,.list 4 []⟩,⟨false,.int .i64 0⟩,⟨true,.list 5 []⟩,⟨true,.list 1 []⟩,⟨true,.list 1 []⟩,⟨true,.list 1 []⟩,⟨true,.list 1 []⟩,⟨false,.bool false⟩,⟨false,.int .i64 0⟩,⟨true,.list 9 []⟩,⟨true,.list 1 []⟩,⟨true,.list 1 []⟩,⟨true,.list 1 []⟩,⟨true,.list 3 []⟩,⟨true,.list 4 []⟩,⟨false,.int .i64 0⟩,⟨true,.list 5 []⟩,⟨true,.list 1 []⟩,⟨true,.list 1 []⟩,⟨true,.list 1 []⟩,⟨true,.list 1 []⟩,⟨true,.list 3 []⟩,⟨true,.list 1 []⟩,⟨true,.list 1 []⟩,⟨true,.list 3 []⟩,⟨true,.xn []⟩,⟨true,.list 1 []⟩,⟨true,.list 1 []⟩,⟨true,.list 1 []⟩,⟨true,.list 1 []⟩]|19=>[⟨true,.list 1 []⟩,⟨true,.list 3 []⟩,⟨true,.list 1 []⟩,⟨true,.list 4 []⟩]|20=>[⟨false,.int .i64 0⟩,⟨true,.list 1 []⟩,⟨true,.list 1 []⟩,⟨true,.list 1 []⟩]|21=>[⟨true,.list 4 []⟩,⟨true,.list 7 []⟩]|22=>[⟨false,.int .u8 0⟩,⟨false,.int .u8 0⟩]|23=>[⟨false,.int .i64 0⟩,⟨false,.str ⟨#[]⟩⟩,⟨false,.int .i64 0⟩]|24=>[⟨false,.int .u8 0⟩,⟨false,.int .u8 0⟩,⟨false,.int .u8 0⟩]|25=>[⟨true,.xl 1 []⟩,⟨true,.xl 3 []⟩]|26=>[⟨true,.list 1 []⟩,⟨true,.list 3 []⟩,⟨true,.list 3 []⟩,⟨true,.list 4 []⟩,⟨false,.int .u64 0⟩,⟨true,.list 1 []⟩,⟨true,.list 3 []⟩,⟨true,.list 3 []⟩,⟨false,.bool false⟩,⟨false,.bool false⟩,⟨false,.int .u8 0⟩,⟨false,.int .u8 0⟩,⟨false,.int .u8 0⟩,⟨false,.int .u8 0⟩,⟨true,.list 1 []⟩]|27=>[⟨true,.list 2 []⟩,⟨true,.list 3 []⟩]|28=>[⟨true,.xl 1 []⟩,⟨true,.xl 1 []⟩]
  |_=>[]
def Ws:Zq:=⟨tu,tw⟩
def bT:Nat:=0x103010406050e308c30027781787c81760589055538a5cb3601710182026f30574130634664829708c901e2a60613120e6a0876939a06c94dd16d0137320b5c019f36c1044201610d0c044319446a03570503060137054b48b3014c635c0b55000006600300650402420000014a00005f5c7c83810a93300381880e00000000036e6c3292327d0e044b045f010206423f0336810a090147014204440000000000000501368537010304080e734281056057080700000000034b5c01000071025742094400009300620000000000720e024b000000000000415b81000201000000000544610b00000000368a00000000000000003141000000000000315f818155013670818b0000000000000a05420107065eff300503036b013000016431435e690e37035b1111034401ff0000000000000100855d050b9393ff85050443013c38018131420041000000000000030200000332000000000000000000000000000000000000000000000000000000000000000000000000000000000000000000000000000000000000000001050244ff81000000000000004203010101000000000000000000000000000000000000000000000000000000000000000000000000000000000000000000000000000000000000000000000000000000000000000000000000000000000000000000000000000000000000000000000000
theorem nz{P:Prop}(p:P:=by
  intros
  conv=>
    arg 2
    conv=>
      enter [2]
      whnf
    conv=>
      enter [3]
      whnf
    simp only[PC.of,dC,gq,gm,ob,ku,th,ti,tf,ko,oa,tj,Q8,XF,Xs,td,bW,oP,tP,a0,a1,Qo,k7,oS,oO,cV,Ws,tu,tw,Nat.reduceDiv,Nat.reduceMod,Nat.reduceMul,Nat.reduceEqDiff,↓reduceIte,List.nil_append,List.cons_append,Bool.or_true,Bool.true_or,Bool.or_false,Bool.false_or,Bool.or_self]
  exact au):P:=p
def fX:List ResultVar->List RV
  |.tmp s::r=>.tmp s::fX r|_=>[]
theorem Fk{ts:Fq}(fn:Func)(s:Nat)(X:List AD)(rv:List RV)(h:∀r,x=some r → TV.tn ts → HR (fun r=>Bp rv (R r)) → WP (AO prog) (PC.of Ws fn.body (xq bT s) X) ⟨Bp rv (R r),fun _ _=>False,Bp rv (R r)⟩ (Dh 0 ts))(hb:fn.body=some c:=by rfl)(ck:CK fn (PC.of Ws fn.body (xq bT s) X) rv:=by decide +kernel)(hf:prog.funcs[f]? =some fn:=by rfl)(hname:fn.name≠ "runtime.NumGoroutine" :=by decide)(hn:Nat.ble ts.length fn.ntmps=true:=by rfl)(hp:∀r,(R r).plain=true:=by exact fun _=>rfl):Ct prog x f ts R:=
  Fi ck h hf hb hname hn hp
theorem Fj{ts:Fq}(fn:Func)(s:Nat)(X:List AD)(h:∀{r},x=some r → ∀{_:TV.tn ts}{_:HR fun r=>Bp (fX fn.results.toList) (R r)},WP (AO prog) (PC.of Ws fn.body (xq bT s) X) ⟨Bp (fX fn.results.toList) (R r),fun _ _=>False,Bp (fX fn.results.toList) (R r)⟩ (Dh 0 ts))(hb:fn.body=some c:=by rfl)(ck:CK fn (PC.of Ws fn.body (xq bT s) X) (fX fn.results.toList):=by decide +kernel)(hf:prog.funcs[f]? =some fn:=by rfl)(hname:fn.name≠ "runtime.NumGoroutine" :=by decide)(hn:Nat.ble ts.length fn.ntmps=true:=by rfl)(hp:∀r,(R r).plain=true:=by exact fun _=>rfl):Ct prog x f ts R:=
  Fk fn s X _ (fun r e a b=>@h r e a b) hb ck hf hname hn hp
abbrev CT{α:Type}(x:Option α)(f:outParam FuncId)(ts:outParam Fq)(R:outParam (α->Az)):Prop:=Ct prog x f ts R
abbrev rB:Bool->Az:=fun r=>.sh (eB r)
abbrev rI:Int->Az:=fun r=>.sh (eI r)
end Go.Sf.Sc
