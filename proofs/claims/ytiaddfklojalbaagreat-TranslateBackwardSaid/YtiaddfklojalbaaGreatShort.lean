/- Shorter names for the shapes of rows, and how structs are read. -/
import Derived.Test.YtiaddfklojalbaaGreatSfAuto
import Derived.Test.YtiaddfklojalbaaGreatSfDec
import Derived.Test.YtiaddfklojalbaaGreatFns
set_option linter.all false
set_option maxRecDepth 100000
open Option renaming some->Y
open Bool renaming true->X,false->T
open Nat renaming ble->w?,le_of_ble_eq_true->x_
namespace Go.Sf
abbrev Rq(o:List PR)(l:MV)(b:PC):PC:=.seq (.region o l) b
abbrev Sq(a b:PC):PC:=.seq a b
abbrev Re(o:List PR)(l:MV):PC:=.region o l
abbrev Dr(d:MV)(o:List PR)(l:MV):PC:=.draw d o l
abbrev Sk(l:MV):PC:=.skip l
abbrev Ex(i:Nat)(l:MV):PC:=.exit i l
abbrev Co(c:Nat)(a b:PC):PC:=.cond (.s c) a b
abbrev Bl(i:Nat)(a:PC):PC:=.block i a
abbrev Lo(l:MV)(a:PC):PC:=.loop l a
abbrev Aa(x0 x1:Nat):PR:=⟨Y x0,.mv (.s x1),none⟩
abbrev Ab(x0 x1:Nat):PR:=⟨Y x0,.tk x1,none⟩
abbrev Ac(x0 x1:Nat):PR:=⟨Y x0,.Abn (.s x1),none⟩
abbrev Ad(x0 x1 x2:Nat):PR:=⟨Y x0,.lda (.s x1) x2,none⟩
abbrev Ae(x0 x1 x2:Nat):PR:=⟨Y x0,.fad (.s x1) x2,none⟩
abbrev Af(x0:Nat)(x1:Int):PR:=⟨Y x0,.mv (.c (.int .i64 x1)),none⟩
end Go.Sf
namespace Go.Sf.Sc
open Go Go.Sf Go.Proofs.Tryz
instance(l:List c8):Ml (JU l) AR l:=⟨OL l⟩
instance(l:List CL):Ml (OM l) Gv l:=⟨TQ l⟩
instance:En c8 AR:=⟨⟩
instance:En CL Gv:=⟨⟩
instance:Fl AR 9 DM:=⟨Ie⟩
instance:Fl Gv 5 M1:=⟨eb⟩
instance:kH Bx:=⟨λl=>match l with|[.int _ x0,.int _ x1,.int _ x2]=>B3.mk x0 x1 x2|_=>B3.mk 0 0 0,λa b=>⟨inferInstance,nV a b⟩⟩
abbrev CK(fn:Func)(pl:PC)(rv:List RV):Prop:=EA prog fn.ntmps (VJ prog fn.ntmps) pl (fn.body.getD .skip)=X/\HE prog fn.results.toList rv=X
variable{f:FuncId}{fn:Func}{c:Code}{pl:PC}{rv:List RV}
theorem Fn{args:Fq}{r:Az}(ck:CK fn pl rv)(h:TV.pr args → WP (AW prog) pl ⟨Bw rv r,λ_ _=>False,Bw rv r⟩ (D9 0 args))(hf:prog.funcs[f]? =Y fn:=by rfl)(hb:fn.body=Y c:=by rfl)(hname:fn.name≠ "runtime.NumGoroutine" :=by decide)(hn:w? args.length fn.ntmps=X:=by rfl)(hp:r.plain=X:=by rfl):AW prog f args r:=by
  have h1:=ck.1;rw[hb]at h1;exact br (NR Sc.Tryz_follows) hf hb hname h1 ck.2 (x_ hn) hp (λhw=>(h hw).out)
variable{i:Nat}
theorem FnB{args:Fq}{cs cs':List AQ}{us:Fq}(ck:CK fn pl rv)(nb:PC.t5 pl=X/\PC.tg i pl=X)(h:TV.pr args → (∀c∈cs,c.t.WF) → WP (AW prog) pl ⟨Bw rv (.bo cs cs' i us),λ_ _=>False,Bw rv (.bo cs cs' i us)⟩ ((i,.bx cs)::D9 0 args))(hf:prog.funcs[f]? =Y fn:=by rfl)(hb:fn.body=Y c:=by rfl)(hname:fn.name≠ "runtime.NumGoroutine" :=by decide)(hn:w? args.length fn.ntmps=X:=by rfl):AW prog f args (.bo cs cs' i us):=by
  have h1:=ck.1;rw[hb]at h1;exact kj (NR Sc.Tryz_follows) hf hb hname h1 ck.2 (x_ hn) nb.1 nb.2 (λhw hwc=>(h hw hwc).out)
variable{α:Type}{x:Option α}{ts:Fq}
theorem Fi{R:α → Az}(ck:CK fn pl rv)(h:∀r,x=Y r → TV.pr ts → HR (λr=>Bw rv (R r)) → WP (AW prog) pl ⟨Bw rv (R r),λ_ _=>False,Bw rv (R r)⟩ (D9 0 ts))(hf:prog.funcs[f]? =Y fn:=by rfl)(hb:fn.body=Y c:=by rfl)(hname:fn.name≠ "runtime.NumGoroutine" :=by decide)(hn:w? ts.length fn.ntmps=X:=by rfl)(hp:∀r,(R r).plain=X:=by exact λ_=>rfl):Ct prog x f ts R:=
  ⟨λr hr=>Fn ck (λhw=>h r hr hw ⟨⟩) hf hb hname hn (hp r)⟩
variable{us:α → Fq}
theorem ZD{cs:List AQ}{cs':α → List AQ}(ck:CK fn pl rv)(nb:PC.t5 pl=X/\PC.tg i pl=X)(h:∀r,x=Y r → TV.pr ts → (∀c∈cs,c.t.WF) → HR (λr=>Bw rv (.bo cs (cs' r) i (us r))) → WP (AW prog) pl ⟨Bw rv (.bo cs (cs' r) i (us r)),λ_ _=>False,Bw rv (.bo cs (cs' r) i (us r))⟩ ((i,.bx cs)::D9 0 ts))(hf:prog.funcs[f]? =Y fn:=by rfl)(hb:fn.body=Y c:=by rfl)(hname:fn.name≠ "runtime.NumGoroutine" :=by decide)(hn:w? ts.length fn.ntmps=X:=by rfl):Ct prog x f ts (λr=> .bo cs (cs' r) i (us r)):=
  ⟨λr hr=>FnB ck nb (λhw hwc=>h r hr hw hwc ⟨⟩) hf hb hname hn⟩
theorem FiM{x:Option (Bh×Int)}(ck:CK fn pl rv)(h:∀r,x=Y r → TV.pr ts → HR (λr=>Bw rv (Nb r)) → WP (AW prog) pl ⟨Bw rv (Nb r),λ_ _=>False,Bw rv (Nb r)⟩ (D9 0 ts))(hf:prog.funcs[f]? =Y fn:=by rfl)(hb:fn.body=Y c:=by rfl)(hname:fn.name≠ "runtime.NumGoroutine" :=by decide)(hn:w? ts.length fn.ntmps=X:=by rfl):Ct prog x f ts Nb:=by
  refine ⟨λr hr=>?_⟩;have h0:=h r hr;have h1:=ck.1;rw[hb]at h1;by_cases he:r.2=0
  · have e:Nb r=.mpr r.1 [.int .i64 r.2]:=aE he
    rw [e]at h0|-;exact km (NR Sc.Tryz_follows) hf hb hname h1 ck.2 (x_ hn) (λhw=>(h0 hw ⟨⟩).out)
  · have e:Nb r=.tp [.undef,.int .i64 r.2]:=aN he
    rw [e]at h0|-;exact br (NR Sc.Tryz_follows) hf hb hname h1 ck.2 (x_ hn) rfl (λhw=>(h0 hw ⟨⟩).out)
theorem zX{cs:List AQ}{cs':α → List AQ}(ck:CK fn pl rv)(nb:PC.t5 pl=X/\PC.tg i pl=X)(h:∀r,x=Y r → TV.pr ts → (∀c∈cs,c.t.WF) → WP (AW prog) pl ⟨dc rv cs (cs' r) i (us r),λ_ _=>False,dc rv cs (cs' r) i (us r)⟩ ((i,.bx cs)::D9 0 ts))(hf:prog.funcs[f]? =Y fn:=by rfl)(hb:fn.body=Y c:=by rfl)(hname:fn.name≠ "runtime.NumGoroutine" :=by decide)(hn:w? ts.length fn.ntmps=X:=by rfl):Ct prog x f ts (λr=> .bo cs (cs' r) i (us r)):=by
  refine ⟨λr hr=>?_⟩;have h1:=ck.1;rw[hb]at h1;exact il (NR Sc.Tryz_follows) hf hb hname h1 ck.2 (x_ hn) nb.1 nb.2 (λhw hwc=>(h r hr hw hwc).out)
def zR:Nat->Fq×List (Nat×Nat)
  |0=>([.int .i64 0,.str ⟨#[]⟩,.int .i64 0],[(0,1),(1,1)])|1=>([.list 1 [],.list 1 []],[])|2=>([.list 1 [],.list 1 []],[(0,1),(1,1)])|3=>([.str ⟨#[]⟩,.int .i64 0,.int .i64 0,.list 1 []],[])|4=>([.list 1 [],.list 3 []],[])|5=>([.int .i64 0,.int .i64 0],[(0,1),(1,1)])|6=>([.list 1 [],.list 3 [],.list 1 [],.list 3 [],.list 1 [],.list 1 [],.list 1 [],.list 1 []],[(0,2),(2,2),(4,2),(6,2)])|7=>([.int .i64 0,.int .i64 0,.int .i64 0],[(0,1),(1,1),(2,1)])|8=>([.list 1 [],.list 3 [],.list 1 [],.list 3 [],.list 1 [],.nil,.nil,.bool T,.int .i64 0,.nil,.nil,.nil],[(0,2),(2,2),(4,1),(5,2),(7,1),(8,1)])|9=>([.list 1 [],.list 1 [],.list 1 []],[(0,2),(2,1)])|10=>([.int .i64 0,.list 1 [],.list 1 [],.list 1 [],.list 5 []],[])|11=>([.int .i64 0,.list 1 [],.list 1 [],.list 1 [],.list 5 []],[(0,1),(4,1)])|12=>([.int .i64 0,.list 1 [],.list 1 [],.list 1 [],.list 5 []],[(1,3),(4,1)])|13=>([.list 4 [],.list 7 [],.list 1 [],.list 3 [],.list 1 [],.bool T],[(0,2),(2,3),(5,1)])|14=>([.str ⟨#[]⟩,.list 1 [],.list 3 [],.list 4 [],.int .i64 0,.list 5 [],.list 1 [],.list 3 [],.list 4 [],.int .i64 0,.list 5 [],.list 1 [],.list 1 [],.list 1 [],.list 1 [],.bool T,.int .i64 0,.list 9 [],.list 1 [],.list 1 [],.list 1 [],.list 3 [],.list 4 [],.int .i64 0,.list 5 [],.list 1 [],.list 1 [],.list 1 [],.list 1 [],.list 3 [],.list 1 [],.list 1 [],.list 3 [],.list 1 [],.list 1 [],.list 1 [],.list 1 [],.list 1 []],[])|15=>([.str ⟨#[]⟩,.list 1 [],.list 3 [],.list 4 [],.int .i64 0,.list 5 [],.list 1 [],.list 3 [],.list 4 [],.int .i64 0,.list 5 [],.list 1 [],.list 1 [],.list 1 [],.list 1 [],.bool T,.int .i64 0,.list 9 [],.list 1 [],.list 1 [],.list 1 [],.list 3 [],.list 4 [],.int .i64 0,.list 5 [],.list 1 [],.list 1 [],.list 1 [],.list 1 [],.list 3 [],.list 1 [],.nil,.nil,.nil,.list 1 [],.list 1 [],.list 1 [],.list 1 []],[(0,25),(25,3),(28,3)])|16=>([.list 4 [],.list 7 [],.list 1 [],.list 1 [],.list 25 []],[(0,2),(2,2),(4,1)])|17=>([.list 1 [],.list 3 [],.list 1 []],[])|18=>([.nil,.nil],[])|19=>([.list 1 [],.list 1 [],.list 1 []],[(0,2)])|20=>([.int .i64 0,.list 1 [],.list 1 [],.list 1 []],[(0,1),(1,3)])|21=>([.list 1 [],.list 3 [],.list 1 []],[(0,2),(2,1)])|22=>([.list 1 [],.list 3 [],.list 1 [],.list 4 [],.list 1 [],.list 1 []],[(0,3),(3,1),(4,2)])|23=>([.list 1 [],.list 3 []],[(0,1),(1,1)])|24=>([.list 1 [],.list 3 [],.list 1 [],.list 1 [],.list 4 [],.list 1 [],.list 1 []],[(0,2),(2,1),(3,1)])|25=>([.list 4 [],.list 7 [],.list 1 [],.list 1 [],.list 25 [],.list 1 [],.int .i64 0,.list 1 [],.list 3 [],.list 1 [],.list 4 [],.list 1 [],.list 1 [],.int .i64 0],[(0,5),(5,1)])|26=>([.list 1 [],.list 3 [],.list 1 [],.list 4 [],.list 1 [],.list 1 []],[])|27=>([.str ⟨#[]⟩,.int .i64 0,.int .i64 0,.int .i64 0,.int .i64 0,.int .i64 0,.int .i64 0],[(0,1),(1,1),(2,1),(4,1),(6,1)])|28=>([.list 4 [],.list 7 []],[(0,1),(1,1)])|29=>([.int .i64 0,.str ⟨#[]⟩,.int .i64 0],[])|30=>([.list 1 [],.list 3 [],.list 4 [],.int .i64 0,.list 5 []],[(0,2)])|31=>([.int .i64 0,.list 9 [],.list 1 [],.list 1 [],.list 1 [],.list 3 [],.list 4 [],.int .i64 0,.list 5 []],[(0,1)])|32=>([.str ⟨#[]⟩,.list 1 [],.list 3 [],.list 4 [],.int .i64 0,.list 5 [],.list 1 [],.list 3 [],.list 4 [],.int .i64 0,.list 5 [],.list 1 [],.list 1 [],.list 1 [],.list 1 [],.bool T,.int .i64 0,.list 9 [],.list 1 [],.list 1 [],.list 1 [],.list 3 [],.list 4 [],.int .i64 0,.list 5 []],[(0,1),(1,5),(6,5),(11,2),(13,2),(15,1),(16,9)])|33=>([.list 2 [],.list 3 []],[(0,1),(1,1)])|34=>([.int .u8 0,.int .u8 0,.int .u8 0],[(0,1),(1,1),(2,1)])|35=>([.list 2 [],.list 3 [],.list 1 [],.list 3 []],[(2,1),(3,1)])|36=>([.int .u8 0,.int .u8 0],[(0,1),(1,1)])|37=>([.list 2 [],.list 3 [],.list 1 [],.list 3 []],[(0,2),(2,1),(3,1)])|38=>([.int .i64 0,.int .i64 0,.int .i64 0],[(1,1),(2,1)])|39=>([.list 1 [],.list 3 []],[(0,1)])|40=>([.str ⟨#[]⟩,.list 1 [],.list 3 [],.list 4 [],.int .i64 0,.list 5 [],.list 1 [],.list 3 [],.list 4 [],.int .i64 0,.list 5 [],.list 1 [],.list 1 [],.list 1 [],.list 1 [],.bool T,.int .i64 0,.list 9 [],.list 1 [],.list 1 [],.list 1 [],.list 3 [],.list 4 [],.int .i64 0,.list 5 []],[])
  |41=>([.list 4 [],.list 7 [],.list 1 [],.list 3 [],.list 1 [],.list 3 [],.list 1 [],.list 1 [],.bool T,.int .i64 0,.nil],[(0,2),(2,2),(4,2),(6,2),(8,1),(9,1)])|42=>([.list 1 [],.list 3 [],.list 1 [],.list 1 [],.int .i64 0,.int .i64 0,.list 4 []],[])|43=>([.list 4 [],.list 7 [],.list 25 [],.nil,.int .i64 0],[(0,2),(2,1)])|44=>([.list 1 [],.list 3 [],.list 1 [],.list 1 [],.int .i64 0,.int .i64 0,.list 4 []],[(0,2),(2,1),(3,1)])|_=>([],[])
def zS:Nat->List AQ
  |0=>[⟨T,.str ⟨#[]⟩⟩,⟨T,.int .i64 0⟩,⟨T,.bool T⟩,⟨X,.list 4 []⟩]|1=>[⟨T,.str ⟨#[]⟩⟩,⟨T,.int .i64 0⟩,⟨T,.int .i64 0⟩,⟨T,.int .i64 0⟩,⟨T,.int .i64 0⟩,⟨T,.int .i64 0⟩,⟨T,.int .i64 0⟩]|2=>[⟨X,.list 1 []⟩,⟨X,.list 1 []⟩]|3=>[⟨T,.str ⟨#[]⟩⟩,⟨T,.int .i64 0⟩,⟨T,.int .i64 0⟩,⟨X,.list 1 []⟩]|4=>[⟨T,.int .i64 0⟩,⟨T,.int .i64 0⟩,⟨T,.int .i64 0⟩,⟨T,.int .i64 0⟩,⟨T,.int .i64 0⟩]|5=>[⟨T,.int .i64 0⟩,⟨T,.int .i64 0⟩,⟨T,.int .i64 0⟩,⟨T,.int .i64 0⟩]|6=>[⟨T,.int .i64 0⟩,⟨T,.int .i64 0⟩]|7=>[⟨T,.int .i64 0⟩,⟨T,.int .i64 0⟩,⟨T,.int .i64 0⟩]|8=>[⟨X,.list 1 []⟩,⟨X,.list 3 []⟩]|9=>[⟨X,.list 1 []⟩,⟨X,.list 3 []⟩,⟨X,.list 4 []⟩,⟨T,.int .i64 0⟩,⟨X,.list 5 []⟩]|10=>[⟨T,.int .i64 0⟩,⟨X,.list 9 []⟩,⟨X,.list 1 []⟩,⟨X,.list 1 []⟩,⟨X,.list 1 []⟩,⟨X,.list 3 []⟩,⟨X,.list 4 []⟩,⟨T,.int .i64 0⟩,⟨X,.list 5 []⟩]|11=>[⟨T,.int .i64 0⟩]|12=>[⟨T,.str ⟨#[]⟩⟩,⟨X,.list 1 []⟩,⟨X,.list 3 []⟩,⟨X,.list 4 []⟩,⟨T,.int .i64 0⟩,⟨X,.list 5 []⟩,⟨X,.list 1 []⟩,⟨X,.list 3 []⟩,⟨X,.list 4 []⟩,⟨T,.int .i64 0⟩,⟨X,.list 5 []⟩,⟨X,.list 1 []⟩,⟨X,.list 1 []⟩,⟨X,.list 1 []⟩,⟨X,.list 1 []⟩,⟨T,.bool T⟩,⟨T,.int .i64 0⟩,⟨X,.list 9 []⟩,⟨X,.list 1 []⟩,⟨X,.list 1 []⟩,⟨X,.list 1 []⟩,⟨X,.list 3 []⟩,⟨X,.list 4 []⟩,⟨T,.int .i64 0⟩,⟨X,.list 5 []⟩]|13=>[⟨X,.list 1 []⟩,⟨X,.list 3 []⟩,⟨X,.list 1 []⟩,⟨X,.list 3 []⟩,⟨X,.list 1 []⟩,⟨X,.list 1 []⟩,⟨X,.list 1 []⟩,⟨X,.list 1 []⟩]|14=>[⟨T,.int .i64 0⟩,⟨X,.list 1 []⟩,⟨X,.list 1 []⟩,⟨X,.list 1 []⟩,⟨X,.list 5 []⟩]|15=>[⟨X,.list 1 []⟩,⟨X,.list 1 []⟩,⟨X,.list 1 []⟩]|16=>[⟨X,.list 1 []⟩,⟨X,.list 3 []⟩,⟨X,.list 1 []⟩]|17=>[⟨T,.str ⟨#[]⟩⟩,⟨X,.list 1 []⟩,⟨X,.list 3 []⟩,⟨X,.list 4 []⟩,⟨T,.int .i64 0⟩,⟨X,.list 5 []⟩,⟨X,.list 1 []⟩,⟨X,.list 3 []⟩,⟨X,.list 4 []⟩,⟨T,.int .i64 0⟩,⟨X,.list 5 []⟩,⟨X,.list 1 []⟩,⟨X,.list 1 []⟩,⟨X,.list 1 []⟩,⟨X,.list 1 []⟩,⟨T,.bool T⟩,⟨T,.int .i64 0⟩,⟨X,.list 9 []⟩,⟨X,.list 1 []⟩,⟨X,.list 1 []⟩,⟨X,.list 1 []⟩,⟨X,.list 3 []⟩,⟨X,.list 4 []⟩,⟨T,.int .i64 0⟩,⟨X,.list 5 []⟩,⟨X,.list 1 []⟩,⟨X,.list 1 []⟩,⟨X,.list 1 []⟩,⟨X,.list 1 []⟩,⟨X,.list 3 []⟩,⟨X,.list 1 []⟩,⟨X,.list 1 []⟩,⟨X,.list 3 []⟩,⟨X,.list 1 []⟩,⟨X,.list 1 []⟩,⟨X,.list 1 []⟩,⟨X,.list 1 []⟩,⟨X,.list 1 []⟩]|18=>[⟨T,.str ⟨#[]⟩⟩,⟨X,.list 1 []⟩,⟨X,.list 3 []⟩,⟨X,.list 4 []⟩,⟨T,.int .i64 0⟩,⟨X,.list 5 []⟩,⟨X,.list 1 []⟩,⟨X,.list 3 []⟩,⟨X,.list 4 []⟩,⟨T,.int .i64 0⟩,⟨X,.list 5 []⟩,⟨X,.list 1 []⟩,⟨X,.list 1 []⟩,⟨X,.list 1 []⟩,⟨X,.list 1 []⟩,⟨T,.bool T⟩,⟨T,.int .i64 0⟩,⟨X,.list 9 []⟩,⟨X,.list 1 []⟩,⟨X,.list 1 []⟩,⟨X,.list 1 []⟩,⟨X,.list 3 []⟩,⟨X,.list 4 []⟩,⟨T,.int .i64 0⟩,⟨X,.list 5 []⟩,⟨X,.list 1 []⟩,⟨X,.list 1 []⟩,⟨X,.list 1 []⟩,⟨X,.list 1 []⟩,⟨X,.list 3 []⟩,⟨X,.list 1 []⟩,⟨X,.list 1 []⟩,⟨X,.list 3 []⟩,⟨X,.xn []⟩,⟨X,.list 1 []⟩,⟨X,.list 1 []⟩,⟨X,.list 1 []⟩,⟨X,.list 1 []⟩]|19=>[⟨T,.list 1 []⟩,⟨T,.list 3 []⟩,⟨T,.list 1 []⟩]|20=>[⟨T,.int .i64 0⟩,⟨X,.list 1 []⟩,⟨X,.list 1 []⟩,⟨X,.list 1 []⟩]|21=>[⟨X,.list 1 []⟩,⟨X,.list 3 []⟩,⟨X,.list 1 []⟩,⟨X,.list 1 []⟩]|22=>[⟨X,.list 1 []⟩,⟨X,.list 3 []⟩,⟨X,.list 1 []⟩,⟨X,.list 1 []⟩,⟨X,.list 4 []⟩,⟨X,.list 1 []⟩,⟨X,.list 1 []⟩]|23=>[⟨X,.list 1 []⟩,⟨X,.list 3 []⟩,⟨X,.xl 1 []⟩,⟨X,.xl 1 []⟩,⟨X,.list 4 []⟩,⟨X,.list 1 []⟩,⟨X,.list 1 []⟩]|24=>[⟨X,.list 1 []⟩,⟨X,.list 3 []⟩,⟨X,.list 1 []⟩,⟨X,.list 4 []⟩,⟨X,.list 1 []⟩,⟨X,.list 1 []⟩]|25=>[⟨X,.list 4 []⟩,⟨X,.list 7 []⟩,⟨X,.list 1 []⟩,⟨X,.list 1 []⟩,⟨X,.list 25 []⟩]|26=>[⟨X,.list 4 []⟩,⟨X,.list 7 []⟩]|27=>[⟨T,.int .i64 0⟩,⟨T,.str ⟨#[]⟩⟩,⟨T,.int .i64 0⟩]
  |28=>[⟨X,.list 2 []⟩,⟨X,.list 3 []⟩,⟨X,.list 1 []⟩,⟨X,.list 3 []⟩]|29=>[⟨X,.list 1 []⟩,⟨X,.list 3 []⟩,⟨X,.xl 1 []⟩,⟨X,.xl 1 []⟩]|30=>[⟨X,.xl 1 []⟩,⟨X,.xl 1 []⟩]|31=>[⟨X,.list 1 []⟩,⟨X,.list 3 []⟩,⟨X,.list 1 []⟩,⟨X,.list 1 []⟩,⟨T,.int .i64 0⟩,⟨T,.int .i64 0⟩,⟨X,.list 4 []⟩]|32=>[⟨X,.list 1 []⟩,⟨X,.list 3 []⟩,⟨X,.xl 1 []⟩,⟨X,.xl 1 []⟩,⟨T,.int .i64 0⟩,⟨T,.int .i64 0⟩,⟨X,.list 4 []⟩]|_=>[]
def MU:fQ:=⟨zR,zS⟩
def bT:Nat:=0x93a908c9ade4a531555b054b5e7480315f5c735e4dd81944064b55578c5d76d90242044b01048a0502740605d6e2850b5531044407c90642b5895501933284ff81015e03014a0b5d047f037f014c97830c0b657748a6010200006b038105094400008a7565ff810a6b040000415b0000036d8d425f0101420000030000000000880e579b90020544030400000000000093000a098477024b02010706000000000000034b416d320581576a000a055e4201474255000000005d0181810000690b8100080e0000017e050100000000818b5555000000000000035b7c7d3200000000000303600100000000080700000000000000006501000000000000304143016c0e010e11110000000000000000ff570344050b42010504000000000000000000005b31856101009393ff850000000000003c5c0000000000000181304330420302033101050041000000000000ff81000002440000000000000000000000000000000000000000000000000000000000000000000000000000000000000000000000000000000000000000000000000000000000000000010100420301000000000000000000000000000000000000000000000000000000000000000000000000000000000000000000000000000000000000000000000000000000000000000000000000000000000000000000000000000000000000000000000000
theorem nz{P:Prop}(p:P:=by
  intros
  conv=>
    arg 2
    conv=>
      enter [2]
      whnf
    conv=>
      enter [3]
      whnf
    simp only[PC.of,dC,nS,nR,uJ,qL,zI,zJ,zF,qK,uI,zK,TO,aW,ba,zE,iZ,oP,tP,a0,a1,SO,qR,t8,oO,cV,MU,zR,zS,Nat.reduceDiv,Nat.reduceMod,Nat.reduceMul,Nat.reduceEqDiff,↓reduceIte,List.nil_append,List.cons_append,Bool.or_true,Bool.true_or,Bool.or_false,Bool.false_or,Bool.or_self]
  exact au):P:=p
def MT:List ResultVar->List RV
  |.tmp s::r=>.tmp s::MT r|_=>[]
theorem Fk{R:α → Az}(fn:Func)(s:Nat)(ζ:List AE)(rv:List RV)(h:∀r,x=Y r → TV.pr ts → HR (λr=>Bw rv (R r)) → WP (AW prog) (PC.of MU fn.body (xq bT s) ζ) ⟨Bw rv (R r),λ_ _=>False,Bw rv (R r)⟩ (D9 0 ts))(hb:fn.body=Y c:=by rfl)(ck:CK fn (PC.of MU fn.body (xq bT s) ζ) rv:=by decide +kernel)(hf:prog.funcs[f]? =Y fn:=by rfl)(hname:fn.name≠ "runtime.NumGoroutine" :=by decide)(hn:w? ts.length fn.ntmps=X:=by rfl)(hp:∀r,(R r).plain=X:=by exact λ_=>rfl):Ct prog x f ts R:=
  Fi ck h hf hb hname hn hp
theorem Fj{R:α → Az}(fn:Func)(s:Nat)(ζ:List AE)(h:∀{r},x=Y r → ∀{_:TV.pr ts}{_:HR λr=>Bw (MT fn.results.toList) (R r)},WP (AW prog) (PC.of MU fn.body (xq bT s) ζ) ⟨Bw (MT fn.results.toList) (R r),λ_ _=>False,Bw (MT fn.results.toList) (R r)⟩ (D9 0 ts))(hb:fn.body=Y c:=by rfl)(ck:CK fn (PC.of MU fn.body (xq bT s) ζ) (MT fn.results.toList):=by decide +kernel)(hf:prog.funcs[f]? =Y fn:=by rfl)(hname:fn.name≠ "runtime.NumGoroutine" :=by decide)(hn:w? ts.length fn.ntmps=X:=by rfl)(hp:∀r,(R r).plain=X:=by exact λ_=>rfl):Ct prog x f ts R:=
  Fk fn s ζ _ (λr e a b=>@h r e a b) hb ck hf hname hn hp
variable{y:Option α}{R:α->Az}
theorem Fe(fn:Func)(s:Nat)(ζ:List AE)(E:x=y)(h:∀r,y=Y r->TV.pr ts->HR (λr=>Bw (MT fn.results.toList) (R r))->WP (AW prog) (PC.of MU fn.body (xq bT s) ζ) ⟨Bw (MT fn.results.toList) (R r),λ_ _=>False,Bw (MT fn.results.toList) (R r)⟩ (D9 0 ts):=by
  intro r h _ _;exact nz)(hb:fn.body=Y c:=by rfl)(ck:CK fn (PC.of MU fn.body (xq bT s) ζ) (MT fn.results.toList):=by decide +kernel)(hf:prog.funcs[f]? =Y fn:=by rfl)(hname:fn.name≠ "runtime.NumGoroutine" :=by decide)(hn:w? ts.length fn.ntmps=X:=by rfl)(hp:∀r,(R r).plain=X:=by exact λ_=>rfl):Ct prog x f ts R:=
  Fk fn s ζ _ (λr e a b=>h r (E.symm.trans e) a b) hb ck hf hname hn hp
variable{H1:Prop}
theorem CW(fn:Func)(s:Nat)(ζ:List AE)(E:x=y)(i1:H1)(h:H1->∀r,y=Y r->TV.pr ts->HR (λr=>Bw (MT fn.results.toList) (R r))->WP (AW prog) (PC.of MU fn.body (xq bT s) ζ) ⟨Bw (MT fn.results.toList) (R r),λ_ _=>False,Bw (MT fn.results.toList) (R r)⟩ (D9 0 ts):=by
  intro _ r h _ _;exact nz)(hb:fn.body=Y c:=by rfl)(ck:CK fn (PC.of MU fn.body (xq bT s) ζ) (MT fn.results.toList):=by decide +kernel)(hf:prog.funcs[f]? =Y fn:=by rfl)(hname:fn.name≠ "runtime.NumGoroutine" :=by decide)(hn:w? ts.length fn.ntmps=X:=by rfl)(hp:∀r,(R r).plain=X:=by exact λ_=>rfl):Ct prog x f ts R:=
  Fk fn s ζ _ (λr e a b=>h i1 r (E.symm.trans e) a b) hb ck hf hname hn hp
variable{H2:Prop}
theorem Jl(fn:Func)(s:Nat)(ζ:List AE)(E:x=y)(i1:H1)(i2:H2)(h:H1->H2->∀r,y=Y r->TV.pr ts->HR (λr=>Bw (MT fn.results.toList) (R r))->WP (AW prog) (PC.of MU fn.body (xq bT s) ζ) ⟨Bw (MT fn.results.toList) (R r),λ_ _=>False,Bw (MT fn.results.toList) (R r)⟩ (D9 0 ts):=by
  intro _ _ r h _ _;exact nz)(hb:fn.body=Y c:=by rfl)(ck:CK fn (PC.of MU fn.body (xq bT s) ζ) (MT fn.results.toList):=by decide +kernel)(hf:prog.funcs[f]? =Y fn:=by rfl)(hname:fn.name≠ "runtime.NumGoroutine" :=by decide)(hn:w? ts.length fn.ntmps=X:=by rfl)(hp:∀r,(R r).plain=X:=by exact λ_=>rfl):Ct prog x f ts R:=
  Fk fn s ζ _ (λr e a b=>h i1 i2 r (E.symm.trans e) a b) hb ck hf hname hn hp
theorem tD{H3:Prop}(fn:Func)(s:Nat)(ζ:List AE)(E:x=y)(i1:H1)(i2:H2)(i3:H3)(h:H1->H2->H3->∀r,y=Y r->TV.pr ts->HR (λr=>Bw (MT fn.results.toList) (R r))->WP (AW prog) (PC.of MU fn.body (xq bT s) ζ) ⟨Bw (MT fn.results.toList) (R r),λ_ _=>False,Bw (MT fn.results.toList) (R r)⟩ (D9 0 ts):=by
  intro _ _ _ r h _ _;exact nz)(hb:fn.body=Y c:=by rfl)(ck:CK fn (PC.of MU fn.body (xq bT s) ζ) (MT fn.results.toList):=by decide +kernel)(hf:prog.funcs[f]? =Y fn:=by rfl)(hname:fn.name≠ "runtime.NumGoroutine" :=by decide)(hn:w? ts.length fn.ntmps=X:=by rfl)(hp:∀r,(R r).plain=X:=by exact λ_=>rfl):Ct prog x f ts R:=
  Fk fn s ζ _ (λr e a b=>h i1 i2 i3 r (E.symm.trans e) a b) hb ck hf hname hn hp
def uc{σ:Type}(c:Nat)(f:σ->List (Nat×EV)):Int->σ->List (Nat×EV):=λi s=>(c,.tv (eI i))::f s
theorem Bu(n c q i:Nat){σ:Type}(f:σ->List (Nat×EV)):HA n c q i (uc c f):=⟨⟩
theorem BJ(n c q i:Nat):HA n c q i (uc c λ_:Unit=>[]):=⟨⟩
abbrev CT{α:Type}(x:Option α)(f:outParam FuncId)(ts:outParam Fq)(R:outParam (α->Az)):Prop:=Ct prog x f ts R
abbrev rB:Bool->Az:=λr=>.sh (eB r)
abbrev rI:Int->Az:=λr=>.sh (eI r)
abbrev rO{α:Type}(e:α->TV):α->Az:=λr=>.own (e r)
abbrev rS{α:Type}(e:α->TV):α->Az:=λr=>.sh (e r)
abbrev rT{α β:Type}(e:α->TV)(f:β->TV):α×β->Az:=λr=>.tp [e r.1,f r.2]
abbrev hO{α:Type}(k:Nat)(e:α->TV):α->List (Nat×EV):=λs=>[(k,.ow (e s))]
abbrev hT{α:Type}(k:Nat)(e:α->TV):α->List (Nat×EV):=λs=>[(k,.tv (e s))]
abbrev hX{α:Type}(k n:Nat)(e:α->TV):List α->List (Nat×EV):=λs=>[(k,.xo n (List.map e s))]
end Go.Sf.Sc
