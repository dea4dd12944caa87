/- Tree values for Go's data, and what it means that memory holds one. No program. -/
import Derived.WalkKit
import Derived.ProofKit
set_option linter.all false
open Option renaming some->Y,none->W
open Bool renaming true->X
namespace Go.Sf
section
variable{p:Prop}
theorem U(h:p:=by omega):p:=h
theorem V(h:p:=by simp):p:=h
theorem an(h:p:=by simp;omega):p:=h
theorem a_(h:p:=by decide):p:=h
theorem a!(h:p:=by simp;unfold AY;omega):p:=h
theorem a?(h:p:=by unfold AY;omega):p:=h
theorem b_(h:p:=by kernel_rfl):p:=h
theorem b!(h:p:=by decide +kernel):p:=h
theorem b?(h:p:=by simpa using d):p:=h
theorem c_(h:p:=by simp[AF.sl]):p:=h
theorem c!(h:p:=by simp[e]):p:=h
theorem c?(h:p:=by simpa using h):p:=h
theorem d_(h:p:=by simpa using f):p:=h
theorem d!(h:p:=by cases h):p:=h
theorem d?(h:p:=by rw[Ar (by omega) (by omega)];omega):p:=h
theorem e_(h:p:=by simpa using u):p:=h
theorem e!(h:p:=by simp[AE.slots]):p:=h
theorem e?(h:p:=by rw[Bool.eq_false_iff];simp;omega):p:=h
theorem f_(h:p:=by rw[L];rfl):p:=h
theorem f?(h:p:=by simpa using o):p:=h
theorem g_(h:p:=by simp only[AE.wp,b.ev (λs h=>h) l (by simp)];exact g):p:=h
theorem g!(h:p:=by simp[AE.nx]):p:=h
theorem g?(h:p:=by rw[Ek];exact h.defers):p:=h
theorem h_(h:p:=by simpa using e):p:=h
theorem h!(h:p:=by rw[decide_eq_decide];omega):p:=h
theorem h?(h:p:=by cases h;assumption):p:=h
theorem i9(h:p:=by rw[Nat.add_mul];omega):p:=h
theorem i_(h:p:=by simp only[IntKind.min,IntKind.signed,IntKind.bits,if_true];omega):p:=h
theorem i!(h:p:=by simpa using y):p:=h
theorem i?(h:p:=by rw[z g x _ j (by simp) (by simp)];exact f):p:=h
theorem j_(h:p:=by simp[j]):p:=h
theorem j!(h:p:=by simp;try omega):p:=h
theorem j?(h:p:=by simpa using hv.1):p:=h
theorem k_(h:p:=by simpa using j):p:=h
theorem k!(h:p:=by simpa using hi):p:=h
theorem k?(h:p:=by simp[Ci,Cf,CQ]):p:=h
theorem l_(h:p:=by have:=(B.gB _ _ _ _ _ _ _ (e▸m) h4).2;cases this):p:=h
theorem l'(h:p:=by rw[a5];omega):p:=h
theorem l!(h:p:=by cases he):p:=h
theorem l?(h:p:=by rfl):p:=h
theorem m_(h:p:=by grind):p:=h
theorem m?(h:p:=by simpa using p):p:=h
theorem n_(h:p:=by simpa using r):p:=h
theorem n!(h:p:=by simp[Value.oneCell']):p:=h
theorem n?(h:p:=by simpa using w):p:=h
theorem o1(h:p:=by simp[DR,hf,hb,hname]):p:=h
theorem o2(h:p:=by rw[A];rfl):p:=h
theorem o_(h:p:=by have:=e.1;omega):p:=h
theorem o!(h:p:=by have:=h.len;omega):p:=h
theorem o?(h:p:=by simp[u]):p:=h
theorem p_(h:p:=by rw[(C l.1 l.2 rfl).1,e];simp[AF.sl]):p:=h
theorem p!(h:p:=by simp[d]):p:=h
theorem p?(h:p:=by simp[AJ]):p:=h
theorem q_(h:p:=by rw[a5,List.length_singleton];omega):p:=h
theorem q!(h:p:=by simpa using B):p:=h
theorem q?(h:p:=by dsimp only;omega):p:=h
theorem r_(h:p:=by simp only[IntKind.max_i64];omega):p:=h
theorem r!(h:p:=by cases e):p:=h
theorem r?(h:p:=by simp[o]):p:=h
theorem so(h:p:=by simp[AE.slots,AF.sl]):p:=h
theorem s_(h:p:=by rw[az];unfold reachBytes;omega):p:=h
theorem s?(h:p:=by rw[e];rfl):p:=h
theorem to(h:p:=by simpa using this.1):p:=h
theorem t_(h:p:=by simp[At.aev,At.ev]):p:=h
theorem t!(h:p:=by simpa using g):p:=h
theorem t?(h:p:=by simpa using z):p:=h
theorem u_(h:p:=by simp[g]):p:=h
theorem u'(h:p:=by simpa using A):p:=h
theorem u!(h:p:=by simp[Az]):p:=h
theorem u?(h:p:=by simp[hv]):p:=h
theorem v5(h:p:=by unfold Eu;rw[QQ (Aq.2 hv)]):p:=h
theorem v6(h:p:=by rw[d.cond];decide):p:=h
theorem v_(h:p:=by rw[a6];omega):p:=h
end
abbrev Fp:=List Int
abbrev I1:=Option Bool
abbrev I2:=List Nat
abbrev K1:=Option Int
abbrev Ne:=List Bool
theorem QQ{c:Prop}{h:Decidable c}(hc:c){α:Sort _}{t e:α}:ite c t e=t:=if_pos hc
theorem aE{c:Prop}{h:Decidable c}(hc:¬c){α:Sort _}{t e:α}:ite c t e=e:=if_neg hc
theorem aN(n:Nat):n<=n:=Nat.le_refl n
theorem a5{α:Type _}{a b:List α}:(a++b).length=a.length+b.length:=List.length_append
theorem a6{α:Type _}{i:Nat}{l:List α}:(l.take i).length=min i l.length:=List.length_take
theorem ae{α:Type _}{a:α}{l:List α}:(a::l).length=l.length+1:=List.length_cons
theorem az{α β:Type _}{l:List α}(f:α->β):(l.map f).length=l.length:=List.length_map f
theorem bk{α:Type _}(a b c:List α):a++b++c=a++(b++c):=List.append_assoc a b c
theorem gN(a b:Bool):((a && b)=X)=(a=X/\b=X):=Bool.and_eq_true a b
theorem kx{α:Type _}(a b:α):(Y a=Y b)=(a=b):=Option.some.injEq a b
theorem ml{p:Prop}[Decidable p]:(decide p=X)=p:=decide_eq_true_eq
inductive TV where
 |undef
 |int (k:IntKind) (n:Int)
 |bool (b:Bool)
 |str (s:ByteArray)
 |nil
 |list (n:Nat) (es:List TV)
 |agg (cs:List TV)
 |pt (row:List TV)
 |z5 (f:FuncId) (caps:List TV)
 |xl (n:Nat) (es:List TV)
 |xn (es:List TV)
 |Aau (b:Nat)
abbrev Fq:=List TV
def TV.cells:TV->List TV
 |.agg cs=>cs|t=>[t]
section
variable(w:World)(Fb:Nat->Nat->Prop)
mutual
def Ap:TV->Value->Prop
 |.undef,v=>v.oneCell'=X|.int k n,v=>v=.int k n|.bool b,v=>v=.bool b|.str s,v=>v=.string s|.nil,v=>v=.slice W 0 0|.list n es,v=>∃a cap,v=.slice a es.length cap/\es.length<=cap/\(a=W->es=[])/\∀ad,a=Y ad->(es=[]\/ad.spot=W)/\II n es ad.block ad.off|.agg cs,v=>∃vs,v=.agg vs/\AT cs vs.toList/\vs.toList.all Value.oneCell'=X|.pt row,v=>∃b o,v=.pointer (Y ⟨b,o,W⟩)/\DD row b o|.z5 f caps,v=>∃vs,v=.func (.func f) #[] vs/\AT caps vs.toList|.xl _ _,v=>v.oneCell'=X|.xn _,v=>v.oneCell'=X|.Aau b,v=>v=.map (Y b)
def AT:List TV->List Value->Prop
 |[],vs=>vs=[]|t::ts,vs=>∃v r,vs=v::r/\Ap t v/\AT ts r
def DD:List TV->Nat->Nat->Prop
 |[],_,_=>True|t::ts,b,o=>(∃v,w.cell? ⟨b,o,W⟩=Y v/\¬Fb b o/\v.oneCell'=X/\Ap t v)/\DD ts b (o+1)
def II(n:Nat):List TV->Nat->Nat->Prop
 |[],_,_=>True|e::es,b,o=>IH e b o/\e.cells.length=n/\II n es b (o+n)
def IH:TV->Nat->Nat->Prop
 |.agg cs,b,o=>DD cs b o|.undef,b,o=>∃v,w.cell? ⟨b,o,W⟩=Y v/\¬Fb b o/\v.oneCell'=X/\v.oneCell'=X|.int k n,b,o=>∃v,w.cell? ⟨b,o,W⟩=Y v/\¬Fb b o/\v.oneCell'=X/\v=.int k n|.bool x,b,o=>∃v,w.cell? ⟨b,o,W⟩=Y v/\¬Fb b o/\v.oneCell'=X/\v=.bool x|.str s,b,o=>∃v,w.cell? ⟨b,o,W⟩=Y v/\¬Fb b o/\v.oneCell'=X/\v=.string s|.nil,b,o=>∃v,w.cell? ⟨b,o,W⟩=Y v/\¬Fb b o/\v.oneCell'=X/\v=.slice W 0 0|.list n es,b,o=>∃v,w.cell? ⟨b,o,W⟩=Y v/\¬Fb b o/\v.oneCell'=X/\∃a cap,v=.slice a es.length cap/\es.length<=cap/\(a=W->es=[])/\∀ad,a=Y ad->(es=[]\/ad.spot=W)/\II n es ad.block ad.off|.pt row,b,o=>∃v,w.cell? ⟨b,o,W⟩=Y v/\¬Fb b o/\v.oneCell'=X/\∃b' o',v=.pointer (Y ⟨b',o',W⟩)/\DD row b' o'|.z5 f caps,b,o=>∃v,w.cell? ⟨b,o,W⟩=Y v/\¬Fb b o/\v.oneCell'=X/\∃vs,v=.func (.func f) #[] vs/\AT caps vs.toList|.xl _ _,b,o=>∃v,w.cell? ⟨b,o,W⟩=Y v/\¬Fb b o/\v.oneCell'=X/\v.oneCell'=X|.xn _,b,o=>∃v,w.cell? ⟨b,o,W⟩=Y v/\¬Fb b o/\v.oneCell'=X/\v.oneCell'=X|.Aau g,b,o=>∃v,w.cell? ⟨b,o,W⟩=Y v/\¬Fb b o/\v.oneCell'=X/\v=.map (Y g)
end
end
theorem ji{w:World}{Fb:Nat->Nat->Prop}{t:TV}{b o:Nat}:IH w Fb t b o↔DD w Fb t.cells b o:=by
 cases t<;>simp[IH,DD,Ap,TV.cells]
end Go.Sf
