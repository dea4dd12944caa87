/- Tree values for Go's data, and what it means that memory holds one. No program. -/
import Derived.WalkKit
import Derived.ProofKit
set_option linter.all false
open Option renaming some->Y,none->W
open Bool renaming true->X
namespace Go.Sf
section
variable{p:Prop}
theorem V(h:p:=by simp):p:=h
theorem U(h:p:=by omega):p:=h
theorem an(h:p:=by simp;omega):p:=h
theorem a_(h:p:=by kernel_rfl):p:=h
theorem a!(h:p:=by simp[AC.sl]):p:=h
theorem a?(h:p:=by decide):p:=h
theorem b_(h:p:=by decide +kernel):p:=h
theorem b!(h:p:=by simp[AB.slots]):p:=h
theorem b?(h:p:=by cases h):p:=h
theorem c_(h:p:=by simp[e]):p:=h
theorem c!(h:p:=by rw[L];rfl):p:=h
theorem c?(h:p:=by simp only[AB.wp,b.ev (λs h=>h) l (by simp)];exact g):p:=h
theorem d_(h:p:=by simp[AB.jY]):p:=h
theorem d!(h:p:=by rw[Ca];exact h.defers):p:=h
theorem d?(h:p:=by cases h;assumption):p:=h
theorem e_(h:p:=by rw[Nat.add_mul];omega):p:=h
theorem e!(h:p:=by simp only[IntKind.min,IntKind.signed,IntKind.bits,if_true];omega):p:=h
theorem e?(h:p:=by rw[z g x _ j (by simp) (by simp)];exact f):p:=h
theorem f_(h:p:=by simpa using hv.1):p:=h
theorem f?(h:p:=by simpa using h):p:=h
theorem g_(h:p:=by have:=(B.jp _ _ _ _ _ _ _ (e▸m) h4).2;cases this):p:=h
theorem g!(h:p:=by cases he):p:=h
theorem g?(h:p:=by simp[Value.oneCell']):p:=h
theorem h_(h:p:=by simp[B2,hf,hb,hname]):p:=h
theorem h!(h:p:=by have:=e.1;omega):p:=h
theorem h?(h:p:=by rw[A];rfl):p:=h
theorem i9(h:p:=by simp[AF]):p:=h
theorem i_(h:p:=by rw[(C l.1 l.2 rfl).1,e];simp[AC.sl]):p:=h
theorem i!(h:p:=by simp only[IntKind.max_i64];omega):p:=h
theorem i?(h:p:=by cases e):p:=h
theorem j_(h:p:=by simp[AB.slots,AC.sl]):p:=h
theorem j!(h:p:=by rw[e];rfl):p:=h
theorem j?(h:p:=by simpa using this.1):p:=h
theorem k_(h:p:=by simpa using p):p:=h
theorem k!(h:p:=by simpa using u):p:=h
theorem k?(h:p:=by simpa using B):p:=h
theorem l_(h:p:=by simp[AZ.mB,AZ.ev]):p:=h
end
abbrev Fp:=List Int
abbrev K1:=Option Bool
abbrev Ne:=List Nat
abbrev QQ:=Option Int
abbrev a5:=List Bool
theorem ae{c:Prop}{h:Decidable c}(hc:c){α:Sort _}{t e:α}:ite c t e=t:=if_pos hc
theorem az{c:Prop}{h:Decidable c}(hc:¬c){α:Sort _}{t e:α}:ite c t e=e:=if_neg hc
theorem bk(n:Nat):n<=n:=Nat.le_refl n
theorem bq{α:Type _}{a b:List α}:(a++b).length=a.length+b.length:=List.length_append
theorem ca{α:Type _}{i:Nat}{l:List α}:(l.take i).length=min i l.length:=List.length_take
theorem ci{α:Type _}{a:α}{l:List α}:(a::l).length=l.length+1:=List.length_cons
theorem ec{α β:Type _}{l:List α}(f:α->β):(l.map f).length=l.length:=List.length_map f
theorem eo{α:Type _}(a b c:List α):a++b++c=a++(b++c):=List.append_assoc a b c
theorem jP(a b:Bool):((a && b)=X)=(a=X/\b=X):=Bool.and_eq_true a b
theorem jR{α:Type _}(a b:α):(Y a=Y b)=(a=b):=Option.some.injEq a b
theorem kY{p:Prop}[Decidable p]:(decide p=X)=p:=decide_eq_true_eq
inductive TV where
 |undef
 |int (k:IntKind) (n:Int)
 |bool (b:Bool)
 |str (s:ByteArray)
 |nil
 |list (n:Nat) (es:List TV)
 |agg (cs:List TV)
 |pt (row:List TV)
 |kL (f:FuncId) (caps:List TV)
 |xl (n:Nat) (es:List TV)
 |xn (es:List TV)
 |lg (b:Nat)
abbrev Fq:=List TV
def TV.cells:TV->List TV
 |.agg cs=>cs|t=>[t]
section
variable(w:World)(Fb:Nat->Nat->Prop)
mutual
def AV:TV->Value->Prop
 |.undef,v=>v.oneCell'=X|.int k n,v=>v=.int k n|.bool b,v=>v=.bool b|.str s,v=>v=.string s|.nil,v=>v=.slice W 0 0|.list n es,v=>∃a cap,v=.slice a es.length cap/\es.length<=cap/\(a=W->es=[])/\∀ad,a=Y ad->(es=[]\/ad.spot=W)/\EB n es ad.block ad.off|.agg cs,v=>∃vs,v=.agg vs/\AM cs vs.toList/\vs.toList.all Value.oneCell'=X|.pt row,v=>∃b o,v=.pointer (Y ⟨b,o,W⟩)/\Bv row b o|.kL f caps,v=>∃vs,v=.func (.func f) #[] vs/\AM caps vs.toList|.xl _ _,v=>v.oneCell'=X|.xn _,v=>v.oneCell'=X|.lg b,v=>v=.map (Y b)
def AM:List TV->List Value->Prop
 |[],vs=>vs=[]|t::ts,vs=>∃v r,vs=v::r/\AV t v/\AM ts r
def Bv:List TV->Nat->Nat->Prop
 |[],_,_=>True|t::ts,b,o=>(∃v,w.cell? ⟨b,o,W⟩=Y v/\¬Fb b o/\v.oneCell'=X/\AV t v)/\Bv ts b (o+1)
def EB(n:Nat):List TV->Nat->Nat->Prop
 |[],_,_=>True|e::es,b,o=>EA e b o/\e.cells.length=n/\EB n es b (o+n)
def EA:TV->Nat->Nat->Prop
 |.agg cs,b,o=>Bv cs b o|.undef,b,o=>∃v,w.cell? ⟨b,o,W⟩=Y v/\¬Fb b o/\v.oneCell'=X/\v.oneCell'=X|.int k n,b,o=>∃v,w.cell? ⟨b,o,W⟩=Y v/\¬Fb b o/\v.oneCell'=X/\v=.int k n|.bool x,b,o=>∃v,w.cell? ⟨b,o,W⟩=Y v/\¬Fb b o/\v.oneCell'=X/\v=.bool x|.str s,b,o=>∃v,w.cell? ⟨b,o,W⟩=Y v/\¬Fb b o/\v.oneCell'=X/\v=.string s|.nil,b,o=>∃v,w.cell? ⟨b,o,W⟩=Y v/\¬Fb b o/\v.oneCell'=X/\v=.slice W 0 0|.list n es,b,o=>∃v,w.cell? ⟨b,o,W⟩=Y v/\¬Fb b o/\v.oneCell'=X/\∃a cap,v=.slice a es.length cap/\es.length<=cap/\(a=W->es=[])/\∀ad,a=Y ad->(es=[]\/ad.spot=W)/\EB n es ad.block ad.off|.pt row,b,o=>∃v,w.cell? ⟨b,o,W⟩=Y v/\¬Fb b o/\v.oneCell'=X/\∃b' o',v=.pointer (Y ⟨b',o',W⟩)/\Bv row b' o'|.kL f caps,b,o=>∃v,w.cell? ⟨b,o,W⟩=Y v/\¬Fb b o/\v.oneCell'=X/\∃vs,v=.func (.func f) #[] vs/\AM caps vs.toList|.xl _ _,b,o=>∃v,w.cell? ⟨b,o,W⟩=Y v/\¬Fb b o/\v.oneCell'=X/\v.oneCell'=X|.xn _,b,o=>∃v,w.cell? ⟨b,o,W⟩=Y v/\¬Fb b o/\v.oneCell'=X/\v.oneCell'=X|.lg g,b,o=>∃v,w.cell? ⟨b,o,W⟩=Y v/\¬Fb b o/\v.oneCell'=X/\v=.map (Y g)
end
end
theorem Ul{w:World}{Fb:Nat->Nat->Prop}{t:TV}{b o:Nat}:EA w Fb t b o↔Bv w Fb t.cells b o:=by
 cases t<;>simp[EA,Bv,AV,TV.cells]
end Go.Sf
