/- Tree values for Go's data, and what it means that memory holds one. No program. -/
import Derived.WalkKit
import Derived.ProofKit
set_option linter.all false
namespace Go.Sf
abbrev Fp:=List Int
abbrev K1:=Option Bool
abbrev Ne:=List Nat
abbrev QQ:=Option Int
abbrev a5:=List Bool
theorem a6{c:Prop}{h:Decidable c}(hc:c){α:Sort _}{t e:α}:ite c t e=t:=if_pos hc
theorem ae{c:Prop}{h:Decidable c}(hc:¬c){α:Sort _}{t e:α}:ite c t e=e:=if_neg hc
theorem az(n:Nat):n<=n:=Nat.le_refl n
theorem bk{α:Type _}{a b:List α}:(a++b).length=a.length+b.length:=List.length_append
theorem bq{α:Type _}{i:Nat}{l:List α}:(l.take i).length=min i l.length:=List.length_take
theorem cE{α:Type _}{a:α}{l:List α}:(a::l).length=l.length+1:=List.length_cons
theorem c7{α β:Type _}{l:List α}(f:α->β):(l.map f).length=l.length:=List.length_map f
theorem c8{α:Type _}(a b c:List α):a++b++c=a++(b++c):=List.append_assoc a b c
theorem pr(a b:Bool):((a && b)=true)=(a=true/\b=true):=Bool.and_eq_true a b
theorem tg{α:Type _}(a b:α):(some a=some b)=(a=b):=Option.some.injEq a b
theorem wq{p:Prop}[Decidable p]:(decide p=true)=p:=decide_eq_true_eq
inductive TV where
 |undef
 |int (k:IntKind) (n:Int)
 |bool (b:Bool)
 |str (s:ByteArray)
 |nil
 |list (n:Nat) (es:List TV)
 |agg (cs:List TV)
 |pt (row:List TV)
 |w8 (f:FuncId) (caps:List TV)
 |xl (n:Nat) (es:List TV)
 |xn (es:List TV)
 |xJ (b:Nat)
abbrev Fq:=List TV
def TV.cells:TV->List TV
 |.agg cs=>cs|t=>[t]
section
variable(w:World)(Fb:Nat->Nat->Prop)
mutual
def Ah:TV->Value->Prop
 |.undef,v=>v.oneCell'=true|.int k n,v=>v=.int k n|.bool b,v=>v=.bool b|.str s,v=>v=.string s|.nil,v=>v=.slice none 0 0|.list n es,v=>∃a cap,v=.slice a es.length cap/\es.length<=cap/\(a=none->es=[])/\∀ad,a=some ad->(es=[]\/ad.spot=none)/\Hs n es ad.block ad.off|.agg cs,v=>∃vs,v=.agg vs/\AQ cs vs.toList/\vs.toList.all Value.oneCell'=true|.pt row,v=>∃b o,v=.pointer (some ⟨b,o,none⟩)/\C8 row b o|.w8 f caps,v=>∃vs,v=.func (.func f) #[] vs/\AQ caps vs.toList|.xl _ _,v=>v.oneCell'=true|.xn _,v=>v.oneCell'=true|.xJ b,v=>v=.map (some b)
def AQ:List TV->List Value->Prop
 |[],vs=>vs=[]|t::ts,vs=>∃v r,vs=v::r/\Ah t v/\AQ ts r
def C8:List TV->Nat->Nat->Prop
 |[],_,_=>True|t::ts,b,o=>(∃v,w.cell? ⟨b,o,none⟩=some v/\¬Fb b o/\v.oneCell'=true/\Ah t v)/\C8 ts b (o+1)
def Hs(n:Nat):List TV->Nat->Nat->Prop
 |[],_,_=>True|e::es,b,o=>Hr e b o/\e.cells.length=n/\Hs n es b (o+n)
def Hr:TV->Nat->Nat->Prop
 |.agg cs,b,o=>C8 cs b o|.undef,b,o=>∃v,w.cell? ⟨b,o,none⟩=some v/\¬Fb b o/\v.oneCell'=true/\v.oneCell'=true|.int k n,b,o=>∃v,w.cell? ⟨b,o,none⟩=some v/\¬Fb b o/\v.oneCell'=true/\v=.int k n|.bool x,b,o=>∃v,w.cell? ⟨b,o,none⟩=some v/\¬Fb b o/\v.oneCell'=true/\v=.bool x|.str s,b,o=>∃v,w.cell? ⟨b,o,none⟩=some v/\¬Fb b o/\v.oneCell'=true/\v=.string s|.nil,b,o=>∃v,w.cell? ⟨b,o,none⟩=some v/\¬Fb b o/\v.oneCell'=true/\v=.slice none 0 0|.list n es,b,o=>∃v,w.cell? ⟨b,o,none⟩=some v/\¬Fb b o/\v.oneCell'=true/\∃a cap,v=.slice a es.length cap/\es.length<=cap/\(a=none->es=[])/\∀ad,a=some ad->(es=[]\/ad.spot=none)/\Hs n es ad.block ad.off|.pt row,b,o=>∃v,w.cell? ⟨b,o,none⟩=some v/\¬Fb b o/\v.oneCell'=true/\∃b' o',v=.pointer (some ⟨b',o',none⟩)/\C8 row b' o'|.w8 f caps,b,o=>∃v,w.cell? ⟨b,o,none⟩=some v/\¬Fb b o/\v.oneCell'=true/\∃vs,v=.func (.func f) #[] vs/\AQ caps vs.toList|.xl _ _,b,o=>∃v,w.cell? ⟨b,o,none⟩=some v/\¬Fb b o/\v.oneCell'=true/\v.oneCell'=true|.xn _,b,o=>∃v,w.cell? ⟨b,o,none⟩=some v/\¬Fb b o/\v.oneCell'=true/\v.oneCell'=true|.xJ g,b,o=>∃v,w.cell? ⟨b,o,none⟩=some v/\¬Fb b o/\v.oneCell'=true/\v=.map (some g)
end
end
theorem dm{w:World}{Fb:Nat->Nat->Prop}{t:TV}{b o:Nat}:Hr w Fb t b o↔C8 w Fb t.cells b o:=by
 cases t<;>simp[Hr,C8,Ah,TV.cells]
end Go.Sf
