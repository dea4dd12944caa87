/- Plain lemmas: what the functions of the program and of the reference compute. -/
import Derived.Test.YtpagkickoiafkaaGreatP205
set_option linter.all false
set_option maxRecDepth 100000
namespace Go.Sf.Sc
open Go Go.Sf
section
variable{a b:AN}
structure iI(a b:AN)(m:f0):Prop where
 m:SC a.ff b.ff m
 ji:a.ff.fd.length=b.ff.fd.length
 jw:a.ff.fq.length=b.ff.fq.length
structure X9(a:AN):Prop where
 g:CB a.ff
 len:a.jf.length=a.ff.fd.length
 rows:∀v∈a.jf,v=[]
theorem X9.at{a:AN}(h:X9 a)(i:Int):AD a.jf i=[]:=by
 unfold AD;rw[List.getD_eq_getElem?_getD];cases e:a.jf[i.toNat]? with
 |none=>rfl|some x=>exact h.rows x (List.mem_of_getElem? e)
end
end Go.Sf.Sc
