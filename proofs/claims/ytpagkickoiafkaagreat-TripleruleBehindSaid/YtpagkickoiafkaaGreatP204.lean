/- Plain lemmas: what the functions of the program and of the reference compute. -/
import Derived.Test.YtpagkickoiafkaaGreatP138
set_option linter.all false
set_option maxRecDepth 100000
namespace Go.Sf
end Go.Sf
namespace Go.Sf.Sc
open Go Go.Sf
def Z3(g:ff)(a c:Int)(n:Nat):Fp:=(Hc n).filter λi=>decide ((AD g.fq i).jK=a)&&decide ((AD g.fq i).To=c)
def Yd(g:ff)(i:Int):Int:=(AD g.fq i).jo
structure X4(g:ff)(a c:Int)(n:Nat)(L:Fp):Prop where
 perm:L.Perm (Z3 g a c n)
 sort:L.Pairwise λi j=>Yd g i<=Yd g j
def gv(g:ff)(a c:Int):Fp:=Mt ((Z3 g a c g.fq.length).map (Yd g))
theorem X4.ty{g:ff}{a c:Int}{L:Fp}(h:X4 g a c g.fq.length L):L.map (Yd g)=gv g a c:=by
 refine List.Perm.eq_of_pairwise (le:=(·<=·)) (λx y _ _ b d=>Int.le_antisymm b d) ?_ (KU _) ((h.perm.map _).trans (Mu _).symm);rw[List.pairwise_map];exact h.sort
end Go.Sf.Sc
