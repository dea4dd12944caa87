/- Contracts of the functions. -/
import Derived.Test.YthcncnllajfkfaaGreatCon3
import Derived.Test.YthcncnllajfkfaaGreatCon5
set_option linter.all false
set_option maxRecDepth 100000
set_option maxHeartbeats 4000000
namespace Go.Sf.Sc
open Go Go.Sf Go.Proofs.Tryz
instance c20:CT (Rc ) 20 [] (rS B3):=Fk f20 0x194b3f22462146b32146b3204604471f46054636204604471f461e46368407c91d46b30cc900 [.bld [.str ⟨#[]⟩,.list 1 [],.list 3 [],.list 4 [],.int .i64 0,.list 5 [],.list 1 [],.list 3 [],.list 4 [],.int .i64 0,.list 5 [],.list 1 [],.list 1 [],.list 1 [],.list 1 [],.bool false,.int .i64 0,.list 9 [],.list 1 [],.list 1 [],.list 1 [],.list 3 [],.list 4 [],.int .i64 0,.list 5 []] [(0,1,.c (.str ⟨#[97,100,100,115]⟩)),(1,5,.s 8),(6,5,.s 13),(11,2,.s 15),(13,2,.s 17),(16,9,.s 18)]] [.cell 0 (some 25)] λr h a b=>by
  unfold Rc at h;exact nz
instance c21:CT (UI ) 21 [] (rS Bj):=Fk f21 0xb224463fb3b32346034707460746b310c900 [.lst 1 [.c (.list 1 []),.s 6,.s 7]] [.cell 0 (some 3)] λr h a b=>by
  unfold UI at h;exact nz
instance c8:CT (FX ) 8 [] rB:=Fe f8 0x807359ee300a300a300a0eb36a084272738d41ac72738d4132555ddfe9b42690b426435d81750a44b42690b426b636804b15e9b42690b426b636b9f7820e0e8c82841ac919470e0e60 [] (FX.eq_1 ..)
instance c3(t:AC)(b:K7)(a:Int):CT (LQ t b a) 3 [AK t,EP b,eI a] rB:=Fe f3 0x80779b750a44b42742b4ad5936370a0e0a440a4455308a05300aa50a440a445530804b15e901b42742b4ad5936804b15e901b42742b4ad5936370e8aa501b42742b4ad593601a5015cb5 [] (LQ.eq_1 ..)
instance c4(t:AC)(b:K7)(a:Int):CT (NR t b a) 4 [AK t,EP b,eI a] rB:=Fe f4 0x813081750a44b42742b4ad5936370a0e0a440a4455308a05300aa50a440a445530804b15e901b42742b4ad5936804b15e901b42742b4ad5936370e8aa501b42742b4ad593601a5015cb5 [] (NR.eq_1 ..)
end Go.Sf.Sc
