/- Contracts of the functions. -/
import Derived.Test.YtiefejhapgafkaaGreatCon3
import Derived.Test.YtiefejhapgafkaaGreatCon5
set_option linter.all false
set_option maxRecDepth 100000
set_option maxHeartbeats 4000000
open Option renaming some->Y
namespace Go.Sf.Sc
open Go Go.Sf Go.Proofs.Tryz
theorem ck4:CK f4 (Rq [An 1 0,Aw 2 4 7,Ap 3 25,Ax 4 1 3 1,⟨Y 5,.mv (.c (.bool false)),none⟩] [1,2,4]<|Sq (Rq [Ak 9 1 0,Aj 10 9,Al 11 10,⟨Y 12,.bin (.i) .gtr (.s 11) (.c (.int .i64 4)),none⟩,Aa 13 12,Ae 14 1 1 13,Af 15 14 13,Ag 16 15 13,Ah 17 16 3 13,Ai 18 13 17,Aa 19 18,Ae 20 1 2 19,Ac 21 20 5 19,Af 22 21 19,Ag 23 22 19,Ah 24 23 1 19,Ai 25 19 24,Aa 26 25,Ae 27 1 17 26,Ac 28 27 5 26,Af 29 28 26,Ag 30 29 26,Ah 31 30 1 26,Ai 32 26 31,Aa 33 32,Ae 34 1 2 33,Ac 35 34 6 33,Af 36 35 33,Ag 37 36 33,Ah 38 37 1 33,Ai 39 33 38,Aa 40 39,Ae 41 1 17 40,Ac 42 41 6 40,Af 43 42 40,Ag 44 43 40,Ah 45 44 1 40,Ai 46 40 45,Aa 47 46,Ae 48 1 32 47,Ac 49 48 0 47,Af 50 49 47,Ag 51 50 47,Ah 52 51 4 47,Ai 53 47 52,Aa 54 53,Ae 55 1 32 54,Ac 56 55 1 54,Af 57 56 54,Ag 58 57 54,Ah 59 58 4 54,Ai 60 54 59,Aa 61 60,Ae 62 1 2 61,Ac 63 62 0 61,Ac 64 63 0 61,Ac 65 64 0 61,Af 66 65 61,Ag 67 66 61,Ah 68 67 2 61,Ai 69 61 68,Aa 70 69,Ae 71 1 17 70,Ac 72 71 0 70,Ac 73 72 0 70,Ac 74 73 0 70,Af 75 74 70,Ag 76 75 70,Ah 77 76 2 70,Ai 78 70 77] [1,2,4,78]<|Co 78 (Rq [⟨Y 79,.bld [.list 4 [],.list 7 []] [],none⟩,⟨Y 80,.bld [.list 1 [],.list 3 [],.list 1 []] [],none⟩,Am 2 2 79,Ap 3 25,Am 3 4 80,⟨Y 5,.mv (.c (.bool false)),none⟩] [2,3,4,5]<|.ret)<|Sk [1,2,4])<|Rq [Ak 81 1 0,Aj 82 81,Ak 83 1 1,Aj 84 83,Aq 85 11 82 84,Aw 6 4 7,Am 2 6 85] [1,2,4,6]<|Sq (Dr [7,8,86,87,88,89,90,91,92,93,94,95,96,97,98] [Ab 86 6 2,Ak 87 1 2,Ab 88 87 15,Aq 89 12 86 88,Ab 90 6 2,Ak 91 1 17,Ab 92 91 15,Aq 93 12 90 92,⟨Y 94,.lst 25 [.s 89,.s 93],none⟩,Ab 95 6 2,Ak 96 1 32,Ab 97 96 2,Aq 98 13 95 97,Ax 8 1 3 1,Ad 7 94,Am 3 8 98] [2,4,6,7,8])<|Sq (Dr [2,3,4,5,99,100,101,102,103,104,105] [Ab 99 6 2,Ad 100 7,Ab 101 8 3,Ab 102 6 2,Aa 103 7,Ab 104 8 3,⟨Y 105,.call 14 [.s 102,.s 103,.s 104],none⟩,Am 2 2 99,Ad 3 100,Am 3 4 101,Aa 5 105] [2,3,4,5])<|.ret) [.cell 2 (Y 2),.tmp 3,.cell 4 (Y 3),.tmp 5]:=c_
instance(a):CT (GK a) 4 [JN a] (λr=>.tp [AL r.1,(eL 25 CH) r.2.1,Bn r.2.2.1,eB r.2.2.2]):=Fi ck4 λr h b c=>by
  unfold GK at h;exact au
instance c16:CT (Rk ) 16 [] (rS CH):=Fk f16 0x194b3f0f462a46b22a46b229460447284609465529460447284608465589fd2746b210c900 [.bld [.str ⟨#[]⟩,.list 1 [],.list 3 [],.list 4 [],.int .i64 0,.list 5 [],.list 1 [],.list 3 [],.list 4 [],.int .i64 0,.list 5 [],.list 1 [],.list 1 [],.list 1 [],.list 1 [],.bool false,.int .i64 0,.list 9 [],.list 1 [],.list 1 [],.list 1 [],.list 3 [],.list 4 [],.int .i64 0,.list 5 []] [(0,1,.c (.str ⟨#[97,100,100,115]⟩)),(1,5,.s 8),(6,5,.s 13),(11,2,.s 15),(13,2,.s 17),(16,9,.s 18)]] [.cell 0 (Y 25)] λr h a b=>by
  unfold Rk at h;exact nz
instance c17:CT (Ub ) 17 [] (rS Bn):=Fk f17 0xad2c463fb2b22b46034707460746b211c900 [.lst 1 [.c (.list 1 []),.s 6,.s 7]] [.cell 0 (Y 3)] λr h a b=>by
  unfold Ub at h;exact nz
instance c5:CT (HP ) 5 [] rB:=Fe f5 0xb7709aa6360a360a36eeb274087d0a709041047d0a709041385a6089d878d3267ed326436081780a44d3267ed326bc55b74b1cc978d3267ed326bc9fd101820e0e96828900c919470e0e6b [] (HP.eq_1 ..)
instance(a):CT (Hg a) 10 [lI a] (rO lI):=B3 f10 0x8218370bb6c50592f53614ff01c08a7001a560818c378db6c5059781993f0b36400001 [.mkx 1 [.int .i64 0] (.s 7)] (Hg.eq_1 ..) (BH 0 11 10 0 (hX 3 1 eI))
instance c3(d:Hf):CT (MW d) 3 [JN d] rB:=KV f3 0xac272625ea0692272625ea0632313027262508ea0a5f32313027262508ea0a32313027262508ea0a818a070136086081780a44d3d3ed0a4b1cc931460e460e8008420e740842d938d9f2c4780a44d3d3edff32313027262508ea0a710a4b1cc978d3d3edff32313027262508ea0ad5d3d3ed264b14c9d32643272625ea066532313027262508ea0a978e6cd0197e55264b14c9d326430065272625ea06978e6cd0197e9f0e8a0836b581ad828911c900c97378224401b8 [] (MW.eq_1 ..) (BN 0 39 38 0) (BN 2 50 49 0)
end Go.Sf.Sc
