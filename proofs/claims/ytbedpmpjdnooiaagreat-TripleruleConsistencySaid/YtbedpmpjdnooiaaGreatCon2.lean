/- Contracts of the functions. -/
import Derived.Test.YtbedpmpjdnooiaaGreatCon1
import Derived.Test.YtbedpmpjdnooiaaGreatTryzShelf
set_option maxRecDepth 100000
namespace Go.Sf.Sc
open Go Go.Sf Go.Proofs.Tryz
theorem ck218:CK f218 (Rq [Bk 0 1] []<|Rq [⟨some 1,.lst 1 [.c (.str ⟨#[45,62]⟩),.c (.str ⟨#[60,61]⟩),.c (.str ⟨#[62,61]⟩),.c (.str ⟨#[61,61]⟩),.c (.str ⟨#[33,61]⟩),.c (.str ⟨#[123]⟩),.c (.str ⟨#[125]⟩),.c (.str ⟨#[40]⟩),.c (.str ⟨#[41]⟩),.c (.str ⟨#[91]⟩),.c (.str ⟨#[93]⟩),.c (.str ⟨#[44]⟩),.c (.str ⟨#[59]⟩),.c (.str ⟨#[58]⟩),.c (.str ⟨#[61]⟩),.c (.str ⟨#[43]⟩),.c (.str ⟨#[45]⟩),.c (.str ⟨#[42]⟩),.c (.str ⟨#[60]⟩),.c (.str ⟨#[62]⟩),.c (.str ⟨#[33]⟩),.c (.str ⟨#[38]⟩),.c (.str ⟨#[124]⟩),.c (.str ⟨#[46]⟩),.c (.str ⟨#[63]⟩)],none⟩,Bb 0 1] [0]<|.ret) [.tmp 0]:= by decide +kernel
theorem c218  (r:(List ByteArray)) (h:ref01_signs =some r):Sound prog 218 [] (.own (lB r)):= by
 refine Fn ck218 fun hw=>?_
 unfold ref01_signs at h
 refine D<|F<|f2<|E (kn) fun _=>?_
 refine D<|F<|e2 (e:=eS) (l:=[(⟨#[45,62]⟩:ByteArray),(⟨#[60,61]⟩:ByteArray),(⟨#[62,61]⟩:ByteArray),(⟨#[61,61]⟩:ByteArray),(⟨#[33,61]⟩:ByteArray),(⟨#[123]⟩:ByteArray),(⟨#[125]⟩:ByteArray),(⟨#[40]⟩:ByteArray),(⟨#[41]⟩:ByteArray),(⟨#[91]⟩:ByteArray),(⟨#[93]⟩:ByteArray),(⟨#[44]⟩:ByteArray),(⟨#[59]⟩:ByteArray),(⟨#[58]⟩:ByteArray),(⟨#[61]⟩:ByteArray),(⟨#[43]⟩:ByteArray),(⟨#[45]⟩:ByteArray),(⟨#[42]⟩:ByteArray),(⟨#[60]⟩:ByteArray),(⟨#[62]⟩:ByteArray),(⟨#[33]⟩:ByteArray),(⟨#[38]⟩:ByteArray),(⟨#[124]⟩:ByteArray),(⟨#[46]⟩:ByteArray),(⟨#[63]⟩:ByteArray)]) rfl rfl (fun _=>rfl)<|f7 rfl<|E (ko<|kn) fun _=>?_
 exact L (by cases h;rfl)
theorem ck174:CK f174 (Rq [Fi 4 0 0,Ad 5 0,Ad 6 0] [0,1,4]<|Rq [Aa 14 0,Aa 15 1,⟨some 16,.sidx (.s 14) (.s 15),none⟩,Aa 7 16] [0,1,4,7]<|Sq (Rq [Aa 17 7,Au 18 214 17,Aa 19 18,Az 20 7 19,Dp 21 215 20 19,Ar 22 19 21] [0,1,4,7,22]<|Co 22 (Rq [Aa 23 0,Aa 24 1,Aa 25 7,Au 26 215 25,Bf 27 216 23 24 26,Aa 8 27] [0,1,4,7,8]<|Rq [Ad 9 1,Ad 10 20] [0,1,4,7,8,9,10]<|Sq (Rq [Aa 28 7,Au 29 215 28] [0,1,4,8,9,10,29]<|Co 29 (Re [Ad 9 2,Ad 10 9] [0,1,4,8,9,10])<|Sk [0,1,4,8,9,10])<|Sq (Rq [Aa 30 8,Aa 31 10,⟨some 32,.bin (.i) .gtr (.s 30) (.s 31),none⟩] [0,1,4,8,9,32]<|Co 32 (Rq [Eg 33 0 0,Ak 3 4 33,Ad 5 0,Ad 6 3] [4,5,6]<|.ret)<|Sk [0,1,4,8,9])<|Rq [Aa 34 9,Aa 35 0,Aa 36 1,Aa 37 1,Aa 38 8,Bn 39 37 38,⟨some 40,.sslc (.s 35) (some (.s 36)) (some (.s 39)),none⟩,⟨some 41,.bld [.int .i64 0,.str ⟨#[]⟩,.int .i64 0] [(0,1,.s 34),(1,1,.s 40)],none⟩,Aa 42 8,Ak 3 4 41,Aa 5 42,Ad 6 0] [4,5,6]<|.ret)<|Sk [0,1,4,7])<|Sq (Rq [Aa 43 7,Ei 44 43 34] [0,1,4,44]<|Co 44 (Rq [Aa 45 0,Aa 46 1,An 47 217 45 46,Aa 11 47] [0,1,4,11]<|Sq (Rq [Aa 48 11,Be 49 48 0] [0,1,4,11,49]<|Co 49 (Rq [Eg 50 0 0,Ak 3 4 50,Ad 5 0,Ad 6 2] [4,5,6]<|.ret)<|Sk [0,1,4,11])<|Sq (Rq [Aa 51 11,Cy 52 51 2,Bg 53 52 60] [0,1,4,11,53]<|Co 53 (Rq [Eg 54 0 0,Ak 3 4 54,Ad 5 0,Ad 6 3] [4,5,6]<|.ret)<|Sk [0,1,4,11])<|Rq [Aa 55 0,Aa 56 1,Ao 57 56 1,Aa 58 1,Aa 59 11,Bn 60 58 59,Cy 61 60 1,⟨some 62,.sslc (.s 55) (some (.s 57)) (some (.s 61)),none⟩,Ds 63 0 0 0 1 3 1 1 62,Aa 64 11,Ak 3 4 63,Aa 5 64,Ad 6 0] [4,5,6]<|.ret)<|Sk [0,1,4])<|Rq [Dh 65 218,Bb 12 65] [0,1,4,12]<|Sq (Rq [Ad 13 0] [0,1,4,12,13]<|Bl 0<|Lo [0,1,4,12,13]<|Sq (Rq [Aa 66 13,Aa 67 12,Ag 68 67,Ap 69 66 68] [0,1,4,12,13,69]<|Co 69 (Sk [0,1,4,12,13])<|Ex 0 [4])<|Sq (Bl 1<|Sq (Dr [72,73,74,75,76,77,78,79,80,81,82,83,84,85,86,87,88,89,90,91,92,93,94,95,96,97,98] [Aa 72 1,Aa 73 12,Aa 74 13,Ah 75 73 74 1,Ab 76 75,Ci 77 76,Bn 78 72 77,Aa 79 0,Ci 80 79,Eu 81 78 80,Aa 82 81,As 83 0 82,As 84 1 82,As 85 1 82,As 86 12 82,As 87 13 82,Cb 88 86 87 1 82,Aw 89 88 82,Ej 90 89 82,Ef 91 85 90 82,⟨some 92,.sslc (.s 83) (some (.s 84)) (some (.s 91)),some (82,true)⟩,As 93 12 82,As 94 13 82,Cb 95 93 94 1 82,Aw 96 95 82,⟨some 97,.bin (.s) .eql (.s 92) (.s 96),some (82,true)⟩,Aq 98 82 97] [0,1,4,12,13,98])<|Co 98 (Sq (Dr [4,5,6,99,100,101,102,103,104,105,106,107,108] [Aa 99 12,Aa 100 13,Ah 101 99 100 1,Ab 102 101,Ds 103 0 0 0 1 4 1 1 102,Aa 104 12,Aa 105 13,Ah 106 104 105 1,Ab 107 106,Ci 108 107,Ak 3 4 103,Aa 5 108,Ad 6 0] [4,5,6])<|.ret)<|Sk [0,1,4,12,13])<|Re [Aa 70 13,Ao 71 70 1,Aa 13 71] [0,1,4,12,13])<|Rq [Eg 109 0 0,Ak 3 4 109,Ad 5 0,Ad 6 2] [4,5,6]<|.ret) [.cell 4 (some 3),.tmp 5,.tmp 6]:= by decide +kernel
theorem c174 (s_0:ByteArray) (at':Int) (r:(Token × Int × Int)) (h:ref01_one s_0 at'=some r):Sound prog 174 [eS s_0,eI at'] (.tp [eToken r.1,eI r.2.1,eI r.2.2]):= by
 refine Fn ck174 fun hw=>?_
 unfold ref01_one at h
 refine D<|F<|b1 rfl<|C rfl<|C rfl<|E (kt<|kt<|kb<|kn) fun _=>?_
 refine D<|F<|C rfl<|C rfl ?_
 obtain ⟨x16,hx16,h⟩:=J h
 refine l2 rfl rfl hx16<|C rfl<|E (kt<|kt<|kb<|kt<|kn) fun _=>?_
 refine D<|D<|F<|C rfl ?_
 obtain ⟨x18,hx18,h⟩:=J h
 refine W rfl (c214 x16 _ hx18)<|C rfl ?_
 obtain ⟨x22,hx22,h⟩:=J h
 refine gX 3 [20,21] 22 x22 x18 (fun hg22=>?_) (fun hg22=>?_) ?_
 ·replace h:=M hg22 hx22
  cases h
  refine H rfl hg22<|H rfl hg22<|Z rfl hg22 rfl ?_
  exact ⟨⟨_,_,rfl⟩⟩
 ·replace h:=O hg22 hx22
  refine G rfl hg22<|C rfl ?_
  obtain ⟨x21,hx21,h⟩:=J h
  refine G rfl hg22<|W rfl (c215 x16 _ hx21) ?_
  cases h
  refine a0 rfl hg22 rfl ?_
  exact ⟨⟨_,_,rfl⟩⟩
 rintro _ ⟨_,_,rfl⟩
 refine E (kt<|kt<|kb<|kt<|kt<|kn) fun _=>?_
 refine U rfl (fun hc22=>?_) (fun hc22=>?_)
 ·replace h:=M hc22 h
  refine D<|F<|C rfl<|C rfl<|C rfl ?_
  obtain ⟨x26,hx26,h⟩:=J h
  refine W rfl (c215 x16 _ hx26) ?_
  obtain ⟨x27,hx27,h⟩:=J h
  refine W rfl (c216 s_0 at' x26 _ hx27)<|C rfl<|E (kt<|kt<|kb<|kt<|kt<|kn) fun _=>?_
  refine D<|F<|C rfl<|C rfl<|E (kt<|kt<|kb<|kt<|kt<|kt<|kt<|kn) fun _=>?_
  refine D<|D<|F<|C rfl ?_
  obtain ⟨x29,hx29,h⟩:=J h
  refine W rfl (c215 x16 _ hx29)<|E (kt<|kt<|kb<|kt<|kt<|kt<|kt<|kn) fun _=>?_
  obtain ⟨w1,hw1,h⟩:=J h
  refine g9 (fun ze=>ze=[(0,.tv (eS s_0)),(1,.tv (eI at')),(4,.bx [⟨false,eI 0⟩,⟨false,eS (⟨#[]⟩:ByteArray)⟩,⟨false,eI 0⟩]),(8,.tv (eI x27)),(9,.tv (eI w1.1)),(10,.tv (eI w1.2))]) ?_ ?_
  ·replace h:=hw1
   clear hw1
   refine U rfl (fun hc29=>?_) (fun hc29=>?_)
   ·replace h:=M hc29 h
    refine F<|C rfl<|C rfl<|E (kt<|kt<|kb<|kt<|kt<|kt<|kn) ?_
    cases h
    exact rfl
   ·replace h:=O hc29 h
    refine P (kt<|kt<|kb<|kt<|kt<|kt<|kn) ?_
    cases h
    exact rfl
  rintro _ rfl
  intro _
  refine D<|D<|F<|C rfl<|C rfl<|e3 rfl rfl<|E (kt<|kt<|kb<|kt<|kt<|kt<|kn) fun _=>?_
  refine U rfl (fun hc32=>?_) (fun hc32=>?_)
  ·replace h:=M hc32 h
   refine D<|F<|e7 rfl rfl (show _=eToken (Token.mk 0 (⟨#[]⟩:ByteArray) 0) from rfl)<|a9 rfl rfl rfl rfl rfl<|C rfl<|C rfl<|E (kb<|kt<|kt<|kn) fun _=>?_
   refine L ?_
   cases h
   exact ⟨by decide,rfl⟩
  ·replace h:=O hc32 h
   refine P (kt<|kt<|kb<|kt<|kt<|kn) fun _=>?_
   refine D<|F<|C rfl<|C rfl<|C rfl<|C rfl<|C rfl<|a5 rfl rfl ?_
   obtain ⟨x40,hx40,h⟩:=J h
   refine l4 rfl rfl rfl hx40<|e7 rfl rfl (show _=eToken (Token.mk w1.1 x40 0) from rfl)<|C rfl<|a9 rfl rfl rfl rfl rfl<|C rfl<|C rfl<|E (kb<|kt<|kt<|kn) fun _=>?_
   refine L ?_
   cases h
   exact ⟨by decide,rfl⟩
 ·replace h:=O hc22 h
  refine P (kt<|kt<|kb<|kt<|kn) fun _=>?_
  refine D<|D<|F<|C rfl<|b8 rfl rfl<|E (kt<|kt<|kb<|kt<|kn) fun _=>?_
  refine U rfl (fun hc44=>?_) (fun hc44=>?_)
  ·replace h:=M hc44 h
   refine D<|F<|C rfl<|C rfl ?_
   obtain ⟨x47,hx47,h⟩:=J h
   refine W rfl (c217 s_0 at' _ hx47)<|C rfl<|E (kt<|kt<|kb<|kt<|kn) fun _=>?_
   refine D<|D<|F<|C rfl<|b8 rfl rfl<|E (kt<|kt<|kb<|kt<|kt<|kn) fun _=>?_
   refine U rfl (fun hc49=>?_) (fun hc49=>?_)
   ·replace h:=M hc49 h
    refine D<|F<|e7 rfl rfl (show _=eToken (Token.mk 0 (⟨#[]⟩:ByteArray) 0) from rfl)<|a9 rfl rfl rfl rfl rfl<|C rfl<|C rfl<|E (kb<|kt<|kt<|kn) fun _=>?_
    refine L ?_
    cases h
    exact ⟨by decide,rfl⟩
   ·replace h:=O hc49 h
    refine P (kt<|kt<|kb<|kt<|kn) fun _=>?_
    refine D<|D<|F<|C rfl<|g0 rfl rfl<|e3 rfl rfl<|E (kt<|kt<|kb<|kt<|kt<|kn) fun _=>?_
    refine U rfl (fun hc53=>?_) (fun hc53=>?_)
    ·replace h:=M hc53 h
     refine D<|F<|e7 rfl rfl (show _=eToken (Token.mk 0 (⟨#[]⟩:ByteArray) 0) from rfl)<|a9 rfl rfl rfl rfl rfl<|C rfl<|C rfl<|E (kb<|kt<|kt<|kn) fun _=>?_
     refine L ?_
     cases h
     exact ⟨by decide,rfl⟩
    ·replace h:=O hc53 h
     refine P (kt<|kt<|kb<|kt<|kn) fun _=>?_
     refine D<|F<|C rfl<|C rfl<|a5 rfl rfl<|C rfl<|C rfl<|a5 rfl rfl<|g0 rfl rfl ?_
     obtain ⟨x62,hx62,h⟩:=J h
     refine l4 rfl rfl rfl hx62<|e7 rfl rfl (show _=eToken (Token.mk 3 x62 0) from rfl)<|C rfl<|a9 rfl rfl rfl rfl rfl<|C rfl<|C rfl<|E (kb<|kt<|kt<|kn) fun _=>?_
     refine L ?_
     cases h
     exact ⟨by decide,rfl⟩
  ·replace h:=O hc44 h
   refine P (kt<|kt<|kb<|kn) fun _=>?_
   refine D<|F ?_
   obtain ⟨x65,hx65,h⟩:=J h
   refine g4 rfl (c218  _ hx65)<|f7 rfl<|E (kt<|kt<|kb<|ko<|kn) fun _=>?_
   refine D<|D<|F<|C rfl<|E (kt<|kt<|kb<|ko<|kt<|kn) fun _=>?_
   obtain ⟨o0,ho0,h⟩:=d0 h
   refine d5 ho0 (fun (i0:Int) (s0:Token)=>[(0,.tv (eS s_0)),(1,.tv (eI at')),(4,.bx [⟨false,eI s0.Kind⟩,⟨false,eS s0.Text⟩,⟨false,eI s0.Line⟩]),(12,.ow (lB x65)),(13,.tv (eI i0))]) (fun (s0:Token)=>[(4,.bx [⟨false,eI s0.Kind⟩,⟨false,eS s0.Text⟩,⟨false,eI s0.Line⟩])]) (fun zv ze=>resIs ([.cell 4 (some 3),.tmp 5,.tmp 6]) (.tp [eToken zv.1,eI zv.2.1,eI zv.2.2]) ze) rfl ?_ ?_ ?_ ?_
   ·clear h ho0
    intro i0 s0 r0 hi0 h hw0
    refine D<|D<|F<|C rfl<|C rfl<|V rfl rfl<|X rfl rfl<|E (kt<|kt<|kb<|ko<|kt<|kt<|kn) fun _=>?_
    refine b3 rfl (b4 hi0)<|P (kt<|kt<|kb<|ko<|kt<|kn) fun _=>?_
    refine D<|a8<|D<|d4 rfl<|C rfl<|C rfl<|C rfl ?_
    obtain ⟨x75,hx75,h⟩:=J h
    refine a2 rfl rfl rfl hx75 rfl<|I rfl<|g3 rfl<|a5 rfl rfl<|C rfl<|g3 rfl<|f1 rfl rfl<|C rfl ?_
    obtain ⟨x98,hx98,h⟩:=J h
    refine gX 16 [83,84,85,86,87,88,89,90,91,92,93,94,95,96,97] 98 x98 (decide ((w64 (at'+(x75.size:Int)))<=(s_0.size:Int))) (fun hg98=>?_) (fun hg98=>?_) ?_
    ·replace h:=M hg98 hx98
     refine G rfl hg98<|C rfl<|G rfl hg98<|C rfl<|G rfl hg98<|C rfl<|G rfl hg98<|C rfl<|G rfl hg98<|C rfl ?_
     obtain ⟨x88,hx88,h⟩:=J h
     refine G rfl hg98<|a2 rfl rfl rfl hx88 rfl<|G rfl hg98<|I rfl<|G rfl hg98<|g3 rfl<|G rfl hg98<|a5 rfl rfl ?_
     obtain ⟨x92,hx92,h⟩:=J h
     refine G rfl hg98<|l4 rfl rfl rfl hx92<|G rfl hg98<|C rfl<|G rfl hg98<|C rfl ?_
     obtain ⟨x95,hx95,h⟩:=J h
     refine G rfl hg98<|a2 rfl rfl rfl hx95 rfl<|G rfl hg98<|I rfl<|G rfl hg98<|g7 rfl rfl ?_
     cases h
     refine Z rfl hg98 rfl ?_
     exact ⟨⟨_,_,_,_,_,_,_,_,_,_,_,_,_,_,_,rfl⟩⟩
    ·replace h:=O hg98 hx98
     cases h
     refine H rfl hg98<|H rfl hg98<|H rfl hg98<|H rfl hg98<|H rfl hg98<|H rfl hg98<|H rfl hg98<|H rfl hg98<|H rfl hg98<|H rfl hg98<|H rfl hg98<|H rfl hg98<|H rfl hg98<|H rfl hg98<|H rfl hg98<|a0 rfl hg98 rfl ?_
     exact ⟨⟨_,_,_,_,_,_,_,_,_,_,_,_,_,_,_,rfl⟩⟩
    rintro _ ⟨_,_,_,_,_,_,_,_,_,_,_,_,_,_,_,rfl⟩
    refine E (kt<|kt<|kb<|ko<|kt<|kt<|kn) fun _=>?_
    refine U rfl (fun hc98=>?_) (fun hc98=>?_)
    ·replace h:=M hc98 h
     refine D<|d4 rfl<|C rfl<|C rfl ?_
     obtain ⟨x101,hx101,h⟩:=J h
     refine a2 rfl rfl rfl hx101 rfl<|I rfl<|e7 rfl rfl (show _=eToken (Token.mk 4 x101 0) from rfl)<|C rfl<|C rfl ?_
     obtain ⟨x106,hx106,h⟩:=J h
     refine a2 rfl rfl rfl hx106 rfl<|I rfl<|g3 rfl<|a9 rfl rfl rfl rfl rfl<|C rfl<|C rfl<|E (kb<|kt<|kt<|kn) fun _=>?_
     refine L ?_
     cases h
     exact ⟨_,rfl,⟨by decide,rfl⟩⟩
    ·replace h:=O hc98 h
     refine P (kt<|kt<|kb<|ko<|kt<|kn) fun _=>?_
     refine F<|C rfl<|a5 rfl rfl<|C rfl<|E (kt<|kt<|kb<|ko<|kt<|kn) ?_
     cases h
     refine ⟨_,rfl,?_⟩
     rw [Ktv rfl (Ktv rfl (Kbx rfl (Kow rfl (Ktv rfl (Knil _)))))]
     rw [b2 (a4 (hw0 13)) hi0 (e4 (l9 (hw0 12)) rfl)]
     all_goals rfl
   ·intro i0 s0 hi0
    refine D<|D<|F<|C rfl<|C rfl<|V rfl rfl<|X rfl rfl<|E (kt<|kt<|kb<|ko<|kt<|kt<|kn) fun _=>?_
    refine b5 rfl (b6 hi0)<|b0 (kb<|kn) ?_
    exact ⟨rfl,rfl⟩
   ·intro s0 hs
    replace h:=d1 h hs
    intro _
    refine D<|F<|e7 rfl rfl (show _=eToken (Token.mk 0 (⟨#[]⟩:ByteArray) 0) from rfl)<|a9 rfl rfl rfl rfl rfl<|C rfl<|C rfl<|E (kb<|kt<|kt<|kn) fun _=>?_
    refine L ?_
    cases h
    exact ⟨by decide,rfl⟩
   ·intro v0 ze hv hR
    replace h:=d2 h hv
    cases h
    exact hR
theorem ck126:CK f126 (Rq [Af 1 0,Ai 2] [1]<|Rq [Ae 7 1 3,Au 8 173 7,Aa 3 8] [1,3]<|Sq (Rq [Aa 9 3,⟨some 10,.bin (.s) .eql (.s 9) (.c (.str ⟨#[]⟩)),none⟩] [1,3,10]<|Co 10 (Rq [Ai 2] [2]<|.ret)<|Sk [1,3])<|Rq [Aa 12 3,Dx 13 174 12 0,Aa 11 13,At 14 11 0,At 15 11 1,At 16 11 2,Fi 4 0 0,Ak 3 4 14,Aa 5 15,Aa 6 16] [1,3,4,5,6]<|Rq [Aa 17 6,Be 18 17 0,Aa 19 18,As 20 5 19,As 21 3 19,Ej 22 21 19,Cl 23 20 22 19,Aq 24 19 23,Aa 25 24,Av 26 4 0 25,Aw 27 26 25,Av 28 1 0 25,Aw 29 28 25,Cl 30 27 29 25,Aq 31 25 30,Aa 2 31] [2]<|.ret) [.tmp 2]:= by decide +kernel
theorem c126 (t:Token) (r:Bool) (h:ref01_Right t=some r):Sound prog 126 [eToken t] (.sh (eB r)):= by
 refine Fn ck126 fun hw=>?_
 unfold ref01_Right at h
 refine D<|F<|a1 rfl rfl<|C rfl<|E (kt<|kn) fun _=>?_
 refine D<|F<|R rfl rfl (show _=eToken t from rfl) ?_
 obtain ⟨x8,hx8,h⟩:=J h
 refine W rfl (c173 t _ hx8)<|C rfl<|E (kt<|kt<|kn) fun _=>?_
 refine D<|D<|F<|C rfl<|g7 rfl rfl<|E (kt<|kt<|kt<|kn) fun _=>?_
 refine U rfl (fun hc10=>?_) (fun hc10=>?_)
 ·replace h:=M hc10 h
  refine D<|F<|C rfl<|E (kt<|kn) fun _=>?_
  exact L (by cases h;rfl)
 ·replace h:=O hc10 h
  refine P (kt<|kt<|kn) fun _=>?_
  refine D<|F<|C rfl ?_
  obtain ⟨x13,hx13,h⟩:=J h
  refine e6 rfl (c174 x8 0 _ hx13)<|e8 rfl<|b9 rfl rfl<|b9 rfl rfl<|b9 rfl rfl<|b1 rfl<|a9 rfl rfl rfl rfl rfl<|C rfl<|C rfl<|E (kt<|kt<|kb<|kt<|kt<|kn) fun _=>?_
  refine D<|F<|C rfl<|b8 rfl rfl<|C rfl ?_
  refine gA 5 [20,21,22,23] 24 (decide (x13.2.2=0)) (decide (x13.2.1=(x8.size:Int))) (fun hg24=>?_) (fun hg24=>?_) ?_
  ·refine G rfl hg24<|C rfl<|G rfl hg24<|C rfl<|G rfl hg24<|g3 rfl<|G rfl hg24<|b8 rfl rfl<|Z rfl hg24 rfl ?_
   exact ⟨⟨_,_,_,_,rfl⟩⟩
  ·refine H rfl hg24<|H rfl hg24<|H rfl hg24<|H rfl hg24<|a0 rfl hg24 rfl ?_
   exact ⟨⟨_,_,_,_,rfl⟩⟩
  rintro _ ⟨_,_,_,_,rfl⟩
  refine C rfl ?_
  refine gA 6 [26,27,28,29,30] 31 ((decide (x13.2.2=0))&&(decide (x13.2.1=(x8.size:Int)))) (decide (x13.1.Kind=t.Kind)) (fun hg31=>?_) (fun hg31=>?_) ?_
  ·refine G rfl hg31<|a3 rfl<|G rfl hg31<|I rfl<|G rfl hg31<|K rfl<|G rfl hg31<|I rfl<|G rfl hg31<|b8 rfl rfl<|Z rfl hg31 rfl ?_
   exact ⟨⟨_,_,_,_,_,rfl⟩⟩
  ·refine H rfl hg31<|H rfl hg31<|H rfl hg31<|H rfl hg31<|H rfl hg31<|a0 rfl hg31 rfl ?_
   exact ⟨⟨_,_,_,_,_,rfl⟩⟩
  rintro _ ⟨_,_,_,_,_,rfl⟩
  refine C rfl<|E (kt<|kn) fun _=>?_
  exact L (by cases h;rfl)
theorem ck75:CK f75 (Rq [Ai 2] [0]<|Rq [Aa 3 0,Ds 4 0 0 0 1 1 1 1 3,Au 5 126 4,Aa 2 5] [2]<|.ret) [.tmp 2]:= by decide +kernel
theorem c75 (s_0:ByteArray) (r:Bool) (h:ref01_IsName s_0=some r):Sound prog 75 [eS s_0] (.sh (eB r)):= by
 refine Fn ck75 fun hw=>?_
 unfold ref01_IsName at h
 refine D<|F<|C rfl<|E (kt<|kn) fun _=>?_
 refine D<|F<|C rfl<|e7 rfl rfl (show _=eToken (Token.mk 1 s_0 0) from rfl) ?_
 obtain ⟨x5,hx5,h⟩:=J h
 refine W rfl (c126 (Token.mk 1 s_0 0) _ hx5)<|C rfl<|E (kt<|kn) fun _=>?_
 exact L (by cases h;rfl)
theorem ck119:CK f119 (Rq [Ai 6] [0,1,2]<|Rq [Aa 7 0,Aa 8 1,De 9 7 8,Aa 10 9,As 11 0 10,As 12 2 10,Db 13 11 12 10,Aq 14 10 13,Aa 6 14] [6]<|.ret) [.tmp 6]:= by decide +kernel
theorem c119 (n:Int) (low:Int) (high:Int) (r:Bool) (h:ref04_in n low high=some r):Sound prog 119 [eI n,eI low,eI high] (.sh (eB r)):= by
 refine Fn ck119 fun hw=>?_
 unfold ref04_in at h
 refine D<|F<|C rfl<|E (kt<|kt<|kt<|kn) fun _=>?_
 refine D<|F<|C rfl<|C rfl<|d6 rfl rfl<|C rfl ?_
 refine gA 4 [11,12,13] 14 (decide (low<=n)) (decide (n<=high)) (fun hg14=>?_) (fun hg14=>?_) ?_
 ·refine G rfl hg14<|C rfl<|G rfl hg14<|C rfl<|G rfl hg14<|f1 rfl rfl<|Z rfl hg14 rfl ?_
  exact ⟨⟨_,_,_,rfl⟩⟩
 ·refine H rfl hg14<|H rfl hg14<|H rfl hg14<|a0 rfl hg14 rfl ?_
  exact ⟨⟨_,_,_,rfl⟩⟩
 rintro _ ⟨_,_,_,rfl⟩
 refine C rfl<|E (kt<|kn) fun _=>?_
 exact L (by cases h;rfl)
theorem ck168:CK f168 (Rq [Af 2 0,Bk 4 4] [1,2]<|Sq (Rq [Aa 5 1,Bt 6 5 0] [1,2,6]<|Co 6 (Rq [Bk 4 4] [4]<|.ret)<|Sk [1,2])<|Sq (Dr [4,7,8,9,10,11,12,13,14,15,16,17,18,19,20,21,22,23] [Cq 7 4,Ae 8 2 2,Ac 9 2 0,Ab 10 9,Aa 11 1,Ah 12 10 11 4,Aj 13 12 1,Ab 14 13,An 15 168 8 14,Bc 16 4 7 15,Ac 17 2 0,Ab 18 17,Aa 19 1,Ah 20 18 19 4,Aj 21 20 3,Ab 22 21,Bc 23 4 16 22,Bb 4 23] [4])<|.ret) [.tmp 4]:= by decide +kernel
theorem c168S (n:Nat) (ih_168:∀ (t:Types) (a:Int) (r:(List Attr)) (_:ref04_attrsF n t a=some r),Sound prog 168 [eTypes t,eI a] (.own (lA r))):∀ (t:Types) (a:Int) (r:(List Attr)) (_:ref04_attrsF (n+1) t a=some r),Sound prog 168 [eTypes t,eI a] (.own (lA r)):= by
 intro t a r h
 refine Fn ck168 fun hw=>?_
 unfold ref04_attrsF at h
 refine D<|F<|a1 rfl rfl<|f2<|E (kt<|kt<|kn) fun _=>?_
 refine D<|D<|F<|C rfl<|X rfl rfl<|E (kt<|kt<|kt<|kn) fun _=>?_
 refine U rfl (fun hc6=>?_) (fun hc6=>?_)
 ·replace h:=M hc6 h
  refine D<|F<|f2<|E (ko<|kn) fun _=>?_
  exact L (by cases h;rfl)
 ·replace h:=O hc6 h
  refine P (kt<|kt<|kn) fun _=>?_
  refine D<|d4 rfl<|e2 (e:=eAttr) (l:=[]) rfl rfl (fun _=>rfl)<|R rfl rfl (show _=eTypes t from rfl)<|K rfl<|I rfl<|C rfl ?_
  obtain ⟨x12,hx12,h⟩:=J h
  refine a2 rfl rfl rfl hx12 rfl<|a6 rfl<|I rfl ?_
  obtain ⟨x15,hx15,h⟩:=J h
  refine g4 rfl (ih_168 t x12.Parent _ hx15) ?_
  obtain ⟨x16,hx16,h⟩:=J h
  refine e5 rfl rfl rfl rfl hx16 rfl<|K rfl<|I rfl<|C rfl ?_
  obtain ⟨x20,hx20,h⟩:=J h
  refine a2 rfl rfl rfl hx20 rfl<|a6 rfl<|I rfl ?_
  obtain ⟨x23,hx23,h⟩:=J h
  refine e5 rfl rfl rfl rfl hx23 rfl<|f7 rfl<|E (ko<|kn) fun _=>?_
  exact L (by cases h;rfl)
theorem c168A:∀ n:Nat,(∀ (t:Types) (a:Int) (r:(List Attr)) (_:ref04_attrsF n t a=some r),Sound prog 168 [eTypes t,eI a] (.own (lA r))):=by
  intro n
  induction n with
  | zero=>intro t a r h; cases h
  | succ n ih=>exact c168S n ih
theorem c168 (t:Types) (a:Int) (r:(List Attr)) (h:ref04_attrs t a=some r):Sound prog 168 [eTypes t,eI a] (.own (lA r)):=by
  obtain ⟨N,hN⟩:=lim_some h
  exact (c168A N) t a r (hN N (Nat.le_refl _))
theorem ck213:CK f213 (Rq [Ad 2 0] [0]<|Sq (Rq [Aa 5 0,Ag 6 5,Bg 7 6 20] [0,7]<|Co 7 (Rq [Ad 2 3] [2]<|.ret)<|Sk [0])<|Sq (Rq [Ad 3 0] [0,3]<|Bl 0<|Lo [0,3]<|Sq (Rq [Aa 8 3,Aa 9 0,Ag 10 9,Ap 11 8 10] [0,3,11]<|Co 11 (Sk [0,3])<|Ex 0 [])<|Sq (Bl 1<|Sq (Rq [Aa 14 0,Aa 15 3,Ah 16 14 15 1,Ab 17 16,Au 18 75 17,Ay 19 18] [0,3,19]<|Co 19 (Rq [Ad 2 2] [2]<|.ret)<|Sk [0,3])<|Rq [Ad 4 0] [0,3,4]<|Bl 2<|Lo [0,3,4]<|Sq (Rq [Aa 20 4,Aa 21 3,Ap 22 20 21] [0,3,4,22]<|Co 22 (Sk [0,3,4])<|Ex 2 [0,3])<|Sq (Bl 3<|Sq (Dr [25,26,27,28,29,30,31,32,33] [Aa 25 0,Aa 26 4,Ah 27 25 26 1,Ab 28 27,Aa 29 0,Aa 30 3,Ah 31 29 30 1,Ab 32 31,Cu 33 28 32] [0,3,4,33])<|Co 33 (Rq [Ad 2 5] [2]<|.ret)<|Sk [0,3,4])<|Re [Aa 23 4,Ao 24 23 1,Aa 4 24] [0,3,4])<|Re [Aa 12 3,Ao 13 12 1,Aa 3 13] [0,3])<|Rq [Ad 2 0] [2]<|.ret) [.tmp 2]:= by decide +kernel
theorem c213 (l:List ByteArray) (r:Int) (h:ref04_names l=some r):Sound prog 213 [lB l] (.sh (eI r)):= by
 refine Fn ck213 fun hw=>?_
 unfold ref04_names at h
 refine D<|F<|C rfl<|E (kt<|kn) fun _=>?_
 refine D<|D<|F<|C rfl<|V rfl rfl<|e3 rfl rfl<|E (kt<|kt<|kn) fun _=>?_
 refine U rfl (fun hc7=>?_) (fun hc7=>?_)
 ·replace h:=M hc7 h
  refine D<|F<|C rfl<|E (kt<|kn) fun _=>?_
  exact L (by cases h;rfl)
 ·replace h:=O hc7 h
  refine P (kt<|kn) fun _=>?_
  refine D<|D<|F<|C rfl<|E (kt<|kt<|kn) fun _=>?_
  obtain ⟨o0,ho0,h⟩:=d0 h
  refine d5 ho0 (fun (i0:Int) (_:Unit)=>[(0,.tv (lB l)),(3,.tv (eI i0))]) (fun (_:Unit)=>[]) (fun zv ze=>resIs ([.tmp 2]) (.sh (eI zv)) ze) rfl ?_ ?_ ?_ ?_
  ·clear h ho0
   intro i0 s0 r0 hi0 h hw0
   refine D<|D<|F<|C rfl<|C rfl<|V rfl rfl<|X rfl rfl<|E (kt<|kt<|kt<|kn) fun _=>?_
   refine b3 rfl (b4 hi0)<|P (kt<|kt<|kn) fun _=>?_
   refine D<|a8<|D<|D<|F<|C rfl<|C rfl ?_
   obtain ⟨x16,hx16,h⟩:=J h
   refine a2 rfl rfl rfl hx16 rfl<|I rfl ?_
   obtain ⟨x18,hx18,h⟩:=J h
   refine W rfl (c75 x16 _ hx18)<|b7 rfl<|E (kt<|kt<|kt<|kn) fun _=>?_
   refine U rfl (fun hc19=>?_) (fun hc19=>?_)
   ·replace h:=M hc19 h
    refine D<|F<|C rfl<|E (kt<|kn) fun _=>?_
    refine L ?_
    cases h
    exact ⟨_,rfl,rfl⟩
   ·replace h:=O hc19 h
    refine P (kt<|kt<|kn) fun _=>?_
    refine D<|F<|C rfl<|E (kt<|kt<|kt<|kn) fun _=>?_
    obtain ⟨o2,ho2,h⟩:=d0 h
    refine d5 ho2 (fun (i2:Int) (_:Unit)=>[(0,.tv (lB l)),(3,.tv (eI i0)),(4,.tv (eI i2))]) (fun (_:Unit)=>[(0,.tv (lB l)),(3,.tv (eI i0))]) (fun zv ze=>resIs ([.tmp 2]) (.sh (eI zv)) ze) rfl ?_ ?_ ?_ ?_
    ·clear h ho2
     intro i2 s2 r2 hi2 h hw2
     refine D<|D<|F<|C rfl<|C rfl<|X rfl rfl<|E (kt<|kt<|kt<|kt<|kn) fun _=>?_
     refine b3 rfl (b4 hi2)<|P (kt<|kt<|kt<|kn) fun _=>?_
     refine D<|a8<|D<|d4 rfl<|C rfl<|C rfl ?_
     obtain ⟨x27,hx27,h⟩:=J h
     refine a2 rfl rfl rfl hx27 rfl<|I rfl<|C rfl<|C rfl ?_
     obtain ⟨x31,hx31,h⟩:=J h
     refine a2 rfl rfl rfl hx31 rfl<|I rfl<|g7 rfl rfl<|E (kt<|kt<|kt<|kt<|kn) fun _=>?_
     refine U rfl (fun hc33=>?_) (fun hc33=>?_)
     ·replace h:=M hc33 h
      refine D<|F<|C rfl<|E (kt<|kn) fun _=>?_
      refine L ?_
      cases h
      exact ⟨_,rfl,rfl⟩
     ·replace h:=O hc33 h
      refine P (kt<|kt<|kt<|kn) fun _=>?_
      refine F<|C rfl<|a5 rfl rfl<|C rfl<|E (kt<|kt<|kt<|kn) ?_
      cases h
      refine ⟨_,rfl,?_⟩
      rw [Ktv rfl (Ktv rfl (Ktv rfl (Knil _)))]
      rw [b2 (a4 (hw2 4)) hi2 (d9 (a4 (hw2 3)))]
      all_goals rfl
    ·intro i2 s2 hi2
     refine D<|D<|F<|C rfl<|C rfl<|X rfl rfl<|E (kt<|kt<|kt<|kt<|kn) fun _=>?_
     refine b5 rfl (b6 hi2)<|b0 (kt<|kt<|kn) ?_
     exact ⟨rfl,rfl⟩
    ·intro s2 hs
     replace h:=d1 h hs
     intro _
     refine F<|C rfl<|a5 rfl rfl<|C rfl<|E (kt<|kt<|kn) ?_
     cases h
     refine ⟨_,rfl,?_⟩
     rw [Ktv rfl (Ktv rfl (Knil _))]
     rw [b2 (a4 (hw0 3)) hi0 (e4 (a4 (hw0 0)) rfl)]
     all_goals rfl
    ·intro v2 ze hv hR
     replace h:=d2 h hv
     cases h
     exact ⟨_,rfl,hR⟩
  ·intro i0 s0 hi0
   refine D<|D<|F<|C rfl<|C rfl<|V rfl rfl<|X rfl rfl<|E (kt<|kt<|kt<|kn) fun _=>?_
   refine b5 rfl (b6 hi0)<|b0 (kn) ?_
   exact ⟨rfl,rfl⟩
  ·intro s0 hs
   replace h:=d1 h hs
   intro _
   refine D<|F<|C rfl<|E (kt<|kn) fun _=>?_
   exact L (by cases h;rfl)
  ·intro v0 ze hv hR
   replace h:=d2 h hv
   cases h
   exact hR
theorem ck171:CK f171 (Rq [Af 1 0,Ad 2 0] [1]<|Sq (Rq [Ac 4 1 3,Ab 5 4,Ag 6 5,Be 7 6 0] [1,7]<|Co 7 (Sq (Rq [Ac 8 1 1,Ab 9 8,⟨some 10,.call 119 [.s 9,.c (.int .i64 (-1000000)),.c (.int .i64 1000000)],none⟩,Ay 11 10,Aa 12 11,Am 13 1 2 12,Al 14 13 12,Am 15 1 1 12,Al 16 15 12,Fj 17 119 14 16 1000000 12,Bq 18 17 12,Ar 19 12 18] [19]<|Co 19 (Rq [Ad 2 6] [2]<|.ret)<|Sk [])<|Rq [Ad 2 0] [2]<|.ret)<|Sk [1])<|Sq (Rq [Ac 20 1 3,Ab 21 20,Au 22 213 21,Aa 3 22] [1,3]<|Rq [Aa 23 3,Ax 24 23 0] [1,3,24]<|Co 24 (Rq [Aa 25 3,Aa 2 25] [2]<|.ret)<|Sk [1])<|Sq (Rq [Ac 26 1 1,Ab 27 26,Ax 28 27 0,Aa 29 28,Am 30 1 2 29,Al 31 30 29,Am 32 1 3 29,Al 33 32 29,Ba 34 33 29,Eb 35 34 1 29,Cj 36 31 35 29,Ar 37 29 36] [37]<|Co 37 (Rq [Ad 2 6] [2]<|.ret)<|Sk [])<|Rq [Ad 2 0] [2]<|.ret) [.tmp 2]:= by decide +kernel
theorem c171 (a:Attr) (r:Int) (h:ref04_attribute a=some r):Sound prog 171 [eAttr a] (.sh (eI r)):= by
 refine Fn ck171 fun hw=>?_
 unfold ref04_attribute at h
 refine D<|F<|a1 rfl rfl<|C rfl<|E (kt<|kn) fun _=>?_
 refine D<|D<|F<|K rfl<|I rfl<|V rfl rfl<|b8 rfl rfl<|E (kt<|kt<|kn) fun _=>?_
 refine U rfl (fun hc7=>?_) (fun hc7=>?_)
 ·replace h:=M hc7 h
  refine D<|D<|F<|K rfl<|I rfl ?_
  obtain ⟨x10,hx10,h⟩:=J h
  refine W rfl (c119 a.Low (-1000000) 1000000 _ hx10)<|b7 rfl<|C rfl ?_
  obtain ⟨x19,hx19,h⟩:=J h
  refine gX 7 [13,14,15,16,17,18] 19 x19 (!x10) (fun hg19=>?_) (fun hg19=>?_) ?_
  ·replace h:=M hg19 hx19
   cases h
   refine H rfl hg19<|H rfl hg19<|H rfl hg19<|H rfl hg19<|H rfl hg19<|H rfl hg19<|Z rfl hg19 rfl ?_
   exact ⟨⟨_,_,_,_,_,_,rfl⟩⟩
  ·replace h:=O hg19 hx19
   refine G rfl hg19<|K rfl<|G rfl hg19<|I rfl<|G rfl hg19<|K rfl<|G rfl hg19<|I rfl ?_
   obtain ⟨x17,hx17,h⟩:=J h
   refine G rfl hg19<|W rfl (c119 a.High a.Low 1000000 _ hx17)<|G rfl hg19<|b7 rfl ?_
   cases h
   refine a0 rfl hg19 rfl ?_
   exact ⟨⟨_,_,_,_,_,_,rfl⟩⟩
  rintro _ ⟨_,_,_,_,_,_,rfl⟩
  refine E (kt<|kn) fun _=>?_
  refine U rfl (fun hc19=>?_) (fun hc19=>?_)
  ·replace h:=M hc19 h
   refine D<|F<|C rfl<|E (kt<|kn) fun _=>?_
   exact L (by cases h;rfl)
  ·replace h:=O hc19 h
   refine P (kn) fun _=>?_
   refine D<|F<|C rfl<|E (kt<|kn) fun _=>?_
   exact L (by cases h;rfl)
 ·replace h:=O hc7 h
  refine P (kt<|kn) fun _=>?_
  refine D<|D<|F<|K rfl<|I rfl ?_
  obtain ⟨x22,hx22,h⟩:=J h
  refine W rfl (c213 a.Names _ hx22)<|C rfl<|E (kt<|kt<|kn) fun _=>?_
  refine D<|F<|C rfl<|a7 rfl rfl<|E (kt<|kt<|kt<|kn) fun _=>?_
  refine U rfl (fun hc24=>?_) (fun hc24=>?_)
  ·replace h:=M hc24 h
   refine D<|F<|C rfl<|C rfl<|E (kt<|kn) fun _=>?_
   exact L (by cases h;rfl)
  ·replace h:=O hc24 h
   refine P (kt<|kn) fun _=>?_
   refine D<|D<|F<|K rfl<|I rfl<|a7 rfl rfl<|C rfl ?_
   refine gO 8 [30,31,32,33,34,35,36] 37 (!decide (a.Low=0)) (!decide (a.High=(w64 ((a.Names.length:Int) - 1)))) (fun hg37=>?_) (fun hg37=>?_) ?_
   ·refine H rfl hg37<|H rfl hg37<|H rfl hg37<|H rfl hg37<|H rfl hg37<|H rfl hg37<|H rfl hg37<|Z rfl hg37 rfl ?_
    exact ⟨⟨_,_,_,_,_,_,_,rfl⟩⟩
   ·refine G rfl hg37<|K rfl<|G rfl hg37<|I rfl<|G rfl hg37<|K rfl<|G rfl hg37<|I rfl<|G rfl hg37<|V rfl rfl<|G rfl hg37<|g0 rfl rfl<|G rfl hg37<|a7 rfl rfl<|a0 rfl hg37 rfl ?_
    exact ⟨⟨_,_,_,_,_,_,_,rfl⟩⟩
   rintro _ ⟨_,_,_,_,_,_,_,rfl⟩
   refine E (kt<|kn) fun _=>?_
   refine U rfl (fun hc37=>?_) (fun hc37=>?_)
   ·replace h:=M hc37 h
    refine D<|F<|C rfl<|E (kt<|kn) fun _=>?_
    exact L (by cases h;rfl)
   ·replace h:=O hc37 h
    refine P (kn) fun _=>?_
    refine D<|F<|C rfl<|E (kt<|kn) fun _=>?_
    exact L (by cases h;rfl)
theorem ck124:CK f124 (Rq [Af 2 0,Ad 4 0] [1,2]<|Rq [Ac 11 2 0,Ab 12 11,Aa 13 1,Ah 14 12 13 4,Ae 15 14 4,Ek 5 0 4,Ak 4 5 15] [1,2,5]<|Sq (Rq [Ac 16 5 0,Ab 17 16,Au 18 75 17,Ay 19 18] [1,2,5,19]<|Co 19 (Rq [Ad 4 2] [4]<|.ret)<|Sk [1,2,5])<|Sq (Rq [Ad 6 0] [1,2,5,6]<|Bl 0<|Lo [1,2,5,6]<|Sq (Rq [Aa 20 6,Aa 21 1,Ap 22 20 21] [1,2,5,6,22]<|Co 22 (Sk [1,2,5,6])<|Ex 0 [1,2,5])<|Sq (Bl 1<|Sq (Dr [25,26,27,28,29,30,31,32,33] [Ac 25 2 0,Ab 26 25,Aa 27 6,Ah 28 26 27 4,Aj 29 28 0,Ab 30 29,Ac 31 5 0,Ab 32 31,Cu 33 30 32] [1,2,5,6,33])<|Co 33 (Rq [Ad 4 5] [4]<|.ret)<|Sk [1,2,5,6])<|Re [Aa 23 6,Ao 24 23 1,Aa 6 24] [1,2,5,6])<|Sq (Rq [Ac 34 5 1,Ab 35 34,Aa 36 1,Cy 37 36 1,⟨some 38,.call 119 [.s 35,.c (.int .i64 (-1)),.s 37],none⟩,Ay 39 38] [1,2,5,39]<|Co 39 (Rq [Ad 4 6] [4]<|.ret)<|Sk [1,2,5])<|Rq [Ae 40 2 2,Aa 41 1,An 42 168 40 41,Bb 7 42] [5,7]<|Sq (Rq [Ac 43 5 3,Ab 44 43,Ag 45 44,Bg 46 45 4,Aa 47 46,Az 48 7 47,Ba 49 48 47,Bu 50 49 8 47,Ar 51 47 50] [5,7,51]<|Co 51 (Rq [Ad 4 3] [4]<|.ret)<|Sk [5,7])<|Sq (Rq [Aa 52 7,Ag 53 52,Ac 54 5 3,Ab 55 54,Ag 56 55,⟨some 57,.bin (.i) .sub (.s 53) (.s 56),none⟩,Aa 8 57] [7,8]<|Bl 2<|Lo [7,8]<|Sq (Rq [Aa 58 8,Aa 59 7,Ag 60 59,Ap 61 58 60] [7,8,61]<|Co 61 (Sk [7,8])<|Ex 2 [])<|Sq (Bl 3<|Sq (Rq [Aa 64 7,Aa 65 8,Ah 66 64 65 4,Aj 67 66 0,Ab 68 67,Au 69 75 68,Ay 70 69] [7,8,70]<|Co 70 (Rq [Ad 4 2] [4]<|.ret)<|Sk [7,8])<|Sq (Rq [Ad 9 0] [7,8,9]<|Bl 4<|Lo [7,8,9]<|Sq (Rq [Aa 71 9,Aa 72 8,Ap 73 71 72] [7,8,9,73]<|Co 73 (Sk [7,8,9])<|Ex 4 [7,8])<|Sq (Bl 5<|Sq (Dr [76,77,78,79,80,81,82,83,84,85,86] [Aa 76 7,Aa 77 9,Ah 78 76 77 4,Aj 79 78 0,Ab 80 79,Aa 81 7,Aa 82 8,Ah 83 81 82 4,Aj 84 83 0,Ab 85 84,Cu 86 80 85] [7,8,9,86])<|Co 86 (Rq [Ad 4 5] [4]<|.ret)<|Sk [7,8,9])<|Re [Aa 74 9,Ao 75 74 1,Aa 9 75] [7,8,9])<|Rq [Aa 87 7,Aa 88 8,Ah 89 87 88 4,Ae 90 89 4,Au 91 171 90,Aa 10 91] [7,8,10]<|Rq [Aa 92 10,Ax 93 92 0] [7,8,10,93]<|Co 93 (Rq [Aa 94 10,Aa 4 94] [4]<|.ret)<|Sk [7,8])<|Re [Aa 62 8,Ao 63 62 1,Aa 8 63] [7,8])<|Rq [Ad 4 0] [4]<|.ret) [.tmp 4]:= by decide +kernel
theorem c124 (t:Types) (i_1:Int) (r:Int) (h:ref04_node t i_1=some r):Sound prog 124 [eTypes t,eI i_1] (.sh (eI r)):= by
 refine Fn ck124 fun hw=>?_
 unfold ref04_node at h
 refine D<|F<|a1 rfl rfl<|C rfl<|E (kt<|kt<|kn) fun _=>?_
 refine D<|F<|K rfl<|I rfl<|C rfl ?_
 obtain ⟨x14,hx14,h⟩:=J h
 refine a2 rfl rfl rfl hx14 rfl<|R rfl rfl (show _=eNodeType x14 from rfl)<|b1 rfl<|a9 rfl rfl rfl rfl rfl<|E (kt<|kt<|kb<|kn) fun _=>?_
 refine D<|D<|F<|a3 rfl<|I rfl ?_
 obtain ⟨x18,hx18,h⟩:=J h
 refine W rfl (c75 x14.Name _ hx18)<|b7 rfl<|E (kt<|kt<|kb<|kt<|kn) fun _=>?_
 refine U rfl (fun hc19=>?_) (fun hc19=>?_)
 ·replace h:=M hc19 h
  refine D<|F<|C rfl<|E (kt<|kn) fun _=>?_
  exact L (by cases h;rfl)
 ·replace h:=O hc19 h
  refine P (kt<|kt<|kb<|kn) fun _=>?_
  refine D<|D<|F<|C rfl<|E (kt<|kt<|kb<|kt<|kn) fun _=>?_
  obtain ⟨o0,ho0,h⟩:=d0 h
  refine d5 ho0 (fun (i0:Int) (_:Unit)=>[(1,.tv (eI i_1)),(2,.tv (.pt (eTypes t).cells)),(5,.bx [⟨false,eS x14.Name⟩,⟨false,eI x14.Parent⟩,⟨false,eB x14.Abstract⟩,⟨false,lA x14.Attrs⟩]),(6,.tv (eI i0))]) (fun (_:Unit)=>[(1,.tv (eI i_1)),(2,.tv (.pt (eTypes t).cells)),(5,.bx [⟨false,eS x14.Name⟩,⟨false,eI x14.Parent⟩,⟨false,eB x14.Abstract⟩,⟨false,lA x14.Attrs⟩])]) (fun zv ze=>resIs ([.tmp 4]) (.sh (eI zv)) ze) rfl ?_ ?_ ?_ ?_
  ·clear h ho0
   intro i0 s0 r0 hi0 h hw0
   refine D<|D<|F<|C rfl<|C rfl<|X rfl rfl<|E (kt<|kt<|kb<|kt<|kt<|kn) fun _=>?_
   refine b3 rfl (b4 hi0)<|P (kt<|kt<|kb<|kt<|kn) fun _=>?_
   refine D<|a8<|D<|d4 rfl<|K rfl<|I rfl<|C rfl ?_
   obtain ⟨x28,hx28,h⟩:=J h
   refine a2 rfl rfl rfl hx28 rfl<|a6 rfl<|I rfl<|a3 rfl<|I rfl<|g7 rfl rfl<|E (kt<|kt<|kb<|kt<|kt<|kn) fun _=>?_
   refine U rfl (fun hc33=>?_) (fun hc33=>?_)
   ·replace h:=M hc33 h
    refine D<|F<|C rfl<|E (kt<|kn) fun _=>?_
    refine L ?_
    cases h
    exact ⟨_,rfl,rfl⟩
   ·replace h:=O hc33 h
    refine P (kt<|kt<|kb<|kt<|kn) fun _=>?_
    refine F<|C rfl<|a5 rfl rfl<|C rfl<|E (kt<|kt<|kb<|kt<|kn) ?_
    cases h
    refine ⟨_,rfl,?_⟩
    rw [Ktv rfl (Ktv rfl (Kbx rfl (Ktv rfl (Knil _))))]
    rw [b2 (a4 (hw0 6)) hi0 (d9 (a4 (hw0 1)))]
    all_goals rfl
  ·intro i0 s0 hi0
   refine D<|D<|F<|C rfl<|C rfl<|X rfl rfl<|E (kt<|kt<|kb<|kt<|kt<|kn) fun _=>?_
   refine b5 rfl (b6 hi0)<|b0 (kt<|kt<|kb<|kn) ?_
   exact ⟨rfl,rfl⟩
  ·intro s0 hs
   replace h:=d1 h hs
   intro _
   refine D<|D<|F<|a3 rfl<|I rfl<|C rfl<|g0 rfl rfl ?_
   obtain ⟨x38,hx38,h⟩:=J h
   refine W rfl (c119 x14.Parent (-1) (w64 (i_1 - 1)) _ hx38)<|b7 rfl<|E (kt<|kt<|kb<|kt<|kn) fun _=>?_
   refine U rfl (fun hc39=>?_) (fun hc39=>?_)
   ·replace h:=M hc39 h
    refine D<|F<|C rfl<|E (kt<|kn) fun _=>?_
    exact L (by cases h;rfl)
   ·replace h:=O hc39 h
    refine P (kt<|kt<|kb<|kn) fun _=>?_
    refine D<|F<|R rfl rfl (show _=eTypes t from rfl)<|C rfl ?_
    obtain ⟨x42,hx42,h⟩:=J h
    refine g4 rfl (c168 t i_1 _ hx42)<|f7 rfl<|E (kb<|ko<|kn) fun _=>?_
    refine D<|D<|F<|a3 rfl<|I rfl<|V rfl rfl<|e3 rfl rfl<|C rfl ?_
    refine gO 4 [48,49,50] 51 (decide (4<(x14.Attrs.length:Int))) (decide (8<(x42.length:Int))) (fun hg51=>?_) (fun hg51=>?_) ?_
    ·refine H rfl hg51<|H rfl hg51<|H rfl hg51<|Z rfl hg51 rfl ?_
     exact ⟨⟨_,_,_,rfl⟩⟩
    ·refine G rfl hg51<|C rfl<|G rfl hg51<|V rfl rfl<|G rfl hg51<|e3 rfl rfl<|a0 rfl hg51 rfl ?_
     exact ⟨⟨_,_,_,rfl⟩⟩
    rintro _ ⟨_,_,_,rfl⟩
    refine E (kb<|ko<|kt<|kn) fun _=>?_
    refine U rfl (fun hc51=>?_) (fun hc51=>?_)
    ·replace h:=M hc51 h
     refine D<|F<|C rfl<|E (kt<|kn) fun _=>?_
     exact L (by cases h;rfl)
    ·replace h:=O hc51 h
     refine P (kb<|ko<|kn) fun _=>?_
     refine D<|D<|F<|C rfl<|V rfl rfl<|a3 rfl<|I rfl<|V rfl rfl<|g0 rfl rfl<|C rfl<|E (ko<|kt<|kn) fun _=>?_
     obtain ⟨o2,ho2,h⟩:=d0 h
     refine d5 ho2 (fun (i2:Int) (_:Unit)=>[(7,.ow (lA x42)),(8,.tv (eI i2))]) (fun (_:Unit)=>[]) (fun zv ze=>resIs ([.tmp 4]) (.sh (eI zv)) ze) rfl ?_ ?_ ?_ ?_
     ·clear h ho2
      intro i2 s2 r2 hi2 h hw2
      refine D<|D<|F<|C rfl<|C rfl<|V rfl rfl<|X rfl rfl<|E (ko<|kt<|kt<|kn) fun _=>?_
      refine b3 rfl (b4 hi2)<|P (ko<|kt<|kn) fun _=>?_
      refine D<|a8<|D<|D<|F<|C rfl<|C rfl ?_
      obtain ⟨x66,hx66,h⟩:=J h
      refine a2 rfl rfl rfl hx66 rfl<|a6 rfl<|I rfl ?_
      obtain ⟨x69,hx69,h⟩:=J h
      refine W rfl (c75 x66.Name _ hx69)<|b7 rfl<|E (ko<|kt<|kt<|kn) fun _=>?_
      refine U rfl (fun hc70=>?_) (fun hc70=>?_)
      ·replace h:=M hc70 h
       refine D<|F<|C rfl<|E (kt<|kn) fun _=>?_
       refine L ?_
       cases h
       exact ⟨_,rfl,rfl⟩
      ·replace h:=O hc70 h
       refine P (ko<|kt<|kn) fun _=>?_
       refine D<|D<|F<|C rfl<|E (ko<|kt<|kt<|kn) fun _=>?_
       obtain ⟨o4,ho4,h⟩:=d0 h
       refine d5 ho4 (fun (i4:Int) (_:Unit)=>[(7,.ow (lA x42)),(8,.tv (eI i2)),(9,.tv (eI i4))]) (fun (_:Unit)=>[(7,.ow (lA x42)),(8,.tv (eI i2))]) (fun zv ze=>resIs ([.tmp 4]) (.sh (eI zv)) ze) rfl ?_ ?_ ?_ ?_
       ·clear h ho4
        intro i4 s4 r4 hi4 h hw4
        refine D<|D<|F<|C rfl<|C rfl<|X rfl rfl<|E (ko<|kt<|kt<|kt<|kn) fun _=>?_
        refine b3 rfl (b4 hi4)<|P (ko<|kt<|kt<|kn) fun _=>?_
        refine D<|a8<|D<|d4 rfl<|C rfl<|C rfl ?_
        obtain ⟨x78,hx78,h⟩:=J h
        refine a2 rfl rfl rfl hx78 rfl<|a6 rfl<|I rfl<|C rfl<|C rfl ?_
        obtain ⟨x83,hx83,h⟩:=J h
        refine a2 rfl rfl rfl hx83 rfl<|a6 rfl<|I rfl<|g7 rfl rfl<|E (ko<|kt<|kt<|kt<|kn) fun _=>?_
        refine U rfl (fun hc86=>?_) (fun hc86=>?_)
        ·replace h:=M hc86 h
         refine D<|F<|C rfl<|E (kt<|kn) fun _=>?_
         refine L ?_
         cases h
         exact ⟨_,rfl,rfl⟩
        ·replace h:=O hc86 h
         refine P (ko<|kt<|kt<|kn) fun _=>?_
         refine F<|C rfl<|a5 rfl rfl<|C rfl<|E (ko<|kt<|kt<|kn) ?_
         cases h
         refine ⟨_,rfl,?_⟩
         rw [Kow rfl (Ktv rfl (Ktv rfl (Knil _)))]
         rw [b2 (a4 (hw4 9)) hi4 (d9 (a4 (hw4 8)))]
         all_goals rfl
       ·intro i4 s4 hi4
        refine D<|D<|F<|C rfl<|C rfl<|X rfl rfl<|E (ko<|kt<|kt<|kt<|kn) fun _=>?_
        refine b5 rfl (b6 hi4)<|b0 (ko<|kt<|kn) ?_
        exact ⟨rfl,rfl⟩
       ·intro s4 hs
        replace h:=d1 h hs
        intro _
        refine D<|F<|C rfl<|C rfl ?_
        obtain ⟨x89,hx89,h⟩:=J h
        refine a2 rfl rfl rfl hx89 rfl<|R rfl rfl (show _=eAttr x89 from rfl) ?_
        obtain ⟨x91,hx91,h⟩:=J h
        refine W rfl (c171 x89 _ hx91)<|C rfl<|E (ko<|kt<|kt<|kn) fun _=>?_
        refine D<|F<|C rfl<|a7 rfl rfl<|E (ko<|kt<|kt<|kt<|kn) fun _=>?_
        refine U rfl (fun hc93=>?_) (fun hc93=>?_)
        ·replace h:=M hc93 h
         refine D<|F<|C rfl<|C rfl<|E (kt<|kn) fun _=>?_
         refine L ?_
         cases h
         exact ⟨_,rfl,rfl⟩
        ·replace h:=O hc93 h
         refine P (ko<|kt<|kn) fun _=>?_
         refine F<|C rfl<|a5 rfl rfl<|C rfl<|E (ko<|kt<|kn) ?_
         cases h
         refine ⟨_,rfl,?_⟩
         rw [Kow rfl (Ktv rfl (Knil _))]
         rw [b2 (a4 (hw2 8)) hi2 (e4 (l9 (hw2 7)) rfl)]
         all_goals rfl
       ·intro v4 ze hv hR
        replace h:=d2 h hv
        cases h
        exact ⟨_,rfl,hR⟩
     ·intro i2 s2 hi2
      refine D<|D<|F<|C rfl<|C rfl<|V rfl rfl<|X rfl rfl<|E (ko<|kt<|kt<|kn) fun _=>?_
      refine b5 rfl (b6 hi2)<|b0 (kn) ?_
      exact ⟨rfl,rfl⟩
     ·intro s2 hs
      replace h:=d1 h hs
      intro _
      refine D<|F<|C rfl<|E (kt<|kn) fun _=>?_
      exact L (by cases h;rfl)
     ·intro v2 ze hv hR
      replace h:=d2 h hv
      cases h
      exact hR
  ·intro v0 ze hv hR
   replace h:=d2 h hv
   cases h
   exact hR
theorem ck172:CK f172 (Rq [Ai 4] [0,1]<|Rq [Aa 5 0,Fc 6 119 5 0 40,Aa 7 6,As 8 1 7,Fa 9 8 (-1) 7,As 10 9 7,Az 11 1 10,Az 12 0 10,Fj 13 119 11 12 40 10,Dd 14 10 13 7,Aq 15 7 14,Aa 4 15] [4]<|.ret) [.tmp 4]:= by decide +kernel
theorem c172 (low:Int) (high:Int) (r:Bool) (h:ref04_bound low high=some r):Sound prog 172 [eI low,eI high] (.sh (eB r)):= by
 refine Fn ck172 fun hw=>?_
 unfold ref04_bound at h
 refine D<|F<|C rfl<|E (kt<|kt<|kn) fun _=>?_
 refine D<|F<|C rfl ?_
 obtain ⟨x6,hx6,h⟩:=J h
 refine W rfl (c119 low 0 40 _ hx6)<|C rfl ?_
 obtain ⟨x15,hx15,h⟩:=J h
 refine gX 8 [8,9,10,11,12,13,14] 15 x15 x6 (fun hg15=>?_) (fun hg15=>?_) ?_
 ·replace h:=M hg15 hx15
  refine G rfl hg15<|C rfl<|G rfl hg15<|b8 rfl rfl<|G rfl hg15<|C rfl ?_
  obtain ⟨x14,hx14,h⟩:=J h
  refine gX 4 [11,12,13] 14 x14 (decide (high=(-1))) (fun hg14=>?_) (fun hg14=>?_) ?_
  ·replace h:=M hg14 hx14
   cases h
   refine H rfl hg14<|H rfl hg14<|H rfl hg14<|G rfl hg15<|Z rfl hg14 rfl ?_
   exact ⟨⟨_,_,_,rfl⟩⟩
  ·replace h:=O hg14 hx14
   refine G rfl hg14<|C rfl<|G rfl hg14<|C rfl ?_
   obtain ⟨x13,hx13,h⟩:=J h
   refine G rfl hg14<|W rfl (c119 high low 40 _ hx13) ?_
   cases h
   refine G rfl hg15<|a0 rfl hg14 rfl ?_
   exact ⟨⟨_,_,_,rfl⟩⟩
  rintro _ ⟨_,_,_,rfl⟩
  cases h
  refine Z rfl hg15 rfl ?_
  exact ⟨⟨_,_,_,_,_,_,_,rfl⟩⟩
 ·replace h:=O hg15 hx15
  cases h
  refine H rfl hg15<|H rfl hg15<|H rfl hg15<|d3 rfl<|d3 rfl<|d3 rfl<|H rfl hg15<|a0 rfl hg15 rfl ?_
  exact ⟨⟨_,_,_,_,_,_,_,rfl⟩⟩
 rintro _ ⟨_,_,_,_,_,_,_,rfl⟩
 refine C rfl<|E (kt<|kn) fun _=>?_
 exact L (by cases h;rfl)
theorem ck125:CK f125 (Rq [Af 2 0,Ad 4 0] [1,2]<|Rq [Ac 8 2 1,Ab 9 8,Aa 10 1,Ah 11 9 10 7,Ae 12 11 7,Du 5 0 0 0 0 0 0,Ak 7 5 12] [1,2,5]<|Sq (Rq [Ac 13 5 0,Ab 14 13,Au 15 75 14,Ay 16 15] [1,2,5,16]<|Co 16 (Rq [Ad 4 2] [4]<|.ret)<|Sk [1,2,5])<|Sq (Rq [Ad 6 0] [1,2,5,6]<|Bl 0<|Lo [1,2,5,6]<|Sq (Rq [Aa 17 6,Aa 18 1,Ap 19 17 18] [1,2,5,6,19]<|Co 19 (Sk [1,2,5,6])<|Ex 0 [2,5])<|Sq (Bl 1<|Sq (Dr [22,23,24,25,26,27,28,29,30] [Ac 22 2 1,Ab 23 22,Aa 24 6,Ah 25 23 24 7,Aj 26 25 0,Ab 27 26,Ac 28 5 0,Ab 29 28,Cu 30 27 29] [1,2,5,6,30])<|Co 30 (Rq [Ad 4 5] [4]<|.ret)<|Sk [1,2,5,6])<|Re [Aa 20 6,Ao 21 20 1,Aa 6 21] [1,2,5,6])<|Rq [Ac 31 2 0,Ab 32 31,Ag 33 32,Cy 34 33 1,Aa 7 34] [5,7]<|Sq (Rq [Ac 35 5 1,Ab 36 35,Aa 37 7,Dy 38 119 36 0 37,Ay 39 38,Aa 40 39,Am 41 5 2 40,Al 42 41 40,Az 43 7 40,Ew 44 119 42 0 43 40,Bq 45 44 40,Ar 46 40 45,Aa 47 46,Am 48 5 3 47,Al 49 48 47,Am 50 5 4 47,Al 51 50 47,Cp 52 172 49 51 47,Bq 53 52 47,Ar 54 47 53,Aa 55 54,Am 56 5 5 55,Al 57 56 55,Am 58 5 6 55,Al 59 58 55,Cp 60 172 57 59 55,Bq 61 60 55,Ar 62 55 61] [62]<|Co 62 (Rq [Ad 4 6] [4]<|.ret)<|Sk [])<|Rq [Ad 4 0] [4]<|.ret) [.tmp 4]:= by decide +kernel
theorem c125 (t:Types) (i_1:Int) (r:Int) (h:ref04_edge t i_1=some r):Sound prog 125 [eTypes t,eI i_1] (.sh (eI r)):= by
 refine Fn ck125 fun hw=>?_
 unfold ref04_edge at h
 refine D<|F<|a1 rfl rfl<|C rfl<|E (kt<|kt<|kn) fun _=>?_
 refine D<|F<|K rfl<|I rfl<|C rfl ?_
 obtain ⟨x11,hx11,h⟩:=J h
 refine a2 rfl rfl rfl hx11 rfl<|R rfl rfl (show _=eEdgeType x11 from rfl)<|b1 rfl<|a9 rfl rfl rfl rfl rfl<|E (kt<|kt<|kb<|kn) fun _=>?_
 refine D<|D<|F<|a3 rfl<|I rfl ?_
 obtain ⟨x15,hx15,h⟩:=J h
 refine W rfl (c75 x11.Name _ hx15)<|b7 rfl<|E (kt<|kt<|kb<|kt<|kn) fun _=>?_
 refine U rfl (fun hc16=>?_) (fun hc16=>?_)
 ·replace h:=M hc16 h
  refine D<|F<|C rfl<|E (kt<|kn) fun _=>?_
  exact L (by cases h;rfl)
 ·replace h:=O hc16 h
  refine P (kt<|kt<|kb<|kn) fun _=>?_
  refine D<|D<|F<|C rfl<|E (kt<|kt<|kb<|kt<|kn) fun _=>?_
  obtain ⟨o0,ho0,h⟩:=d0 h
  refine d5 ho0 (fun (i0:Int) (_:Unit)=>[(1,.tv (eI i_1)),(2,.tv (.pt (eTypes t).cells)),(5,.bx [⟨false,eS x11.Name⟩,⟨false,eI x11.From⟩,⟨false,eI x11.To⟩,⟨false,eI x11.OutLow⟩,⟨false,eI x11.OutHigh⟩,⟨false,eI x11.InLow⟩,⟨false,eI x11.InHigh⟩]),(6,.tv (eI i0))]) (fun (_:Unit)=>[(2,.tv (.pt (eTypes t).cells)),(5,.bx [⟨false,eS x11.Name⟩,⟨false,eI x11.From⟩,⟨false,eI x11.To⟩,⟨false,eI x11.OutLow⟩,⟨false,eI x11.OutHigh⟩,⟨false,eI x11.InLow⟩,⟨false,eI x11.InHigh⟩])]) (fun zv ze=>resIs ([.tmp 4]) (.sh (eI zv)) ze) rfl ?_ ?_ ?_ ?_
  ·clear h ho0
   intro i0 s0 r0 hi0 h hw0
   refine D<|D<|F<|C rfl<|C rfl<|X rfl rfl<|E (kt<|kt<|kb<|kt<|kt<|kn) fun _=>?_
   refine b3 rfl (b4 hi0)<|P (kt<|kt<|kb<|kt<|kn) fun _=>?_
   refine D<|a8<|D<|d4 rfl<|K rfl<|I rfl<|C rfl ?_
   obtain ⟨x25,hx25,h⟩:=J h
   refine a2 rfl rfl rfl hx25 rfl<|a6 rfl<|I rfl<|a3 rfl<|I rfl<|g7 rfl rfl<|E (kt<|kt<|kb<|kt<|kt<|kn) fun _=>?_
   refine U rfl (fun hc30=>?_) (fun hc30=>?_)
   ·replace h:=M hc30 h
    refine D<|F<|C rfl<|E (kt<|kn) fun _=>?_
    refine L ?_
    cases h
    exact ⟨_,rfl,rfl⟩
   ·replace h:=O hc30 h
    refine P (kt<|kt<|kb<|kt<|kn) fun _=>?_
    refine F<|C rfl<|a5 rfl rfl<|C rfl<|E (kt<|kt<|kb<|kt<|kn) ?_
    cases h
    refine ⟨_,rfl,?_⟩
    rw [Ktv rfl (Ktv rfl (Kbx rfl (Ktv rfl (Knil _))))]
    rw [b2 (a4 (hw0 6)) hi0 (d9 (a4 (hw0 1)))]
    all_goals rfl
  ·intro i0 s0 hi0
   refine D<|D<|F<|C rfl<|C rfl<|X rfl rfl<|E (kt<|kt<|kb<|kt<|kt<|kn) fun _=>?_
   refine b5 rfl (b6 hi0)<|b0 (kt<|kb<|kn) ?_
   exact ⟨rfl,rfl⟩
  ·intro s0 hs
   replace h:=d1 h hs
   intro _
   refine D<|F<|K rfl<|I rfl<|V rfl rfl<|g0 rfl rfl<|C rfl<|E (kb<|kt<|kn) fun _=>?_
   refine D<|D<|F<|a3 rfl<|I rfl<|C rfl ?_
   obtain ⟨x38,hx38,h⟩:=J h
   refine W rfl (c119 x11.From 0 (w64 ((t.Nodes.length:Int) - 1)) _ hx38)<|b7 rfl<|C rfl ?_
   obtain ⟨x46,hx46,h⟩:=J h
   refine gX 6 [41,42,43,44,45] 46 x46 (!x38) (fun hg46=>?_) (fun hg46=>?_) ?_
   ·replace h:=M hg46 hx46
    cases h
    refine H rfl hg46<|H rfl hg46<|H rfl hg46<|H rfl hg46<|H rfl hg46<|Z rfl hg46 rfl ?_
    exact ⟨⟨_,_,_,_,_,rfl⟩⟩
   ·replace h:=O hg46 hx46
    refine G rfl hg46<|a3 rfl<|G rfl hg46<|I rfl<|G rfl hg46<|C rfl ?_
    obtain ⟨x44,hx44,h⟩:=J h
    refine G rfl hg46<|W rfl (c119 x11.To 0 (w64 ((t.Nodes.length:Int) - 1)) _ hx44)<|G rfl hg46<|b7 rfl ?_
    cases h
    refine a0 rfl hg46 rfl ?_
    exact ⟨⟨_,_,_,_,_,rfl⟩⟩
   rintro _ ⟨_,_,_,_,_,rfl⟩
   refine C rfl ?_
   obtain ⟨x54,hx54,h⟩:=J h
   refine gX 7 [48,49,50,51,52,53] 54 x54 x46 (fun hg54=>?_) (fun hg54=>?_) ?_
   ·replace h:=M hg54 hx54
    cases h
    refine H rfl hg54<|H rfl hg54<|H rfl hg54<|H rfl hg54<|H rfl hg54<|H rfl hg54<|Z rfl hg54 rfl ?_
    exact ⟨⟨_,_,_,_,_,_,rfl⟩⟩
   ·replace h:=O hg54 hx54
    refine G rfl hg54<|a3 rfl<|G rfl hg54<|I rfl<|G rfl hg54<|a3 rfl<|G rfl hg54<|I rfl ?_
    obtain ⟨x52,hx52,h⟩:=J h
    refine G rfl hg54<|W rfl (c172 x11.OutLow x11.OutHigh _ hx52)<|G rfl hg54<|b7 rfl ?_
    cases h
    refine a0 rfl hg54 rfl ?_
    exact ⟨⟨_,_,_,_,_,_,rfl⟩⟩
   rintro _ ⟨_,_,_,_,_,_,rfl⟩
   refine C rfl ?_
   obtain ⟨x62,hx62,h⟩:=J h
   refine gX 7 [56,57,58,59,60,61] 62 x62 x54 (fun hg62=>?_) (fun hg62=>?_) ?_
   ·replace h:=M hg62 hx62
    cases h
    refine H rfl hg62<|H rfl hg62<|H rfl hg62<|H rfl hg62<|H rfl hg62<|H rfl hg62<|Z rfl hg62 rfl ?_
    exact ⟨⟨_,_,_,_,_,_,rfl⟩⟩
   ·replace h:=O hg62 hx62
    refine G rfl hg62<|a3 rfl<|G rfl hg62<|I rfl<|G rfl hg62<|a3 rfl<|G rfl hg62<|I rfl ?_
    obtain ⟨x60,hx60,h⟩:=J h
    refine G rfl hg62<|W rfl (c172 x11.InLow x11.InHigh _ hx60)<|G rfl hg62<|b7 rfl ?_
    cases h
    refine a0 rfl hg62 rfl ?_
    exact ⟨⟨_,_,_,_,_,_,rfl⟩⟩
   rintro _ ⟨_,_,_,_,_,_,rfl⟩
   refine E (kt<|kn) fun _=>?_
   refine U rfl (fun hc62=>?_) (fun hc62=>?_)
   ·replace h:=M hc62 h
    refine D<|F<|C rfl<|E (kt<|kn) fun _=>?_
    exact L (by cases h;rfl)
   ·replace h:=O hc62 h
    refine P (kn) fun _=>?_
    refine D<|F<|C rfl<|E (kt<|kn) fun _=>?_
    exact L (by cases h;rfl)
  ·intro v0 ze hv hR
   replace h:=d2 h hv
   cases h
   exact hR
theorem ck74:CK f74 (Rq [Af 1 0,Ck 2,Ad 3 0] [1]<|Sq (Rq [Ac 8 1 0,Ab 9 8,Ag 10 9,Be 11 10 0] [1,11]<|Co 11 (Rq [Ck 2,Ad 3 7] [2,3]<|.ret)<|Sk [1])<|Sq (Rq [Ac 12 1 0,Ab 13 12,Ag 14 13,Bg 15 14 12,Aa 16 15,Am 17 1 1 16,Al 18 17 16,Ba 19 18 16,Bu 20 19 20 16,Ar 21 16 20] [1,21]<|Co 21 (Rq [Ck 2,Ad 3 3] [2,3]<|.ret)<|Sk [1])<|Sq (Rq [Ad 4 0] [1,4]<|Bl 0<|Lo [1,4]<|Sq (Rq [Aa 22 4,Ac 23 1 0,Ab 24 23,Ag 25 24,Ap 26 22 25] [1,4,26]<|Co 26 (Sk [1,4])<|Ex 0 [1])<|Sq (Bl 1<|Rq [Ae 29 1 2,Aa 30 4,An 31 124 29 30,Aa 5 31] [1,4,5]<|Rq [Aa 32 5,Ax 33 32 0] [1,4,5,33]<|Co 33 (Rq [Ac 34 1 0,Ab 35 34,Aa 36 4,Ah 37 35 36 4,Aj 38 37 0,Ab 39 38,Aa 40 5,Aa 2 39,Aa 3 40] [2,3]<|.ret)<|Sk [1,4])<|Re [Aa 27 4,Ao 28 27 1,Aa 4 28] [1,4])<|Sq (Rq [Ad 6 0] [1,6]<|Bl 2<|Lo [1,6]<|Sq (Rq [Aa 41 6,Ac 42 1 1,Ab 43 42,Ag 44 43,Ap 45 41 44] [1,6,45]<|Co 45 (Sk [1,6])<|Ex 2 [])<|Sq (Bl 3<|Rq [Ae 48 1 2,Aa 49 6,An 50 125 48 49,Aa 7 50] [1,6,7]<|Rq [Aa 51 7,Ax 52 51 0] [1,6,7,52]<|Co 52 (Rq [Ac 53 1 1,Ab 54 53,Aa 55 6,Ah 56 54 55 7,Aj 57 56 0,Ab 58 57,Aa 59 7,Aa 2 58,Aa 3 59] [2,3]<|.ret)<|Sk [1,6])<|Re [Aa 46 6,Ao 47 46 1,Aa 6 47] [1,6])<|Rq [Ck 2,Ad 3 0] [2,3]<|.ret) [.tmp 2,.tmp 3]:= by decide +kernel
theorem c74 (t:Types) (r:(ByteArray × Int)) (h:ref04_Valid t=some r):Sound prog 74 [eTypes t] (.tp [eS r.1,eI r.2]):= by
 refine Fn ck74 fun hw=>?_
 unfold ref04_Valid at h
 refine D<|F<|a1 rfl rfl<|C rfl<|C rfl<|E (kt<|kn) fun _=>?_
 refine D<|D<|F<|K rfl<|I rfl<|V rfl rfl<|b8 rfl rfl<|E (kt<|kt<|kn) fun _=>?_
 refine U rfl (fun hc11=>?_) (fun hc11=>?_)
 ·replace h:=M hc11 h
  refine D<|F<|C rfl<|C rfl<|E (kt<|kt<|kn) fun _=>?_
  refine L ?_
  cases h
  exact ⟨by decide,rfl⟩
 ·replace h:=O hc11 h
  refine P (kt<|kn) fun _=>?_
  refine D<|D<|F<|K rfl<|I rfl<|V rfl rfl<|e3 rfl rfl<|C rfl ?_
  refine gO 5 [17,18,19,20] 21 (decide (12<(t.Nodes.length:Int))) (decide (20<(t.Edges.length:Int))) (fun hg21=>?_) (fun hg21=>?_) ?_
  ·refine H rfl hg21<|H rfl hg21<|H rfl hg21<|H rfl hg21<|Z rfl hg21 rfl ?_
   exact ⟨⟨_,_,_,_,rfl⟩⟩
  ·refine G rfl hg21<|K rfl<|G rfl hg21<|I rfl<|G rfl hg21<|V rfl rfl<|G rfl hg21<|e3 rfl rfl<|a0 rfl hg21 rfl ?_
   exact ⟨⟨_,_,_,_,rfl⟩⟩
  rintro _ ⟨_,_,_,_,rfl⟩
  refine E (kt<|kt<|kn) fun _=>?_
  refine U rfl (fun hc21=>?_) (fun hc21=>?_)
  ·replace h:=M hc21 h
   refine D<|F<|C rfl<|C rfl<|E (kt<|kt<|kn) fun _=>?_
   refine L ?_
   cases h
   exact ⟨by decide,rfl⟩
  ·replace h:=O hc21 h
   refine P (kt<|kn) fun _=>?_
   refine D<|D<|F<|C rfl<|E (kt<|kt<|kn) fun _=>?_
   obtain ⟨o0,ho0,h⟩:=d0 h
   refine d5 ho0 (fun (i0:Int) (_:Unit)=>[(1,.tv (.pt (eTypes t).cells)),(4,.tv (eI i0))]) (fun (_:Unit)=>[(1,.tv (.pt (eTypes t).cells))]) (fun zv ze=>resIs ([.tmp 2,.tmp 3]) (.tp [eS zv.1,eI zv.2]) ze) rfl ?_ ?_ ?_ ?_
   ·clear h ho0
    intro i0 s0 r0 hi0 h hw0
    refine D<|D<|F<|C rfl<|K rfl<|I rfl<|V rfl rfl<|X rfl rfl<|E (kt<|kt<|kt<|kn) fun _=>?_
    refine b3 rfl (b4 hi0)<|P (kt<|kt<|kn) fun _=>?_
    refine D<|a8<|D<|F<|R rfl rfl (show _=eTypes t from rfl)<|C rfl ?_
    obtain ⟨x31,hx31,h⟩:=J h
    refine W rfl (c124 t i0 _ hx31)<|C rfl<|E (kt<|kt<|kt<|kn) fun _=>?_
    refine D<|F<|C rfl<|a7 rfl rfl<|E (kt<|kt<|kt<|kt<|kn) fun _=>?_
    refine U rfl (fun hc33=>?_) (fun hc33=>?_)
    ·replace h:=M hc33 h
     refine D<|F<|K rfl<|I rfl<|C rfl ?_
     obtain ⟨x37,hx37,h⟩:=J h
     refine a2 rfl rfl rfl hx37 rfl<|a6 rfl<|I rfl<|C rfl<|C rfl<|C rfl<|E (kt<|kt<|kn) fun _=>?_
     refine L ?_
     cases h
     exact ⟨_,rfl,⟨by decide,rfl⟩⟩
    ·replace h:=O hc33 h
     refine P (kt<|kt<|kn) fun _=>?_
     refine F<|C rfl<|a5 rfl rfl<|C rfl<|E (kt<|kt<|kn) ?_
     cases h
     refine ⟨_,rfl,?_⟩
     rw [Ktv rfl (Ktv rfl (Knil _))]
     rw [b2 (a4 (hw0 4)) hi0 (e4 (e9 (f0 (hw0 1)) (i:=0) rfl) rfl)]
     all_goals rfl
   ·intro i0 s0 hi0
    refine D<|D<|F<|C rfl<|K rfl<|I rfl<|V rfl rfl<|X rfl rfl<|E (kt<|kt<|kt<|kn) fun _=>?_
    refine b5 rfl (b6 hi0)<|b0 (kt<|kn) ?_
    exact ⟨rfl,rfl⟩
   ·intro s0 hs
    replace h:=d1 h hs
    intro _
    refine D<|D<|F<|C rfl<|E (kt<|kt<|kn) fun _=>?_
    obtain ⟨o2,ho2,h⟩:=d0 h
    refine d5 ho2 (fun (i2:Int) (_:Unit)=>[(1,.tv (.pt (eTypes t).cells)),(6,.tv (eI i2))]) (fun (_:Unit)=>[]) (fun zv ze=>resIs ([.tmp 2,.tmp 3]) (.tp [eS zv.1,eI zv.2]) ze) rfl ?_ ?_ ?_ ?_
    ·clear h ho2
     intro i2 s2 r2 hi2 h hw2
     refine D<|D<|F<|C rfl<|K rfl<|I rfl<|V rfl rfl<|X rfl rfl<|E (kt<|kt<|kt<|kn) fun _=>?_
     refine b3 rfl (b4 hi2)<|P (kt<|kt<|kn) fun _=>?_
     refine D<|a8<|D<|F<|R rfl rfl (show _=eTypes t from rfl)<|C rfl ?_
     obtain ⟨x50,hx50,h⟩:=J h
     refine W rfl (c125 t i2 _ hx50)<|C rfl<|E (kt<|kt<|kt<|kn) fun _=>?_
     refine D<|F<|C rfl<|a7 rfl rfl<|E (kt<|kt<|kt<|kt<|kn) fun _=>?_
     refine U rfl (fun hc52=>?_) (fun hc52=>?_)
     ·replace h:=M hc52 h
      refine D<|F<|K rfl<|I rfl<|C rfl ?_
      obtain ⟨x56,hx56,h⟩:=J h
      refine a2 rfl rfl rfl hx56 rfl<|a6 rfl<|I rfl<|C rfl<|C rfl<|C rfl<|E (kt<|kt<|kn) fun _=>?_
      refine L ?_
      cases h
      exact ⟨_,rfl,⟨by decide,rfl⟩⟩
     ·replace h:=O hc52 h
      refine P (kt<|kt<|kn) fun _=>?_
      refine F<|C rfl<|a5 rfl rfl<|C rfl<|E (kt<|kt<|kn) ?_
      cases h
      refine ⟨_,rfl,?_⟩
      rw [Ktv rfl (Ktv rfl (Knil _))]
      rw [b2 (a4 (hw2 6)) hi2 (e4 (e9 (f0 (hw2 1)) (i:=1) rfl) rfl)]
      all_goals rfl
    ·intro i2 s2 hi2
     refine D<|D<|F<|C rfl<|K rfl<|I rfl<|V rfl rfl<|X rfl rfl<|E (kt<|kt<|kt<|kn) fun _=>?_
     refine b5 rfl (b6 hi2)<|b0 (kn) ?_
     exact ⟨rfl,rfl⟩
    ·intro s2 hs
     replace h:=d1 h hs
     intro _
     refine D<|F<|C rfl<|C rfl<|E (kt<|kt<|kn) fun _=>?_
     refine L ?_
     cases h
     exact ⟨by decide,rfl⟩
    ·intro v2 ze hv hR
     replace h:=d2 h hv
     cases h
     exact hR
   ·intro v0 ze hv hR
    replace h:=d2 h hv
    cases h
    exact hR
theorem ck175:CK f175 (Rq [Ai 2] [0]<|Rq [Aa 3 0,Bo 4 3 0,Aa 5 4,As 6 0 5,Cn 7 6 99 5,Aq 8 5 7,Aa 2 8] [2]<|.ret) [.tmp 2]:= by decide +kernel
theorem c175 (n:Int) (r:Bool) (h:ref05_kind n=some r):Sound prog 175 [eI n] (.sh (eB r)):= by
 refine Fn ck175 fun hw=>?_
 unfold ref05_kind at h
 refine D<|F<|C rfl<|E (kt<|kn) fun _=>?_
 refine D<|F<|C rfl<|d6 rfl rfl<|C rfl ?_
 refine gA 3 [6,7] 8 (decide (0<=n)) (decide (n<=99)) (fun hg8=>?_) (fun hg8=>?_) ?_
 ·refine G rfl hg8<|C rfl<|G rfl hg8<|f1 rfl rfl<|Z rfl hg8 rfl ?_
  exact ⟨⟨_,_,rfl⟩⟩
 ·refine H rfl hg8<|H rfl hg8<|a0 rfl hg8 rfl ?_
  exact ⟨⟨_,_,rfl⟩⟩
 rintro _ ⟨_,_,rfl⟩
 refine C rfl<|E (kt<|kn) fun _=>?_
 exact L (by cases h;rfl)
theorem ck176:CK f176 (Rq [Af 2 0,Ai 4] [1,2]<|Rq [Ac 5 2 0,Ab 6 5,Au 7 175 6,Aa 8 7,Av 9 2 1 8,Aw 10 9 8,Ev 11 10 0 8,Aq 12 8 11,Aa 13 12,Av 14 2 1 13,Aw 15 14 13,As 16 1 13,Dt 17 15 16 13,Aq 18 13 17,Aa 19 18,Av 20 2 2 19,Aw 21 20 19,Ev 22 21 0 19,Aq 23 19 22,Aa 24 23,Av 25 2 2 24,Aw 26 25 24,As 27 1 24,Dt 28 26 27 24,Aq 29 24 28,Aa 4 29] [4]<|.ret) [.tmp 4]:= by decide +kernel
theorem c176 (e:Edge) (nodes:Int) (r:Bool) (h:ref05_right e nodes=some r):Sound prog 176 [eEdge e,eI nodes] (.sh (eB r)):= by
 refine Fn ck176 fun hw=>?_
 unfold ref05_right at h
 refine D<|F<|a1 rfl rfl<|C rfl<|E (kt<|kt<|kn) fun _=>?_
 refine D<|F<|K rfl<|I rfl ?_
 obtain ⟨x7,hx7,h⟩:=J h
 refine W rfl (c175 e.Type' _ hx7)<|C rfl ?_
 refine gA 4 [9,10,11] 12 x7 (decide (0<=e.From)) (fun hg12=>?_) (fun hg12=>?_) ?_
 ·refine G rfl hg12<|K rfl<|G rfl hg12<|I rfl<|G rfl hg12<|d6 rfl rfl<|Z rfl hg12 rfl ?_
  exact ⟨⟨_,_,_,rfl⟩⟩
 ·refine H rfl hg12<|H rfl hg12<|H rfl hg12<|a0 rfl hg12 rfl ?_
  exact ⟨⟨_,_,_,rfl⟩⟩
 rintro _ ⟨_,_,_,rfl⟩
 refine C rfl ?_
 refine gA 5 [14,15,16,17] 18 (x7&&(decide (0<=e.From))) (decide (e.From<nodes)) (fun hg18=>?_) (fun hg18=>?_) ?_
 ·refine G rfl hg18<|K rfl<|G rfl hg18<|I rfl<|G rfl hg18<|C rfl<|G rfl hg18<|X rfl rfl<|Z rfl hg18 rfl ?_
  exact ⟨⟨_,_,_,_,rfl⟩⟩
 ·refine H rfl hg18<|H rfl hg18<|H rfl hg18<|H rfl hg18<|a0 rfl hg18 rfl ?_
  exact ⟨⟨_,_,_,_,rfl⟩⟩
 rintro _ ⟨_,_,_,_,rfl⟩
 refine C rfl ?_
 refine gA 4 [20,21,22] 23 ((x7&&(decide (0<=e.From)))&&(decide (e.From<nodes))) (decide (0<=e.To)) (fun hg23=>?_) (fun hg23=>?_) ?_
 ·refine G rfl hg23<|K rfl<|G rfl hg23<|I rfl<|G rfl hg23<|d6 rfl rfl<|Z rfl hg23 rfl ?_
  exact ⟨⟨_,_,_,rfl⟩⟩
 ·refine H rfl hg23<|H rfl hg23<|H rfl hg23<|a0 rfl hg23 rfl ?_
  exact ⟨⟨_,_,_,rfl⟩⟩
 rintro _ ⟨_,_,_,rfl⟩
 refine C rfl ?_
 refine gA 5 [25,26,27,28] 29 (((x7&&(decide (0<=e.From)))&&(decide (e.From<nodes)))&&(decide (0<=e.To))) (decide (e.To<nodes)) (fun hg29=>?_) (fun hg29=>?_) ?_
 ·refine G rfl hg29<|K rfl<|G rfl hg29<|I rfl<|G rfl hg29<|C rfl<|G rfl hg29<|X rfl rfl<|Z rfl hg29 rfl ?_
  exact ⟨⟨_,_,_,_,rfl⟩⟩
 ·refine H rfl hg29<|H rfl hg29<|H rfl hg29<|H rfl hg29<|a0 rfl hg29 rfl ?_
  exact ⟨⟨_,_,_,_,rfl⟩⟩
 rintro _ ⟨_,_,_,_,rfl⟩
 refine C rfl<|E (kt<|kn) fun _=>?_
 exact L (by cases h;rfl)
theorem ck127:CK f127 (Rq [Af 1 0,Ad 2 0] [1]<|Sq (Rq [Ac 5 1 0,Ab 6 5,Ag 7 6,Bg 8 7 40,Aa 9 8,Am 10 1 1 9,Al 11 10 9,Ba 12 11 9,Bu 13 12 80 9,Ar 14 9 13] [1,14]<|Co 14 (Rq [Ad 2 3] [2]<|.ret)<|Sk [1])<|Sq (Rq [Ad 3 0] [1,3]<|Bl 0<|Lo [1,3]<|Sq (Rq [Aa 15 3,Ac 16 1 0,Ab 17 16,Ag 18 17,Ap 19 15 18] [1,3,19]<|Co 19 (Sk [1,3])<|Ex 0 [1])<|Sq (Bl 1<|Rq [Ac 22 1 0,Ab 23 22,Aa 24 3,Ah 25 23 24 1,Ab 26 25,Au 27 175 26,Ay 28 27] [1,3,28]<|Co 28 (Rq [Ad 2 6] [2]<|.ret)<|Sk [1,3])<|Re [Aa 20 3,Ao 21 20 1,Aa 3 21] [1,3])<|Sq (Rq [Ad 4 0] [1,4]<|Bl 2<|Lo [1,4]<|Sq (Rq [Aa 29 4,Ac 30 1 1,Ab 31 30,Ag 32 31,Ap 33 29 32] [1,4,33]<|Co 33 (Sk [1,4])<|Ex 2 [])<|Sq (Bl 3<|Sq (Dr [36,37,38,39,40,41,42,43,44,45] [Ac 36 1 1,Ab 37 36,Aa 38 4,Ah 39 37 38 3,Ae 40 39 3,Ac 41 1 0,Ab 42 41,Ag 43 42,An 44 176 40 43,Ay 45 44] [1,4,45])<|Co 45 (Rq [Ad 2 6] [2]<|.ret)<|Sk [1,4])<|Re [Aa 34 4,Ao 35 34 1,Aa 4 35] [1,4])<|Rq [Ad 2 0] [2]<|.ret) [.tmp 2]:= by decide +kernel
theorem c127 (g:Graph) (r:Int) (h:ref05_Valid g=some r):Sound prog 127 [eGraph g] (.sh (eI r)):= by
 refine Fn ck127 fun hw=>?_
 unfold ref05_Valid at h
 refine D<|F<|a1 rfl rfl<|C rfl<|E (kt<|kn) fun _=>?_
 refine D<|D<|F<|K rfl<|I rfl<|V rfl rfl<|e3 rfl rfl<|C rfl ?_
 refine gO 5 [10,11,12,13] 14 (decide (40<(g.Nodes.length:Int))) (decide (80<(g.Edges.length:Int))) (fun hg14=>?_) (fun hg14=>?_) ?_
 ·refine H rfl hg14<|H rfl hg14<|H rfl hg14<|H rfl hg14<|Z rfl hg14 rfl ?_
  exact ⟨⟨_,_,_,_,rfl⟩⟩
 ·refine G rfl hg14<|K rfl<|G rfl hg14<|I rfl<|G rfl hg14<|V rfl rfl<|G rfl hg14<|e3 rfl rfl<|a0 rfl hg14 rfl ?_
  exact ⟨⟨_,_,_,_,rfl⟩⟩
 rintro _ ⟨_,_,_,_,rfl⟩
 refine E (kt<|kt<|kn) fun _=>?_
 refine U rfl (fun hc14=>?_) (fun hc14=>?_)
 ·replace h:=M hc14 h
  refine D<|F<|C rfl<|E (kt<|kn) fun _=>?_
  exact L (by cases h;rfl)
 ·replace h:=O hc14 h
  refine P (kt<|kn) fun _=>?_
  refine D<|D<|F<|C rfl<|E (kt<|kt<|kn) fun _=>?_
  obtain ⟨o0,ho0,h⟩:=d0 h
  refine d5 ho0 (fun (i0:Int) (_:Unit)=>[(1,.tv (.pt (eGraph g).cells)),(3,.tv (eI i0))]) (fun (_:Unit)=>[(1,.tv (.pt (eGraph g).cells))]) (fun zv ze=>resIs ([.tmp 2]) (.sh (eI zv)) ze) rfl ?_ ?_ ?_ ?_
  ·clear h ho0
   intro i0 s0 r0 hi0 h hw0
   refine D<|D<|F<|C rfl<|K rfl<|I rfl<|V rfl rfl<|X rfl rfl<|E (kt<|kt<|kt<|kn) fun _=>?_
   refine b3 rfl (b4 hi0)<|P (kt<|kt<|kn) fun _=>?_
   refine D<|a8<|D<|F<|K rfl<|I rfl<|C rfl ?_
   obtain ⟨x25,hx25,h⟩:=J h
   refine a2 rfl rfl rfl hx25 rfl<|I rfl ?_
   obtain ⟨x27,hx27,h⟩:=J h
   refine W rfl (c175 x25 _ hx27)<|b7 rfl<|E (kt<|kt<|kt<|kn) fun _=>?_
   refine U rfl (fun hc28=>?_) (fun hc28=>?_)
   ·replace h:=M hc28 h
    refine D<|F<|C rfl<|E (kt<|kn) fun _=>?_
    refine L ?_
    cases h
    exact ⟨_,rfl,rfl⟩
   ·replace h:=O hc28 h
    refine P (kt<|kt<|kn) fun _=>?_
    refine F<|C rfl<|a5 rfl rfl<|C rfl<|E (kt<|kt<|kn) ?_
    cases h
    refine ⟨_,rfl,?_⟩
    rw [Ktv rfl (Ktv rfl (Knil _))]
    rw [b2 (a4 (hw0 3)) hi0 (e4 (e9 (f0 (hw0 1)) (i:=0) rfl) rfl)]
    all_goals rfl
  ·intro i0 s0 hi0
   refine D<|D<|F<|C rfl<|K rfl<|I rfl<|V rfl rfl<|X rfl rfl<|E (kt<|kt<|kt<|kn) fun _=>?_
   refine b5 rfl (b6 hi0)<|b0 (kt<|kn) ?_
   exact ⟨rfl,rfl⟩
  ·intro s0 hs
   replace h:=d1 h hs
   intro _
   refine D<|D<|F<|C rfl<|E (kt<|kt<|kn) fun _=>?_
   obtain ⟨o2,ho2,h⟩:=d0 h
   refine d5 ho2 (fun (i2:Int) (_:Unit)=>[(1,.tv (.pt (eGraph g).cells)),(4,.tv (eI i2))]) (fun (_:Unit)=>[]) (fun zv ze=>resIs ([.tmp 2]) (.sh (eI zv)) ze) rfl ?_ ?_ ?_ ?_
   ·clear h ho2
    intro i2 s2 r2 hi2 h hw2
    refine D<|D<|F<|C rfl<|K rfl<|I rfl<|V rfl rfl<|X rfl rfl<|E (kt<|kt<|kt<|kn) fun _=>?_
    refine b3 rfl (b4 hi2)<|P (kt<|kt<|kn) fun _=>?_
    refine D<|a8<|D<|d4 rfl<|K rfl<|I rfl<|C rfl ?_
    obtain ⟨x39,hx39,h⟩:=J h
    refine a2 rfl rfl rfl hx39 rfl<|R rfl rfl (show _=eEdge x39 from rfl)<|K rfl<|I rfl<|V rfl rfl ?_
    obtain ⟨x44,hx44,h⟩:=J h
    refine W rfl (c176 x39 (g.Nodes.length:Int) _ hx44)<|b7 rfl<|E (kt<|kt<|kt<|kn) fun _=>?_
    refine U rfl (fun hc45=>?_) (fun hc45=>?_)
    ·replace h:=M hc45 h
     refine D<|F<|C rfl<|E (kt<|kn) fun _=>?_
     refine L ?_
     cases h
     exact ⟨_,rfl,rfl⟩
    ·replace h:=O hc45 h
     refine P (kt<|kt<|kn) fun _=>?_
     refine F<|C rfl<|a5 rfl rfl<|C rfl<|E (kt<|kt<|kn) ?_
     cases h
     refine ⟨_,rfl,?_⟩
     rw [Ktv rfl (Ktv rfl (Knil _))]
     rw [b2 (a4 (hw2 4)) hi2 (e4 (e9 (f0 (hw2 1)) (i:=1) rfl) rfl)]
     all_goals rfl
   ·intro i2 s2 hi2
    refine D<|D<|F<|C rfl<|K rfl<|I rfl<|V rfl rfl<|X rfl rfl<|E (kt<|kt<|kt<|kn) fun _=>?_
    refine b5 rfl (b6 hi2)<|b0 (kn) ?_
    exact ⟨rfl,rfl⟩
   ·intro s2 hs
    replace h:=d1 h hs
    intro _
    refine D<|F<|C rfl<|E (kt<|kn) fun _=>?_
    exact L (by cases h;rfl)
   ·intro v2 ze hv hR
    replace h:=d2 h hv
    cases h
    exact hR
  ·intro v0 ze hv hR
   replace h:=d2 h hv
   cases h
   exact hR
theorem ck128:CK f128 (Rq [Af 2 0,Af 3 1,Ai 4] [2,3]<|Sq (Rq [Ad 5 0] [2,3,5]<|Bl 0<|Lo [2,3,5]<|Sq (Rq [Aa 7 5,Ac 8 3 0,Ab 9 8,Ag 10 9,Ap 11 7 10] [2,3,5,11]<|Co 11 (Sk [2,3,5])<|Ex 0 [2,3])<|Sq (Bl 1<|Sq (Dr [14,15,16,17,18,19,20,21,22,23,24,25,26,27,28,29,30] [Ac 14 3 0,Ab 15 14,Aa 16 5,Ah 17 15 16 1,Ab 18 17,Bt 19 18 0,Aa 20 19,Am 21 3 0 20,Al 22 21 20,Az 23 5 20,Cr 24 22 23 1 20,Al 25 24 20,Am 26 2 0 20,Al 27 26 20,Ba 28 27 20,Br 29 25 28 20,Ar 30 20 29] [2,3,5,30])<|Co 30 (Rq [Ai 4] [4]<|.ret)<|Sk [2,3,5])<|Re [Aa 12 5,Ao 13 12 1,Aa 5 13] [2,3,5])<|Sq (Rq [Ad 6 0] [2,3,6]<|Bl 2<|Lo [2,3,6]<|Sq (Rq [Aa 31 6,Ac 32 3 1,Ab 33 32,Ag 34 33,Ap 35 31 34] [2,3,6,35]<|Co 35 (Sk [2,3,6])<|Ex 2 [])<|Sq (Bl 3<|Sq (Dr [38,39,40,41,42,43,44,45,46,47,48,49,50,51,52,53,54,55,56] [Ac 38 3 1,Ab 39 38,Aa 40 6,Ah 41 39 40 3,Aj 42 41 0,Ab 43 42,Bt 44 43 0,Aa 45 44,Am 46 3 1 45,Al 47 46 45,Az 48 6 45,Cr 49 47 48 3 45,Bi 50 49 0 45,Al 51 50 45,Am 52 2 1 45,Al 53 52 45,Ba 54 53 45,Br 55 51 54 45,Ar 56 45 55] [2,3,6,56])<|Co 56 (Rq [Ai 4] [4]<|.ret)<|Sk [2,3,6])<|Re [Aa 36 6,Ao 37 36 1,Aa 6 37] [2,3,6])<|Rq [Bw 4] [4]<|.ret) [.tmp 4]:= by decide +kernel
theorem c128 (t:Types) (g:Graph) (r:Bool) (h:ref17_Typed t g=some r):Sound prog 128 [eTypes t,eGraph g] (.sh (eB r)):= by
 refine Fn ck128 fun hw=>?_
 unfold ref17_Typed at h
 refine D<|F<|a1 rfl rfl<|a1 rfl rfl<|C rfl<|E (kt<|kt<|kn) fun _=>?_
 refine D<|D<|F<|C rfl<|E (kt<|kt<|kt<|kn) fun _=>?_
 obtain ⟨o0,ho0,h⟩:=d0 h
 refine d5 ho0 (fun (i0:Int) (_:Unit)=>[(2,.tv (.pt (eTypes t).cells)),(3,.tv (.pt (eGraph g).cells)),(5,.tv (eI i0))]) (fun (_:Unit)=>[(2,.tv (.pt (eTypes t).cells)),(3,.tv (.pt (eGraph g).cells))]) (fun zv ze=>resIs ([.tmp 4]) (.sh (eB zv)) ze) rfl ?_ ?_ ?_ ?_
 ·clear h ho0
  intro i0 s0 r0 hi0 h hw0
  refine D<|D<|F<|C rfl<|K rfl<|I rfl<|V rfl rfl<|X rfl rfl<|E (kt<|kt<|kt<|kt<|kn) fun _=>?_
  refine b3 rfl (b4 hi0)<|P (kt<|kt<|kt<|kn) fun _=>?_
  refine D<|a8<|D<|d4 rfl<|K rfl<|I rfl<|C rfl ?_
  obtain ⟨x17,hx17,h⟩:=J h
  refine a2 rfl rfl rfl hx17 rfl<|I rfl<|X rfl rfl<|C rfl ?_
  obtain ⟨x30,hx30,h⟩:=J h
  refine gX 10 [21,22,23,24,25,26,27,28,29] 30 x30 (decide (x17<0)) (fun hg30=>?_) (fun hg30=>?_) ?_
  ·replace h:=M hg30 hx30
   cases h
   refine H rfl hg30<|H rfl hg30<|H rfl hg30<|H rfl hg30<|H rfl hg30<|H rfl hg30<|H rfl hg30<|H rfl hg30<|H rfl hg30<|Z rfl hg30 rfl ?_
   exact ⟨⟨_,_,_,_,_,_,_,_,_,rfl⟩⟩
  ·replace h:=O hg30 hx30
   refine G rfl hg30<|K rfl<|G rfl hg30<|I rfl<|G rfl hg30<|C rfl ?_
   obtain ⟨x24,hx24,h⟩:=J h
   refine G rfl hg30<|a2 rfl rfl rfl hx24 rfl<|G rfl hg30<|I rfl<|G rfl hg30<|K rfl<|G rfl hg30<|I rfl<|G rfl hg30<|V rfl rfl<|G rfl hg30<|d6 rfl rfl ?_
   cases h
   refine a0 rfl hg30 rfl ?_
   exact ⟨⟨_,_,_,_,_,_,_,_,_,rfl⟩⟩
  rintro _ ⟨_,_,_,_,_,_,_,_,_,rfl⟩
  refine E (kt<|kt<|kt<|kt<|kn) fun _=>?_
  refine U rfl (fun hc30=>?_) (fun hc30=>?_)
  ·replace h:=M hc30 h
   refine D<|F<|C rfl<|E (kt<|kn) fun _=>?_
   refine L ?_
   cases h
   exact ⟨_,rfl,rfl⟩
  ·replace h:=O hc30 h
   refine P (kt<|kt<|kt<|kn) fun _=>?_
   refine F<|C rfl<|a5 rfl rfl<|C rfl<|E (kt<|kt<|kt<|kn) ?_
   cases h
   refine ⟨_,rfl,?_⟩
   rw [Ktv rfl (Ktv rfl (Ktv rfl (Knil _)))]
   rw [b2 (a4 (hw0 5)) hi0 (e4 (e9 (f0 (hw0 3)) (i:=0) rfl) rfl)]
   all_goals rfl
 ·intro i0 s0 hi0
  refine D<|D<|F<|C rfl<|K rfl<|I rfl<|V rfl rfl<|X rfl rfl<|E (kt<|kt<|kt<|kt<|kn) fun _=>?_
  refine b5 rfl (b6 hi0)<|b0 (kt<|kt<|kn) ?_
  exact ⟨rfl,rfl⟩
 ·intro s0 hs
  replace h:=d1 h hs
  intro _
  refine D<|D<|F<|C rfl<|E (kt<|kt<|kt<|kn) fun _=>?_
  obtain ⟨o2,ho2,h⟩:=d0 h
  refine d5 ho2 (fun (i2:Int) (_:Unit)=>[(2,.tv (.pt (eTypes t).cells)),(3,.tv (.pt (eGraph g).cells)),(6,.tv (eI i2))]) (fun (_:Unit)=>[]) (fun zv ze=>resIs ([.tmp 4]) (.sh (eB zv)) ze) rfl ?_ ?_ ?_ ?_
  ·clear h ho2
   intro i2 s2 r2 hi2 h hw2
   refine D<|D<|F<|C rfl<|K rfl<|I rfl<|V rfl rfl<|X rfl rfl<|E (kt<|kt<|kt<|kt<|kn) fun _=>?_
   refine b3 rfl (b4 hi2)<|P (kt<|kt<|kt<|kn) fun _=>?_
   refine D<|a8<|D<|d4 rfl<|K rfl<|I rfl<|C rfl ?_
   obtain ⟨x41,hx41,h⟩:=J h
   refine a2 rfl rfl rfl hx41 rfl<|a6 rfl<|I rfl<|X rfl rfl<|C rfl ?_
   obtain ⟨x56,hx56,h⟩:=J h
   refine gX 11 [46,47,48,49,50,51,52,53,54,55] 56 x56 (decide (x41.Type'<0)) (fun hg56=>?_) (fun hg56=>?_) ?_
   ·replace h:=M hg56 hx56
    cases h
    refine H rfl hg56<|H rfl hg56<|H rfl hg56<|H rfl hg56<|H rfl hg56<|H rfl hg56<|H rfl hg56<|H rfl hg56<|H rfl hg56<|H rfl hg56<|Z rfl hg56 rfl ?_
    exact ⟨⟨_,_,_,_,_,_,_,_,_,_,rfl⟩⟩
   ·replace h:=O hg56 hx56
    refine G rfl hg56<|K rfl<|G rfl hg56<|I rfl<|G rfl hg56<|C rfl ?_
    obtain ⟨x49,hx49,h⟩:=J h
    refine G rfl hg56<|a2 rfl rfl rfl hx49 rfl<|G rfl hg56<|a6 rfl<|G rfl hg56<|I rfl<|G rfl hg56<|K rfl<|G rfl hg56<|I rfl<|G rfl hg56<|V rfl rfl<|G rfl hg56<|d6 rfl rfl ?_
    cases h
    refine a0 rfl hg56 rfl ?_
    exact ⟨⟨_,_,_,_,_,_,_,_,_,_,rfl⟩⟩
   rintro _ ⟨_,_,_,_,_,_,_,_,_,_,rfl⟩
   refine E (kt<|kt<|kt<|kt<|kn) fun _=>?_
   refine U rfl (fun hc56=>?_) (fun hc56=>?_)
   ·replace h:=M hc56 h
    refine D<|F<|C rfl<|E (kt<|kn) fun _=>?_
    refine L ?_
    cases h
    exact ⟨_,rfl,rfl⟩
   ·replace h:=O hc56 h
    refine P (kt<|kt<|kt<|kn) fun _=>?_
    refine F<|C rfl<|a5 rfl rfl<|C rfl<|E (kt<|kt<|kt<|kn) ?_
    cases h
    refine ⟨_,rfl,?_⟩
    rw [Ktv rfl (Ktv rfl (Ktv rfl (Knil _)))]
    rw [b2 (a4 (hw2 6)) hi2 (e4 (e9 (f0 (hw2 3)) (i:=1) rfl) rfl)]
    all_goals rfl
  ·intro i2 s2 hi2
   refine D<|D<|F<|C rfl<|K rfl<|I rfl<|V rfl rfl<|X rfl rfl<|E (kt<|kt<|kt<|kt<|kn) fun _=>?_
   refine b5 rfl (b6 hi2)<|b0 (kn) ?_
   exact ⟨rfl,rfl⟩
  ·intro s2 hs
   replace h:=d1 h hs
   intro _
   refine D<|F<|C rfl<|E (kt<|kn) fun _=>?_
   exact L (by cases h;rfl)
  ·intro v2 ze hv hR
   replace h:=d2 h hv
   cases h
   exact hR
 ·intro v0 ze hv hR
  replace h:=d2 h hv
  cases h
  exact hR
theorem ck118:CK f118 (Rq [Af 3 0,Ad 6 0] [1,2,3]<|Sq (Rq [Ae 10 3 2,Au 11 74 10,Aa 9 11,At 12 9 0,At 13 9 1,Aa 7 12,Aa 8 13] [1,2,3,8]<|Rq [Aa 14 8,Ax 15 14 0] [1,2,3,8,15]<|Co 15 (Rq [Aa 16 8,Aa 6 16] [6]<|.ret)<|Sk [1,2,3])<|Sq (Rq [Aa 17 1,Ac 18 3 0,Ab 19 18,Ag 20 19,Cy 21 20 1,Dy 22 119 17 0 21,Ay 23 22,Aa 24 23,Az 25 2 24,Am 26 3 0 24,Al 27 26 24,Ba 28 27 24,Eb 29 28 1 24,Ew 30 119 25 0 29 24,Bq 31 30 24,Ar 32 24 31] [32]<|Co 32 (Rq [Ad 6 6] [6]<|.ret)<|Sk [])<|Rq [Ad 6 0] [6]<|.ret) [.tmp 6]:= by decide +kernel
theorem c118 (t:Types) (a:Int) (b:Int) (r:Int) (h:ref04_given t a b=some r):Sound prog 118 [eTypes t,eI a,eI b] (.sh (eI r)):= by
 refine Fn ck118 fun hw=>?_
 unfold ref04_given at h
 refine D<|F<|a1 rfl rfl<|C rfl<|E (kt<|kt<|kt<|kn) fun _=>?_
 refine D<|D<|F<|R rfl rfl (show _=eTypes t from rfl) ?_
 obtain ⟨x11,hx11,h⟩:=J h
 refine e6 rfl (c74 t _ hx11)<|e8 rfl<|b9 rfl rfl<|b9 rfl rfl<|C rfl<|C rfl<|E (kt<|kt<|kt<|kt<|kn) fun _=>?_
 refine D<|F<|C rfl<|a7 rfl rfl<|E (kt<|kt<|kt<|kt<|kt<|kn) fun _=>?_
 refine U rfl (fun hc15=>?_) (fun hc15=>?_)
 ·replace h:=M hc15 h
  refine D<|F<|C rfl<|C rfl<|E (kt<|kn) fun _=>?_
  exact L (by cases h;rfl)
 ·replace h:=O hc15 h
  refine P (kt<|kt<|kt<|kn) fun _=>?_
  refine D<|D<|F<|C rfl<|K rfl<|I rfl<|V rfl rfl<|g0 rfl rfl ?_
  obtain ⟨x22,hx22,h⟩:=J h
  refine W rfl (c119 a 0 (w64 ((t.Nodes.length:Int) - 1)) _ hx22)<|b7 rfl<|C rfl ?_
  obtain ⟨x32,hx32,h⟩:=J h
  refine gX 8 [25,26,27,28,29,30,31] 32 x32 (!x22) (fun hg32=>?_) (fun hg32=>?_) ?_
  ·replace h:=M hg32 hx32
   cases h
   refine H rfl hg32<|H rfl hg32<|H rfl hg32<|H rfl hg32<|H rfl hg32<|H rfl hg32<|H rfl hg32<|Z rfl hg32 rfl ?_
   exact ⟨⟨_,_,_,_,_,_,_,rfl⟩⟩
  ·replace h:=O hg32 hx32
   refine G rfl hg32<|C rfl<|G rfl hg32<|K rfl<|G rfl hg32<|I rfl<|G rfl hg32<|V rfl rfl<|G rfl hg32<|g0 rfl rfl ?_
   obtain ⟨x30,hx30,h⟩:=J h
   refine G rfl hg32<|W rfl (c119 b 0 (w64 ((t.Nodes.length:Int) - 1)) _ hx30)<|G rfl hg32<|b7 rfl ?_
   cases h
   refine a0 rfl hg32 rfl ?_
   exact ⟨⟨_,_,_,_,_,_,_,rfl⟩⟩
  rintro _ ⟨_,_,_,_,_,_,_,rfl⟩
  refine E (kt<|kn) fun _=>?_
  refine U rfl (fun hc32=>?_) (fun hc32=>?_)
  ·replace h:=M hc32 h
   refine D<|F<|C rfl<|E (kt<|kn) fun _=>?_
   exact L (by cases h;rfl)
  ·replace h:=O hc32 h
   refine P (kn) fun _=>?_
   refine D<|F<|C rfl<|E (kt<|kn) fun _=>?_
   exact L (by cases h;rfl)
theorem ck117:CK f117 (Rq [Af 2 0,Bk 4 4,Ad 5 0] [1,2]<|Sq (Rq [Ae 11 2 2,Aa 12 1,Aa 13 1,Bf 14 118 11 12 13,Aa 6 14] [1,2,6]<|Rq [Aa 15 6,Ax 16 15 0] [1,2,6,16]<|Co 16 (Rq [Aa 17 6,Bk 4 4,Aa 5 17] [4,5]<|.ret)<|Sk [1,2])<|Rq [Bk 7 4] [1,2,7]<|Rq [Ae 18 2 2,Aa 19 1,An 20 168 18 19,Bb 8 20] [7,8]<|Sq (Rq [Ad 9 0] [7,8,9]<|Bl 0<|Lo [7,8,9]<|Sq (Rq [Aa 21 9,Aa 22 8,Ag 23 22,Ap 24 21 23] [7,8,9,24]<|Co 24 (Sk [7,8,9])<|Ex 0 [7])<|Sq (Bl 1<|Rq [Aa 27 8,Aa 28 9,Ah 29 27 28 4,Ae 30 29 4,Df 10 0 0 1,Ak 4 10 30] [7,8,9,10]<|Rq [Cq 31 1,Ac 32 10 3,Ab 33 32,Bc 34 1 31 33,Ac 35 10 3,Bm 1 35 34] [7,8,9,10]<|Re [Bb 36 7,Ae 37 10 4,Bh 38 4 37,Bc 39 4 36 38,Bb 7 39] [7,8,9])<|Re [Aa 25 9,Ao 26 25 1,Aa 9 26] [7,8,9])<|Rq [Aa 40 7,Bb 4 40,Ad 5 0] [4,5]<|.ret) [.tmp 4,.tmp 5]:= by decide +kernel
theorem c117 (t:Types) (a:Int) (r:(List Attr × Int)) (h:ref04_Attrs t a=some r):Sound prog 117 [eTypes t,eI a] (.tp [lA r.1,eI r.2]):= by
 refine Fn ck117 fun hw=>?_
 unfold ref04_Attrs at h
 refine D<|F<|a1 rfl rfl<|f2<|C rfl<|E (kt<|kt<|kn) fun _=>?_
 refine D<|D<|F<|R rfl rfl (show _=eTypes t from rfl)<|C rfl<|C rfl ?_
 obtain ⟨x14,hx14,h⟩:=J h
 refine W rfl (c118 t a a _ hx14)<|C rfl<|E (kt<|kt<|kt<|kn) fun _=>?_
 refine D<|F<|C rfl<|a7 rfl rfl<|E (kt<|kt<|kt<|kt<|kn) fun _=>?_
 refine U rfl (fun hc16=>?_) (fun hc16=>?_)
 ·replace h:=M hc16 h
  refine D<|F<|C rfl<|f2<|C rfl<|E (ko<|kt<|kn) fun _=>?_
  refine L ?_
  cases h
  exact ⟨by decide,rfl⟩
 ·replace h:=O hc16 h
  refine P (kt<|kt<|kn) fun _=>?_
  refine D<|F<|f2<|E (kt<|kt<|ko<|kn) fun _=>?_
  refine D<|F<|R rfl rfl (show _=eTypes t from rfl)<|C rfl ?_
  obtain ⟨x20,hx20,h⟩:=J h
  refine g4 rfl (c168 t a _ hx20)<|f7 rfl<|E (ko<|ko<|kn) fun _=>?_
  refine D<|D<|F<|C rfl<|E (ko<|ko<|kt<|kn) fun _=>?_
  obtain ⟨s0,hs0,h⟩:=J h
  refine f8 hs0 (fun (i0:Int) (s0:List Attr)=>[(7,.ow (lA s0)),(8,.ow (lA x20)),(9,.tv (eI i0))]) (fun (s0:List Attr)=>[(7,.ow (lA s0))]) rfl ?_ ?_ ?_
  ·clear h hs0
   intro i0 s0 r0 hi0 h hw0
   refine D<|D<|F<|C rfl<|C rfl<|V rfl rfl<|X rfl rfl<|E (ko<|ko<|kt<|kt<|kn) fun _=>?_
   refine b3 rfl (b4 hi0)<|P (ko<|ko<|kt<|kn) fun _=>?_
   refine D<|a8<|D<|F<|C rfl<|C rfl ?_
   obtain ⟨x29,hx29,h⟩:=J h
   refine a2 rfl rfl rfl hx29 rfl<|R rfl rfl (show _=eAttr x29 from rfl)<|b1 rfl<|a9 rfl rfl rfl rfl rfl<|E (ko<|ko<|kt<|kb<|kn) fun _=>?_
   refine D<|F<|e2 (e:=eS) (l:=[]) rfl rfl (fun _=>rfl)<|a3 rfl<|I rfl ?_
   obtain ⟨x34,hx34,h⟩:=J h
   refine e5 rfl rfl rfl rfl hx34 rfl<|a3 rfl<|f4 rfl rfl rfl (by decide) rfl rfl<|E (ko<|ko<|kt<|kb<|kn) fun _=>?_
   refine F<|f7 rfl<|R rfl rfl (show _=eAttr (Attr.mk x29.Name x29.Low x29.High x34) from rfl)<|e2 (e:=eAttr) (l:=[Attr.mk x29.Name x29.Low x29.High x34]) rfl rfl (fun _=>rfl) ?_
   obtain ⟨x39,hx39,h⟩:=J h
   refine e5 rfl rfl rfl rfl hx39 rfl<|f7 rfl<|E (ko<|ko<|kt<|kn) fun _=>?_
   refine F<|C rfl<|a5 rfl rfl<|C rfl<|E (ko<|ko<|kt<|kn) ?_
   cases h
   show Env.keep _ _=_
   rw [Kow rfl (Kow rfl (Ktv rfl (Knil _)))]
   rw [b2 (a4 (hw0 9)) hi0 (e4 (l9 (hw0 8)) rfl)]
   all_goals rfl
  ·intro i0 s0 hi0
   refine D<|D<|F<|C rfl<|C rfl<|V rfl rfl<|X rfl rfl<|E (ko<|ko<|kt<|kt<|kn) fun _=>?_
   refine b5 rfl (b6 hi0)<|b0 (ko<|kn) ?_
   exact ⟨rfl,rfl⟩
  ·intro _
   refine D<|F<|C rfl<|g1 rfl<|C rfl<|E (kt<|kt<|kn) fun _=>?_
   refine L ?_
   cases h
   exact ⟨by decide,rfl⟩
theorem ck129:CK f129 (Rq [Af 4 0,Af 5 1,Df 8 0 0 1,Ai 9] [2,3,4,5,8]<|Sq (Rq [Aa 12 2,Bt 13 12 0,Aa 14 13,Az 15 2 14,Am 16 5 0 14,Bi 17 16 0 14,Al 18 17 14,Ba 19 18 14,Br 20 15 19 14,Ar 21 14 20] [2,3,4,5,8,21]<|Co 21 (Rq [Dz 22 0 0 1,Ak 4 8 22,Ai 9] [8,9]<|.ret)<|Sk [2,3,4,5,8])<|Sq (Dr [10,11,23,24,25,26,27,28,29,30,31,32,33] [Ae 24 4 2,Ac 25 5 0,Aj 26 25 0,Ab 27 26,Aa 28 2,Ah 29 27 28 1,Ab 30 29,An 31 117 24 30,Aa 23 31,At 32 23 0,At 33 23 1,Bb 10 32,Aa 11 33] [3,8,10,11])<|Sq (Rq [Aa 34 11,Ax 35 34 0,Aa 36 35,Az 37 3 36,Fd 38 37 0 36,Ar 39 36 38,Aa 40 39,Az 41 3 40,Az 42 10 40,Ba 43 42 40,Br 44 41 43 40,Ar 45 40 44] [3,8,10,45]<|Co 45 (Rq [Dz 46 0 0 1,Ak 4 8 46,Ai 9] [8,9]<|.ret)<|Sk [3,8,10])<|Rq [Aa 47 10,Aa 48 3,Ah 49 47 48 4,Ae 50 49 4,Ak 4 8 50,Bw 9] [8,9]<|.ret) [.cell 8 (some 4),.tmp 9]:= by decide +kernel
theorem c129 (t:Types) (p:Pattern) (node:Int) (index:Int) (r:(Attr × Bool)) (h:ref21_attr t p node index=some r):Sound prog 129 [eTypes t,ePattern p,eI node,eI index] (.tp [eAttr r.1,eB r.2]):= by
 refine Fn ck129 fun hw=>?_
 unfold ref21_attr at h
 refine D<|F<|a1 rfl rfl<|a1 rfl rfl<|b1 rfl<|C rfl<|E (kt<|kt<|kt<|kt<|kb<|kn) fun _=>?_
 refine D<|D<|F<|C rfl<|X rfl rfl<|C rfl ?_
 refine gO 7 [15,16,17,18,19,20] 21 (decide (node<0)) (decide ((p.Graph.Nodes.length:Int)<=node)) (fun hg21=>?_) (fun hg21=>?_) ?_
 ·refine H rfl hg21<|H rfl hg21<|H rfl hg21<|H rfl hg21<|H rfl hg21<|H rfl hg21<|Z rfl hg21 rfl ?_
  exact ⟨⟨_,_,_,_,_,_,rfl⟩⟩
 ·refine G rfl hg21<|C rfl<|G rfl hg21<|K rfl<|G rfl hg21<|a6 rfl<|G rfl hg21<|I rfl<|G rfl hg21<|V rfl rfl<|G rfl hg21<|d6 rfl rfl<|a0 rfl hg21 rfl ?_
  exact ⟨⟨_,_,_,_,_,_,rfl⟩⟩
 rintro _ ⟨_,_,_,_,_,_,rfl⟩
 refine E (kt<|kt<|kt<|kt<|kb<|kt<|kn) fun _=>?_
 refine U rfl (fun hc21=>?_) (fun hc21=>?_)
 ·replace h:=M hc21 h
  refine D<|F<|e7 rfl rfl (show _=eAttr (Attr.mk (⟨#[]⟩:ByteArray) 0 0 []) from rfl)<|a9 rfl rfl rfl rfl rfl<|C rfl<|E (kb<|kt<|kn) fun _=>?_
  refine L ?_
  cases h
  exact ⟨by decide,rfl⟩
 ·replace h:=O hc21 h
  refine P (kt<|kt<|kt<|kt<|kb<|kn) fun _=>?_
  refine D<|d4 rfl<|R rfl rfl (show _=eTypes t from rfl)<|K rfl<|a6 rfl<|I rfl<|C rfl ?_
  obtain ⟨x29,hx29,h⟩:=J h
  refine a2 rfl rfl rfl hx29 rfl<|I rfl ?_
  obtain ⟨x31,hx31,h⟩:=J h
  refine e6 rfl (c117 t x29 _ hx31)<|e8 rfl<|b9 rfl rfl<|b9 rfl rfl<|g1 rfl<|C rfl<|E (kt<|kb<|kt<|kt<|kn) fun _=>?_
  refine D<|D<|F<|C rfl<|a7 rfl rfl<|C rfl ?_
  refine gO 3 [37,38] 39 (!decide (x31.2=0)) (decide (index<0)) (fun hg39=>?_) (fun hg39=>?_) ?_
  ·refine H rfl hg39<|H rfl hg39<|Z rfl hg39 rfl ?_
   exact ⟨⟨_,_,rfl⟩⟩
  ·refine G rfl hg39<|C rfl<|G rfl hg39<|X rfl rfl<|a0 rfl hg39 rfl ?_
   exact ⟨⟨_,_,rfl⟩⟩
  rintro _ ⟨_,_,rfl⟩
  refine C rfl ?_
  refine gO 5 [41,42,43,44] 45 ((!decide (x31.2=0))||(decide (index<0))) (decide ((x31.1.length:Int)<=index)) (fun hg45=>?_) (fun hg45=>?_) ?_
  ·refine H rfl hg45<|H rfl hg45<|H rfl hg45<|H rfl hg45<|Z rfl hg45 rfl ?_
   exact ⟨⟨_,_,_,_,rfl⟩⟩
  ·refine G rfl hg45<|C rfl<|G rfl hg45<|C rfl<|G rfl hg45<|V rfl rfl<|G rfl hg45<|d6 rfl rfl<|a0 rfl hg45 rfl ?_
   exact ⟨⟨_,_,_,_,rfl⟩⟩
  rintro _ ⟨_,_,_,_,rfl⟩
  refine E (kt<|kb<|kt<|kt<|kn) fun _=>?_
  refine U rfl (fun hc45=>?_) (fun hc45=>?_)
  ·replace h:=M hc45 h
   refine D<|F<|e7 rfl rfl (show _=eAttr (Attr.mk (⟨#[]⟩:ByteArray) 0 0 []) from rfl)<|a9 rfl rfl rfl rfl rfl<|C rfl<|E (kb<|kt<|kn) fun _=>?_
   refine L ?_
   cases h
   exact ⟨by decide,rfl⟩
  ·replace h:=O hc45 h
   refine P (kt<|kb<|kt<|kn) fun _=>?_
   refine D<|F<|C rfl<|C rfl ?_
   obtain ⟨x49,hx49,h⟩:=J h
   refine a2 rfl rfl rfl hx49 rfl<|R rfl rfl (show _=eAttr x49 from rfl)<|a9 rfl rfl rfl rfl rfl<|C rfl<|E (kb<|kt<|kn) fun _=>?_
   refine L ?_
   cases h
   exact ⟨by decide,rfl⟩
theorem ck130:CK f130 (Rq [Ai 2] [0]<|Rq [Aa 3 0,⟨some 4,.bin (.i) .geq (.s 3) (.c (.int .i64 (-1000000))),none⟩,Aa 5 4,As 6 0 5,Cn 7 6 1000000 5,Aq 8 5 7,Aa 2 8] [2]<|.ret) [.tmp 2]:= by decide +kernel
theorem c130 (n:Int) (r:Bool) (h:ref21_bounded n=some r):Sound prog 130 [eI n] (.sh (eB r)):= by
 refine Fn ck130 fun hw=>?_
 unfold ref21_bounded at h
 refine D<|F<|C rfl<|E (kt<|kn) fun _=>?_
 refine D<|F<|C rfl<|d6 rfl rfl<|C rfl ?_
 refine gA 3 [6,7] 8 (decide ((-1000000)<=n)) (decide (n<=1000000)) (fun hg8=>?_) (fun hg8=>?_) ?_
 ·refine G rfl hg8<|C rfl<|G rfl hg8<|f1 rfl rfl<|Z rfl hg8 rfl ?_
  exact ⟨⟨_,_,rfl⟩⟩
 ·refine H rfl hg8<|H rfl hg8<|a0 rfl hg8 rfl ?_
  exact ⟨⟨_,_,rfl⟩⟩
 rintro _ ⟨_,_,rfl⟩
 refine C rfl<|E (kt<|kn) fun _=>?_
 exact L (by cases h;rfl)
theorem ck219:CK f219 (Rq [Af 3 1,Ad 4 0] [0,3]<|Sq (Rq [Ac 5 3 0,Ab 6 5,⟨some 7,.bin (.i) .lss (.s 6) (.c (.int .i64 (-1))),none⟩,Aa 8 7,Am 9 3 0 8,Al 10 9 8,Az 11 0 8,Br 12 10 11 8,Ar 13 8 12,Aa 14 13,Am 15 3 1 14,Al 16 15 14,Dg 17 16 (-1000000) 14,Ar 18 14 17,Aa 19 18,Am 20 3 1 19,Al 21 20 19,Bu 22 21 1000000 19,Ar 23 19 22] [23]<|Co 23 (Rq [Ad 4 6] [4]<|.ret)<|Sk [])<|Rq [Ad 4 0] [4]<|.ret) [.tmp 4]:= by decide +kernel
theorem c219 (n:Int) (t:Term) (r:Int) (h:ref03_within n t=some r):Sound prog 219 [eI n,eTerm t] (.sh (eI r)):= by
 refine Fn ck219 fun hw=>?_
 unfold ref03_within at h
 refine D<|F<|a1 rfl rfl<|C rfl<|E (kt<|kt<|kn) fun _=>?_
 refine D<|D<|F<|K rfl<|I rfl<|X rfl rfl<|C rfl ?_
 refine gO 5 [9,10,11,12] 13 (decide (t.Var<(-1))) (decide (n<=t.Var)) (fun hg13=>?_) (fun hg13=>?_) ?_
 ·refine H rfl hg13<|H rfl hg13<|H rfl hg13<|H rfl hg13<|Z rfl hg13 rfl ?_
  exact ⟨⟨_,_,_,_,rfl⟩⟩
 ·refine G rfl hg13<|K rfl<|G rfl hg13<|I rfl<|G rfl hg13<|C rfl<|G rfl hg13<|d6 rfl rfl<|a0 rfl hg13 rfl ?_
  exact ⟨⟨_,_,_,_,rfl⟩⟩
 rintro _ ⟨_,_,_,_,rfl⟩
 refine C rfl ?_
 refine gO 4 [15,16,17] 18 ((decide (t.Var<(-1)))||(decide (n<=t.Var))) (decide (t.Add<(-1000000))) (fun hg18=>?_) (fun hg18=>?_) ?_
 ·refine H rfl hg18<|H rfl hg18<|H rfl hg18<|Z rfl hg18 rfl ?_
  exact ⟨⟨_,_,_,rfl⟩⟩
 ·refine G rfl hg18<|K rfl<|G rfl hg18<|I rfl<|G rfl hg18<|X rfl rfl<|a0 rfl hg18 rfl ?_
  exact ⟨⟨_,_,_,rfl⟩⟩
 rintro _ ⟨_,_,_,rfl⟩
 refine C rfl ?_
 refine gO 4 [20,21,22] 23 (((decide (t.Var<(-1)))||(decide (n<=t.Var)))||(decide (t.Add<(-1000000)))) (decide (1000000<t.Add)) (fun hg23=>?_) (fun hg23=>?_) ?_
 ·refine H rfl hg23<|H rfl hg23<|H rfl hg23<|Z rfl hg23 rfl ?_
  exact ⟨⟨_,_,_,rfl⟩⟩
 ·refine G rfl hg23<|K rfl<|G rfl hg23<|I rfl<|G rfl hg23<|e3 rfl rfl<|a0 rfl hg23 rfl ?_
  exact ⟨⟨_,_,_,rfl⟩⟩
 rintro _ ⟨_,_,_,rfl⟩
 refine E (kt<|kn) fun _=>?_
 refine U rfl (fun hc23=>?_) (fun hc23=>?_)
 ·replace h:=M hc23 h
  refine D<|F<|C rfl<|E (kt<|kn) fun _=>?_
  exact L (by cases h;rfl)
 ·replace h:=O hc23 h
  refine P (kn) fun _=>?_
  refine D<|F<|C rfl<|E (kt<|kn) fun _=>?_
  exact L (by cases h;rfl)
theorem ck177:CK f177 (Rq [Af 3 1,Ad 4 0] [0,3]<|Sq (Rq [Ac 6 3 0,Ab 7 6,Ax 8 7 1,Aa 9 8,Av 10 3 0 9,Aw 11 10 9,Fb 12 11 2 9,Aq 13 9 12] [0,3,13]<|Co 13 (Rq [Ad 4 1] [4]<|.ret)<|Sk [0,3])<|Sq (Rq [Aa 14 0,Ac 15 3 1,Ae 16 15 2,An 17 219 14 16,Aa 5 17] [0,3,5]<|Rq [Aa 18 5,Ax 19 18 0] [0,3,5,19]<|Co 19 (Rq [Aa 20 5,Aa 4 20] [4]<|.ret)<|Sk [0,3])<|Rq [Aa 21 0,Ac 22 3 3,Ae 23 22 2,An 24 219 21 23,Aa 4 24] [4]<|.ret) [.tmp 4]:= by decide +kernel
theorem c177 (n:Int) (x_1:Test) (r:Int) (h:ref03_One n x_1=some r):Sound prog 177 [eI n,eTest x_1] (.sh (eI r)):= by
 refine Fn ck177 fun hw=>?_
 unfold ref03_One at h
 refine D<|F<|a1 rfl rfl<|C rfl<|E (kt<|kt<|kn) fun _=>?_
 refine D<|D<|F<|K rfl<|I rfl<|a7 rfl rfl<|C rfl ?_
 refine gA 4 [10,11,12] 13 (!decide (x_1.Kind=1)) (!decide (x_1.Kind=2)) (fun hg13=>?_) (fun hg13=>?_) ?_
 ·refine G rfl hg13<|K rfl<|G rfl hg13<|I rfl<|G rfl hg13<|a7 rfl rfl<|Z rfl hg13 rfl ?_
  exact ⟨⟨_,_,_,rfl⟩⟩
 ·refine H rfl hg13<|H rfl hg13<|H rfl hg13<|a0 rfl hg13 rfl ?_
  exact ⟨⟨_,_,_,rfl⟩⟩
 rintro _ ⟨_,_,_,rfl⟩
 refine E (kt<|kt<|kt<|kn) fun _=>?_
 refine U rfl (fun hc13=>?_) (fun hc13=>?_)
 ·replace h:=M hc13 h
  refine D<|F<|C rfl<|E (kt<|kn) fun _=>?_
  exact L (by cases h;rfl)
 ·replace h:=O hc13 h
  refine P (kt<|kt<|kn) fun _=>?_
  refine D<|D<|F<|C rfl<|K rfl<|R rfl rfl (show _=eTerm x_1.Left from rfl) ?_
  obtain ⟨x17,hx17,h⟩:=J h
  refine W rfl (c219 n x_1.Left _ hx17)<|C rfl<|E (kt<|kt<|kt<|kn) fun _=>?_
  refine D<|F<|C rfl<|a7 rfl rfl<|E (kt<|kt<|kt<|kt<|kn) fun _=>?_
  refine U rfl (fun hc19=>?_) (fun hc19=>?_)
  ·replace h:=M hc19 h
   refine D<|F<|C rfl<|C rfl<|E (kt<|kn) fun _=>?_
   exact L (by cases h;rfl)
  ·replace h:=O hc19 h
   refine P (kt<|kt<|kn) fun _=>?_
   refine D<|F<|C rfl<|K rfl<|R rfl rfl (show _=eTerm x_1.Right from rfl) ?_
   obtain ⟨x24,hx24,h⟩:=J h
   refine W rfl (c219 n x_1.Right _ hx24)<|C rfl<|E (kt<|kn) fun _=>?_
   exact L (by cases h;rfl)
theorem ck131:CK f131 (Rq [Ad 4 0] [0,1]<|Sq (Rq [Aa 7 0,Bt 8 7 0,Aa 9 8,Az 10 0 9,Bu 11 10 12 9,Ar 12 9 11] [0,1,12]<|Co 12 (Rq [Ad 4 6] [4]<|.ret)<|Sk [0,1])<|Sq (Rq [Aa 13 1,Ag 14 13,Bg 15 14 40] [0,1,15]<|Co 15 (Rq [Ad 4 3] [4]<|.ret)<|Sk [0,1])<|Sq (Rq [Ad 5 0] [0,1,5]<|Bl 0<|Lo [0,1,5]<|Sq (Rq [Aa 16 5,Aa 17 1,Ag 18 17,Ap 19 16 18] [0,1,5,19]<|Co 19 (Sk [0,1,5])<|Ex 0 [])<|Sq (Bl 1<|Rq [Aa 22 0,Aa 23 1,Aa 24 5,Ah 25 23 24 5,Ae 26 25 5,An 27 177 22 26,Aa 6 27] [0,1,5,6]<|Rq [Aa 28 6,Ax 29 28 0] [0,1,5,6,29]<|Co 29 (Rq [Aa 30 6,Aa 4 30] [4]<|.ret)<|Sk [0,1,5])<|Re [Aa 20 5,Ao 21 20 1,Aa 5 21] [0,1,5])<|Rq [Ad 4 0] [4]<|.ret) [.tmp 4]:= by decide +kernel
theorem c131 (n:Int) (l:List Test) (r:Int) (h:ref03_Valid n l=some r):Sound prog 131 [eI n,lT l] (.sh (eI r)):= by
 refine Fn ck131 fun hw=>?_
 unfold ref03_Valid at h
 refine D<|F<|C rfl<|E (kt<|kt<|kn) fun _=>?_
 refine D<|D<|F<|C rfl<|X rfl rfl<|C rfl ?_
 refine gO 3 [10,11] 12 (decide (n<0)) (decide (12<n)) (fun hg12=>?_) (fun hg12=>?_) ?_
 ·refine H rfl hg12<|H rfl hg12<|Z rfl hg12 rfl ?_
  exact ⟨⟨_,_,rfl⟩⟩
 ·refine G rfl hg12<|C rfl<|G rfl hg12<|e3 rfl rfl<|a0 rfl hg12 rfl ?_
  exact ⟨⟨_,_,rfl⟩⟩
 rintro _ ⟨_,_,rfl⟩
 refine E (kt<|kt<|kt<|kn) fun _=>?_
 refine U rfl (fun hc12=>?_) (fun hc12=>?_)
 ·replace h:=M hc12 h
  refine D<|F<|C rfl<|E (kt<|kn) fun _=>?_
  exact L (by cases h;rfl)
 ·replace h:=O hc12 h
  refine P (kt<|kt<|kn) fun _=>?_
  refine D<|D<|F<|C rfl<|V rfl rfl<|e3 rfl rfl<|E (kt<|kt<|kt<|kn) fun _=>?_
  refine U rfl (fun hc15=>?_) (fun hc15=>?_)
  ·replace h:=M hc15 h
   refine D<|F<|C rfl<|E (kt<|kn) fun _=>?_
   exact L (by cases h;rfl)
  ·replace h:=O hc15 h
   refine P (kt<|kt<|kn) fun _=>?_
   refine D<|D<|F<|C rfl<|E (kt<|kt<|kt<|kn) fun _=>?_
   obtain ⟨o0,ho0,h⟩:=d0 h
   refine d5 ho0 (fun (i0:Int) (_:Unit)=>[(0,.tv (eI n)),(1,.tv (lT l)),(5,.tv (eI i0))]) (fun (_:Unit)=>[]) (fun zv ze=>resIs ([.tmp 4]) (.sh (eI zv)) ze) rfl ?_ ?_ ?_ ?_
   ·clear h ho0
    intro i0 s0 r0 hi0 h hw0
    refine D<|D<|F<|C rfl<|C rfl<|V rfl rfl<|X rfl rfl<|E (kt<|kt<|kt<|kt<|kn) fun _=>?_
    refine b3 rfl (b4 hi0)<|P (kt<|kt<|kt<|kn) fun _=>?_
    refine D<|a8<|D<|F<|C rfl<|C rfl<|C rfl ?_
    obtain ⟨x25,hx25,h⟩:=J h
    refine a2 rfl rfl rfl hx25 rfl<|R rfl rfl (show _=eTest x25 from rfl) ?_
    obtain ⟨x27,hx27,h⟩:=J h
    refine W rfl (c177 n x25 _ hx27)<|C rfl<|E (kt<|kt<|kt<|kt<|kn) fun _=>?_
    refine D<|F<|C rfl<|a7 rfl rfl<|E (kt<|kt<|kt<|kt<|kt<|kn) fun _=>?_
    refine U rfl (fun hc29=>?_) (fun hc29=>?_)
    ·replace h:=M hc29 h
     refine D<|F<|C rfl<|C rfl<|E (kt<|kn) fun _=>?_
     refine L ?_
     cases h
     exact ⟨_,rfl,rfl⟩
    ·replace h:=O hc29 h
     refine P (kt<|kt<|kt<|kn) fun _=>?_
     refine F<|C rfl<|a5 rfl rfl<|C rfl<|E (kt<|kt<|kt<|kn) ?_
     cases h
     refine ⟨_,rfl,?_⟩
     rw [Ktv rfl (Ktv rfl (Ktv rfl (Knil _)))]
     rw [b2 (a4 (hw0 5)) hi0 (e4 (a4 (hw0 1)) rfl)]
     all_goals rfl
   ·intro i0 s0 hi0
    refine D<|D<|F<|C rfl<|C rfl<|V rfl rfl<|X rfl rfl<|E (kt<|kt<|kt<|kt<|kn) fun _=>?_
    refine b5 rfl (b6 hi0)<|b0 (kn) ?_
    exact ⟨rfl,rfl⟩
   ·intro s0 hs
    replace h:=d1 h hs
    intro _
    refine D<|F<|C rfl<|E (kt<|kn) fun _=>?_
    exact L (by cases h;rfl)
   ·intro v0 ze hv hR
    replace h:=d2 h hv
    cases h
    exact hR
theorem ck132:CK f132 (Rq [Af 2 0,Ai 4] [1,2]<|Sq (Rq [Ad 5 0] [1,2,5]<|Bl 0<|Lo [1,2,5]<|Sq (Rq [Aa 6 5,Ac 7 2 2,Ab 8 7,Ag 9 8,Ap 10 6 9] [1,2,5,10]<|Co 10 (Sk [1,2,5])<|Ex 0 [])<|Sq (Bl 1<|Rq [Ac 13 2 2,Ab 14 13,Aa 15 5,Ah 16 14 15 4,Aj 17 16 2,Aj 18 17 0,Ab 19 18,Aa 20 1,By 21 19 20] [1,2,5,21]<|Co 21 (Rq [Bw 4] [4]<|.ret)<|Sk [1,2,5])<|Re [Aa 11 5,Ao 12 11 1,Aa 5 12] [1,2,5])<|Rq [Ai 4] [4]<|.ret) [.tmp 4]:= by decide +kernel
theorem c132 (p:Pattern) (v_1:Int) (r:Bool) (h:ref21_occurs p v_1=some r):Sound prog 132 [ePattern p,eI v_1] (.sh (eB r)):= by
 refine Fn ck132 fun hw=>?_
 unfold ref21_occurs at h
 refine D<|F<|a1 rfl rfl<|C rfl<|E (kt<|kt<|kn) fun _=>?_
 refine D<|D<|F<|C rfl<|E (kt<|kt<|kt<|kn) fun _=>?_
 obtain ⟨o0,ho0,h⟩:=d0 h
 refine d5 ho0 (fun (i0:Int) (_:Unit)=>[(1,.tv (eI v_1)),(2,.tv (.pt (ePattern p).cells)),(5,.tv (eI i0))]) (fun (_:Unit)=>[]) (fun zv ze=>resIs ([.tmp 4]) (.sh (eB zv)) ze) rfl ?_ ?_ ?_ ?_
 ·clear h ho0
  intro i0 s0 r0 hi0 h hw0
  refine D<|D<|F<|C rfl<|K rfl<|I rfl<|V rfl rfl<|X rfl rfl<|E (kt<|kt<|kt<|kt<|kn) fun _=>?_
  refine b3 rfl (b4 hi0)<|P (kt<|kt<|kt<|kn) fun _=>?_
  refine D<|a8<|D<|F<|K rfl<|I rfl<|C rfl ?_
  obtain ⟨x16,hx16,h⟩:=J h
  refine a2 rfl rfl rfl hx16 rfl<|a6 rfl<|a6 rfl<|I rfl<|C rfl<|b8 rfl rfl<|E (kt<|kt<|kt<|kt<|kn) fun _=>?_
  refine U rfl (fun hc21=>?_) (fun hc21=>?_)
  ·replace h:=M hc21 h
   refine D<|F<|C rfl<|E (kt<|kn) fun _=>?_
   refine L ?_
   cases h
   exact ⟨_,rfl,rfl⟩
  ·replace h:=O hc21 h
   refine P (kt<|kt<|kt<|kn) fun _=>?_
   refine F<|C rfl<|a5 rfl rfl<|C rfl<|E (kt<|kt<|kt<|kn) ?_
   cases h
   refine ⟨_,rfl,?_⟩
   rw [Ktv rfl (Ktv rfl (Ktv rfl (Knil _)))]
   rw [b2 (a4 (hw0 5)) hi0 (e4 (e9 (f0 (hw0 2)) (i:=2) rfl) rfl)]
   all_goals rfl
 ·intro i0 s0 hi0
  refine D<|D<|F<|C rfl<|K rfl<|I rfl<|V rfl rfl<|X rfl rfl<|E (kt<|kt<|kt<|kt<|kn) fun _=>?_
  refine b5 rfl (b6 hi0)<|b0 (kn) ?_
  exact ⟨rfl,rfl⟩
 ·intro s0 hs
  replace h:=d1 h hs
  intro _
  refine D<|F<|C rfl<|E (kt<|kn) fun _=>?_
  exact L (by cases h;rfl)
 ·intro v0 ze hv hR
  replace h:=d2 h hv
  cases h
  exact hR
theorem ck76:CK f76 (Rq [Af 2 0,Af 3 1,Ad 4 0] [2,3]<|Sq (Rq [Ae 15 2 2,Au 16 74 15,Aa 14 16,At 17 14 0,At 18 14 1,Aa 5 17,Aa 6 18] [2,3,6]<|Rq [Aa 19 6,Ax 20 19 0] [2,3,6,20]<|Co 20 (Rq [Aa 21 6,Aa 4 21] [4]<|.ret)<|Sk [2,3])<|Sq (Rq [Ac 22 3 0,Ae 23 22 2,Au 24 127 23,Aa 7 24] [2,3,7]<|Rq [Aa 25 7,Ax 26 25 0] [2,3,7,26]<|Co 26 (Rq [Aa 27 7,Aa 4 27] [4]<|.ret)<|Sk [2,3])<|Sq (Rq [Ae 28 2 2,Ac 29 3 0,Ae 30 29 2,An 31 128 28 30,Ay 32 31] [2,3,32]<|Co 32 (Rq [Ad 4 13] [4]<|.ret)<|Sk [2,3])<|Sq (Rq [Ac 33 3 3,Ab 34 33,Bt 35 34 0,Aa 36 35,Am 37 3 3 36,Al 38 37 36,Bu 39 38 12 36,Ar 40 36 39] [2,3,40]<|Co 40 (Rq [Ad 4 6] [4]<|.ret)<|Sk [2,3])<|Sq (Rq [Ac 41 3 2,Ab 42 41,Ag 43 42,Bg 44 43 10,Aa 45 44,Am 46 3 4 45,Al 47 46 45,Ba 48 47 45,Bu 49 48 10 45,Ar 50 45 49] [2,3,50]<|Co 50 (Rq [Ad 4 3] [4]<|.ret)<|Sk [2,3])<|Sq (Rq [Ad 8 0] [2,3,8]<|Bl 0<|Lo [2,3,8]<|Sq (Rq [Aa 51 8,Ac 52 3 2,Ab 53 52,Ag 54 53,Ap 55 51 54] [2,3,8,55]<|Co 55 (Sk [2,3,8])<|Ex 0 [3])<|Sq (Bl 1<|Rq [Ac 58 3 2,Ab 59 58,Aa 60 8,Ah 61 59 60 4,Ae 62 61 4,Ea 9 0 0 0 0,Ak 4 9 62] [2,3,8,9]<|Rq [Ae 64 2 2,Ae 65 3 5,Ac 66 9 0,Ab 67 66,Ac 68 9 1,Ab 69 68,Cg 70 129 64 65 67 69,Aa 63 70,At 71 63 0,At 72 63 1,Df 10 0 0 1,Ak 4 10 71,Aa 11 72] [2,3,8,9,11]<|Rq [Aa 73 11,Ay 74 73,Aa 75 74,Am 76 9 2 75,Bi 77 76 0 75,Al 78 77 75,Dg 79 78 (-1) 75,Ar 80 75 79,Aa 81 80,Am 82 9 2 81,Bi 83 82 0 81,Al 84 83 81,Am 85 3 3 81,Al 86 85 81,Br 87 84 86 81,Ar 88 81 87,Aa 89 88,Am 90 9 2 89,Bi 91 90 1 89,Al 92 91 89,Dp 93 130 92 89,Bq 94 93 89,Ar 95 89 94] [2,3,8,95]<|Co 95 (Rq [Ad 4 6] [4]<|.ret)<|Sk [2,3,8])<|Re [Aa 56 8,Ao 57 56 1,Aa 8 57] [2,3,8])<|Sq (Rq [Ac 96 3 3,Ab 97 96,Ac 98 3 4,Ab 99 98,An 100 131 97 99,Aa 12 100] [3,12]<|Rq [Aa 101 12,Ax 102 101 0] [3,12,102]<|Co 102 (Rq [Aa 103 12,Aa 4 103] [4]<|.ret)<|Sk [3])<|Sq (Rq [Ad 13 0] [3,13]<|Bl 2<|Lo [3,13]<|Sq (Rq [Aa 104 13,Ac 105 3 3,Ab 106 105,Ap 107 104 106] [3,13,107]<|Co 107 (Sk [3,13])<|Ex 2 [])<|Sq (Bl 3<|Rq [Ae 110 3 5,Aa 111 13,An 112 132 110 111,Ay 113 112] [3,13,113]<|Co 113 (Rq [Ad 4 9] [4]<|.ret)<|Sk [3,13])<|Re [Aa 108 13,Ao 109 108 1,Aa 13 109] [3,13])<|Rq [Ad 4 0] [4]<|.ret) [.tmp 4]:= by decide +kernel
theorem c76 (t:Types) (p:Pattern) (r:Int) (h:ref21_Valid t p=some r):Sound prog 76 [eTypes t,ePattern p] (.sh (eI r)):= by
 refine Fn ck76 fun hw=>?_
 unfold ref21_Valid at h
 refine D<|F<|a1 rfl rfl<|a1 rfl rfl<|C rfl<|E (kt<|kt<|kn) fun _=>?_
 refine D<|D<|F<|R rfl rfl (show _=eTypes t from rfl) ?_
 obtain ⟨x16,hx16,h⟩:=J h
 refine e6 rfl (c74 t _ hx16)<|e8 rfl<|b9 rfl rfl<|b9 rfl rfl<|C rfl<|C rfl<|E (kt<|kt<|kt<|kn) fun _=>?_
 refine D<|F<|C rfl<|a7 rfl rfl<|E (kt<|kt<|kt<|kt<|kn) fun _=>?_
 refine U rfl (fun hc20=>?_) (fun hc20=>?_)
 ·replace h:=M hc20 h
  refine D<|F<|C rfl<|C rfl<|E (kt<|kn) fun _=>?_
  exact L (by cases h;rfl)
 ·replace h:=O hc20 h
  refine P (kt<|kt<|kn) fun _=>?_
  refine D<|D<|F<|K rfl<|R rfl rfl (show _=eGraph p.Graph from rfl) ?_
  obtain ⟨x24,hx24,h⟩:=J h
  refine W rfl (c127 p.Graph _ hx24)<|C rfl<|E (kt<|kt<|kt<|kn) fun _=>?_
  refine D<|F<|C rfl<|a7 rfl rfl<|E (kt<|kt<|kt<|kt<|kn) fun _=>?_
  refine U rfl (fun hc26=>?_) (fun hc26=>?_)
  ·replace h:=M hc26 h
   refine D<|F<|C rfl<|C rfl<|E (kt<|kn) fun _=>?_
   exact L (by cases h;rfl)
  ·replace h:=O hc26 h
   refine P (kt<|kt<|kn) fun _=>?_
   refine D<|D<|F<|R rfl rfl (show _=eTypes t from rfl)<|K rfl<|R rfl rfl (show _=eGraph p.Graph from rfl) ?_
   obtain ⟨x31,hx31,h⟩:=J h
   refine W rfl (c128 t p.Graph _ hx31)<|b7 rfl<|E (kt<|kt<|kt<|kn) fun _=>?_
   refine U rfl (fun hc32=>?_) (fun hc32=>?_)
   ·replace h:=M hc32 h
    refine D<|F<|C rfl<|E (kt<|kn) fun _=>?_
    exact L (by cases h;rfl)
   ·replace h:=O hc32 h
    refine P (kt<|kt<|kn) fun _=>?_
    refine D<|D<|F<|K rfl<|I rfl<|X rfl rfl<|C rfl ?_
    refine gO 4 [37,38,39] 40 (decide (p.Vars<0)) (decide (12<p.Vars)) (fun hg40=>?_) (fun hg40=>?_) ?_
    ·refine H rfl hg40<|H rfl hg40<|H rfl hg40<|Z rfl hg40 rfl ?_
     exact ⟨⟨_,_,_,rfl⟩⟩
    ·refine G rfl hg40<|K rfl<|G rfl hg40<|I rfl<|G rfl hg40<|e3 rfl rfl<|a0 rfl hg40 rfl ?_
     exact ⟨⟨_,_,_,rfl⟩⟩
    rintro _ ⟨_,_,_,rfl⟩
    refine E (kt<|kt<|kt<|kn) fun _=>?_
    refine U rfl (fun hc40=>?_) (fun hc40=>?_)
    ·replace h:=M hc40 h
     refine D<|F<|C rfl<|E (kt<|kn) fun _=>?_
     exact L (by cases h;rfl)
    ·replace h:=O hc40 h
     refine P (kt<|kt<|kn) fun _=>?_
     refine D<|D<|F<|K rfl<|I rfl<|V rfl rfl<|e3 rfl rfl<|C rfl ?_
     refine gO 5 [46,47,48,49] 50 (decide (10<(p.Slots.length:Int))) (decide (10<(p.Tests.length:Int))) (fun hg50=>?_) (fun hg50=>?_) ?_
     ·refine H rfl hg50<|H rfl hg50<|H rfl hg50<|H rfl hg50<|Z rfl hg50 rfl ?_
      exact ⟨⟨_,_,_,_,rfl⟩⟩
     ·refine G rfl hg50<|K rfl<|G rfl hg50<|I rfl<|G rfl hg50<|V rfl rfl<|G rfl hg50<|e3 rfl rfl<|a0 rfl hg50 rfl ?_
      exact ⟨⟨_,_,_,_,rfl⟩⟩
     rintro _ ⟨_,_,_,_,rfl⟩
     refine E (kt<|kt<|kt<|kn) fun _=>?_
     refine U rfl (fun hc50=>?_) (fun hc50=>?_)
     ·replace h:=M hc50 h
      refine D<|F<|C rfl<|E (kt<|kn) fun _=>?_
      exact L (by cases h;rfl)
     ·replace h:=O hc50 h
      refine P (kt<|kt<|kn) fun _=>?_
      refine D<|D<|F<|C rfl<|E (kt<|kt<|kt<|kn) fun _=>?_
      obtain ⟨o0,ho0,h⟩:=d0 h
      refine d5 ho0 (fun (i0:Int) (_:Unit)=>[(2,.tv (.pt (eTypes t).cells)),(3,.tv (.pt (ePattern p).cells)),(8,.tv (eI i0))]) (fun (_:Unit)=>[(3,.tv (.pt (ePattern p).cells))]) (fun zv ze=>resIs ([.tmp 4]) (.sh (eI zv)) ze) rfl ?_ ?_ ?_ ?_
      ·clear h ho0
       intro i0 s0 r0 hi0 h hw0
       refine D<|D<|F<|C rfl<|K rfl<|I rfl<|V rfl rfl<|X rfl rfl<|E (kt<|kt<|kt<|kt<|kn) fun _=>?_
       refine b3 rfl (b4 hi0)<|P (kt<|kt<|kt<|kn) fun _=>?_
       refine D<|a8<|D<|F<|K rfl<|I rfl<|C rfl ?_
       obtain ⟨x61,hx61,h⟩:=J h
       refine a2 rfl rfl rfl hx61 rfl<|R rfl rfl (show _=eSlot x61 from rfl)<|b1 rfl<|a9 rfl rfl rfl rfl rfl<|E (kt<|kt<|kt<|kb<|kn) fun _=>?_
       refine D<|F<|R rfl rfl (show _=eTypes t from rfl)<|R rfl rfl (show _=ePattern p from rfl)<|a3 rfl<|I rfl<|a3 rfl<|I rfl ?_
       obtain ⟨x70,hx70,h⟩:=J h
       refine e6 rfl (c129 t p x61.Node x61.Attr _ hx70)<|e8 rfl<|b9 rfl rfl<|b9 rfl rfl<|b1 rfl<|a9 rfl rfl rfl rfl rfl<|C rfl<|E (kt<|kt<|kt<|kb<|kt<|kn) fun _=>?_
       refine D<|F<|C rfl<|b7 rfl<|C rfl ?_
       refine gO 5 [76,77,78,79] 80 (!x70.2) (decide (x61.Term.Var<(-1))) (fun hg80=>?_) (fun hg80=>?_) ?_
       ·refine H rfl hg80<|H rfl hg80<|H rfl hg80<|H rfl hg80<|Z rfl hg80 rfl ?_
        exact ⟨⟨_,_,_,_,rfl⟩⟩
       ·refine G rfl hg80<|a3 rfl<|G rfl hg80<|f3 rfl rfl<|G rfl hg80<|I rfl<|G rfl hg80<|X rfl rfl<|a0 rfl hg80 rfl ?_
        exact ⟨⟨_,_,_,_,rfl⟩⟩
       rintro _ ⟨_,_,_,_,rfl⟩
       refine C rfl ?_
       refine gO 7 [82,83,84,85,86,87] 88 ((!x70.2)||(decide (x61.Term.Var<(-1)))) (decide (p.Vars<=x61.Term.Var)) (fun hg88=>?_) (fun hg88=>?_) ?_
       ·refine H rfl hg88<|H rfl hg88<|H rfl hg88<|H rfl hg88<|H rfl hg88<|H rfl hg88<|Z rfl hg88 rfl ?_
        exact ⟨⟨_,_,_,_,_,_,rfl⟩⟩
       ·refine G rfl hg88<|a3 rfl<|G rfl hg88<|f3 rfl rfl<|G rfl hg88<|I rfl<|G rfl hg88<|K rfl<|G rfl hg88<|I rfl<|G rfl hg88<|d6 rfl rfl<|a0 rfl hg88 rfl ?_
        exact ⟨⟨_,_,_,_,_,_,rfl⟩⟩
       rintro _ ⟨_,_,_,_,_,_,rfl⟩
       refine C rfl ?_
       obtain ⟨x95,hx95,h⟩:=J h
       refine gX 6 [90,91,92,93,94] 95 x95 (((!x70.2)||(decide (x61.Term.Var<(-1))))||(decide (p.Vars<=x61.Term.Var))) (fun hg95=>?_) (fun hg95=>?_) ?_
       ·replace h:=M hg95 hx95
        cases h
        refine H rfl hg95<|H rfl hg95<|H rfl hg95<|H rfl hg95<|H rfl hg95<|Z rfl hg95 rfl ?_
        exact ⟨⟨_,_,_,_,_,rfl⟩⟩
       ·replace h:=O hg95 hx95
        refine G rfl hg95<|a3 rfl<|G rfl hg95<|f3 rfl rfl<|G rfl hg95<|I rfl ?_
        obtain ⟨x93,hx93,h⟩:=J h
        refine G rfl hg95<|W rfl (c130 x61.Term.Add _ hx93)<|G rfl hg95<|b7 rfl ?_
        cases h
        refine a0 rfl hg95 rfl ?_
        exact ⟨⟨_,_,_,_,_,rfl⟩⟩
       rintro _ ⟨_,_,_,_,_,rfl⟩
       refine E (kt<|kt<|kt<|kt<|kn) fun _=>?_
       refine U rfl (fun hc95=>?_) (fun hc95=>?_)
       ·replace h:=M hc95 h
        refine D<|F<|C rfl<|E (kt<|kn) fun _=>?_
        refine L ?_
        cases h
        exact ⟨_,rfl,rfl⟩
       ·replace h:=O hc95 h
        refine P (kt<|kt<|kt<|kn) fun _=>?_
        refine F<|C rfl<|a5 rfl rfl<|C rfl<|E (kt<|kt<|kt<|kn) ?_
        cases h
        refine ⟨_,rfl,?_⟩
        rw [Ktv rfl (Ktv rfl (Ktv rfl (Knil _)))]
        rw [b2 (a4 (hw0 8)) hi0 (e4 (e9 (f0 (hw0 3)) (i:=2) rfl) rfl)]
        all_goals rfl
      ·intro i0 s0 hi0
       refine D<|D<|F<|C rfl<|K rfl<|I rfl<|V rfl rfl<|X rfl rfl<|E (kt<|kt<|kt<|kt<|kn) fun _=>?_
       refine b5 rfl (b6 hi0)<|b0 (kt<|kn) ?_
       exact ⟨rfl,rfl⟩
      ·intro s0 hs
       replace h:=d1 h hs
       intro _
       refine D<|D<|F<|K rfl<|I rfl<|K rfl<|I rfl ?_
       obtain ⟨x100,hx100,h⟩:=J h
       refine W rfl (c131 p.Vars p.Tests _ hx100)<|C rfl<|E (kt<|kt<|kn) fun _=>?_
       refine D<|F<|C rfl<|a7 rfl rfl<|E (kt<|kt<|kt<|kn) fun _=>?_
       refine U rfl (fun hc102=>?_) (fun hc102=>?_)
       ·replace h:=M hc102 h
        refine D<|F<|C rfl<|C rfl<|E (kt<|kn) fun _=>?_
        exact L (by cases h;rfl)
       ·replace h:=O hc102 h
        refine P (kt<|kn) fun _=>?_
        refine D<|D<|F<|C rfl<|E (kt<|kt<|kn) fun _=>?_
        obtain ⟨o2,ho2,h⟩:=d0 h
        refine d5 ho2 (fun (i2:Int) (_:Unit)=>[(3,.tv (.pt (ePattern p).cells)),(13,.tv (eI i2))]) (fun (_:Unit)=>[]) (fun zv ze=>resIs ([.tmp 4]) (.sh (eI zv)) ze) rfl ?_ ?_ ?_ ?_
        ·clear h ho2
         intro i2 s2 r2 hi2 h hw2
         refine D<|D<|F<|C rfl<|K rfl<|I rfl<|X rfl rfl<|E (kt<|kt<|kt<|kn) fun _=>?_
         refine b3 rfl (b4 hi2)<|P (kt<|kt<|kn) fun _=>?_
         refine D<|a8<|D<|F<|R rfl rfl (show _=ePattern p from rfl)<|C rfl ?_
         obtain ⟨x112,hx112,h⟩:=J h
         refine W rfl (c132 p i2 _ hx112)<|b7 rfl<|E (kt<|kt<|kt<|kn) fun _=>?_
         refine U rfl (fun hc113=>?_) (fun hc113=>?_)
         ·replace h:=M hc113 h
          refine D<|F<|C rfl<|E (kt<|kn) fun _=>?_
          refine L ?_
          cases h
          exact ⟨_,rfl,rfl⟩
         ·replace h:=O hc113 h
          refine P (kt<|kt<|kn) fun _=>?_
          refine F<|C rfl<|a5 rfl rfl<|C rfl<|E (kt<|kt<|kn) ?_
          cases h
          refine ⟨_,rfl,?_⟩
          rw [Ktv rfl (Ktv rfl (Knil _))]
          rw [b2 (a4 (hw2 13)) hi2 (d9 (e9 (f0 (hw2 3)) (i:=3) rfl))]
          all_goals rfl
        ·intro i2 s2 hi2
         refine D<|D<|F<|C rfl<|K rfl<|I rfl<|X rfl rfl<|E (kt<|kt<|kt<|kn) fun _=>?_
         refine b5 rfl (b6 hi2)<|b0 (kn) ?_
         exact ⟨rfl,rfl⟩
        ·intro s2 hs
         replace h:=d1 h hs
         intro _
         refine D<|F<|C rfl<|E (kt<|kn) fun _=>?_
         exact L (by cases h;rfl)
        ·intro v2 ze hv hR
         replace h:=d2 h hv
         cases h
         exact hR
      ·intro v0 ze hv hR
       replace h:=d2 h hv
       cases h
       exact hR
theorem ck133:CK f133 (Rq [Af 3 0,Af 4 1,Ad 6 0] [2,3,4]<|Rq [Ac 11 4 2,Ab 12 11,Aa 13 2,Ah 14 12 13 4,Ae 15 14 4,Ea 7 0 0 0 0,Ak 4 7 15] [2,3,4,7]<|Sq (Rq [Ac 16 7 0,Ab 17 16,Bt 18 17 0,Aa 19 18,Am 20 7 0 19,Al 21 20 19,Am 22 4 0 19,Bi 23 22 0 19,Al 24 23 19,Ba 25 24 19,Br 26 21 25 19,Ar 27 19 26] [2,3,4,7,27]<|Co 27 (Rq [Ad 6 6] [6]<|.ret)<|Sk [2,3,4,7])<|Sq (Dr [8,9,28,29,30,31,32,33,34,35,36,37,38,39] [Ae 29 3 2,Ac 30 4 0,Aj 31 30 0,Ab 32 31,Ac 33 7 0,Ab 34 33,Ah 35 32 34 1,Ab 36 35,An 37 117 29 36,Aa 28 37,At 38 28 0,At 39 28 1,Bb 8 38,Aa 9 39] [2,4,7,8])<|Sq (Rq [Ac 40 7 1,Ab 41 40,Bt 42 41 0,Aa 43 42,Am 44 7 1 43,Al 45 44 43,Az 46 8 43,Ba 47 46 43,Br 48 45 47 43,Ar 49 43 48,Aa 50 49,Am 51 7 2 50,Bi 52 51 0 50,Al 53 52 50,Dg 54 53 (-1) 50,Ar 55 50 54,Aa 56 55,Am 57 7 2 56,Bi 58 57 0 56,Al 59 58 56,Am 60 4 3 56,Al 61 60 56,Br 62 59 61 56,Ar 63 56 62,Aa 64 63,Am 65 7 2 64,Bi 66 65 1 64,Al 67 66 64,Dg 68 67 (-1000000) 64,Ar 69 64 68,Aa 70 69,Am 71 7 2 70,Bi 72 71 1 70,Al 73 72 70,Bu 74 73 1000000 70,Ar 75 70 74] [2,4,7,75]<|Co 75 (Rq [Ad 6 6] [6]<|.ret)<|Sk [2,4,7])<|Sq (Rq [Ad 10 0] [2,4,7,10]<|Bl 0<|Lo [2,4,7,10]<|Sq (Rq [Aa 76 10,Aa 77 2,Ap 78 76 77] [2,4,7,10,78]<|Co 78 (Sk [2,4,7,10])<|Ex 0 [])<|Sq (Bl 1<|Sq (Dr [81,82,83,84,85,86,87,88,89,90,91,92,93,94,95,96,97,98,99,100] [Ac 81 4 2,Ab 82 81,Aa 83 10,Ah 84 82 83 4,Aj 85 84 0,Ab 86 85,Ac 87 7 0,Ab 88 87,By 89 86 88,Aa 90 89,Av 91 4 2 90,Aw 92 91 90,As 93 10 90,Cb 94 92 93 4 90,Bx 95 94 1 90,Aw 96 95 90,Av 97 7 1 90,Aw 98 97 90,Cl 99 96 98 90,Aq 100 90 99] [2,4,7,10,100])<|Co 100 (Rq [Ad 6 5] [6]<|.ret)<|Sk [2,4,7,10])<|Re [Aa 79 10,Ao 80 79 1,Aa 10 80] [2,4,7,10])<|Rq [Ad 6 0] [6]<|.ret) [.tmp 6]:= by decide +kernel
theorem c133 (t:Types) (p:Pattern) (i_2:Int) (r:Int) (h:ref24_slot t p i_2=some r):Sound prog 133 [eTypes t,ePattern p,eI i_2] (.sh (eI r)):= by
 refine Fn ck133 fun hw=>?_
 unfold ref24_slot at h
 refine D<|F<|a1 rfl rfl<|a1 rfl rfl<|C rfl<|E (kt<|kt<|kt<|kn) fun _=>?_
 refine D<|F<|K rfl<|I rfl<|C rfl ?_
 obtain ⟨x14,hx14,h⟩:=J h
 refine a2 rfl rfl rfl hx14 rfl<|R rfl rfl (show _=eSlot x14 from rfl)<|b1 rfl<|a9 rfl rfl rfl rfl rfl<|E (kt<|kt<|kt<|kb<|kn) fun _=>?_
 refine D<|D<|F<|a3 rfl<|I rfl<|X rfl rfl<|C rfl ?_
 refine gO 8 [20,21,22,23,24,25,26] 27 (decide (x14.Node<0)) (decide ((p.Graph.Nodes.length:Int)<=x14.Node)) (fun hg27=>?_) (fun hg27=>?_) ?_
 ·refine H rfl hg27<|H rfl hg27<|H rfl hg27<|H rfl hg27<|H rfl hg27<|H rfl hg27<|H rfl hg27<|Z rfl hg27 rfl ?_
  exact ⟨⟨_,_,_,_,_,_,_,rfl⟩⟩
 ·refine G rfl hg27<|a3 rfl<|G rfl hg27<|I rfl<|G rfl hg27<|K rfl<|G rfl hg27<|a6 rfl<|G rfl hg27<|I rfl<|G rfl hg27<|V rfl rfl<|G rfl hg27<|d6 rfl rfl<|a0 rfl hg27 rfl ?_
  exact ⟨⟨_,_,_,_,_,_,_,rfl⟩⟩
 rintro _ ⟨_,_,_,_,_,_,_,rfl⟩
 refine E (kt<|kt<|kt<|kb<|kt<|kn) fun _=>?_
 refine U rfl (fun hc27=>?_) (fun hc27=>?_)
 ·replace h:=M hc27 h
  refine D<|F<|C rfl<|E (kt<|kn) fun _=>?_
  exact L (by cases h;rfl)
 ·replace h:=O hc27 h
  refine P (kt<|kt<|kt<|kb<|kn) fun _=>?_
  refine D<|d4 rfl<|R rfl rfl (show _=eTypes t from rfl)<|K rfl<|a6 rfl<|I rfl<|a3 rfl<|I rfl ?_
  obtain ⟨x35,hx35,h⟩:=J h
  refine a2 rfl rfl rfl hx35 rfl<|I rfl ?_
  obtain ⟨x37,hx37,h⟩:=J h
  refine e6 rfl (c117 t x35 _ hx37)<|e8 rfl<|b9 rfl rfl<|b9 rfl rfl<|g1 rfl<|C rfl<|E (kt<|kt<|kb<|kt<|kn) fun _=>?_
  refine D<|D<|F<|a3 rfl<|I rfl<|X rfl rfl<|C rfl ?_
  refine gO 6 [44,45,46,47,48] 49 (decide (x14.Attr<0)) (decide ((x37.1.length:Int)<=x14.Attr)) (fun hg49=>?_) (fun hg49=>?_) ?_
  ·refine H rfl hg49<|H rfl hg49<|H rfl hg49<|H rfl hg49<|H rfl hg49<|Z rfl hg49 rfl ?_
   exact ⟨⟨_,_,_,_,_,rfl⟩⟩
  ·refine G rfl hg49<|a3 rfl<|G rfl hg49<|I rfl<|G rfl hg49<|C rfl<|G rfl hg49<|V rfl rfl<|G rfl hg49<|d6 rfl rfl<|a0 rfl hg49 rfl ?_
   exact ⟨⟨_,_,_,_,_,rfl⟩⟩
  rintro _ ⟨_,_,_,_,_,rfl⟩
  refine C rfl ?_
  refine gO 5 [51,52,53,54] 55 ((decide (x14.Attr<0))||(decide ((x37.1.length:Int)<=x14.Attr))) (decide (x14.Term.Var<(-1))) (fun hg55=>?_) (fun hg55=>?_) ?_
  ·refine H rfl hg55<|H rfl hg55<|H rfl hg55<|H rfl hg55<|Z rfl hg55 rfl ?_
   exact ⟨⟨_,_,_,_,rfl⟩⟩
  ·refine G rfl hg55<|a3 rfl<|G rfl hg55<|f3 rfl rfl<|G rfl hg55<|I rfl<|G rfl hg55<|X rfl rfl<|a0 rfl hg55 rfl ?_
   exact ⟨⟨_,_,_,_,rfl⟩⟩
  rintro _ ⟨_,_,_,_,rfl⟩
  refine C rfl ?_
  refine gO 7 [57,58,59,60,61,62] 63 (((decide (x14.Attr<0))||(decide ((x37.1.length:Int)<=x14.Attr)))||(decide (x14.Term.Var<(-1)))) (decide (p.Vars<=x14.Term.Var)) (fun hg63=>?_) (fun hg63=>?_) ?_
  ·refine H rfl hg63<|H rfl hg63<|H rfl hg63<|H rfl hg63<|H rfl hg63<|H rfl hg63<|Z rfl hg63 rfl ?_
   exact ⟨⟨_,_,_,_,_,_,rfl⟩⟩
  ·refine G rfl hg63<|a3 rfl<|G rfl hg63<|f3 rfl rfl<|G rfl hg63<|I rfl<|G rfl hg63<|K rfl<|G rfl hg63<|I rfl<|G rfl hg63<|d6 rfl rfl<|a0 rfl hg63 rfl ?_
   exact ⟨⟨_,_,_,_,_,_,rfl⟩⟩
  rintro _ ⟨_,_,_,_,_,_,rfl⟩
  refine C rfl ?_
  refine gO 5 [65,66,67,68] 69 ((((decide (x14.Attr<0))||(decide ((x37.1.length:Int)<=x14.Attr)))||(decide (x14.Term.Var<(-1))))||(decide (p.Vars<=x14.Term.Var))) (decide (x14.Term.Add<(-1000000))) (fun hg69=>?_) (fun hg69=>?_) ?_
  ·refine H rfl hg69<|H rfl hg69<|H rfl hg69<|H rfl hg69<|Z rfl hg69 rfl ?_
   exact ⟨⟨_,_,_,_,rfl⟩⟩
  ·refine G rfl hg69<|a3 rfl<|G rfl hg69<|f3 rfl rfl<|G rfl hg69<|I rfl<|G rfl hg69<|X rfl rfl<|a0 rfl hg69 rfl ?_
   exact ⟨⟨_,_,_,_,rfl⟩⟩
  rintro _ ⟨_,_,_,_,rfl⟩
  refine C rfl ?_
  refine gO 5 [71,72,73,74] 75 (((((decide (x14.Attr<0))||(decide ((x37.1.length:Int)<=x14.Attr)))||(decide (x14.Term.Var<(-1))))||(decide (p.Vars<=x14.Term.Var)))||(decide (x14.Term.Add<(-1000000)))) (decide (1000000<x14.Term.Add)) (fun hg75=>?_) (fun hg75=>?_) ?_
  ·refine H rfl hg75<|H rfl hg75<|H rfl hg75<|H rfl hg75<|Z rfl hg75 rfl ?_
   exact ⟨⟨_,_,_,_,rfl⟩⟩
  ·refine G rfl hg75<|a3 rfl<|G rfl hg75<|f3 rfl rfl<|G rfl hg75<|I rfl<|G rfl hg75<|e3 rfl rfl<|a0 rfl hg75 rfl ?_
   exact ⟨⟨_,_,_,_,rfl⟩⟩
  rintro _ ⟨_,_,_,_,rfl⟩
  refine E (kt<|kt<|kb<|kt<|kn) fun _=>?_
  refine U rfl (fun hc75=>?_) (fun hc75=>?_)
  ·replace h:=M hc75 h
   refine D<|F<|C rfl<|E (kt<|kn) fun _=>?_
   exact L (by cases h;rfl)
  ·replace h:=O hc75 h
   refine P (kt<|kt<|kb<|kn) fun _=>?_
   refine D<|D<|F<|C rfl<|E (kt<|kt<|kb<|kt<|kn) fun _=>?_
   obtain ⟨o0,ho0,h⟩:=d0 h
   refine d5 ho0 (fun (i0:Int) (_:Unit)=>[(2,.tv (eI i_2)),(4,.tv (.pt (ePattern p).cells)),(7,.bx [⟨false,eI x14.Node⟩,⟨false,eI x14.Attr⟩,⟨false,eI x14.Term.Var⟩,⟨false,eI x14.Term.Add⟩]),(10,.tv (eI i0))]) (fun (_:Unit)=>[]) (fun zv ze=>resIs ([.tmp 6]) (.sh (eI zv)) ze) rfl ?_ ?_ ?_ ?_
   ·clear h ho0
    intro i0 s0 r0 hi0 h hw0
    refine D<|D<|F<|C rfl<|C rfl<|X rfl rfl<|E (kt<|kt<|kb<|kt<|kt<|kn) fun _=>?_
    refine b3 rfl (b4 hi0)<|P (kt<|kt<|kb<|kt<|kn) fun _=>?_
    refine D<|a8<|D<|d4 rfl<|K rfl<|I rfl<|C rfl ?_
    obtain ⟨x84,hx84,h⟩:=J h
    refine a2 rfl rfl rfl hx84 rfl<|a6 rfl<|I rfl<|a3 rfl<|I rfl<|b8 rfl rfl<|C rfl ?_
    obtain ⟨x100,hx100,h⟩:=J h
    refine gX 10 [91,92,93,94,95,96,97,98,99] 100 x100 (decide (x84.Node=x14.Node)) (fun hg100=>?_) (fun hg100=>?_) ?_
    ·replace h:=M hg100 hx100
     refine G rfl hg100<|K rfl<|G rfl hg100<|I rfl<|G rfl hg100<|C rfl ?_
     obtain ⟨x94,hx94,h⟩:=J h
     refine G rfl hg100<|a2 rfl rfl rfl hx94 rfl<|G rfl hg100<|a6 rfl<|G rfl hg100<|I rfl<|G rfl hg100<|a3 rfl<|G rfl hg100<|I rfl<|G rfl hg100<|b8 rfl rfl ?_
     cases h
     refine Z rfl hg100 rfl ?_
     exact ⟨⟨_,_,_,_,_,_,_,_,_,rfl⟩⟩
    ·replace h:=O hg100 hx100
     cases h
     refine H rfl hg100<|H rfl hg100<|H rfl hg100<|H rfl hg100<|H rfl hg100<|H rfl hg100<|H rfl hg100<|H rfl hg100<|H rfl hg100<|a0 rfl hg100 rfl ?_
     exact ⟨⟨_,_,_,_,_,_,_,_,_,rfl⟩⟩
    rintro _ ⟨_,_,_,_,_,_,_,_,_,rfl⟩
    refine E (kt<|kt<|kb<|kt<|kt<|kn) fun _=>?_
    refine U rfl (fun hc100=>?_) (fun hc100=>?_)
    ·replace h:=M hc100 h
     refine D<|F<|C rfl<|E (kt<|kn) fun _=>?_
     refine L ?_
     cases h
     exact ⟨_,rfl,rfl⟩
    ·replace h:=O hc100 h
     refine P (kt<|kt<|kb<|kt<|kn) fun _=>?_
     refine F<|C rfl<|a5 rfl rfl<|C rfl<|E (kt<|kt<|kb<|kt<|kn) ?_
     cases h
     refine ⟨_,rfl,?_⟩
     rw [Ktv rfl (Ktv rfl (Kbx rfl (Ktv rfl (Knil _))))]
     rw [b2 (a4 (hw0 10)) hi0 (d9 (a4 (hw0 2)))]
     all_goals rfl
   ·intro i0 s0 hi0
    refine D<|D<|F<|C rfl<|C rfl<|X rfl rfl<|E (kt<|kt<|kb<|kt<|kt<|kn) fun _=>?_
    refine b5 rfl (b6 hi0)<|b0 (kn) ?_
    exact ⟨rfl,rfl⟩
   ·intro s0 hs
    replace h:=d1 h hs
    intro _
    refine D<|F<|C rfl<|E (kt<|kn) fun _=>?_
    exact L (by cases h;rfl)
   ·intro v0 ze hv hR
    replace h:=d2 h hv
    cases h
    exact hR
theorem ck77:CK f77 (Rq [Af 2 0,Af 3 1,Ad 4 0] [2,3]<|Sq (Rq [Ac 8 3 6,Aj 9 8 0,Ae 10 9 2,Au 11 127 10,Aa 5 11] [2,3,5]<|Rq [Aa 12 5,Ax 13 12 0] [2,3,5,13]<|Co 13 (Rq [Aa 14 5,Aa 4 14] [4]<|.ret)<|Sk [2,3])<|Sq (Rq [Ae 15 2 2,Ac 16 3 6,Aj 17 16 0,Ae 18 17 2,An 19 128 15 18,Ay 20 19] [2,3,20]<|Co 20 (Rq [Ad 4 13] [4]<|.ret)<|Sk [2,3])<|Sq (Rq [Ac 21 3 6,Aj 22 21 3,Ab 23 22,Ac 24 3 1,Aj 25 24 3,Ab 26 25,Bs 27 23 26,Aa 28 27,Am 29 3 6 28,Bi 30 29 4 28,Al 31 30 28,Ba 32 31 28,Bu 33 32 0 28,Ar 34 28 33] [2,3,34]<|Co 34 (Rq [Ad 4 1] [4]<|.ret)<|Sk [2,3])<|Sq (Rq [Ac 35 3 6,Aj 36 35 2,Ab 37 36,Ag 38 37,Bg 39 38 10] [2,3,39]<|Co 39 (Rq [Ad 4 3] [4]<|.ret)<|Sk [2,3])<|Sq (Rq [Ad 6 0] [2,3,6]<|Bl 0<|Lo [2,3,6]<|Sq (Rq [Aa 40 6,Ac 41 3 6,Aj 42 41 2,Ab 43 42,Ag 44 43,Ap 45 40 44] [2,3,6,45]<|Co 45 (Sk [2,3,6])<|Ex 0 [])<|Sq (Bl 1<|Rq [Ae 48 2 2,Ac 49 3 6,Ae 50 49 5,Aa 51 6,Bf 52 133 48 50 51,Aa 7 52] [2,3,6,7]<|Rq [Aa 53 7,Ax 54 53 0] [2,3,6,7,54]<|Co 54 (Rq [Aa 55 7,Aa 4 55] [4]<|.ret)<|Sk [2,3,6])<|Re [Aa 46 6,Ao 47 46 1,Aa 6 47] [2,3,6])<|Rq [Ad 4 0] [4]<|.ret) [.tmp 4]:= by decide +kernel
theorem c77 (t:Types) (r_1:Rule) (r:Int) (h:ref24_right t r_1=some r):Sound prog 77 [eTypes t,eRule r_1] (.sh (eI r)):= by
 refine Fn ck77 fun hw=>?_
 unfold ref24_right at h
 refine D<|F<|a1 rfl rfl<|a1 rfl rfl<|C rfl<|E (kt<|kt<|kn) fun _=>?_
 refine D<|D<|F<|K rfl<|a6 rfl<|R rfl rfl (show _=eGraph r_1.Right.Graph from rfl) ?_
 obtain ⟨x11,hx11,h⟩:=J h
 refine W rfl (c127 r_1.Right.Graph _ hx11)<|C rfl<|E (kt<|kt<|kt<|kn) fun _=>?_
 refine D<|F<|C rfl<|a7 rfl rfl<|E (kt<|kt<|kt<|kt<|kn) fun _=>?_
 refine U rfl (fun hc13=>?_) (fun hc13=>?_)
 ·replace h:=M hc13 h
  refine D<|F<|C rfl<|C rfl<|E (kt<|kn) fun _=>?_
  exact L (by cases h;rfl)
 ·replace h:=O hc13 h
  refine P (kt<|kt<|kn) fun _=>?_
  refine D<|D<|F<|R rfl rfl (show _=eTypes t from rfl)<|K rfl<|a6 rfl<|R rfl rfl (show _=eGraph r_1.Right.Graph from rfl) ?_
  obtain ⟨x19,hx19,h⟩:=J h
  refine W rfl (c128 t r_1.Right.Graph _ hx19)<|b7 rfl<|E (kt<|kt<|kt<|kn) fun _=>?_
  refine U rfl (fun hc20=>?_) (fun hc20=>?_)
  ·replace h:=M hc20 h
   refine D<|F<|C rfl<|E (kt<|kn) fun _=>?_
   exact L (by cases h;rfl)
  ·replace h:=O hc20 h
   refine P (kt<|kt<|kn) fun _=>?_
   refine D<|D<|F<|K rfl<|a6 rfl<|I rfl<|K rfl<|a6 rfl<|I rfl<|a7 rfl rfl<|C rfl ?_
   refine gO 6 [29,30,31,32,33] 34 (!decide (r_1.Right.Vars=r_1.Left.Vars)) (decide (0<(r_1.Right.Tests.length:Int))) (fun hg34=>?_) (fun hg34=>?_) ?_
   ·refine H rfl hg34<|H rfl hg34<|H rfl hg34<|H rfl hg34<|H rfl hg34<|Z rfl hg34 rfl ?_
    exact ⟨⟨_,_,_,_,_,rfl⟩⟩
   ·refine G rfl hg34<|K rfl<|G rfl hg34<|a6 rfl<|G rfl hg34<|I rfl<|G rfl hg34<|V rfl rfl<|G rfl hg34<|e3 rfl rfl<|a0 rfl hg34 rfl ?_
    exact ⟨⟨_,_,_,_,_,rfl⟩⟩
   rintro _ ⟨_,_,_,_,_,rfl⟩
   refine E (kt<|kt<|kt<|kn) fun _=>?_
   refine U rfl (fun hc34=>?_) (fun hc34=>?_)
   ·replace h:=M hc34 h
    refine D<|F<|C rfl<|E (kt<|kn) fun _=>?_
    exact L (by cases h;rfl)
   ·replace h:=O hc34 h
    refine P (kt<|kt<|kn) fun _=>?_
    refine D<|D<|F<|K rfl<|a6 rfl<|I rfl<|V rfl rfl<|e3 rfl rfl<|E (kt<|kt<|kt<|kn) fun _=>?_
    refine U rfl (fun hc39=>?_) (fun hc39=>?_)
    ·replace h:=M hc39 h
     refine D<|F<|C rfl<|E (kt<|kn) fun _=>?_
     exact L (by cases h;rfl)
    ·replace h:=O hc39 h
     refine P (kt<|kt<|kn) fun _=>?_
     refine D<|D<|F<|C rfl<|E (kt<|kt<|kt<|kn) fun _=>?_
     obtain ⟨o0,ho0,h⟩:=d0 h
     refine d5 ho0 (fun (i0:Int) (_:Unit)=>[(2,.tv (.pt (eTypes t).cells)),(3,.tv (.pt (eRule r_1).cells)),(6,.tv (eI i0))]) (fun (_:Unit)=>[]) (fun zv ze=>resIs ([.tmp 4]) (.sh (eI zv)) ze) rfl ?_ ?_ ?_ ?_
     ·clear h ho0
      intro i0 s0 r0 hi0 h hw0
      refine D<|D<|F<|C rfl<|K rfl<|a6 rfl<|I rfl<|V rfl rfl<|X rfl rfl<|E (kt<|kt<|kt<|kt<|kn) fun _=>?_
      refine b3 rfl (b4 hi0)<|P (kt<|kt<|kt<|kn) fun _=>?_
      refine D<|a8<|D<|F<|R rfl rfl (show _=eTypes t from rfl)<|K rfl<|R rfl rfl (show _=ePattern r_1.Right from rfl)<|C rfl ?_
      obtain ⟨x52,hx52,h⟩:=J h
      refine W rfl (c133 t r_1.Right i0 _ hx52)<|C rfl<|E (kt<|kt<|kt<|kt<|kn) fun _=>?_
      refine D<|F<|C rfl<|a7 rfl rfl<|E (kt<|kt<|kt<|kt<|kt<|kn) fun _=>?_
      refine U rfl (fun hc54=>?_) (fun hc54=>?_)
      ·replace h:=M hc54 h
       refine D<|F<|C rfl<|C rfl<|E (kt<|kn) fun _=>?_
       refine L ?_
       cases h
       exact ⟨_,rfl,rfl⟩
      ·replace h:=O hc54 h
       refine P (kt<|kt<|kt<|kn) fun _=>?_
       refine F<|C rfl<|a5 rfl rfl<|C rfl<|E (kt<|kt<|kt<|kn) ?_
       cases h
       refine ⟨_,rfl,?_⟩
       rw [Ktv rfl (Ktv rfl (Ktv rfl (Knil _)))]
       rw [b2 (a4 (hw0 6)) hi0 (e4 (e9 (f0 (hw0 3)) (i:=8) rfl) rfl)]
       all_goals rfl
     ·intro i0 s0 hi0
      refine D<|D<|F<|C rfl<|K rfl<|a6 rfl<|I rfl<|V rfl rfl<|X rfl rfl<|E (kt<|kt<|kt<|kt<|kn) fun _=>?_
      refine b5 rfl (b6 hi0)<|b0 (kn) ?_
      exact ⟨rfl,rfl⟩
     ·intro s0 hs
      replace h:=d1 h hs
      intro _
      refine D<|F<|C rfl<|E (kt<|kn) fun _=>?_
      exact L (by cases h;rfl)
     ·intro v0 ze hv hR
      replace h:=d2 h hv
      cases h
      exact hR
theorem ck220:CK f220 (Rq [Ad 4 0] [0,1]<|Sq (Rq [Ad 5 0] [0,1,5]<|Bl 0<|Lo [0,1,5]<|Sq (Rq [Aa 6 5,Aa 7 0,Ag 8 7,Ap 9 6 8] [0,1,5,9]<|Co 9 (Sk [0,1,5])<|Ex 0 [])<|Sq (Bl 1<|Sq (Rq [Aa 12 0,Aa 13 5,Ah 14 12 13 1,Ab 15 14,Bt 16 15 0,Aa 17 16,Az 18 0 17,Az 19 5 17,Cr 20 18 19 1 17,Al 21 20 17,Az 22 1 17,Br 23 21 22 17,Ar 24 17 23] [0,1,5,24]<|Co 24 (Rq [Ad 4 6] [4]<|.ret)<|Sk [0,1,5])<|Sq (Dr [25,26,27,28,29,30,31,32,33,34,35,36,37,38] [Aa 25 5,Bg 26 25 0,Aa 27 26,As 28 0 27,As 29 5 27,Cb 30 28 29 1 27,Aw 31 30 27,As 32 0 27,As 33 5 27,Dk 34 33 1 27,Cb 35 32 34 1 27,Aw 36 35 27,Db 37 31 36 27,Aq 38 27 37] [0,1,5,38])<|Co 38 (Rq [Ad 4 12] [4]<|.ret)<|Sk [0,1,5])<|Re [Aa 10 5,Ao 11 10 1,Aa 5 11] [0,1,5])<|Rq [Ad 4 0] [4]<|.ret) [.tmp 4]:= by decide +kernel
theorem c220 (l:List Int) (n:Int) (r:Int) (h:ref07_ascending l n=some r):Sound prog 220 [lI l,eI n] (.sh (eI r)):= by
 refine Fn ck220 fun hw=>?_
 unfold ref07_ascending at h
 refine D<|F<|C rfl<|E (kt<|kt<|kn) fun _=>?_
 refine D<|D<|F<|C rfl<|E (kt<|kt<|kt<|kn) fun _=>?_
 obtain ⟨o0,ho0,h⟩:=d0 h
 refine d5 ho0 (fun (i0:Int) (_:Unit)=>[(0,.tv (lI l)),(1,.tv (eI n)),(5,.tv (eI i0))]) (fun (_:Unit)=>[]) (fun zv ze=>resIs ([.tmp 4]) (.sh (eI zv)) ze) rfl ?_ ?_ ?_ ?_
 ·clear h ho0
  intro i0 s0 r0 hi0 h hw0
  refine D<|D<|F<|C rfl<|C rfl<|V rfl rfl<|X rfl rfl<|E (kt<|kt<|kt<|kt<|kn) fun _=>?_
  refine b3 rfl (b4 hi0)<|P (kt<|kt<|kt<|kn) fun _=>?_
  refine D<|a8<|D<|D<|F<|C rfl<|C rfl ?_
  obtain ⟨x14,hx14,h⟩:=J h
  refine a2 rfl rfl rfl hx14 rfl<|I rfl<|X rfl rfl<|C rfl ?_
  obtain ⟨x24,hx24,h⟩:=J h
  refine gX 7 [18,19,20,21,22,23] 24 x24 (decide (x14<0)) (fun hg24=>?_) (fun hg24=>?_) ?_
  ·replace h:=M hg24 hx24
   cases h
   refine H rfl hg24<|H rfl hg24<|H rfl hg24<|H rfl hg24<|H rfl hg24<|H rfl hg24<|Z rfl hg24 rfl ?_
   exact ⟨⟨_,_,_,_,_,_,rfl⟩⟩
  ·replace h:=O hg24 hx24
   refine G rfl hg24<|C rfl<|G rfl hg24<|C rfl ?_
   obtain ⟨x20,hx20,h⟩:=J h
   refine G rfl hg24<|a2 rfl rfl rfl hx20 rfl<|G rfl hg24<|I rfl<|G rfl hg24<|C rfl<|G rfl hg24<|d6 rfl rfl ?_
   cases h
   refine a0 rfl hg24 rfl ?_
   exact ⟨⟨_,_,_,_,_,_,rfl⟩⟩
  rintro _ ⟨_,_,_,_,_,_,rfl⟩
  refine E (kt<|kt<|kt<|kt<|kn) fun _=>?_
  refine U rfl (fun hc24=>?_) (fun hc24=>?_)
  ·replace h:=M hc24 h
   refine D<|F<|C rfl<|E (kt<|kn) fun _=>?_
   refine L ?_
   cases h
   exact ⟨_,rfl,rfl⟩
  ·replace h:=O hc24 h
   refine P (kt<|kt<|kt<|kn) fun _=>?_
   refine D<|d4 rfl<|C rfl<|e3 rfl rfl<|C rfl ?_
   obtain ⟨x38,hx38,h⟩:=J h
   refine gX 11 [28,29,30,31,32,33,34,35,36,37] 38 x38 (decide (0<i0)) (fun hg38=>?_) (fun hg38=>?_) ?_
   ·replace h:=M hg38 hx38
    refine G rfl hg38<|C rfl<|G rfl hg38<|C rfl ?_
    obtain ⟨x30,hx30,h⟩:=J h
    refine G rfl hg38<|a2 rfl rfl rfl hx30 rfl<|G rfl hg38<|I rfl<|G rfl hg38<|C rfl<|G rfl hg38<|C rfl<|G rfl hg38<|g0 rfl rfl ?_
    obtain ⟨x35,hx35,h⟩:=J h
    refine G rfl hg38<|a2 rfl rfl rfl hx35 rfl<|G rfl hg38<|I rfl<|G rfl hg38<|f1 rfl rfl ?_
    cases h
    refine Z rfl hg38 rfl ?_
    exact ⟨⟨_,_,_,_,_,_,_,_,_,_,rfl⟩⟩
   ·replace h:=O hg38 hx38
    cases h
    refine H rfl hg38<|H rfl hg38<|H rfl hg38<|H rfl hg38<|H rfl hg38<|H rfl hg38<|H rfl hg38<|H rfl hg38<|H rfl hg38<|H rfl hg38<|a0 rfl hg38 rfl ?_
    exact ⟨⟨_,_,_,_,_,_,_,_,_,_,rfl⟩⟩
   rintro _ ⟨_,_,_,_,_,_,_,_,_,_,rfl⟩
   refine E (kt<|kt<|kt<|kt<|kn) fun _=>?_
   refine U rfl (fun hc38=>?_) (fun hc38=>?_)
   ·replace h:=M hc38 h
    refine D<|F<|C rfl<|E (kt<|kn) fun _=>?_
    refine L ?_
    cases h
    exact ⟨_,rfl,rfl⟩
   ·replace h:=O hc38 h
    refine P (kt<|kt<|kt<|kn) fun _=>?_
    refine F<|C rfl<|a5 rfl rfl<|C rfl<|E (kt<|kt<|kt<|kn) ?_
    cases h
    refine ⟨_,rfl,?_⟩
    rw [Ktv rfl (Ktv rfl (Ktv rfl (Knil _)))]
    rw [b2 (a4 (hw0 5)) hi0 (e4 (a4 (hw0 0)) rfl)]
    all_goals rfl
 ·intro i0 s0 hi0
  refine D<|D<|F<|C rfl<|C rfl<|V rfl rfl<|X rfl rfl<|E (kt<|kt<|kt<|kt<|kn) fun _=>?_
  refine b5 rfl (b6 hi0)<|b0 (kn) ?_
  exact ⟨rfl,rfl⟩
 ·intro s0 hs
  replace h:=d1 h hs
  intro _
  refine D<|F<|C rfl<|E (kt<|kn) fun _=>?_
  exact L (by cases h;rfl)
 ·intro v0 ze hv hR
  replace h:=d2 h hv
  cases h
  exact hR
theorem ck221:CK f221 (Rq [Ai 4] [0,1]<|Sq (Rq [Ad 5 0] [0,1,5]<|Bl 0<|Lo [0,1,5]<|Sq (Rq [Aa 6 5,Aa 7 0,Ag 8 7,Ap 9 6 8] [0,1,5,9]<|Co 9 (Sk [0,1,5])<|Ex 0 [])<|Sq (Bl 1<|Rq [Aa 12 0,Aa 13 5,Ah 14 12 13 1,Ab 15 14,Aa 16 1,By 17 15 16] [0,1,5,17]<|Co 17 (Rq [Bw 4] [4]<|.ret)<|Sk [0,1,5])<|Re [Aa 10 5,Ao 11 10 1,Aa 5 11] [0,1,5])<|Rq [Ai 4] [4]<|.ret) [.tmp 4]:= by decide +kernel
theorem c221 (l:List Int) (n:Int) (r:Bool) (h:ref07_has l n=some r):Sound prog 221 [lI l,eI n] (.sh (eB r)):= by
 refine Fn ck221 fun hw=>?_
 unfold ref07_has at h
 refine D<|F<|C rfl<|E (kt<|kt<|kn) fun _=>?_
 refine D<|D<|F<|C rfl<|E (kt<|kt<|kt<|kn) fun _=>?_
 obtain ⟨o0,ho0,h⟩:=d0 h
 refine d5 ho0 (fun (i0:Int) (_:Unit)=>[(0,.tv (lI l)),(1,.tv (eI n)),(5,.tv (eI i0))]) (fun (_:Unit)=>[]) (fun zv ze=>resIs ([.tmp 4]) (.sh (eB zv)) ze) rfl ?_ ?_ ?_ ?_
 ·clear h ho0
  intro i0 s0 r0 hi0 h hw0
  refine D<|D<|F<|C rfl<|C rfl<|V rfl rfl<|X rfl rfl<|E (kt<|kt<|kt<|kt<|kn) fun _=>?_
  refine b3 rfl (b4 hi0)<|P (kt<|kt<|kt<|kn) fun _=>?_
  refine D<|a8<|D<|F<|C rfl<|C rfl ?_
  obtain ⟨x14,hx14,h⟩:=J h
  refine a2 rfl rfl rfl hx14 rfl<|I rfl<|C rfl<|b8 rfl rfl<|E (kt<|kt<|kt<|kt<|kn) fun _=>?_
  refine U rfl (fun hc17=>?_) (fun hc17=>?_)
  ·replace h:=M hc17 h
   refine D<|F<|C rfl<|E (kt<|kn) fun _=>?_
   refine L ?_
   cases h
   exact ⟨_,rfl,rfl⟩
  ·replace h:=O hc17 h
   refine P (kt<|kt<|kt<|kn) fun _=>?_
   refine F<|C rfl<|a5 rfl rfl<|C rfl<|E (kt<|kt<|kt<|kn) ?_
   cases h
   refine ⟨_,rfl,?_⟩
   rw [Ktv rfl (Ktv rfl (Ktv rfl (Knil _)))]
   rw [b2 (a4 (hw0 5)) hi0 (e4 (a4 (hw0 0)) rfl)]
   all_goals rfl
 ·intro i0 s0 hi0
  refine D<|D<|F<|C rfl<|C rfl<|V rfl rfl<|X rfl rfl<|E (kt<|kt<|kt<|kt<|kn) fun _=>?_
  refine b5 rfl (b6 hi0)<|b0 (kn) ?_
  exact ⟨rfl,rfl⟩
 ·intro s0 hs
  replace h:=d1 h hs
  intro _
  refine D<|F<|C rfl<|E (kt<|kn) fun _=>?_
  exact L (by cases h;rfl)
 ·intro v0 ze hv hR
  replace h:=d2 h hv
  cases h
  exact hR
theorem ck178:CK f178 (Rq [Af 2 0,Af 3 1,Ad 4 0] [2,3]<|Sq (Rq [Ac 9 3 0,Ab 10 9,Ac 11 2 0,Ab 12 11,Ag 13 12,An 14 220 10 13,Aa 5 14] [2,3,5]<|Rq [Aa 15 5,Ax 16 15 0] [2,3,5,16]<|Co 16 (Rq [Aa 17 5,Aa 4 17] [4]<|.ret)<|Sk [2,3])<|Sq (Rq [Ac 18 3 1,Ab 19 18,Ac 20 2 1,Ab 21 20,Ag 22 21,An 23 220 19 22,Aa 6 23] [2,3,6]<|Rq [Aa 24 6,Ax 25 24 0] [2,3,6,25]<|Co 25 (Rq [Aa 26 6,Aa 4 26] [4]<|.ret)<|Sk [2,3])<|Sq (Rq [Ad 7 0] [2,3,7]<|Bl 0<|Lo [2,3,7]<|Sq (Rq [Aa 27 7,Ac 28 3 1,Ab 29 28,Ag 30 29,Ap 31 27 30] [2,3,7,31]<|Co 31 (Sk [2,3,7])<|Ex 0 [])<|Sq (Bl 1<|Sq (Dr [8,34,35,36,37,38,39,40,41,42] [Ac 34 2 1,Ab 35 34,Ac 36 3 1,Ab 37 36,Aa 38 7,Ah 39 37 38 1,Ab 40 39,Ah 41 35 40 3,Ae 42 41 3,Cd 8 0 0 0,Ak 3 8 42] [2,3,7,8])<|Rq [Ac 43 3 0,Ab 44 43,Ac 45 8 1,Ab 46 45,An 47 221 44 46,Ay 48 47,Aa 49 48,Am 50 3 0 49,Al 51 50 49,Am 52 8 2 49,Al 53 52 49,Cp 54 221 51 53 49,Bq 55 54 49,Ar 56 49 55] [2,3,7,56]<|Co 56 (Rq [Ad 4 14] [4]<|.ret)<|Sk [2,3,7])<|Re [Aa 32 7,Ao 33 32 1,Aa 7 33] [2,3,7])<|Rq [Ad 4 0] [4]<|.ret) [.tmp 4]:= by decide +kernel
theorem c178 (g:Graph) (p:Part) (r:Int) (h:ref07_Right g p=some r):Sound prog 178 [eGraph g,ePart p] (.sh (eI r)):= by
 refine Fn ck178 fun hw=>?_
 unfold ref07_Right at h
 refine D<|F<|a1 rfl rfl<|a1 rfl rfl<|C rfl<|E (kt<|kt<|kn) fun _=>?_
 refine D<|D<|F<|K rfl<|I rfl<|K rfl<|I rfl<|V rfl rfl ?_
 obtain ⟨x14,hx14,h⟩:=J h
 refine W rfl (c220 p.Nodes (g.Nodes.length:Int) _ hx14)<|C rfl<|E (kt<|kt<|kt<|kn) fun _=>?_
 refine D<|F<|C rfl<|a7 rfl rfl<|E (kt<|kt<|kt<|kt<|kn) fun _=>?_
 refine U rfl (fun hc16=>?_) (fun hc16=>?_)
 ·replace h:=M hc16 h
  refine D<|F<|C rfl<|C rfl<|E (kt<|kn) fun _=>?_
  exact L (by cases h;rfl)
 ·replace h:=O hc16 h
  refine P (kt<|kt<|kn) fun _=>?_
  refine D<|D<|F<|K rfl<|I rfl<|K rfl<|I rfl<|V rfl rfl ?_
  obtain ⟨x23,hx23,h⟩:=J h
  refine W rfl (c220 p.Edges (g.Edges.length:Int) _ hx23)<|C rfl<|E (kt<|kt<|kt<|kn) fun _=>?_
  refine D<|F<|C rfl<|a7 rfl rfl<|E (kt<|kt<|kt<|kt<|kn) fun _=>?_
  refine U rfl (fun hc25=>?_) (fun hc25=>?_)
  ·replace h:=M hc25 h
   refine D<|F<|C rfl<|C rfl<|E (kt<|kn) fun _=>?_
   exact L (by cases h;rfl)
  ·replace h:=O hc25 h
   refine P (kt<|kt<|kn) fun _=>?_
   refine D<|D<|F<|C rfl<|E (kt<|kt<|kt<|kn) fun _=>?_
   obtain ⟨o0,ho0,h⟩:=d0 h
   refine d5 ho0 (fun (i0:Int) (_:Unit)=>[(2,.tv (.pt (eGraph g).cells)),(3,.tv (.pt (ePart p).cells)),(7,.tv (eI i0))]) (fun (_:Unit)=>[]) (fun zv ze=>resIs ([.tmp 4]) (.sh (eI zv)) ze) rfl ?_ ?_ ?_ ?_
   ·clear h ho0
    intro i0 s0 r0 hi0 h hw0
    refine D<|D<|F<|C rfl<|K rfl<|I rfl<|V rfl rfl<|X rfl rfl<|E (kt<|kt<|kt<|kt<|kn) fun _=>?_
    refine b3 rfl (b4 hi0)<|P (kt<|kt<|kt<|kn) fun _=>?_
    refine D<|a8<|D<|d4 rfl<|K rfl<|I rfl<|K rfl<|I rfl<|C rfl ?_
    obtain ⟨x39,hx39,h⟩:=J h
    refine a2 rfl rfl rfl hx39 rfl<|I rfl ?_
    obtain ⟨x41,hx41,h⟩:=J h
    refine a2 rfl rfl rfl hx41 rfl<|R rfl rfl (show _=eEdge x41 from rfl)<|b1 rfl<|a9 rfl rfl rfl rfl rfl<|E (kt<|kt<|kt<|kb<|kn) fun _=>?_
    refine D<|F<|K rfl<|I rfl<|a3 rfl<|I rfl ?_
    obtain ⟨x47,hx47,h⟩:=J h
    refine W rfl (c221 p.Nodes x41.From _ hx47)<|b7 rfl<|C rfl ?_
    obtain ⟨x56,hx56,h⟩:=J h
    refine gX 7 [50,51,52,53,54,55] 56 x56 (!x47) (fun hg56=>?_) (fun hg56=>?_) ?_
    ·replace h:=M hg56 hx56
     cases h
     refine H rfl hg56<|H rfl hg56<|H rfl hg56<|H rfl hg56<|H rfl hg56<|H rfl hg56<|Z rfl hg56 rfl ?_
     exact ⟨⟨_,_,_,_,_,_,rfl⟩⟩
    ·replace h:=O hg56 hx56
     refine G rfl hg56<|K rfl<|G rfl hg56<|I rfl<|G rfl hg56<|a3 rfl<|G rfl hg56<|I rfl ?_
     obtain ⟨x54,hx54,h⟩:=J h
     refine G rfl hg56<|W rfl (c221 p.Nodes x41.To _ hx54)<|G rfl hg56<|b7 rfl ?_
     cases h
     refine a0 rfl hg56 rfl ?_
     exact ⟨⟨_,_,_,_,_,_,rfl⟩⟩
    rintro _ ⟨_,_,_,_,_,_,rfl⟩
    refine E (kt<|kt<|kt<|kt<|kn) fun _=>?_
    refine U rfl (fun hc56=>?_) (fun hc56=>?_)
    ·replace h:=M hc56 h
     refine D<|F<|C rfl<|E (kt<|kn) fun _=>?_
     refine L ?_
     cases h
     exact ⟨_,rfl,rfl⟩
    ·replace h:=O hc56 h
     refine P (kt<|kt<|kt<|kn) fun _=>?_
     refine F<|C rfl<|a5 rfl rfl<|C rfl<|E (kt<|kt<|kt<|kn) ?_
     cases h
     refine ⟨_,rfl,?_⟩
     rw [Ktv rfl (Ktv rfl (Ktv rfl (Knil _)))]
     rw [b2 (a4 (hw0 7)) hi0 (e4 (e9 (f0 (hw0 3)) (i:=1) rfl) rfl)]
     all_goals rfl
   ·intro i0 s0 hi0
    refine D<|D<|F<|C rfl<|K rfl<|I rfl<|V rfl rfl<|X rfl rfl<|E (kt<|kt<|kt<|kt<|kn) fun _=>?_
    refine b5 rfl (b6 hi0)<|b0 (kn) ?_
    exact ⟨rfl,rfl⟩
   ·intro s0 hs
    replace h:=d1 h hs
    intro _
    refine D<|F<|C rfl<|E (kt<|kn) fun _=>?_
    exact L (by cases h;rfl)
   ·intro v0 ze hv hR
    replace h:=d2 h hv
    cases h
    exact hR
theorem ck134:CK f134 (Rq [Af 2 0,Af 3 1,Ad 4 0] [2,3]<|Sq (Rq [Ae 6 2 2,Au 7 127 6,Aa 5 7] [2,3,5]<|Rq [Aa 8 5,Ax 9 8 0] [2,3,5,9]<|Co 9 (Rq [Aa 10 5,Aa 4 10] [4]<|.ret)<|Sk [2,3])<|Rq [Ae 11 2 2,Ae 12 3 2,An 13 178 11 12,Aa 4 13] [4]<|.ret) [.tmp 4]:= by decide +kernel
theorem c134 (g:Graph) (p:Part) (r:Int) (h:ref07_Valid g p=some r):Sound prog 134 [eGraph g,ePart p] (.sh (eI r)):= by
 refine Fn ck134 fun hw=>?_
 unfold ref07_Valid at h
 refine D<|F<|a1 rfl rfl<|a1 rfl rfl<|C rfl<|E (kt<|kt<|kn) fun _=>?_
 refine D<|D<|F<|R rfl rfl (show _=eGraph g from rfl) ?_
 obtain ⟨x7,hx7,h⟩:=J h
 refine W rfl (c127 g _ hx7)<|C rfl<|E (kt<|kt<|kt<|kn) fun _=>?_
 refine D<|F<|C rfl<|a7 rfl rfl<|E (kt<|kt<|kt<|kt<|kn) fun _=>?_
 refine U rfl (fun hc9=>?_) (fun hc9=>?_)
 ·replace h:=M hc9 h
  refine D<|F<|C rfl<|C rfl<|E (kt<|kn) fun _=>?_
  exact L (by cases h;rfl)
 ·replace h:=O hc9 h
  refine P (kt<|kt<|kn) fun _=>?_
  refine D<|F<|R rfl rfl (show _=eGraph g from rfl)<|R rfl rfl (show _=ePart p from rfl) ?_
  obtain ⟨x13,hx13,h⟩:=J h
  refine W rfl (c178 g p _ hx13)<|C rfl<|E (kt<|kn) fun _=>?_
  exact L (by cases h;rfl)
theorem ck179:CK f179 (Rq [Ad 4 0] [0,1]<|Sq (Rq [Ad 5 0] [0,1,5]<|Bl 0<|Lo [0,1,5]<|Sq (Rq [Aa 6 5,Aa 7 0,Ag 8 7,Ap 9 6 8] [0,1,5,9]<|Co 9 (Sk [0,1,5])<|Ex 0 [])<|Sq (Bl 1<|Rq [Aa 12 0,Aa 13 5,Ah 14 12 13 1,Ab 15 14,Aa 16 1,By 17 15 16] [0,1,5,17]<|Co 17 (Rq [Aa 18 5,Aa 4 18] [4]<|.ret)<|Sk [0,1,5])<|Re [Aa 10 5,Ao 11 10 1,Aa 5 11] [0,1,5])<|Rq [Ce 4 (-1)] [4]<|.ret) [.tmp 4]:= by decide +kernel
theorem c179 (l:List Int) (n:Int) (r:Int) (h:ref07_index l n=some r):Sound prog 179 [lI l,eI n] (.sh (eI r)):= by
 refine Fn ck179 fun hw=>?_
 unfold ref07_index at h
 refine D<|F<|C rfl<|E (kt<|kt<|kn) fun _=>?_
 refine D<|D<|F<|C rfl<|E (kt<|kt<|kt<|kn) fun _=>?_
 obtain ⟨o0,ho0,h⟩:=d0 h
 refine d5 ho0 (fun (i0:Int) (_:Unit)=>[(0,.tv (lI l)),(1,.tv (eI n)),(5,.tv (eI i0))]) (fun (_:Unit)=>[]) (fun zv ze=>resIs ([.tmp 4]) (.sh (eI zv)) ze) rfl ?_ ?_ ?_ ?_
 ·clear h ho0
  intro i0 s0 r0 hi0 h hw0
  refine D<|D<|F<|C rfl<|C rfl<|V rfl rfl<|X rfl rfl<|E (kt<|kt<|kt<|kt<|kn) fun _=>?_
  refine b3 rfl (b4 hi0)<|P (kt<|kt<|kt<|kn) fun _=>?_
  refine D<|a8<|D<|F<|C rfl<|C rfl ?_
  obtain ⟨x14,hx14,h⟩:=J h
  refine a2 rfl rfl rfl hx14 rfl<|I rfl<|C rfl<|b8 rfl rfl<|E (kt<|kt<|kt<|kt<|kn) fun _=>?_
  refine U rfl (fun hc17=>?_) (fun hc17=>?_)
  ·replace h:=M hc17 h
   refine D<|F<|C rfl<|C rfl<|E (kt<|kn) fun _=>?_
   refine L ?_
   cases h
   exact ⟨_,rfl,rfl⟩
  ·replace h:=O hc17 h
   refine P (kt<|kt<|kt<|kn) fun _=>?_
   refine F<|C rfl<|a5 rfl rfl<|C rfl<|E (kt<|kt<|kt<|kn) ?_
   cases h
   refine ⟨_,rfl,?_⟩
   rw [Ktv rfl (Ktv rfl (Ktv rfl (Knil _)))]
   rw [b2 (a4 (hw0 5)) hi0 (e4 (a4 (hw0 0)) rfl)]
   all_goals rfl
 ·intro i0 s0 hi0
  refine D<|D<|F<|C rfl<|C rfl<|V rfl rfl<|X rfl rfl<|E (kt<|kt<|kt<|kt<|kn) fun _=>?_
  refine b5 rfl (b6 hi0)<|b0 (kn) ?_
  exact ⟨rfl,rfl⟩
 ·intro s0 hs
  replace h:=d1 h hs
  intro _
  refine D<|F<|C rfl<|E (kt<|kn) fun _=>?_
  exact L (by cases h;rfl)
 ·intro v0 ze hv hR
  replace h:=d2 h hv
  cases h
  exact hR
theorem ck135:CK f135 (Rq [Af 2 0,Af 3 1,Bd 4 1 3,Bd 5 1 1,Ad 6 0] [2,3,4,5]<|Sq (Rq [Ae 12 2 2,Ae 13 3 2,An 14 134 12 13,Aa 7 14] [2,3,4,5,7]<|Rq [Aa 15 7,Ax 16 15 0] [2,3,4,5,7,16]<|Co 16 (Rq [Da 17 1 3,Da 18 1 1,Aa 19 7,Ak 2 4 17,Ak 2 5 18,Aa 6 19] [4,5,6]<|.ret)<|Sk [2,3,4,5])<|Rq [Bd 8 1 3] [2,3,4,5,8]<|Sq (Rq [Ad 9 0] [2,3,4,5,8,9]<|Bl 0<|Lo [2,3,4,5,8,9]<|Sq (Rq [Aa 20 9,Ac 21 3 0,Ab 22 21,Ag 23 22,Ap 24 20 23] [2,3,4,5,8,9,24]<|Co 24 (Sk [2,3,4,5,8,9])<|Ex 0 [2,3,4,5,8])<|Sq (Bl 1<|Dr [27,28,29,30,31,32,33,34,35,36,37,38,39,40] [Ac 27 8 0,Bp 28 27,Ac 29 2 0,Ab 30 29,Ac 31 3 0,Ab 32 31,Aa 33 9,Ah 34 32 33 1,Ab 35 34,Ah 36 30 35 1,Ab 37 36,Bh 38 1 37,Bc 39 1 28 38,Ac 40 8 0,Bm 1 40 39] [2,3,4,5,8,9])<|Re [Aa 25 9,Ao 26 25 1,Aa 9 26] [2,3,4,5,8,9])<|Sq (Rq [Ad 10 0] [2,3,4,5,8,10]<|Bl 2<|Lo [2,3,4,5,8,10]<|Sq (Rq [Aa 41 10,Ac 42 3 1,Ab 43 42,Ag 44 43,Ap 45 41 44] [2,3,4,5,8,10,45]<|Co 45 (Sk [2,3,4,5,8,10])<|Ex 2 [3,4,5,8])<|Sq (Bl 3<|Sq (Dr [11,48,49,50,51,52,53,54,55,56] [Ac 48 2 1,Ab 49 48,Ac 50 3 1,Ab 51 50,Aa 52 10,Ah 53 51 52 1,Ab 54 53,Ah 55 49 54 3,Ae 56 55 3,Cd 11 0 0 0,Ak 3 11 56] [2,3,4,5,8,10,11])<|Dr [57,58,59,60,61,62,63,64,65,66,67,68,69,70,71,72,73,74] [Ac 57 8 1,Bp 58 57,Ac 59 11 0,Ab 60 59,Ac 61 3 0,Ab 62 61,Ac 63 11 1,Ab 64 63,An 65 179 62 64,Ac 66 3 0,Ab 67 66,Ac 68 11 2,Ab 69 68,An 70 179 67 69,Ed 71 0 0 0 0 1 60 1 1 65 2 1 70,Bh 72 3 71,Bc 73 3 58 72,Ac 74 8 1,Bm 1 74 73] [2,3,4,5,8,10])<|Re [Aa 46 10,Ao 47 46 1,Aa 10 47] [2,3,4,5,8,10])<|Sq (Dr [4,5,6,75,76,77,78,79,80,81,82,83,84] [Ae 75 8 2,Cq 76 1,Ac 77 3 0,Ab 78 77,Bc 79 1 76 78,Cq 80 1,Ac 81 3 1,Ab 82 81,Bc 83 1 80 82,Cx 84 1 1 0 1 79 1 1 83,Ak 2 4 75,Ak 2 5 84,Ad 6 0] [4,5,6])<|.ret) [.cell 4 (some 2),.cell 5 (some 2),.tmp 6]:= by decide +kernel
theorem c135 (g:Graph) (p:Part) (r:(Graph × Morphism × Int)) (h:ref07_Extract g p=some r):Sound prog 135 [eGraph g,ePart p] (.tp [eGraph r.1,eMorphism r.2.1,eI r.2.2]):= by
 refine Fn ck135 fun hw=>?_
 unfold ref07_Extract at h
 refine D<|F<|a1 rfl rfl<|a1 rfl rfl<|b1 rfl<|b1 rfl<|C rfl<|E (kt<|kt<|kb<|kb<|kn) fun _=>?_
 refine D<|D<|F<|R rfl rfl (show _=eGraph g from rfl)<|R rfl rfl (show _=ePart p from rfl) ?_
 obtain ⟨x14,hx14,h⟩:=J h
 refine W rfl (c134 g p _ hx14)<|C rfl<|E (kt<|kt<|kb<|kb<|kt<|kn) fun _=>?_
 refine D<|F<|C rfl<|a7 rfl rfl<|E (kt<|kt<|kb<|kb<|kt<|kt<|kn) fun _=>?_
 refine U rfl (fun hc16=>?_) (fun hc16=>?_)
 ·replace h:=M hc16 h
  refine D<|F<|e7 rfl rfl (show _=eGraph (Graph.mk [] []) from rfl)<|e7 rfl rfl (show _=eMorphism (Morphism.mk [] []) from rfl)<|C rfl<|a9 rfl rfl rfl rfl rfl<|a9 rfl rfl rfl rfl rfl<|C rfl<|E (kb<|kb<|kt<|kn) fun _=>?_
  refine L ?_
  cases h
  exact ⟨by decide,rfl⟩
 ·replace h:=O hc16 h
  refine P (kt<|kt<|kb<|kb<|kn) fun _=>?_
  refine D<|F<|b1 rfl<|E (kt<|kt<|kb<|kb<|kb<|kn) fun _=>?_
  refine D<|D<|F<|C rfl<|E (kt<|kt<|kb<|kb<|kb<|kt<|kn) fun _=>?_
  obtain ⟨s0,hs0,h⟩:=J h
  refine f8 hs0 (fun (i0:Int) (s0:Graph)=>[(2,.tv (.pt (eGraph g).cells)),(3,.tv (.pt (ePart p).cells)),(4,.bx [⟨true,lI []⟩,⟨true,lE []⟩]),(5,.bx [⟨true,lI []⟩,⟨true,lI []⟩]),(8,.bx [⟨true,lI s0.Nodes⟩,⟨true,lE s0.Edges⟩]),(9,.tv (eI i0))]) (fun (s0:Graph)=>[(2,.tv (.pt (eGraph g).cells)),(3,.tv (.pt (ePart p).cells)),(4,.bx [⟨true,lI []⟩,⟨true,lE []⟩]),(5,.bx [⟨true,lI []⟩,⟨true,lI []⟩]),(8,.bx [⟨true,lI s0.Nodes⟩,⟨true,lE s0.Edges⟩])]) rfl ?_ ?_ ?_
  ·clear h hs0
   intro i0 s0 r0 hi0 h hw0
   refine D<|D<|F<|C rfl<|K rfl<|I rfl<|V rfl rfl<|X rfl rfl<|E (kt<|kt<|kb<|kb<|kb<|kt<|kt<|kn) fun _=>?_
   refine b3 rfl (b4 hi0)<|P (kt<|kt<|kb<|kb<|kb<|kt<|kn) fun _=>?_
   refine D<|a8<|d4 rfl<|a3 rfl<|f6 rfl rfl rfl rfl<|K rfl<|I rfl<|K rfl<|I rfl<|C rfl ?_
   obtain ⟨x34,hx34,h⟩:=J h
   refine a2 rfl rfl rfl hx34 rfl<|I rfl ?_
   obtain ⟨x36,hx36,h⟩:=J h
   refine a2 rfl rfl rfl hx36 rfl<|I rfl<|e2 (e:=eI) (l:=[x36]) rfl rfl (fun _=>rfl) ?_
   obtain ⟨x39,hx39,h⟩:=J h
   refine e5 rfl rfl rfl rfl hx39 rfl<|a3 rfl<|f4 rfl rfl rfl (by decide) rfl rfl<|E (kt<|kt<|kb<|kb<|kb<|kt<|kn) fun _=>?_
   refine F<|C rfl<|a5 rfl rfl<|C rfl<|E (kt<|kt<|kb<|kb<|kb<|kt<|kn) ?_
   cases h
   show Env.keep _ _=_
   rw [Ktv rfl (Ktv rfl (Kbx rfl (Kbx rfl (Kbx rfl (Ktv rfl (Knil _))))))]
   rw [b2 (a4 (hw0 9)) hi0 (e4 (e9 (f0 (hw0 3)) (i:=0) rfl) rfl)]
   all_goals rfl
  ·intro i0 s0 hi0
   refine D<|D<|F<|C rfl<|K rfl<|I rfl<|V rfl rfl<|X rfl rfl<|E (kt<|kt<|kb<|kb<|kb<|kt<|kt<|kn) fun _=>?_
   refine b5 rfl (b6 hi0)<|b0 (kt<|kt<|kb<|kb<|kb<|kn) ?_
   exact ⟨rfl,rfl⟩
  ·intro _
   refine D<|D<|F<|C rfl<|E (kt<|kt<|kb<|kb<|kb<|kt<|kn) fun _=>?_
   obtain ⟨s2,hs2,h⟩:=J h
   refine f8 hs2 (fun (i2:Int) (s2:Graph)=>[(2,.tv (.pt (eGraph g).cells)),(3,.tv (.pt (ePart p).cells)),(4,.bx [⟨true,lI []⟩,⟨true,lE []⟩]),(5,.bx [⟨true,lI []⟩,⟨true,lI []⟩]),(8,.bx [⟨true,lI s2.Nodes⟩,⟨true,lE s2.Edges⟩]),(10,.tv (eI i2))]) (fun (s2:Graph)=>[(3,.tv (.pt (ePart p).cells)),(4,.bx [⟨true,lI []⟩,⟨true,lE []⟩]),(5,.bx [⟨true,lI []⟩,⟨true,lI []⟩]),(8,.bx [⟨true,lI s2.Nodes⟩,⟨true,lE s2.Edges⟩])]) rfl ?_ ?_ ?_
   ·clear h hs2
    intro i2 s2 r2 hi2 h hw2
    refine D<|D<|F<|C rfl<|K rfl<|I rfl<|V rfl rfl<|X rfl rfl<|E (kt<|kt<|kb<|kb<|kb<|kt<|kt<|kn) fun _=>?_
    refine b3 rfl (b4 hi2)<|P (kt<|kt<|kb<|kb<|kb<|kt<|kn) fun _=>?_
    refine D<|a8<|D<|d4 rfl<|K rfl<|I rfl<|K rfl<|I rfl<|C rfl ?_
    obtain ⟨x53,hx53,h⟩:=J h
    refine a2 rfl rfl rfl hx53 rfl<|I rfl ?_
    obtain ⟨x55,hx55,h⟩:=J h
    refine a2 rfl rfl rfl hx55 rfl<|R rfl rfl (show _=eEdge x55 from rfl)<|b1 rfl<|a9 rfl rfl rfl rfl rfl<|E (kt<|kt<|kb<|kb<|kb<|kt<|kb<|kn) fun _=>?_
    refine d4 rfl<|a3 rfl<|f6 rfl rfl rfl rfl<|a3 rfl<|I rfl<|K rfl<|I rfl<|a3 rfl<|I rfl ?_
    obtain ⟨x65,hx65,h⟩:=J h
    refine W rfl (c179 p.Nodes x55.From _ hx65)<|K rfl<|I rfl<|a3 rfl<|I rfl ?_
    obtain ⟨x70,hx70,h⟩:=J h
    refine W rfl (c179 p.Nodes x55.To _ hx70)<|g5 rfl rfl rfl (show _=eEdge (Edge.mk x55.Type' x65 x70) from rfl)<|e2 (e:=eEdge) (l:=[Edge.mk x55.Type' x65 x70]) rfl rfl (fun _=>rfl) ?_
    obtain ⟨x73,hx73,h⟩:=J h
    refine e5 rfl rfl rfl rfl hx73 rfl<|a3 rfl<|f4 rfl rfl rfl (by decide) rfl rfl<|E (kt<|kt<|kb<|kb<|kb<|kt<|kn) fun _=>?_
    refine F<|C rfl<|a5 rfl rfl<|C rfl<|E (kt<|kt<|kb<|kb<|kb<|kt<|kn) ?_
    cases h
    show Env.keep _ _=_
    rw [Ktv rfl (Ktv rfl (Kbx rfl (Kbx rfl (Kbx rfl (Ktv rfl (Knil _))))))]
    rw [b2 (a4 (hw2 10)) hi2 (e4 (e9 (f0 (hw2 3)) (i:=1) rfl) rfl)]
    all_goals rfl
   ·intro i2 s2 hi2
    refine D<|D<|F<|C rfl<|K rfl<|I rfl<|V rfl rfl<|X rfl rfl<|E (kt<|kt<|kb<|kb<|kb<|kt<|kt<|kn) fun _=>?_
    refine b5 rfl (b6 hi2)<|b0 (kt<|kb<|kb<|kb<|kn) ?_
    exact ⟨rfl,rfl⟩
   ·intro _
    refine D<|d4 rfl<|R rfl rfl (show _=eGraph s2 from rfl)<|e2 (e:=eI) (l:=[]) rfl rfl (fun _=>rfl)<|K rfl<|I rfl ?_
    obtain ⟨x79,hx79,h⟩:=J h
    refine e5 rfl rfl rfl rfl hx79 rfl<|e2 (e:=eI) (l:=[]) rfl rfl (fun _=>rfl)<|K rfl<|I rfl ?_
    obtain ⟨x83,hx83,h⟩:=J h
    refine e5 rfl rfl rfl rfl hx83 rfl<|g5 rfl rfl rfl (show _=eMorphism (Morphism.mk x79 x83) from rfl)<|a9 rfl rfl rfl rfl rfl<|a9 rfl rfl rfl rfl rfl<|C rfl<|E (kb<|kb<|kt<|kn) fun _=>?_
    refine L ?_
    cases h
    exact ⟨by decide,rfl⟩
theorem ck136:CK f136 (Rq [Af 3 0,Af 4 1,Af 5 2,Ad 6 0] [3,4,5]<|Sq (Rq [Ae 13 3 2,Au 14 127 13,Aa 7 14] [3,4,5,7]<|Rq [Aa 15 7,Ax 16 15 0] [3,4,5,7,16]<|Co 16 (Rq [Aa 17 7,Aa 6 17] [6]<|.ret)<|Sk [3,4,5])<|Sq (Rq [Ae 18 4 2,Au 19 127 18,Aa 8 19] [3,4,5,8]<|Rq [Aa 20 8,Ax 21 20 0] [3,4,5,8,21]<|Co 21 (Rq [Aa 22 8,Aa 6 22] [6]<|.ret)<|Sk [3,4,5])<|Sq (Rq [Ac 23 5 0,Ab 24 23,Ag 25 24,Ac 26 3 0,Ab 27 26,Ag 28 27,Bs 29 25 28,Aa 30 29,Am 31 5 1 30,Al 32 31 30,Ba 33 32 30,Am 34 3 1 30,Al 35 34 30,Ba 36 35 30,Cj 37 33 36 30,Ar 38 30 37] [3,4,5,38]<|Co 38 (Rq [Ad 6 20] [6]<|.ret)<|Sk [3,4,5])<|Sq (Rq [Ad 9 0] [3,4,5,9]<|Bl 0<|Lo [3,4,5,9]<|Sq (Rq [Aa 39 9,Ac 40 3 0,Ab 41 40,Ag 42 41,Ap 43 39 42] [3,4,5,9,43]<|Co 43 (Sk [3,4,5,9])<|Ex 0 [3,4,5])<|Sq (Bl 1<|Sq (Sq (Dr [46,47,48,49,50,51,52,53,54,55,56,57,58,59,60,61,62] [Ac 46 5 0,Ab 47 46,Aa 48 9,Ah 49 47 48 1,Ab 50 49,Bt 51 50 0,Aa 52 51,Am 53 5 0 52,Al 54 53 52,Az 55 9 52,Cr 56 54 55 1 52,Al 57 56 52,Am 58 4 0 52,Al 59 58 52,Ba 60 59 52,Br 61 57 60 52,Ar 62 52 61] [3,4,5,9,62])<|Co 62 (Rq [Ad 6 6] [6]<|.ret)<|Sk [3,4,5,9])<|Sq (Dr [63,64,65,66,67,68,69,70,71,72,73,74,75,76,77] [Ac 63 4 0,Ab 64 63,Ac 65 5 0,Ab 66 65,Aa 67 9,Ah 68 66 67 1,Ab 69 68,Ah 70 64 69 1,Ab 71 70,Ac 72 3 0,Ab 73 72,Aa 74 9,Ah 75 73 74 1,Ab 76 75,Bs 77 71 76] [3,4,5,9,77])<|Co 77 (Rq [Ad 6 13] [6]<|.ret)<|Sk [3,4,5,9])<|Re [Aa 44 9,Ao 45 44 1,Aa 9 45] [3,4,5,9])<|Sq (Rq [Ad 10 0] [3,4,5,10]<|Bl 2<|Lo [3,4,5,10]<|Sq (Rq [Aa 78 10,Ac 79 3 1,Ab 80 79,Ag 81 80,Ap 82 78 81] [3,4,5,10,82]<|Co 82 (Sk [3,4,5,10])<|Ex 2 [])<|Sq (Bl 3<|Sq (Sq (Dr [85,86,87,88,89,90,91,92,93,94,95,96,97,98,99,100,101] [Ac 85 5 1,Ab 86 85,Aa 87 10,Ah 88 86 87 1,Ab 89 88,Bt 90 89 0,Aa 91 90,Am 92 5 1 91,Al 93 92 91,Az 94 10 91,Cr 95 93 94 1 91,Al 96 95 91,Am 97 4 1 91,Al 98 97 91,Ba 99 98 91,Br 100 96 99 91,Ar 101 91 100] [3,4,5,10,101])<|Co 101 (Rq [Ad 6 6] [6]<|.ret)<|Sk [3,4,5,10])<|Sq (Dr [11,12,102,103,104,105,106,107,108,109,110,111,112,113,114,115] [Ac 102 3 1,Ab 103 102,Aa 104 10,Ah 105 103 104 3,Ae 106 105 3,Ac 107 4 1,Ab 108 107,Ac 109 5 1,Ab 110 109,Aa 111 10,Ah 112 110 111 1,Ab 113 112,Ah 114 108 113 3,Ae 115 114 3,Cd 11 0 0 0,Cd 12 0 0 0,Ak 3 11 106,Ak 3 12 115] [3,4,5,10,11,12])<|Sq (Rq [Ac 116 11 0,Ab 117 116,Ac 118 12 0,Ab 119 118,Bs 120 117 119] [3,4,5,10,11,12,120]<|Co 120 (Rq [Ad 6 13] [6]<|.ret)<|Sk [3,4,5,10,11,12])<|Sq (Dr [121,122,123,124,125,126,127,128,129,130,131,132,133,134,135,136,137,138,139,140] [Ac 121 5 0,Ab 122 121,Ac 123 11 1,Ab 124 123,Ah 125 122 124 1,Ab 126 125,Ac 127 12 1,Ab 128 127,Bs 129 126 128,Aa 130 129,Am 131 5 0 130,Al 132 131 130,Am 133 11 2 130,Al 134 133 130,Cr 135 132 134 1 130,Al 136 135 130,Am 137 12 2 130,Al 138 137 130,Cj 139 136 138 130,Ar 140 130 139] [3,4,5,10,140])<|Co 140 (Rq [Ad 6 11] [6]<|.ret)<|Sk [3,4,5,10])<|Re [Aa 83 10,Ao 84 83 1,Aa 10 84] [3,4,5,10])<|Rq [Ad 6 0] [6]<|.ret) [.tmp 6]:= by decide +kernel
theorem c136 (a:Graph) (b:Graph) (m:Morphism) (r:Int) (h:ref06_Valid a b m=some r):Sound prog 136 [eGraph a,eGraph b,eMorphism m] (.sh (eI r)):= by
 refine Fn ck136 fun hw=>?_
 unfold ref06_Valid at h
 refine D<|F<|a1 rfl rfl<|a1 rfl rfl<|a1 rfl rfl<|C rfl<|E (kt<|kt<|kt<|kn) fun _=>?_
 refine D<|D<|F<|R rfl rfl (show _=eGraph a from rfl) ?_
 obtain ⟨x14,hx14,h⟩:=J h
 refine W rfl (c127 a _ hx14)<|C rfl<|E (kt<|kt<|kt<|kt<|kn) fun _=>?_
 refine D<|F<|C rfl<|a7 rfl rfl<|E (kt<|kt<|kt<|kt<|kt<|kn) fun _=>?_
 refine U rfl (fun hc16=>?_) (fun hc16=>?_)
 ·replace h:=M hc16 h
  refine D<|F<|C rfl<|C rfl<|E (kt<|kn) fun _=>?_
  exact L (by cases h;rfl)
 ·replace h:=O hc16 h
  refine P (kt<|kt<|kt<|kn) fun _=>?_
  refine D<|D<|F<|R rfl rfl (show _=eGraph b from rfl) ?_
  obtain ⟨x19,hx19,h⟩:=J h
  refine W rfl (c127 b _ hx19)<|C rfl<|E (kt<|kt<|kt<|kt<|kn) fun _=>?_
  refine D<|F<|C rfl<|a7 rfl rfl<|E (kt<|kt<|kt<|kt<|kt<|kn) fun _=>?_
  refine U rfl (fun hc21=>?_) (fun hc21=>?_)
  ·replace h:=M hc21 h
   refine D<|F<|C rfl<|C rfl<|E (kt<|kn) fun _=>?_
   exact L (by cases h;rfl)
  ·replace h:=O hc21 h
   refine P (kt<|kt<|kt<|kn) fun _=>?_
   refine D<|D<|F<|K rfl<|I rfl<|V rfl rfl<|K rfl<|I rfl<|V rfl rfl<|a7 rfl rfl<|C rfl ?_
   refine gO 8 [31,32,33,34,35,36,37] 38 (!decide ((m.Nodes.length:Int)=(a.Nodes.length:Int))) (!decide ((m.Edges.length:Int)=(a.Edges.length:Int))) (fun hg38=>?_) (fun hg38=>?_) ?_
   ·refine H rfl hg38<|H rfl hg38<|H rfl hg38<|H rfl hg38<|H rfl hg38<|H rfl hg38<|H rfl hg38<|Z rfl hg38 rfl ?_
    exact ⟨⟨_,_,_,_,_,_,_,rfl⟩⟩
   ·refine G rfl hg38<|K rfl<|G rfl hg38<|I rfl<|G rfl hg38<|V rfl rfl<|G rfl hg38<|K rfl<|G rfl hg38<|I rfl<|G rfl hg38<|V rfl rfl<|G rfl hg38<|a7 rfl rfl<|a0 rfl hg38 rfl ?_
    exact ⟨⟨_,_,_,_,_,_,_,rfl⟩⟩
   rintro _ ⟨_,_,_,_,_,_,_,rfl⟩
   refine E (kt<|kt<|kt<|kt<|kn) fun _=>?_
   refine U rfl (fun hc38=>?_) (fun hc38=>?_)
   ·replace h:=M hc38 h
    refine D<|F<|C rfl<|E (kt<|kn) fun _=>?_
    exact L (by cases h;rfl)
   ·replace h:=O hc38 h
    refine P (kt<|kt<|kt<|kn) fun _=>?_
    refine D<|D<|F<|C rfl<|E (kt<|kt<|kt<|kt<|kn) fun _=>?_
    obtain ⟨o0,ho0,h⟩:=d0 h
    refine d5 ho0 (fun (i0:Int) (_:Unit)=>[(3,.tv (.pt (eGraph a).cells)),(4,.tv (.pt (eGraph b).cells)),(5,.tv (.pt (eMorphism m).cells)),(9,.tv (eI i0))]) (fun (_:Unit)=>[(3,.tv (.pt (eGraph a).cells)),(4,.tv (.pt (eGraph b).cells)),(5,.tv (.pt (eMorphism m).cells))]) (fun zv ze=>resIs ([.tmp 6]) (.sh (eI zv)) ze) rfl ?_ ?_ ?_ ?_
    ·clear h ho0
     intro i0 s0 r0 hi0 h hw0
     refine D<|D<|F<|C rfl<|K rfl<|I rfl<|V rfl rfl<|X rfl rfl<|E (kt<|kt<|kt<|kt<|kt<|kn) fun _=>?_
     refine b3 rfl (b4 hi0)<|P (kt<|kt<|kt<|kt<|kn) fun _=>?_
     refine D<|a8<|D<|D<|d4 rfl<|K rfl<|I rfl<|C rfl ?_
     obtain ⟨x49,hx49,h⟩:=J h
     refine a2 rfl rfl rfl hx49 rfl<|I rfl<|X rfl rfl<|C rfl ?_
     obtain ⟨x62,hx62,h⟩:=J h
     refine gX 10 [53,54,55,56,57,58,59,60,61] 62 x62 (decide (x49<0)) (fun hg62=>?_) (fun hg62=>?_) ?_
     ·replace h:=M hg62 hx62
      cases h
      refine H rfl hg62<|H rfl hg62<|H rfl hg62<|H rfl hg62<|H rfl hg62<|H rfl hg62<|H rfl hg62<|H rfl hg62<|H rfl hg62<|Z rfl hg62 rfl ?_
      exact ⟨⟨_,_,_,_,_,_,_,_,_,rfl⟩⟩
     ·replace h:=O hg62 hx62
      refine G rfl hg62<|K rfl<|G rfl hg62<|I rfl<|G rfl hg62<|C rfl ?_
      obtain ⟨x56,hx56,h⟩:=J h
      refine G rfl hg62<|a2 rfl rfl rfl hx56 rfl<|G rfl hg62<|I rfl<|G rfl hg62<|K rfl<|G rfl hg62<|I rfl<|G rfl hg62<|V rfl rfl<|G rfl hg62<|d6 rfl rfl ?_
      cases h
      refine a0 rfl hg62 rfl ?_
      exact ⟨⟨_,_,_,_,_,_,_,_,_,rfl⟩⟩
     rintro _ ⟨_,_,_,_,_,_,_,_,_,rfl⟩
     refine E (kt<|kt<|kt<|kt<|kt<|kn) fun _=>?_
     refine U rfl (fun hc62=>?_) (fun hc62=>?_)
     ·replace h:=M hc62 h
      refine D<|F<|C rfl<|E (kt<|kn) fun _=>?_
      refine L ?_
      cases h
      exact ⟨_,rfl,rfl⟩
     ·replace h:=O hc62 h
      refine P (kt<|kt<|kt<|kt<|kn) fun _=>?_
      refine D<|d4 rfl<|K rfl<|I rfl<|K rfl<|I rfl<|C rfl ?_
      obtain ⟨x68,hx68,h⟩:=J h
      refine a2 rfl rfl rfl hx68 rfl<|I rfl ?_
      obtain ⟨x70,hx70,h⟩:=J h
      refine a2 rfl rfl rfl hx70 rfl<|I rfl<|K rfl<|I rfl<|C rfl ?_
      obtain ⟨x75,hx75,h⟩:=J h
      refine a2 rfl rfl rfl hx75 rfl<|I rfl<|a7 rfl rfl<|E (kt<|kt<|kt<|kt<|kt<|kn) fun _=>?_
      refine U rfl (fun hc77=>?_) (fun hc77=>?_)
      ·replace h:=M hc77 h
       refine D<|F<|C rfl<|E (kt<|kn) fun _=>?_
       refine L ?_
       cases h
       exact ⟨_,rfl,rfl⟩
      ·replace h:=O hc77 h
       refine P (kt<|kt<|kt<|kt<|kn) fun _=>?_
       refine F<|C rfl<|a5 rfl rfl<|C rfl<|E (kt<|kt<|kt<|kt<|kn) ?_
       cases h
       refine ⟨_,rfl,?_⟩
       rw [Ktv rfl (Ktv rfl (Ktv rfl (Ktv rfl (Knil _))))]
       rw [b2 (a4 (hw0 9)) hi0 (e4 (e9 (f0 (hw0 3)) (i:=0) rfl) rfl)]
       all_goals rfl
    ·intro i0 s0 hi0
     refine D<|D<|F<|C rfl<|K rfl<|I rfl<|V rfl rfl<|X rfl rfl<|E (kt<|kt<|kt<|kt<|kt<|kn) fun _=>?_
     refine b5 rfl (b6 hi0)<|b0 (kt<|kt<|kt<|kn) ?_
     exact ⟨rfl,rfl⟩
    ·intro s0 hs
     replace h:=d1 h hs
     intro _
     refine D<|D<|F<|C rfl<|E (kt<|kt<|kt<|kt<|kn) fun _=>?_
     obtain ⟨o2,ho2,h⟩:=d0 h
     refine d5 ho2 (fun (i2:Int) (_:Unit)=>[(3,.tv (.pt (eGraph a).cells)),(4,.tv (.pt (eGraph b).cells)),(5,.tv (.pt (eMorphism m).cells)),(10,.tv (eI i2))]) (fun (_:Unit)=>[]) (fun zv ze=>resIs ([.tmp 6]) (.sh (eI zv)) ze) rfl ?_ ?_ ?_ ?_
     ·clear h ho2
      intro i2 s2 r2 hi2 h hw2
      refine D<|D<|F<|C rfl<|K rfl<|I rfl<|V rfl rfl<|X rfl rfl<|E (kt<|kt<|kt<|kt<|kt<|kn) fun _=>?_
      refine b3 rfl (b4 hi2)<|P (kt<|kt<|kt<|kt<|kn) fun _=>?_
      refine D<|a8<|D<|D<|d4 rfl<|K rfl<|I rfl<|C rfl ?_
      obtain ⟨x88,hx88,h⟩:=J h
      refine a2 rfl rfl rfl hx88 rfl<|I rfl<|X rfl rfl<|C rfl ?_
      obtain ⟨x101,hx101,h⟩:=J h
      refine gX 10 [92,93,94,95,96,97,98,99,100] 101 x101 (decide (x88<0)) (fun hg101=>?_) (fun hg101=>?_) ?_
      ·replace h:=M hg101 hx101
       cases h
       refine H rfl hg101<|H rfl hg101<|H rfl hg101<|H rfl hg101<|H rfl hg101<|H rfl hg101<|H rfl hg101<|H rfl hg101<|H rfl hg101<|Z rfl hg101 rfl ?_
       exact ⟨⟨_,_,_,_,_,_,_,_,_,rfl⟩⟩
      ·replace h:=O hg101 hx101
       refine G rfl hg101<|K rfl<|G rfl hg101<|I rfl<|G rfl hg101<|C rfl ?_
       obtain ⟨x95,hx95,h⟩:=J h
       refine G rfl hg101<|a2 rfl rfl rfl hx95 rfl<|G rfl hg101<|I rfl<|G rfl hg101<|K rfl<|G rfl hg101<|I rfl<|G rfl hg101<|V rfl rfl<|G rfl hg101<|d6 rfl rfl ?_
       cases h
       refine a0 rfl hg101 rfl ?_
       exact ⟨⟨_,_,_,_,_,_,_,_,_,rfl⟩⟩
      rintro _ ⟨_,_,_,_,_,_,_,_,_,rfl⟩
      refine E (kt<|kt<|kt<|kt<|kt<|kn) fun _=>?_
      refine U rfl (fun hc101=>?_) (fun hc101=>?_)
      ·replace h:=M hc101 h
       refine D<|F<|C rfl<|E (kt<|kn) fun _=>?_
       refine L ?_
       cases h
       exact ⟨_,rfl,rfl⟩
      ·replace h:=O hc101 h
       refine P (kt<|kt<|kt<|kt<|kn) fun _=>?_
       refine D<|d4 rfl<|K rfl<|I rfl<|C rfl ?_
       obtain ⟨x105,hx105,h⟩:=J h
       refine a2 rfl rfl rfl hx105 rfl<|R rfl rfl (show _=eEdge x105 from rfl)<|K rfl<|I rfl<|K rfl<|I rfl<|C rfl ?_
       obtain ⟨x112,hx112,h⟩:=J h
       refine a2 rfl rfl rfl hx112 rfl<|I rfl ?_
       obtain ⟨x114,hx114,h⟩:=J h
       refine a2 rfl rfl rfl hx114 rfl<|R rfl rfl (show _=eEdge x114 from rfl)<|b1 rfl<|b1 rfl<|a9 rfl rfl rfl rfl rfl<|a9 rfl rfl rfl rfl rfl<|E (kt<|kt<|kt<|kt<|kb<|kb<|kn) fun _=>?_
       refine D<|D<|F<|a3 rfl<|I rfl<|a3 rfl<|I rfl<|a7 rfl rfl<|E (kt<|kt<|kt<|kt<|kb<|kb<|kt<|kn) fun _=>?_
       refine U rfl (fun hc120=>?_) (fun hc120=>?_)
       ·replace h:=M hc120 h
        refine D<|F<|C rfl<|E (kt<|kn) fun _=>?_
        refine L ?_
        cases h
        exact ⟨_,rfl,rfl⟩
       ·replace h:=O hc120 h
        refine P (kt<|kt<|kt<|kt<|kb<|kb<|kn) fun _=>?_
        refine D<|d4 rfl<|K rfl<|I rfl<|a3 rfl<|I rfl ?_
        obtain ⟨x125,hx125,h⟩:=J h
        refine a2 rfl rfl rfl hx125 rfl<|I rfl<|a3 rfl<|I rfl<|a7 rfl rfl<|C rfl ?_
        obtain ⟨x140,hx140,h⟩:=J h
        refine gX 10 [131,132,133,134,135,136,137,138,139] 140 x140 (!decide (x125=x114.From)) (fun hg140=>?_) (fun hg140=>?_) ?_
        ·replace h:=M hg140 hx140
         cases h
         refine H rfl hg140<|H rfl hg140<|H rfl hg140<|H rfl hg140<|H rfl hg140<|H rfl hg140<|H rfl hg140<|H rfl hg140<|H rfl hg140<|Z rfl hg140 rfl ?_
         exact ⟨⟨_,_,_,_,_,_,_,_,_,rfl⟩⟩
        ·replace h:=O hg140 hx140
         refine G rfl hg140<|K rfl<|G rfl hg140<|I rfl<|G rfl hg140<|a3 rfl<|G rfl hg140<|I rfl ?_
         obtain ⟨x135,hx135,h⟩:=J h
         refine G rfl hg140<|a2 rfl rfl rfl hx135 rfl<|G rfl hg140<|I rfl<|G rfl hg140<|a3 rfl<|G rfl hg140<|I rfl<|G rfl hg140<|a7 rfl rfl ?_
         cases h
         refine a0 rfl hg140 rfl ?_
         exact ⟨⟨_,_,_,_,_,_,_,_,_,rfl⟩⟩
        rintro _ ⟨_,_,_,_,_,_,_,_,_,rfl⟩
        refine E (kt<|kt<|kt<|kt<|kt<|kn) fun _=>?_
        refine U rfl (fun hc140=>?_) (fun hc140=>?_)
        ·replace h:=M hc140 h
         refine D<|F<|C rfl<|E (kt<|kn) fun _=>?_
         refine L ?_
         cases h
         exact ⟨_,rfl,rfl⟩
        ·replace h:=O hc140 h
         refine P (kt<|kt<|kt<|kt<|kn) fun _=>?_
         refine F<|C rfl<|a5 rfl rfl<|C rfl<|E (kt<|kt<|kt<|kt<|kn) ?_
         cases h
         refine ⟨_,rfl,?_⟩
         rw [Ktv rfl (Ktv rfl (Ktv rfl (Ktv rfl (Knil _))))]
         rw [b2 (a4 (hw2 10)) hi2 (e4 (e9 (f0 (hw2 3)) (i:=1) rfl) rfl)]
         all_goals rfl
     ·intro i2 s2 hi2
      refine D<|D<|F<|C rfl<|K rfl<|I rfl<|V rfl rfl<|X rfl rfl<|E (kt<|kt<|kt<|kt<|kt<|kn) fun _=>?_
      refine b5 rfl (b6 hi2)<|b0 (kn) ?_
      exact ⟨rfl,rfl⟩
     ·intro s2 hs
      replace h:=d1 h hs
      intro _
      refine D<|F<|C rfl<|E (kt<|kn) fun _=>?_
      exact L (by cases h;rfl)
     ·intro v2 ze hv hR
      replace h:=d2 h hv
      cases h
      exact hR
    ·intro v0 ze hv hR
     replace h:=d2 h hv
     cases h
     exact hR
theorem ck78:CK f78 (Rq [Af 1 0,Ad 2 0] [1]<|Sq (Rq [Ac 7 1 1,Aj 8 7 0,Ae 9 8 2,Ac 10 1 11,Ae 11 10 2,An 12 134 9 11,Aa 3 12] [1,3]<|Rq [Aa 13 3,Ax 14 13 0] [1,3,14]<|Co 14 (Rq [Aa 15 3,Aa 2 15] [2]<|.ret)<|Sk [1])<|Rq [Ac 17 1 1,Aj 18 17 0,Ae 19 18 2,Ac 20 1 11,Ae 21 20 2,An 22 135 19 21,Aa 16 22,At 23 16 0,At 24 16 1,At 25 16 2,Bd 4 1 3,Bd 5 1 1,Ak 2 4 23,Ak 2 5 24,Aa 6 25] [1,4]<|Rq [Ae 26 4 2,Ac 27 1 6,Aj 28 27 0,Ae 29 28 2,Ac 30 1 13,Ae 31 30 2,Bf 32 136 26 29 31,Aa 2 32] [2]<|.ret) [.tmp 2]:= by decide +kernel
theorem c78 (r_0:Rule) (r:Int) (h:ref24_span r_0=some r):Sound prog 78 [eRule r_0] (.sh (eI r)):= by
 refine Fn ck78 fun hw=>?_
 unfold ref24_span at h
 refine D<|F<|a1 rfl rfl<|C rfl<|E (kt<|kn) fun _=>?_
 refine D<|D<|F<|K rfl<|a6 rfl<|R rfl rfl (show _=eGraph r_0.Left.Graph from rfl)<|K rfl<|R rfl rfl (show _=ePart r_0.Keep from rfl) ?_
 obtain ⟨x12,hx12,h⟩:=J h
 refine W rfl (c134 r_0.Left.Graph r_0.Keep _ hx12)<|C rfl<|E (kt<|kt<|kn) fun _=>?_
 refine D<|F<|C rfl<|a7 rfl rfl<|E (kt<|kt<|kt<|kn) fun _=>?_
 refine U rfl (fun hc14=>?_) (fun hc14=>?_)
 ·replace h:=M hc14 h
  refine D<|F<|C rfl<|C rfl<|E (kt<|kn) fun _=>?_
  exact L (by cases h;rfl)
 ·replace h:=O hc14 h
  refine P (kt<|kn) fun _=>?_
  refine D<|F<|K rfl<|a6 rfl<|R rfl rfl (show _=eGraph r_0.Left.Graph from rfl)<|K rfl<|R rfl rfl (show _=ePart r_0.Keep from rfl) ?_
  obtain ⟨x22,hx22,h⟩:=J h
  refine e6 rfl (c135 r_0.Left.Graph r_0.Keep _ hx22)<|e8 rfl<|b9 rfl rfl<|b9 rfl rfl<|b9 rfl rfl<|b1 rfl<|b1 rfl<|a9 rfl rfl rfl rfl rfl<|a9 rfl rfl rfl rfl rfl<|C rfl<|E (kt<|kb<|kn) fun _=>?_
  refine D<|F<|R rfl rfl (show _=eGraph x22.1 from rfl)<|K rfl<|a6 rfl<|R rfl rfl (show _=eGraph r_0.Right.Graph from rfl)<|K rfl<|R rfl rfl (show _=eMorphism r_0.Into from rfl) ?_
  obtain ⟨x32,hx32,h⟩:=J h
  refine W rfl (c136 x22.1 r_0.Right.Graph r_0.Into _ hx32)<|C rfl<|E (kt<|kn) fun _=>?_
  exact L (by cases h;rfl)
theorem ck79:CK f79 (Rq [Ai 2] [0]<|Sq (Rq [Ad 3 0] [0,3]<|Bl 0<|Lo [0,3]<|Sq (Rq [Aa 5 3,Aa 6 0,Ag 7 6,Ap 8 5 7] [0,3,8]<|Co 8 (Sk [0,3])<|Ex 0 [])<|Sq (Bl 1<|Rq [Ad 4 0] [0,3,4]<|Bl 2<|Lo [0,3,4]<|Sq (Rq [Aa 11 4,Aa 12 3,Ap 13 11 12] [0,3,4,13]<|Co 13 (Sk [0,3,4])<|Ex 2 [0,3])<|Sq (Bl 3<|Sq (Dr [16,17,18,19,20,21,22,23,24] [Aa 16 0,Aa 17 3,Ah 18 16 17 1,Ab 19 18,Aa 20 0,Aa 21 4,Ah 22 20 21 1,Ab 23 22,By 24 19 23] [0,3,4,24])<|Co 24 (Rq [Ai 2] [2]<|.ret)<|Sk [0,3,4])<|Re [Aa 14 4,Ao 15 14 1,Aa 4 15] [0,3,4])<|Re [Aa 9 3,Ao 10 9 1,Aa 3 10] [0,3])<|Rq [Bw 2] [2]<|.ret) [.tmp 2]:= by decide +kernel
theorem c79 (l:List Int) (r:Bool) (h:ref06_Distinct l=some r):Sound prog 79 [lI l] (.sh (eB r)):= by
 refine Fn ck79 fun hw=>?_
 unfold ref06_Distinct at h
 refine D<|F<|C rfl<|E (kt<|kn) fun _=>?_
 refine D<|D<|F<|C rfl<|E (kt<|kt<|kn) fun _=>?_
 obtain ⟨o0,ho0,h⟩:=d0 h
 refine d5 ho0 (fun (i0:Int) (_:Unit)=>[(0,.tv (lI l)),(3,.tv (eI i0))]) (fun (_:Unit)=>[]) (fun zv ze=>resIs ([.tmp 2]) (.sh (eB zv)) ze) rfl ?_ ?_ ?_ ?_
 ·clear h ho0
  intro i0 s0 r0 hi0 h hw0
  refine D<|D<|F<|C rfl<|C rfl<|V rfl rfl<|X rfl rfl<|E (kt<|kt<|kt<|kn) fun _=>?_
  refine b3 rfl (b4 hi0)<|P (kt<|kt<|kn) fun _=>?_
  refine D<|a8<|D<|F<|C rfl<|E (kt<|kt<|kt<|kn) fun _=>?_
  obtain ⟨o2,ho2,h⟩:=d0 h
  refine d5 ho2 (fun (i2:Int) (_:Unit)=>[(0,.tv (lI l)),(3,.tv (eI i0)),(4,.tv (eI i2))]) (fun (_:Unit)=>[(0,.tv (lI l)),(3,.tv (eI i0))]) (fun zv ze=>resIs ([.tmp 2]) (.sh (eB zv)) ze) rfl ?_ ?_ ?_ ?_
  ·clear h ho2
   intro i2 s2 r2 hi2 h hw2
   refine D<|D<|F<|C rfl<|C rfl<|X rfl rfl<|E (kt<|kt<|kt<|kt<|kn) fun _=>?_
   refine b3 rfl (b4 hi2)<|P (kt<|kt<|kt<|kn) fun _=>?_
   refine D<|a8<|D<|d4 rfl<|C rfl<|C rfl ?_
   obtain ⟨x18,hx18,h⟩:=J h
   refine a2 rfl rfl rfl hx18 rfl<|I rfl<|C rfl<|C rfl ?_
   obtain ⟨x22,hx22,h⟩:=J h
   refine a2 rfl rfl rfl hx22 rfl<|I rfl<|b8 rfl rfl<|E (kt<|kt<|kt<|kt<|kn) fun _=>?_
   refine U rfl (fun hc24=>?_) (fun hc24=>?_)
   ·replace h:=M hc24 h
    refine D<|F<|C rfl<|E (kt<|kn) fun _=>?_
    refine L ?_
    cases h
    exact ⟨_,rfl,rfl⟩
   ·replace h:=O hc24 h
    refine P (kt<|kt<|kt<|kn) fun _=>?_
    refine F<|C rfl<|a5 rfl rfl<|C rfl<|E (kt<|kt<|kt<|kn) ?_
    cases h
    refine ⟨_,rfl,?_⟩
    rw [Ktv rfl (Ktv rfl (Ktv rfl (Knil _)))]
    rw [b2 (a4 (hw2 4)) hi2 (d9 (a4 (hw2 3)))]
    all_goals rfl
  ·intro i2 s2 hi2
   refine D<|D<|F<|C rfl<|C rfl<|X rfl rfl<|E (kt<|kt<|kt<|kt<|kn) fun _=>?_
   refine b5 rfl (b6 hi2)<|b0 (kt<|kt<|kn) ?_
   exact ⟨rfl,rfl⟩
  ·intro s2 hs
   replace h:=d1 h hs
   intro _
   refine F<|C rfl<|a5 rfl rfl<|C rfl<|E (kt<|kt<|kn) ?_
   cases h
   refine ⟨_,rfl,?_⟩
   rw [Ktv rfl (Ktv rfl (Knil _))]
   rw [b2 (a4 (hw0 3)) hi0 (e4 (a4 (hw0 0)) rfl)]
   all_goals rfl
  ·intro v2 ze hv hR
   replace h:=d2 h hv
   cases h
   exact ⟨_,rfl,hR⟩
 ·intro i0 s0 hi0
  refine D<|D<|F<|C rfl<|C rfl<|V rfl rfl<|X rfl rfl<|E (kt<|kt<|kt<|kn) fun _=>?_
  refine b5 rfl (b6 hi0)<|b0 (kn) ?_
  exact ⟨rfl,rfl⟩
 ·intro s0 hs
  replace h:=d1 h hs
  intro _
  refine D<|F<|C rfl<|E (kt<|kn) fun _=>?_
  exact L (by cases h;rfl)
 ·intro v0 ze hv hR
  replace h:=d2 h hv
  cases h
  exact hR
theorem ck120:CK f120 (Rq [Af 3 0,Ai 6] [1,2,3]<|Sq (Dr [6,7,8,9,10,11,12,13,14,15,16,17,18,19,20,21,22,23,24] [Aa 7 1,Aa 8 2,By 9 7 8,Aa 10 9,Az 11 1 10,⟨some 12,.bin (.i) .geq (.s 11) (.c (.int .i64 0)),some (10,false)⟩,Az 13 12 10,Bj 14 3 2 13,Av 15 3 0 13,Aw 16 15 13,As 17 1 13,Cb 18 16 17 4 13,Bx 19 18 1 13,Aw 20 19 13,As 21 2 13,Eo 22 120 14 20 21 13,Ct 23 13 22 10,Ar 24 10 23,Aa 6 24] [6])<|.ret) [.tmp 6]:= by decide +kernel
theorem c120S (n:Nat) (ih_120:∀ (t:Types) (a:Int) (b:Int) (r:Bool) (_:ref04_Below1F n t a b=some r),Sound prog 120 [eTypes t,eI a,eI b] (.sh (eB r))):∀ (t:Types) (a:Int) (b:Int) (r:Bool) (_:ref04_Below1F (n+1) t a b=some r),Sound prog 120 [eTypes t,eI a,eI b] (.sh (eB r)):= by
 intro t a b r h
 refine Fn ck120 fun hw=>?_
 unfold ref04_Below1F at h
 refine D<|F<|a1 rfl rfl<|C rfl<|E (kt<|kt<|kt<|kn) fun _=>?_
 refine D<|d4 rfl<|C rfl<|C rfl<|b8 rfl rfl<|C rfl ?_
 obtain ⟨x24,hx24,h⟩:=J h
 refine gX 14 [11,12,13,14,15,16,17,18,19,20,21,22,23] 24 x24 (decide (a=b)) (fun hg24=>?_) (fun hg24=>?_) ?_
 ·replace h:=M hg24 hx24
  cases h
  refine H rfl hg24<|H rfl hg24<|H rfl hg24<|d3 rfl<|d3 rfl<|d3 rfl<|d3 rfl<|d3 rfl<|d3 rfl<|d3 rfl<|d3 rfl<|d3 rfl<|H rfl hg24<|Z rfl hg24 rfl ?_
  exact ⟨⟨_,_,_,_,_,_,_,_,_,_,_,_,_,rfl⟩⟩
 ·replace h:=O hg24 hx24
  refine G rfl hg24<|C rfl<|G rfl hg24<|d6 rfl rfl<|G rfl hg24<|C rfl ?_
  obtain ⟨x23,hx23,h⟩:=J h
  refine gX 10 [14,15,16,17,18,19,20,21,22] 23 x23 (decide (0<=a)) (fun hg23=>?_) (fun hg23=>?_) ?_
  ·replace h:=M hg23 hx23
   refine G rfl hg23<|R rfl rfl (show _=eTypes t from rfl)<|G rfl hg23<|K rfl<|G rfl hg23<|I rfl<|G rfl hg23<|C rfl ?_
   obtain ⟨x18,hx18,h⟩:=J h
   refine G rfl hg23<|a2 rfl rfl rfl hx18 rfl<|G rfl hg23<|a6 rfl<|G rfl hg23<|I rfl<|G rfl hg23<|C rfl ?_
   obtain ⟨x22,hx22,h⟩:=J h
   refine G rfl hg23<|W rfl (ih_120 t x18.Parent b _ hx22) ?_
   cases h
   refine G rfl hg24<|Z rfl hg23 rfl ?_
   exact ⟨⟨_,_,_,_,_,_,_,_,_,rfl⟩⟩
  ·replace h:=O hg23 hx23
   cases h
   refine H rfl hg23<|H rfl hg23<|H rfl hg23<|H rfl hg23<|H rfl hg23<|H rfl hg23<|H rfl hg23<|H rfl hg23<|H rfl hg23<|G rfl hg24<|a0 rfl hg23 rfl ?_
   exact ⟨⟨_,_,_,_,_,_,_,_,_,rfl⟩⟩
  rintro _ ⟨_,_,_,_,_,_,_,_,_,rfl⟩
  cases h
  refine a0 rfl hg24 rfl ?_
  exact ⟨⟨_,_,_,_,_,_,_,_,_,_,_,_,_,rfl⟩⟩
 rintro _ ⟨_,_,_,_,_,_,_,_,_,_,_,_,_,rfl⟩
 refine C rfl<|E (kt<|kn) fun _=>?_
 exact L (by cases h;rfl)
theorem c120A:∀ n:Nat,(∀ (t:Types) (a:Int) (b:Int) (r:Bool) (_:ref04_Below1F n t a b=some r),Sound prog 120 [eTypes t,eI a,eI b] (.sh (eB r))):=by
  intro n
  induction n with
  | zero=>intro t a b r h; cases h
  | succ n ih=>exact c120S n ih
theorem c120 (t:Types) (a:Int) (b:Int) (r:Bool) (h:ref04_Below1 t a b=some r):Sound prog 120 [eTypes t,eI a,eI b] (.sh (eB r)):=by
  obtain ⟨N,hN⟩:=lim_some h
  exact (c120A N) t a b r (hN N (Nat.le_refl _))
theorem ck68:CK f68 (Rq [Af 4 0,Ai 8] [1,2,3,4]<|Sq (Rq [Ae 9 4 2,Aa 10 2,Aa 11 3,Bf 12 118 9 10 11,Ax 13 12 0,Aa 14 13,Az 15 1 14,Am 16 4 1 14,Al 17 16 14,Ba 18 17 14,Eb 19 18 1 14,Ew 20 119 15 0 19 14,Bq 21 20 14,Ar 22 14 21] [1,2,3,4,22]<|Co 22 (Rq [Ai 8] [8]<|.ret)<|Sk [1,2,3,4])<|Sq (Dr [8,23,24,25,26,27,28,29,30,31,32,33,34,35,36,37,38,39,40,41,42] [Ae 23 4 2,Aa 24 2,Ac 25 4 1,Ab 26 25,Aa 27 1,Ah 28 26 27 7,Aj 29 28 1,Ab 30 29,Bf 31 120 23 24 30,Aa 32 31,Bj 33 4 2 32,As 34 3 32,Av 35 4 1 32,Aw 36 35 32,As 37 1 32,Cb 38 36 37 7 32,Bx 39 38 2 32,Aw 40 39 32,Eo 41 120 33 34 40 32,Aq 42 32 41,Aa 8 42] [8])<|.ret) [.tmp 8]:= by decide +kernel
theorem c68 (t:Types) (edge:Int) (from':Int) (to':Int) (r:Bool) (h:ref04_Fits t edge from' to'=some r):Sound prog 68 [eTypes t,eI edge,eI from',eI to'] (.sh (eB r)):= by
 refine Fn ck68 fun hw=>?_
 unfold ref04_Fits at h
 refine D<|F<|a1 rfl rfl<|C rfl<|E (kt<|kt<|kt<|kt<|kn) fun _=>?_
 refine D<|D<|F<|R rfl rfl (show _=eTypes t from rfl)<|C rfl<|C rfl ?_
 obtain ⟨x12,hx12,h⟩:=J h
 refine W rfl (c118 t from' to' _ hx12)<|a7 rfl rfl<|C rfl ?_
 obtain ⟨x22,hx22,h⟩:=J h
 refine gX 8 [15,16,17,18,19,20,21] 22 x22 (!decide (x12=0)) (fun hg22=>?_) (fun hg22=>?_) ?_
 ·replace h:=M hg22 hx22
  cases h
  refine H rfl hg22<|H rfl hg22<|H rfl hg22<|H rfl hg22<|H rfl hg22<|H rfl hg22<|H rfl hg22<|Z rfl hg22 rfl ?_
  exact ⟨⟨_,_,_,_,_,_,_,rfl⟩⟩
 ·replace h:=O hg22 hx22
  refine G rfl hg22<|C rfl<|G rfl hg22<|K rfl<|G rfl hg22<|I rfl<|G rfl hg22<|V rfl rfl<|G rfl hg22<|g0 rfl rfl ?_
  obtain ⟨x20,hx20,h⟩:=J h
  refine G rfl hg22<|W rfl (c119 edge 0 (w64 ((t.Edges.length:Int) - 1)) _ hx20)<|G rfl hg22<|b7 rfl ?_
  cases h
  refine a0 rfl hg22 rfl ?_
  exact ⟨⟨_,_,_,_,_,_,_,rfl⟩⟩
 rintro _ ⟨_,_,_,_,_,_,_,rfl⟩
 refine E (kt<|kt<|kt<|kt<|kt<|kn) fun _=>?_
 refine U rfl (fun hc22=>?_) (fun hc22=>?_)
 ·replace h:=M hc22 h
  refine D<|F<|C rfl<|E (kt<|kn) fun _=>?_
  exact L (by cases h;rfl)
 ·replace h:=O hc22 h
  refine P (kt<|kt<|kt<|kt<|kn) fun _=>?_
  refine D<|d4 rfl<|R rfl rfl (show _=eTypes t from rfl)<|C rfl<|K rfl<|I rfl<|C rfl ?_
  obtain ⟨x28,hx28,h⟩:=J h
  refine a2 rfl rfl rfl hx28 rfl<|a6 rfl<|I rfl ?_
  obtain ⟨x31,hx31,h⟩:=J h
  refine W rfl (c120 t from' x28.From _ hx31)<|C rfl ?_
  obtain ⟨x42,hx42,h⟩:=J h
  refine gX 10 [33,34,35,36,37,38,39,40,41] 42 x42 x31 (fun hg42=>?_) (fun hg42=>?_) ?_
  ·replace h:=M hg42 hx42
   refine G rfl hg42<|R rfl rfl (show _=eTypes t from rfl)<|G rfl hg42<|C rfl<|G rfl hg42<|K rfl<|G rfl hg42<|I rfl<|G rfl hg42<|C rfl ?_
   obtain ⟨x38,hx38,h⟩:=J h
   refine G rfl hg42<|a2 rfl rfl rfl hx38 rfl<|G rfl hg42<|a6 rfl<|G rfl hg42<|I rfl ?_
   obtain ⟨x41,hx41,h⟩:=J h
   refine G rfl hg42<|W rfl (c120 t to' x38.To _ hx41) ?_
   cases h
   refine Z rfl hg42 rfl ?_
   exact ⟨⟨_,_,_,_,_,_,_,_,_,rfl⟩⟩
  ·replace h:=O hg42 hx42
   cases h
   refine H rfl hg42<|H rfl hg42<|H rfl hg42<|H rfl hg42<|H rfl hg42<|H rfl hg42<|H rfl hg42<|H rfl hg42<|H rfl hg42<|a0 rfl hg42 rfl ?_
   exact ⟨⟨_,_,_,_,_,_,_,_,_,rfl⟩⟩
  rintro _ ⟨_,_,_,_,_,_,_,_,_,rfl⟩
  refine C rfl<|E (kt<|kn) fun _=>?_
  exact L (by cases h;rfl)
theorem ck80:CK f80 (Rq [Af 4 0,Af 5 1,Ai 8] [2,3,4,5]<|Sq (Rq [Ad 9 0] [2,3,4,5,9]<|Bl 0<|Lo [2,3,4,5,9]<|Sq (Rq [Aa 12 9,Aa 13 2,Ag 14 13,Ap 15 12 14] [2,3,4,5,9,15]<|Co 15 (Sk [2,3,4,5,9])<|Ex 0 [3,4,5])<|Sq (Bl 1<|Sq (Dr [18,19,20,21,22,23,24,25,26,27,28,29,30] [Ac 18 4 0,Ab 19 18,Ac 20 5 0,Ab 21 20,Aa 22 2,Aa 23 9,Ah 24 22 23 1,Ab 25 24,Ah 26 21 25 1,Ab 27 26,Ah 28 19 27 4,Aj 29 28 2,Ab 30 29] [2,3,4,5,9,30])<|Co 30 (Rq [Ai 8] [8]<|.ret)<|Sk [2,3,4,5,9])<|Re [Aa 16 9,Ao 17 16 1,Aa 9 17] [2,3,4,5,9])<|Sq (Rq [Ad 10 0] [3,4,5,10]<|Bl 2<|Lo [3,4,5,10]<|Sq (Rq [Aa 31 10,Aa 32 3,Ag 33 32,Ap 34 31 33] [3,4,5,10,34]<|Co 34 (Sk [3,4,5,10])<|Ex 2 [])<|Sq (Bl 3<|Sq (Dr [11,37,38,39,40,41,42,43,44] [Ac 37 5 1,Ab 38 37,Aa 39 3,Aa 40 10,Ah 41 39 40 1,Ab 42 41,Ah 43 38 42 3,Ae 44 43 3,Cd 11 0 0 0,Ak 3 11 44] [3,4,5,10,11])<|Sq (Dr [45,46,47,48,49,50,51,52,53,54,55,56,57,58,59,60,61] [Ae 45 4 2,Ac 46 11 0,Ab 47 46,Ac 48 5 0,Ab 49 48,Ac 50 11 1,Ab 51 50,Ah 52 49 51 1,Ab 53 52,Ac 54 5 0,Ab 55 54,Ac 56 11 2,Ab 57 56,Ah 58 55 57 1,Ab 59 58,Cg 60 68 45 47 53 59,Ay 61 60] [3,4,5,10,61])<|Co 61 (Rq [Ai 8] [8]<|.ret)<|Sk [3,4,5,10])<|Re [Aa 35 10,Ao 36 35 1,Aa 10 36] [3,4,5,10])<|Rq [Bw 8] [8]<|.ret) [.tmp 8]:= by decide +kernel
theorem c80 (t:Types) (g:Graph) (nodes:List Int) (edges:List Int) (r:Bool) (h:ref24_proper t g nodes edges=some r):Sound prog 80 [eTypes t,eGraph g,lI nodes,lI edges] (.sh (eB r)):= by
 refine Fn ck80 fun hw=>?_
 unfold ref24_proper at h
 refine D<|F<|a1 rfl rfl<|a1 rfl rfl<|C rfl<|E (kt<|kt<|kt<|kt<|kn) fun _=>?_
 refine D<|D<|F<|C rfl<|E (kt<|kt<|kt<|kt<|kt<|kn) fun _=>?_
 obtain ⟨o0,ho0,h⟩:=d0 h
 refine d5 ho0 (fun (i0:Int) (_:Unit)=>[(2,.tv (lI nodes)),(3,.tv (lI edges)),(4,.tv (.pt (eTypes t).cells)),(5,.tv (.pt (eGraph g).cells)),(9,.tv (eI i0))]) (fun (_:Unit)=>[(3,.tv (lI edges)),(4,.tv (.pt (eTypes t).cells)),(5,.tv (.pt (eGraph g).cells))]) (fun zv ze=>resIs ([.tmp 8]) (.sh (eB zv)) ze) rfl ?_ ?_ ?_ ?_
 ·clear h ho0
  intro i0 s0 r0 hi0 h hw0
  refine D<|D<|F<|C rfl<|C rfl<|V rfl rfl<|X rfl rfl<|E (kt<|kt<|kt<|kt<|kt<|kt<|kn) fun _=>?_
  refine b3 rfl (b4 hi0)<|P (kt<|kt<|kt<|kt<|kt<|kn) fun _=>?_
  refine D<|a8<|D<|d4 rfl<|K rfl<|I rfl<|K rfl<|I rfl<|C rfl<|C rfl ?_
  obtain ⟨x24,hx24,h⟩:=J h
  refine a2 rfl rfl rfl hx24 rfl<|I rfl ?_
  obtain ⟨x26,hx26,h⟩:=J h
  refine a2 rfl rfl rfl hx26 rfl<|I rfl ?_
  obtain ⟨x28,hx28,h⟩:=J h
  refine a2 rfl rfl rfl hx28 rfl<|a6 rfl<|I rfl<|E (kt<|kt<|kt<|kt<|kt<|kt<|kn) fun _=>?_
  refine U rfl (fun hc30=>?_) (fun hc30=>?_)
  ·replace h:=M hc30 h
   refine D<|F<|C rfl<|E (kt<|kn) fun _=>?_
   refine L ?_
   cases h
   exact ⟨_,rfl,rfl⟩
  ·replace h:=O hc30 h
   refine P (kt<|kt<|kt<|kt<|kt<|kn) fun _=>?_
   refine F<|C rfl<|a5 rfl rfl<|C rfl<|E (kt<|kt<|kt<|kt<|kt<|kn) ?_
   cases h
   refine ⟨_,rfl,?_⟩
   rw [Ktv rfl (Ktv rfl (Ktv rfl (Ktv rfl (Ktv rfl (Knil _)))))]
   rw [b2 (a4 (hw0 9)) hi0 (e4 (a4 (hw0 2)) rfl)]
   all_goals rfl
 ·intro i0 s0 hi0
  refine D<|D<|F<|C rfl<|C rfl<|V rfl rfl<|X rfl rfl<|E (kt<|kt<|kt<|kt<|kt<|kt<|kn) fun _=>?_
  refine b5 rfl (b6 hi0)<|b0 (kt<|kt<|kt<|kn) ?_
  exact ⟨rfl,rfl⟩
 ·intro s0 hs
  replace h:=d1 h hs
  intro _
  refine D<|D<|F<|C rfl<|E (kt<|kt<|kt<|kt<|kn) fun _=>?_
  obtain ⟨o2,ho2,h⟩:=d0 h
  refine d5 ho2 (fun (i2:Int) (_:Unit)=>[(3,.tv (lI edges)),(4,.tv (.pt (eTypes t).cells)),(5,.tv (.pt (eGraph g).cells)),(10,.tv (eI i2))]) (fun (_:Unit)=>[]) (fun zv ze=>resIs ([.tmp 8]) (.sh (eB zv)) ze) rfl ?_ ?_ ?_ ?_
  ·clear h ho2
   intro i2 s2 r2 hi2 h hw2
   refine D<|D<|F<|C rfl<|C rfl<|V rfl rfl<|X rfl rfl<|E (kt<|kt<|kt<|kt<|kt<|kn) fun _=>?_
   refine b3 rfl (b4 hi2)<|P (kt<|kt<|kt<|kt<|kn) fun _=>?_
   refine D<|a8<|D<|d4 rfl<|K rfl<|I rfl<|C rfl<|C rfl ?_
   obtain ⟨x41,hx41,h⟩:=J h
   refine a2 rfl rfl rfl hx41 rfl<|I rfl ?_
   obtain ⟨x43,hx43,h⟩:=J h
   refine a2 rfl rfl rfl hx43 rfl<|R rfl rfl (show _=eEdge x43 from rfl)<|b1 rfl<|a9 rfl rfl rfl rfl rfl<|E (kt<|kt<|kt<|kt<|kb<|kn) fun _=>?_
   refine D<|d4 rfl<|R rfl rfl (show _=eTypes t from rfl)<|a3 rfl<|I rfl<|K rfl<|I rfl<|a3 rfl<|I rfl ?_
   obtain ⟨x52,hx52,h⟩:=J h
   refine a2 rfl rfl rfl hx52 rfl<|I rfl<|K rfl<|I rfl<|a3 rfl<|I rfl ?_
   obtain ⟨x58,hx58,h⟩:=J h
   refine a2 rfl rfl rfl hx58 rfl<|I rfl ?_
   obtain ⟨x60,hx60,h⟩:=J h
   refine W rfl (c68 t x43.Type' x52 x58 _ hx60)<|b7 rfl<|E (kt<|kt<|kt<|kt<|kt<|kn) fun _=>?_
   refine U rfl (fun hc61=>?_) (fun hc61=>?_)
   ·replace h:=M hc61 h
    refine D<|F<|C rfl<|E (kt<|kn) fun _=>?_
    refine L ?_
    cases h
    exact ⟨_,rfl,rfl⟩
   ·replace h:=O hc61 h
    refine P (kt<|kt<|kt<|kt<|kn) fun _=>?_
    refine F<|C rfl<|a5 rfl rfl<|C rfl<|E (kt<|kt<|kt<|kt<|kn) ?_
    cases h
    refine ⟨_,rfl,?_⟩
    rw [Ktv rfl (Ktv rfl (Ktv rfl (Ktv rfl (Knil _))))]
    rw [b2 (a4 (hw2 10)) hi2 (e4 (a4 (hw2 3)) rfl)]
    all_goals rfl
  ·intro i2 s2 hi2
   refine D<|D<|F<|C rfl<|C rfl<|V rfl rfl<|X rfl rfl<|E (kt<|kt<|kt<|kt<|kt<|kn) fun _=>?_
   refine b5 rfl (b6 hi2)<|b0 (kn) ?_
   exact ⟨rfl,rfl⟩
  ·intro s2 hs
   replace h:=d1 h hs
   intro _
   refine D<|F<|C rfl<|E (kt<|kn) fun _=>?_
   exact L (by cases h;rfl)
  ·intro v2 ze hv hR
   replace h:=d2 h hv
   cases h
   exact hR
 ·intro v0 ze hv hR
  replace h:=d2 h hv
  cases h
  exact hR
theorem ck247:CK f247 (Rq [Af 1 0,Ai 2] [1]<|Rq [Ac 4 1 2,Aj 5 4 0,Ab 6 5,Ag 7 6,Ac 8 1 2,Aj 9 8 1,Ab 10 9,Ag 11 10,Bn 12 7 11,Ac 13 1 4,Aj 14 13 0,Aj 15 14 0,Ab 16 15,Ag 17 16,Bn 18 12 17,Ac 19 1 4,Aj 20 19 0,Aj 21 20 1,Ab 22 21,Ag 23 22,Bn 24 18 23,Be 25 24 0,Aa 3 25] [1,3]<|Rq [Aa 26 3,Aa 27 26,Av 28 1 4 27,Bx 29 28 2 27,Aw 30 29 27,Cc 31 30 27,Av 32 1 4 27,Bx 33 32 4 27,Aw 34 33 27,Cc 35 34 27,Ef 36 31 35 27,Cs 37 36 0 27,Aq 38 27 37,Aa 39 38,Av 40 1 4 39,Bx 41 40 3 39,Aw 42 41 39,Cs 43 42 0 39,Aq 44 39 43,Aa 2 44] [2]<|.ret) [.tmp 2]:= by decide +kernel
theorem c247 (c:Condition) (r:Bool) (h:ref22_unused c=some r):Sound prog 247 [eCondition c] (.sh (eB r)):= by
 refine Fn ck247 fun hw=>?_
 unfold ref22_unused at h
 refine D<|F<|a1 rfl rfl<|C rfl<|E (kt<|kn) fun _=>?_
 refine D<|F<|K rfl<|a6 rfl<|I rfl<|V rfl rfl<|K rfl<|a6 rfl<|I rfl<|V rfl rfl<|a5 rfl rfl<|K rfl<|a6 rfl<|a6 rfl<|I rfl<|V rfl rfl<|a5 rfl rfl<|K rfl<|a6 rfl<|a6 rfl<|I rfl<|V rfl rfl<|a5 rfl rfl<|b8 rfl rfl<|C rfl<|E (kt<|kt<|kn) fun _=>?_
 refine D<|F<|C rfl<|C rfl ?_
 refine gA 11 [28,29,30,31,32,33,34,35,36,37] 38 (decide ((w64 ((w64 ((w64 ((c.Map.Nodes.length:Int)+(c.Map.Edges.length:Int)))+(c.Pattern.Graph.Nodes.length:Int)))+(c.Pattern.Graph.Edges.length:Int)))=0)) (decide ((w64 ((c.Pattern.Slots.length:Int)+(c.Pattern.Tests.length:Int)))=0)) (fun hg38=>?_) (fun hg38=>?_) ?_
 ·refine G rfl hg38<|K rfl<|G rfl hg38<|a6 rfl<|G rfl hg38<|I rfl<|G rfl hg38<|V rfl rfl<|G rfl hg38<|K rfl<|G rfl hg38<|a6 rfl<|G rfl hg38<|I rfl<|G rfl hg38<|V rfl rfl<|G rfl hg38<|a5 rfl rfl<|G rfl hg38<|b8 rfl rfl<|Z rfl hg38 rfl ?_
  exact ⟨⟨_,_,_,_,_,_,_,_,_,_,rfl⟩⟩
 ·refine H rfl hg38<|H rfl hg38<|H rfl hg38<|H rfl hg38<|H rfl hg38<|H rfl hg38<|H rfl hg38<|H rfl hg38<|H rfl hg38<|H rfl hg38<|a0 rfl hg38 rfl ?_
  exact ⟨⟨_,_,_,_,_,_,_,_,_,_,rfl⟩⟩
 rintro _ ⟨_,_,_,_,_,_,_,_,_,_,rfl⟩
 refine C rfl ?_
 refine gA 5 [40,41,42,43] 44 ((decide ((w64 ((w64 ((w64 ((c.Map.Nodes.length:Int)+(c.Map.Edges.length:Int)))+(c.Pattern.Graph.Nodes.length:Int)))+(c.Pattern.Graph.Edges.length:Int)))=0))&&(decide ((w64 ((c.Pattern.Slots.length:Int)+(c.Pattern.Tests.length:Int)))=0))) (decide (c.Pattern.Vars=0)) (fun hg44=>?_) (fun hg44=>?_) ?_
 ·refine G rfl hg44<|K rfl<|G rfl hg44<|a6 rfl<|G rfl hg44<|I rfl<|G rfl hg44<|b8 rfl rfl<|Z rfl hg44 rfl ?_
  exact ⟨⟨_,_,_,_,rfl⟩⟩
 ·refine H rfl hg44<|H rfl hg44<|H rfl hg44<|H rfl hg44<|a0 rfl hg44 rfl ?_
  exact ⟨⟨_,_,_,_,rfl⟩⟩
 rintro _ ⟨_,_,_,_,rfl⟩
 refine C rfl<|E (kt<|kn) fun _=>?_
 exact L (by cases h;rfl)
theorem ck222:CK f222 (Rq [Af 1 0,Ai 2] [1]<|Sq (Rq [Ac 3 1 0,Ab 4 3] [1,4]<|Bl 0<|Rq [Be 6 4 1,Aa 5 6] [1,4,5]<|Co 5 (Rq [Ac 7 1 1,Ab 8 7,Ag 9 8,Be 10 9 0,Aa 11 10,Bj 12 1 9 11,Bz 13 247 12 11,Aq 14 11 13,Aa 2 14] [2]<|.ret)<|Rq [Be 16 4 2,Aa 15 16] [1,4,15]<|Co 15 (Rq [Ac 17 1 1,Ab 18 17,Ag 19 18,Be 20 19 1,Aa 21 20,Bj 22 1 9 21,Bz 23 247 22 21,Aq 24 21 23,Aa 2 24] [2]<|.ret)<|Sq (Rq [Be 26 4 3,Aa 25 26] [1,4,25]<|Co 25 (Sk [1,4,25])<|Re [Be 27 4 4,Aa 25 27] [1,4,25])<|Co 25 (Rq [Ac 28 1 1,Ab 29 28,Ag 30 29,Bg 31 30 0,Aa 32 31,Bj 33 1 9 32,Bz 34 247 33 32,Aq 35 32 34,Aa 2 35] [2]<|.ret)<|Rq [Be 37 4 5,Aa 36 37] [1,36]<|Co 36 (Rq [Ac 38 1 1,Ab 39 38,Ag 40 39,Be 41 40 1,Aa 2 41] [2]<|.ret)<|Sk [])<|Rq [Ai 2] [2]<|.ret) [.tmp 2]:= by decide +kernel
theorem c222 (c:Condition) (r:Bool) (h:ref22_right c=some r):Sound prog 222 [eCondition c] (.sh (eB r)):= by
 refine Fn ck222 fun hw=>?_
 unfold ref22_right at h
 refine D<|F<|a1 rfl rfl<|C rfl<|E (kt<|kn) fun _=>?_
 refine D<|D<|F<|K rfl<|I rfl<|E (kt<|kt<|kn) fun _=>?_
 refine a8<|D<|F<|b8 rfl rfl<|C rfl<|E (kt<|kt<|kt<|kn) fun _=>?_
 refine U rfl (fun hc5=>?_) (fun hc5=>?_)
 ·replace h:=M hc5 h
  refine D<|F<|K rfl<|I rfl<|V rfl (eLCondition_eq _)<|b8 rfl rfl<|C rfl ?_
  obtain ⟨x14,hx14,h⟩:=J h
  refine gX 3 [12,13] 14 x14 (decide ((c.Kids.length:Int)=0)) (fun hg14=>?_) (fun hg14=>?_) ?_
  ·replace h:=M hg14 hx14
   refine G rfl hg14<|R rfl rfl (show _=eCondition c from rfl) ?_
   obtain ⟨x13,hx13,h⟩:=J h
   refine G rfl hg14<|W rfl (c247 c _ hx13) ?_
   cases h
   refine Z rfl hg14 rfl ?_
   exact ⟨⟨_,_,rfl⟩⟩
  ·replace h:=O hg14 hx14
   cases h
   refine H rfl hg14<|H rfl hg14<|a0 rfl hg14 rfl ?_
   exact ⟨⟨_,_,rfl⟩⟩
  rintro _ ⟨_,_,rfl⟩
  refine C rfl<|E (kt<|kn) fun _=>?_
  exact L (by cases h;rfl)
 ·replace h:=O hc5 h
  refine D<|F<|b8 rfl rfl<|C rfl<|E (kt<|kt<|kt<|kn) fun _=>?_
  refine U rfl (fun hc15=>?_) (fun hc15=>?_)
  ·replace h:=M hc15 h
   refine D<|F<|K rfl<|I rfl<|V rfl (eLCondition_eq _)<|b8 rfl rfl<|C rfl ?_
   obtain ⟨x24,hx24,h⟩:=J h
   refine gX 3 [22,23] 24 x24 (decide ((c.Kids.length:Int)=1)) (fun hg24=>?_) (fun hg24=>?_) ?_
   ·replace h:=M hg24 hx24
    refine G rfl hg24<|R rfl rfl (show _=eCondition c from rfl) ?_
    obtain ⟨x23,hx23,h⟩:=J h
    refine G rfl hg24<|W rfl (c247 c _ hx23) ?_
    cases h
    refine Z rfl hg24 rfl ?_
    exact ⟨⟨_,_,rfl⟩⟩
   ·replace h:=O hg24 hx24
    cases h
    refine H rfl hg24<|H rfl hg24<|a0 rfl hg24 rfl ?_
    exact ⟨⟨_,_,rfl⟩⟩
   rintro _ ⟨_,_,rfl⟩
   refine C rfl<|E (kt<|kn) fun _=>?_
   exact L (by cases h;rfl)
  ·replace h:=O hc15 h
   refine D<|D<|F<|b8 rfl rfl<|C rfl<|E (kt<|kt<|kt<|kn) fun _=>?_
   obtain ⟨w1,hw1,h⟩:=J h
   refine g9 (fun ze=>ze=[(1,.tv (.pt (eCondition c).cells)),(4,.tv (eI c.Kind)),(25,.tv (eB w1))]) ?_ ?_
   ·replace h:=hw1
    clear hw1
    refine U rfl (fun hc25=>?_) (fun hc25=>?_)
    ·replace h:=M hc25 h
     refine P (kt<|kt<|kt<|kn) ?_
     cases h
     exact rfl
    ·replace h:=O hc25 h
     refine F<|b8 rfl rfl<|C rfl<|E (kt<|kt<|kt<|kn) ?_
     cases h
     exact rfl
   rintro _ rfl
   intro _
   refine U rfl (fun hc25=>?_) (fun hc25=>?_)
   ·replace h:=M hc25 h
    refine D<|F<|K rfl<|I rfl<|V rfl (eLCondition_eq _)<|e3 rfl rfl<|C rfl ?_
    obtain ⟨x35,hx35,h⟩:=J h
    refine gX 3 [33,34] 35 x35 (decide (0<(c.Kids.length:Int))) (fun hg35=>?_) (fun hg35=>?_) ?_
    ·replace h:=M hg35 hx35
     refine G rfl hg35<|R rfl rfl (show _=eCondition c from rfl) ?_
     obtain ⟨x34,hx34,h⟩:=J h
     refine G rfl hg35<|W rfl (c247 c _ hx34) ?_
     cases h
     refine Z rfl hg35 rfl ?_
     exact ⟨⟨_,_,rfl⟩⟩
    ·replace h:=O hg35 hx35
     cases h
     refine H rfl hg35<|H rfl hg35<|a0 rfl hg35 rfl ?_
     exact ⟨⟨_,_,rfl⟩⟩
    rintro _ ⟨_,_,rfl⟩
    refine C rfl<|E (kt<|kn) fun _=>?_
    exact L (by cases h;rfl)
   ·replace h:=O hc25 h
    refine D<|F<|b8 rfl rfl<|C rfl<|E (kt<|kt<|kn) fun _=>?_
    refine U rfl (fun hc36=>?_) (fun hc36=>?_)
    ·replace h:=M hc36 h
     refine D<|F<|K rfl<|I rfl<|V rfl (eLCondition_eq _)<|b8 rfl rfl<|C rfl<|E (kt<|kn) fun _=>?_
     exact L (by cases h;rfl)
    ·replace h:=O hc36 h
     refine P (kn) fun _=>?_
     refine D<|F<|C rfl<|E (kt<|kn) fun _=>?_
     exact L (by cases h;rfl)
theorem ck180:CK f180 (Rq [Af 1 0,Ai 2] [1]<|Sq (Rq [Ae 4 1 9,Au 5 222 4,Ay 6 5] [1,6]<|Co 6 (Rq [Ai 2] [2]<|.ret)<|Sk [1])<|Sq (Rq [Ad 3 0] [1,3]<|Bl 0<|Lo [1,3]<|Sq (Rq [Aa 7 3,Ac 8 1 1,Ab 9 8,Ag 10 9,Ap 11 7 10] [1,3,11]<|Co 11 (Sk [1,3])<|Ex 0 [])<|Sq (Bl 1<|Rq [Ac 14 1 1,Ab 15 14,Aa 16 3,Ah 17 15 16 9,Ae 18 17 9,Au 19 180 18,Ay 20 19] [1,3,20]<|Co 20 (Rq [Ai 2] [2]<|.ret)<|Sk [1,3])<|Re [Aa 12 3,Ao 13 12 1,Aa 3 13] [1,3])<|Rq [Bw 2] [2]<|.ret) [.tmp 2]:= by decide +kernel
theorem c180S (n:Nat) (ih_180:∀ (c:Condition) (r:Bool) (_:ref22_allRightF n c=some r),Sound prog 180 [eCondition c] (.sh (eB r))):∀ (c:Condition) (r:Bool) (_:ref22_allRightF (n+1) c=some r),Sound prog 180 [eCondition c] (.sh (eB r)):= by
 intro c r h
 refine Fn ck180 fun hw=>?_
 unfold ref22_allRightF at h
 refine D<|F<|a1 rfl rfl<|C rfl<|E (kt<|kn) fun _=>?_
 refine D<|D<|F<|R rfl rfl (show _=eCondition c from rfl) ?_
 obtain ⟨x5,hx5,h⟩:=J h
 refine W rfl (c222 c _ hx5)<|b7 rfl<|E (kt<|kt<|kn) fun _=>?_
 refine U rfl (fun hc6=>?_) (fun hc6=>?_)
 ·replace h:=M hc6 h
  refine D<|F<|C rfl<|E (kt<|kn) fun _=>?_
  exact L (by cases h;rfl)
 ·replace h:=O hc6 h
  refine P (kt<|kn) fun _=>?_
  refine D<|D<|F<|C rfl<|E (kt<|kt<|kn) fun _=>?_
  obtain ⟨o0,ho0,h⟩:=d0 h
  refine d5 ho0 (fun (i0:Int) (_:Unit)=>[(1,.tv (.pt (eCondition c).cells)),(3,.tv (eI i0))]) (fun (_:Unit)=>[]) (fun zv ze=>resIs ([.tmp 2]) (.sh (eB zv)) ze) rfl ?_ ?_ ?_ ?_
  ·clear h ho0
   intro i0 s0 r0 hi0 h hw0
   refine D<|D<|F<|C rfl<|K rfl<|I rfl<|V rfl (eLCondition_eq _)<|X rfl rfl<|E (kt<|kt<|kt<|kn) fun _=>?_
   refine b3 rfl (b4 hi0)<|P (kt<|kt<|kn) fun _=>?_
   refine D<|a8<|D<|F<|K rfl<|I rfl<|C rfl ?_
   obtain ⟨x17,hx17,h⟩:=J h
   refine a2 rfl rfl (eLCondition_eq _) hx17 rfl<|R rfl rfl (show _=eCondition x17 from rfl) ?_
   obtain ⟨x19,hx19,h⟩:=J h
   refine W rfl (ih_180 x17 _ hx19)<|b7 rfl<|E (kt<|kt<|kt<|kn) fun _=>?_
   refine U rfl (fun hc20=>?_) (fun hc20=>?_)
   ·replace h:=M hc20 h
    refine D<|F<|C rfl<|E (kt<|kn) fun _=>?_
    refine L ?_
    cases h
    exact ⟨_,rfl,rfl⟩
   ·replace h:=O hc20 h
    refine P (kt<|kt<|kn) fun _=>?_
    refine F<|C rfl<|a5 rfl rfl<|C rfl<|E (kt<|kt<|kn) ?_
    cases h
    refine ⟨_,rfl,?_⟩
    rw [Ktv rfl (Ktv rfl (Knil _))]
    rw [b2 (a4 (hw0 3)) hi0 (e4 (e9 (f0 (hw0 1)) (i:=1) rfl) (eLCondition_eq _))]
    all_goals rfl
  ·intro i0 s0 hi0
   refine D<|D<|F<|C rfl<|K rfl<|I rfl<|V rfl (eLCondition_eq _)<|X rfl rfl<|E (kt<|kt<|kt<|kn) fun _=>?_
   refine b5 rfl (b6 hi0)<|b0 (kn) ?_
   exact ⟨rfl,rfl⟩
  ·intro s0 hs
   replace h:=d1 h hs
   intro _
   refine D<|F<|C rfl<|E (kt<|kn) fun _=>?_
   exact L (by cases h;rfl)
  ·intro v0 ze hv hR
   replace h:=d2 h hv
   cases h
   exact hR
theorem c180A:∀ n:Nat,(∀ (c:Condition) (r:Bool) (_:ref22_allRightF n c=some r),Sound prog 180 [eCondition c] (.sh (eB r))):=by
  intro n
  induction n with
  | zero=>intro c r h; cases h
  | succ n ih=>exact c180S n ih
theorem c180 (c:Condition) (r:Bool) (h:ref22_allRight c=some r):Sound prog 180 [eCondition c] (.sh (eB r)):=by
  obtain ⟨N,hN⟩:=lim_some h
  exact (c180A N) c r (hN N (Nat.le_refl _))
theorem ck181:CK f181 (Rq [Af 1 0,Ad 2 0,Ad 3 0] [1]<|Rq [Ad 4 1,Ad 5 0] [1,4,5]<|Sq (Rq [Ad 6 0] [1,4,5,6]<|Bl 0<|Lo [1,4,5,6]<|Sq (Rq [Aa 9 6,Ac 10 1 1,Ab 11 10,Ag 12 11,Ap 13 9 12] [1,4,5,6,13]<|Co 13 (Sk [1,4,5,6])<|Ex 0 [1,4,5])<|Sq (Bl 1<|Rq [Ac 17 1 1,Ab 18 17,Aa 19 6,Ah 20 18 19 9,Ae 21 20 9,Au 22 181 21,Aa 16 22,At 23 16 0,At 24 16 1,Aa 7 23,Aa 8 24] [1,4,5,6,7,8]<|Re [Aa 25 4,Aa 26 7,Bn 27 25 26,Aa 28 5,Aa 29 8,⟨some 30,.mm true (.s 28) (.s 29),none⟩,Aa 4 27,Aa 5 30] [1,4,5,6])<|Re [Aa 14 6,Ao 15 14 1,Aa 6 15] [1,4,5,6])<|Sq (Rq [Ac 31 1 0,Ab 32 31,Be 33 32 5] [4,5,33]<|Co 33 (Re [Aa 34 5,Ao 35 34 1,Aa 5 35] [4,5])<|Sk [4,5])<|Rq [Aa 36 4,Aa 37 5,Aa 2 36,Aa 3 37] [2,3]<|.ret) [.tmp 2,.tmp 3]:= by decide +kernel
theorem c181S (n:Nat) (ih_181:∀ (c:Condition) (r:(Int × Int)) (_:ref22_MeasureF n c=some r),Sound prog 181 [eCondition c] (.tp [eI r.1,eI r.2])):∀ (c:Condition) (r:(Int × Int)) (_:ref22_MeasureF (n+1) c=some r),Sound prog 181 [eCondition c] (.tp [eI r.1,eI r.2]):= by
 intro c r h
 refine Fn ck181 fun hw=>?_
 unfold ref22_MeasureF at h
 refine D<|F<|a1 rfl rfl<|C rfl<|C rfl<|E (kt<|kn) fun _=>?_
 refine D<|F<|C rfl<|C rfl<|E (kt<|kt<|kt<|kn) fun _=>?_
 refine D<|D<|F<|C rfl<|E (kt<|kt<|kt<|kt<|kn) fun _=>?_
 obtain ⟨s0,hs0,h⟩:=J h
 refine f8 hs0 (fun (i0:Int) (s0:Int × Int)=>[(1,.tv (.pt (eCondition c).cells)),(4,.tv (eI s0.1)),(5,.tv (eI s0.2)),(6,.tv (eI i0))]) (fun (s0:Int × Int)=>[(1,.tv (.pt (eCondition c).cells)),(4,.tv (eI s0.1)),(5,.tv (eI s0.2))]) rfl ?_ ?_ ?_
 ·clear h hs0
  intro i0 s0 r0 hi0 h hw0
  refine D<|D<|F<|C rfl<|K rfl<|I rfl<|V rfl (eLCondition_eq _)<|X rfl rfl<|E (kt<|kt<|kt<|kt<|kt<|kn) fun _=>?_
  refine b3 rfl (b4 hi0)<|P (kt<|kt<|kt<|kt<|kn) fun _=>?_
  refine D<|a8<|D<|F<|K rfl<|I rfl<|C rfl ?_
  obtain ⟨x20,hx20,h⟩:=J h
  refine a2 rfl rfl (eLCondition_eq _) hx20 rfl<|R rfl rfl (show _=eCondition x20 from rfl) ?_
  obtain ⟨x22,hx22,h⟩:=J h
  refine e6 rfl (ih_181 x20 _ hx22)<|e8 rfl<|b9 rfl rfl<|b9 rfl rfl<|C rfl<|C rfl<|E (kt<|kt<|kt<|kt<|kt<|kt<|kn) fun _=>?_
  refine F<|C rfl<|C rfl<|a5 rfl rfl<|C rfl<|C rfl<|p6 rfl rfl<|C rfl<|C rfl<|E (kt<|kt<|kt<|kt<|kn) fun _=>?_
  refine F<|C rfl<|a5 rfl rfl<|C rfl<|E (kt<|kt<|kt<|kt<|kn) ?_
  cases h
  show Env.keep _ _=_
  rw [Ktv rfl (Ktv rfl (Ktv rfl (Ktv rfl (Knil _))))]
  rw [b2 (a4 (hw0 6)) hi0 (e4 (e9 (f0 (hw0 1)) (i:=1) rfl) (eLCondition_eq _))]
  all_goals rfl
 ·intro i0 s0 hi0
  refine D<|D<|F<|C rfl<|K rfl<|I rfl<|V rfl (eLCondition_eq _)<|X rfl rfl<|E (kt<|kt<|kt<|kt<|kt<|kn) fun _=>?_
  refine b5 rfl (b6 hi0)<|b0 (kt<|kt<|kt<|kn) ?_
  exact ⟨rfl,rfl⟩
 ·intro _
  refine D<|D<|F<|K rfl<|I rfl<|b8 rfl rfl<|E (kt<|kt<|kt<|kn) fun _=>?_
  obtain ⟨w1,hw1,h⟩:=J h
  refine g9 (fun ze=>ze=[(4,.tv (eI s0.1)),(5,.tv (eI w1))]) ?_ ?_
  ·replace h:=hw1
   clear hw1
   refine U rfl (fun hc33=>?_) (fun hc33=>?_)
   ·replace h:=M hc33 h
    refine F<|C rfl<|a5 rfl rfl<|C rfl<|E (kt<|kt<|kn) ?_
    cases h
    exact rfl
   ·replace h:=O hc33 h
    refine P (kt<|kt<|kn) ?_
    cases h
    exact rfl
  rintro _ rfl
  intro _
  refine D<|F<|C rfl<|C rfl<|C rfl<|C rfl<|E (kt<|kt<|kn) fun _=>?_
  refine L ?_
  cases h
  exact ⟨by decide,rfl⟩
theorem c181A:∀ n:Nat,(∀ (c:Condition) (r:(Int × Int)) (_:ref22_MeasureF n c=some r),Sound prog 181 [eCondition c] (.tp [eI r.1,eI r.2])):=by
  intro n
  induction n with
  | zero=>intro c r h; cases h
  | succ n ih=>exact c181S n ih
theorem c181 (c:Condition) (r:(Int × Int)) (h:ref22_Measure c=some r):Sound prog 181 [eCondition c] (.tp [eI r.1,eI r.2]):=by
  obtain ⟨N,hN⟩:=lim_some h
  exact (c181A N) c r (hN N (Nat.le_refl _))
theorem ck137:CK f137 (Rq [Af 1 0,Ad 2 0] [1]<|Sq (Rq [Ae 5 1 9,Au 6 180 5,Ay 7 6] [1,7]<|Co 7 (Rq [Ad 2 1] [2]<|.ret)<|Sk [1])<|Sq (Rq [Ae 9 1 9,Au 10 181 9,Aa 8 10,At 11 8 0,At 12 8 1,Aa 3 11,Aa 4 12] [3,4]<|Rq [Aa 13 3,Bg 14 13 12,Aa 15 14,Az 16 4 15,Bu 17 16 3 15,Ar 18 15 17] [18]<|Co 18 (Rq [Ad 2 3] [2]<|.ret)<|Sk [])<|Rq [Ad 2 0] [2]<|.ret) [.tmp 2]:= by decide +kernel
theorem c137 (c:Condition) (r:Int) (h:ref22_Shape c=some r):Sound prog 137 [eCondition c] (.sh (eI r)):= by
 refine Fn ck137 fun hw=>?_
 unfold ref22_Shape at h
 refine D<|F<|a1 rfl rfl<|C rfl<|E (kt<|kn) fun _=>?_
 refine D<|D<|F<|R rfl rfl (show _=eCondition c from rfl) ?_
 obtain ⟨x6,hx6,h⟩:=J h
 refine W rfl (c180 c _ hx6)<|b7 rfl<|E (kt<|kt<|kn) fun _=>?_
 refine U rfl (fun hc7=>?_) (fun hc7=>?_)
 ·replace h:=M hc7 h
  refine D<|F<|C rfl<|E (kt<|kn) fun _=>?_
  exact L (by cases h;rfl)
 ·replace h:=O hc7 h
  refine P (kt<|kn) fun _=>?_
  refine D<|D<|F<|R rfl rfl (show _=eCondition c from rfl) ?_
  obtain ⟨x10,hx10,h⟩:=J h
  refine e6 rfl (c181 c _ hx10)<|e8 rfl<|b9 rfl rfl<|b9 rfl rfl<|C rfl<|C rfl<|E (kt<|kt<|kn) fun _=>?_
  refine D<|F<|C rfl<|e3 rfl rfl<|C rfl ?_
  refine gO 3 [16,17] 18 (decide (12<x10.1)) (decide (3<x10.2)) (fun hg18=>?_) (fun hg18=>?_) ?_
  ·refine H rfl hg18<|H rfl hg18<|Z rfl hg18 rfl ?_
   exact ⟨⟨_,_,rfl⟩⟩
  ·refine G rfl hg18<|C rfl<|G rfl hg18<|e3 rfl rfl<|a0 rfl hg18 rfl ?_
   exact ⟨⟨_,_,rfl⟩⟩
  rintro _ ⟨_,_,rfl⟩
  refine E (kt<|kn) fun _=>?_
  refine U rfl (fun hc18=>?_) (fun hc18=>?_)
  ·replace h:=M hc18 h
   refine D<|F<|C rfl<|E (kt<|kn) fun _=>?_
   exact L (by cases h;rfl)
  ·replace h:=O hc18 h
   refine P (kn) fun _=>?_
   refine D<|F<|C rfl<|E (kt<|kn) fun _=>?_
   exact L (by cases h;rfl)
theorem ck223:CK f223 (Rq [Af 2 0,Ai 4] [1,2]<|Sq (Rq [Ad 5 0] [1,2,5]<|Bl 0<|Lo [1,2,5]<|Sq (Rq [Aa 6 5,Ac 7 2 2,Ab 8 7,Ag 9 8,Ap 10 6 9] [1,2,5,10]<|Co 10 (Sk [1,2,5])<|Ex 0 [])<|Sq (Bl 1<|Rq [Ac 13 2 2,Ab 14 13,Aa 15 5,Ah 16 14 15 4,Aj 17 16 2,Aj 18 17 0,Ab 19 18,Aa 20 1,By 21 19 20] [1,2,5,21]<|Co 21 (Rq [Bw 4] [4]<|.ret)<|Sk [1,2,5])<|Re [Aa 11 5,Ao 12 11 1,Aa 5 12] [1,2,5])<|Rq [Ai 4] [4]<|.ret) [.tmp 4]:= by decide +kernel
theorem c223 (p:Pattern) (v_1:Int) (r:Bool) (h:ref22_occurs p v_1=some r):Sound prog 223 [ePattern p,eI v_1] (.sh (eB r)):= by
 refine Fn ck223 fun hw=>?_
 unfold ref22_occurs at h
 refine D<|F<|a1 rfl rfl<|C rfl<|E (kt<|kt<|kn) fun _=>?_
 refine D<|D<|F<|C rfl<|E (kt<|kt<|kt<|kn) fun _=>?_
 obtain ⟨o0,ho0,h⟩:=d0 h
 refine d5 ho0 (fun (i0:Int) (_:Unit)=>[(1,.tv (eI v_1)),(2,.tv (.pt (ePattern p).cells)),(5,.tv (eI i0))]) (fun (_:Unit)=>[]) (fun zv ze=>resIs ([.tmp 4]) (.sh (eB zv)) ze) rfl ?_ ?_ ?_ ?_
 ·clear h ho0
  intro i0 s0 r0 hi0 h hw0
  refine D<|D<|F<|C rfl<|K rfl<|I rfl<|V rfl rfl<|X rfl rfl<|E (kt<|kt<|kt<|kt<|kn) fun _=>?_
  refine b3 rfl (b4 hi0)<|P (kt<|kt<|kt<|kn) fun _=>?_
  refine D<|a8<|D<|F<|K rfl<|I rfl<|C rfl ?_
  obtain ⟨x16,hx16,h⟩:=J h
  refine a2 rfl rfl rfl hx16 rfl<|a6 rfl<|a6 rfl<|I rfl<|C rfl<|b8 rfl rfl<|E (kt<|kt<|kt<|kt<|kn) fun _=>?_
  refine U rfl (fun hc21=>?_) (fun hc21=>?_)
  ·replace h:=M hc21 h
   refine D<|F<|C rfl<|E (kt<|kn) fun _=>?_
   refine L ?_
   cases h
   exact ⟨_,rfl,rfl⟩
  ·replace h:=O hc21 h
   refine P (kt<|kt<|kt<|kn) fun _=>?_
   refine F<|C rfl<|a5 rfl rfl<|C rfl<|E (kt<|kt<|kt<|kn) ?_
   cases h
   refine ⟨_,rfl,?_⟩
   rw [Ktv rfl (Ktv rfl (Ktv rfl (Knil _)))]
   rw [b2 (a4 (hw0 5)) hi0 (e4 (e9 (f0 (hw0 2)) (i:=2) rfl) rfl)]
   all_goals rfl
 ·intro i0 s0 hi0
  refine D<|D<|F<|C rfl<|K rfl<|I rfl<|V rfl rfl<|X rfl rfl<|E (kt<|kt<|kt<|kt<|kn) fun _=>?_
  refine b5 rfl (b6 hi0)<|b0 (kn) ?_
  exact ⟨rfl,rfl⟩
 ·intro s0 hs
  replace h:=d1 h hs
  intro _
  refine D<|F<|C rfl<|E (kt<|kn) fun _=>?_
  exact L (by cases h;rfl)
 ·intro v0 ze hv hR
  replace h:=d2 h hv
  cases h
  exact hR
theorem ck182:CK f182 (Rq [Af 3 0,Af 5 2,Ad 6 0] [1,3,5]<|Sq (Rq [Ac 9 5 3,Ab 10 9,Aa 11 1,Ap 12 10 11] [1,3,5,12]<|Co 12 (Rq [Ad 6 20] [6]<|.ret)<|Sk [1,3,5])<|Rq [Ae 13 3 2,Ae 14 5 5,An 15 76 13 14,Aa 7 15] [1,5,7]<|Sq (Rq [Aa 16 7,Ax 17 16 9] [1,5,7,17]<|Co 17 (Rq [Aa 18 7,Aa 6 18] [6]<|.ret)<|Sk [1,5,7])<|Sq (Rq [Aa 19 1,Aa 8 19] [5,7,8]<|Bl 0<|Lo [5,7,8]<|Sq (Rq [Aa 20 8,Ac 21 5 3,Ab 22 21,Ap 23 20 22] [5,7,8,23]<|Co 23 (Sk [5,7,8])<|Ex 0 [])<|Sq (Bl 1<|Rq [Ae 26 5 5,Aa 27 8,An 28 223 26 27,Ay 29 28] [5,7,8,29]<|Co 29 (Rq [Aa 30 7,Aa 6 30] [6]<|.ret)<|Sk [5,7,8])<|Re [Aa 24 8,Ao 25 24 1,Aa 8 25] [5,7,8])<|Rq [Ad 6 0] [6]<|.ret) [.tmp 6]:= by decide +kernel
theorem c182 (t:Types) (vars:Int) (q:Pattern) (r:Int) (h:ref22_inner t vars q=some r):Sound prog 182 [eTypes t,eI vars,ePattern q] (.sh (eI r)):= by
 refine Fn ck182 fun hw=>?_
 unfold ref22_inner at h
 refine D<|F<|a1 rfl rfl<|a1 rfl rfl<|C rfl<|E (kt<|kt<|kt<|kn) fun _=>?_
 refine D<|D<|F<|K rfl<|I rfl<|C rfl<|X rfl rfl<|E (kt<|kt<|kt<|kt<|kn) fun _=>?_
 refine U rfl (fun hc12=>?_) (fun hc12=>?_)
 ·replace h:=M hc12 h
  refine D<|F<|C rfl<|E (kt<|kn) fun _=>?_
  exact L (by cases h;rfl)
 ·replace h:=O hc12 h
  refine P (kt<|kt<|kt<|kn) fun _=>?_
  refine D<|F<|R rfl rfl (show _=eTypes t from rfl)<|R rfl rfl (show _=ePattern q from rfl) ?_
  obtain ⟨x15,hx15,h⟩:=J h
  refine W rfl (c76 t q _ hx15)<|C rfl<|E (kt<|kt<|kt<|kn) fun _=>?_
  refine D<|D<|F<|C rfl<|a7 rfl rfl<|E (kt<|kt<|kt<|kt<|kn) fun _=>?_
  refine U rfl (fun hc17=>?_) (fun hc17=>?_)
  ·replace h:=M hc17 h
   refine D<|F<|C rfl<|C rfl<|E (kt<|kn) fun _=>?_
   exact L (by cases h;rfl)
  ·replace h:=O hc17 h
   refine P (kt<|kt<|kt<|kn) fun _=>?_
   refine D<|D<|F<|C rfl<|C rfl<|E (kt<|kt<|kt<|kn) fun _=>?_
   obtain ⟨o0,ho0,h⟩:=d0 h
   refine d5 ho0 (fun (i0:Int) (_:Unit)=>[(5,.tv (.pt (ePattern q).cells)),(7,.tv (eI x15)),(8,.tv (eI i0))]) (fun (_:Unit)=>[]) (fun zv ze=>resIs ([.tmp 6]) (.sh (eI zv)) ze) rfl ?_ ?_ ?_ ?_
   ·clear h ho0
    intro i0 s0 r0 hi0 h hw0
    refine D<|D<|F<|C rfl<|K rfl<|I rfl<|X rfl rfl<|E (kt<|kt<|kt<|kt<|kn) fun _=>?_
    refine b3 rfl (b4 hi0)<|P (kt<|kt<|kt<|kn) fun _=>?_
    refine D<|a8<|D<|F<|R rfl rfl (show _=ePattern q from rfl)<|C rfl ?_
    obtain ⟨x28,hx28,h⟩:=J h
    refine W rfl (c223 q i0 _ hx28)<|b7 rfl<|E (kt<|kt<|kt<|kt<|kn) fun _=>?_
    refine U rfl (fun hc29=>?_) (fun hc29=>?_)
    ·replace h:=M hc29 h
     refine D<|F<|C rfl<|C rfl<|E (kt<|kn) fun _=>?_
     refine L ?_
     cases h
     exact ⟨_,rfl,rfl⟩
    ·replace h:=O hc29 h
     refine P (kt<|kt<|kt<|kn) fun _=>?_
     refine F<|C rfl<|a5 rfl rfl<|C rfl<|E (kt<|kt<|kt<|kn) ?_
     cases h
     refine ⟨_,rfl,?_⟩
     rw [Ktv rfl (Ktv rfl (Ktv rfl (Knil _)))]
     rw [b2 (a4 (hw0 8)) hi0 (d9 (e9 (f0 (hw0 5)) (i:=3) rfl))]
     all_goals rfl
   ·intro i0 s0 hi0
    refine D<|D<|F<|C rfl<|K rfl<|I rfl<|X rfl rfl<|E (kt<|kt<|kt<|kt<|kn) fun _=>?_
    refine b5 rfl (b6 hi0)<|b0 (kn) ?_
    exact ⟨rfl,rfl⟩
   ·intro s0 hs
    replace h:=d1 h hs
    intro _
    refine D<|F<|C rfl<|E (kt<|kn) fun _=>?_
    exact L (by cases h;rfl)
   ·intro v0 ze hv hR
    replace h:=d2 h hv
    cases h
    exact hR
theorem ck183:CK f183 (Rq [Af 3 0,Af 4 1,Af 5 2,Ai 6] [3,4,5]<|Rq [Ae 7 3 2,Ae 8 4 2,Ae 9 5 2,Bf 10 136 7 8 9,Be 11 10 0,Aa 12 11,Av 13 5 0 12,Aw 14 13 12,Bz 15 79 14 12,Aq 16 12 15,Aa 17 16,Av 18 5 1 17,Aw 19 18 17,Bz 20 79 19 17,Aq 21 17 20,Aa 6 21] [6]<|.ret) [.tmp 6]:= by decide +kernel
theorem c183 (a:Graph) (b:Graph) (m:Morphism) (r:Bool) (h:ref06_Injective a b m=some r):Sound prog 183 [eGraph a,eGraph b,eMorphism m] (.sh (eB r)):= by
 refine Fn ck183 fun hw=>?_
 unfold ref06_Injective at h
 refine D<|F<|a1 rfl rfl<|a1 rfl rfl<|a1 rfl rfl<|C rfl<|E (kt<|kt<|kt<|kn) fun _=>?_
 refine D<|F<|R rfl rfl (show _=eGraph a from rfl)<|R rfl rfl (show _=eGraph b from rfl)<|R rfl rfl (show _=eMorphism m from rfl) ?_
 obtain ⟨x10,hx10,h⟩:=J h
 refine W rfl (c136 a b m _ hx10)<|b8 rfl rfl<|C rfl ?_
 obtain ⟨x16,hx16,h⟩:=J h
 refine gX 4 [13,14,15] 16 x16 (decide (x10=0)) (fun hg16=>?_) (fun hg16=>?_) ?_
 ·replace h:=M hg16 hx16
  refine G rfl hg16<|K rfl<|G rfl hg16<|I rfl ?_
  obtain ⟨x15,hx15,h⟩:=J h
  refine G rfl hg16<|W rfl (c79 m.Nodes _ hx15) ?_
  cases h
  refine Z rfl hg16 rfl ?_
  exact ⟨⟨_,_,_,rfl⟩⟩
 ·replace h:=O hg16 hx16
  cases h
  refine H rfl hg16<|H rfl hg16<|H rfl hg16<|a0 rfl hg16 rfl ?_
  exact ⟨⟨_,_,_,rfl⟩⟩
 rintro _ ⟨_,_,_,rfl⟩
 refine C rfl ?_
 obtain ⟨x21,hx21,h⟩:=J h
 refine gX 4 [18,19,20] 21 x21 x16 (fun hg21=>?_) (fun hg21=>?_) ?_
 ·replace h:=M hg21 hx21
  refine G rfl hg21<|K rfl<|G rfl hg21<|I rfl ?_
  obtain ⟨x20,hx20,h⟩:=J h
  refine G rfl hg21<|W rfl (c79 m.Edges _ hx20) ?_
  cases h
  refine Z rfl hg21 rfl ?_
  exact ⟨⟨_,_,_,rfl⟩⟩
 ·replace h:=O hg21 hx21
  cases h
  refine H rfl hg21<|H rfl hg21<|H rfl hg21<|a0 rfl hg21 rfl ?_
  exact ⟨⟨_,_,_,rfl⟩⟩
 rintro _ ⟨_,_,_,rfl⟩
 refine C rfl<|E (kt<|kn) fun _=>?_
 exact L (by cases h;rfl)
theorem ck138:CK f138 (Rq [Af 3 0,Af 4 1,Af 5 2,Ad 6 0] [3,4,5]<|Rq [Ae 12 4 5,Ec 7 1 3 4 0 5,Ak 5 7 12] [3,4,5,7]<|Sq (Rq [Ac 13 5 0,Ab 14 13,Be 15 14 5] [3,4,5,7,15]<|Co 15 (Sq (Rq [Ae 16 3 2,Ac 17 4 3,Ab 18 17,Ac 19 5 4,Ae 20 19 5,Bf 21 182 16 18 20,Aa 8 21] [3,4,5,7,8]<|Rq [Aa 22 8,Ax 23 22 0] [3,4,5,7,8,23]<|Co 23 (Rq [Aa 24 8,Aa 6 24] [6]<|.ret)<|Sk [3,4,5,7])<|Sq (Rq [Ac 25 4 0,Ae 26 25 2,Ac 27 5 4,Aj 28 27 0,Ae 29 28 2,Ac 30 5 2,Ae 31 30 2,Bf 32 136 26 29 31,Aa 9 32] [3,4,5,7,9]<|Rq [Aa 33 9,Ax 34 33 0] [3,4,5,7,9,34]<|Co 34 (Rq [Aa 35 9,Aa 6 35] [6]<|.ret)<|Sk [3,4,5,7])<|Sq (Rq [Ac 36 4 0,Ae 37 36 2,Ac 38 5 4,Aj 39 38 0,Ae 40 39 2,Ac 41 5 2,Ae 42 41 2,Bf 43 183 37 40 42,Ay 44 43] [3,5,7,44]<|Co 44 (Rq [Ad 6 1] [6]<|.ret)<|Sk [3,5,7])<|Re [Ac 45 5 4,Ae 46 45 5,Ak 5 7 46] [3,5,7])<|Sk [3,5,7])<|Sq (Rq [Ad 10 0] [3,5,7,10]<|Bl 0<|Lo [3,5,7,10]<|Sq (Rq [Aa 47 10,Ac 48 5 1,Ab 49 48,Ag 50 49,Ap 51 47 50] [3,5,7,10,51]<|Co 51 (Sk [3,5,7,10])<|Ex 0 [])<|Sq (Bl 1<|Sq (Dr [11,54,55,56,57,58,59,60,61] [Ae 54 3 2,Ae 55 7 5,Ac 56 5 1,Ab 57 56,Aa 58 10,Ah 59 57 58 9,Ae 60 59 9,Bf 61 138 54 55 60,Aa 11 61] [3,5,7,10,11])<|Rq [Aa 62 11,Ax 63 62 0] [3,5,7,10,11,63]<|Co 63 (Rq [Aa 64 11,Aa 6 64] [6]<|.ret)<|Sk [3,5,7,10])<|Re [Aa 52 10,Ao 53 52 1,Aa 10 53] [3,5,7,10])<|Rq [Ad 6 0] [6]<|.ret) [.tmp 6]:= by decide +kernel
theorem c138S (n:Nat) (ih_138:∀ (t:Types) (p:Pattern) (c:Condition) (r:Int) (_:ref22_overF n t p c=some r),Sound prog 138 [eTypes t,ePattern p,eCondition c] (.sh (eI r))):∀ (t:Types) (p:Pattern) (c:Condition) (r:Int) (_:ref22_overF (n+1) t p c=some r),Sound prog 138 [eTypes t,ePattern p,eCondition c] (.sh (eI r)):= by
 intro t p c r h
 refine Fn ck138 fun hw=>?_
 unfold ref22_overF at h
 refine D<|F<|a1 rfl rfl<|a1 rfl rfl<|a1 rfl rfl<|C rfl<|E (kt<|kt<|kt<|kn) fun _=>?_
 refine D<|F<|R rfl rfl (show _=ePattern p from rfl)<|b1 rfl<|a9 rfl rfl rfl rfl rfl<|E (kt<|kt<|kt<|kb<|kn) fun _=>?_
 refine D<|D<|F<|K rfl<|I rfl<|b8 rfl rfl<|E (kt<|kt<|kt<|kb<|kt<|kn) fun _=>?_
 refine U rfl (fun hc15=>?_) (fun hc15=>?_)
 ·replace h:=M hc15 h
  refine D<|D<|F<|R rfl rfl (show _=eTypes t from rfl)<|K rfl<|I rfl<|K rfl<|R rfl rfl (show _=ePattern c.Pattern from rfl) ?_
  obtain ⟨x21,hx21,h⟩:=J h
  refine W rfl (c182 t p.Vars c.Pattern _ hx21)<|C rfl<|E (kt<|kt<|kt<|kb<|kt<|kn) fun _=>?_
  refine D<|F<|C rfl<|a7 rfl rfl<|E (kt<|kt<|kt<|kb<|kt<|kt<|kn) fun _=>?_
  refine U rfl (fun hc23=>?_) (fun hc23=>?_)
  ·replace h:=M hc23 h
   refine D<|F<|C rfl<|C rfl<|E (kt<|kn) fun _=>?_
   exact L (by cases h;rfl)
  ·replace h:=O hc23 h
   refine P (kt<|kt<|kt<|kb<|kn) fun _=>?_
   refine D<|D<|F<|K rfl<|R rfl rfl (show _=eGraph p.Graph from rfl)<|K rfl<|a6 rfl<|R rfl rfl (show _=eGraph c.Pattern.Graph from rfl)<|K rfl<|R rfl rfl (show _=eMorphism c.Map from rfl) ?_
   obtain ⟨x32,hx32,h⟩:=J h
   refine W rfl (c136 p.Graph c.Pattern.Graph c.Map _ hx32)<|C rfl<|E (kt<|kt<|kt<|kb<|kt<|kn) fun _=>?_
   refine D<|F<|C rfl<|a7 rfl rfl<|E (kt<|kt<|kt<|kb<|kt<|kt<|kn) fun _=>?_
   refine U rfl (fun hc34=>?_) (fun hc34=>?_)
   ·replace h:=M hc34 h
    refine D<|F<|C rfl<|C rfl<|E (kt<|kn) fun _=>?_
    exact L (by cases h;rfl)
   ·replace h:=O hc34 h
    refine P (kt<|kt<|kt<|kb<|kn) fun _=>?_
    refine D<|D<|F<|K rfl<|R rfl rfl (show _=eGraph p.Graph from rfl)<|K rfl<|a6 rfl<|R rfl rfl (show _=eGraph c.Pattern.Graph from rfl)<|K rfl<|R rfl rfl (show _=eMorphism c.Map from rfl) ?_
    obtain ⟨x43,hx43,h⟩:=J h
    refine W rfl (c183 p.Graph c.Pattern.Graph c.Map _ hx43)<|b7 rfl<|E (kt<|kt<|kb<|kt<|kn) fun _=>?_
    refine U rfl (fun hc44=>?_) (fun hc44=>?_)
    ·replace h:=M hc44 h
     refine D<|F<|C rfl<|E (kt<|kn) fun _=>?_
     exact L (by cases h;rfl)
    ·replace h:=O hc44 h
     refine P (kt<|kt<|kb<|kn) fun _=>?_
     refine F<|K rfl<|R rfl rfl (show _=ePattern c.Pattern from rfl)<|a9 rfl rfl rfl rfl rfl<|E (kt<|kt<|kb<|kn) fun _=>?_
     refine D<|D<|F<|C rfl<|E (kt<|kt<|kb<|kt<|kn) fun _=>?_
     obtain ⟨o0,ho0,h⟩:=d0 h
     refine d5 ho0 (fun (i0:Int) (_:Unit)=>[(3,.tv (.pt (eTypes t).cells)),(5,.tv (.pt (eCondition c).cells)),(7,.bx [⟨false,lI c.Pattern.Graph.Nodes⟩,⟨false,lE c.Pattern.Graph.Edges⟩,⟨false,lS c.Pattern.Slots⟩,⟨false,eI c.Pattern.Vars⟩,⟨false,lT c.Pattern.Tests⟩]),(10,.tv (eI i0))]) (fun (_:Unit)=>[]) (fun zv ze=>resIs ([.tmp 6]) (.sh (eI zv)) ze) rfl ?_ ?_ ?_ ?_
     ·clear h ho0
      intro i0 s0 r0 hi0 h hw0
      refine D<|D<|F<|C rfl<|K rfl<|I rfl<|V rfl (eLCondition_eq _)<|X rfl rfl<|E (kt<|kt<|kb<|kt<|kt<|kn) fun _=>?_
      refine b3 rfl (b4 hi0)<|P (kt<|kt<|kb<|kt<|kn) fun _=>?_
      refine D<|a8<|D<|d4 rfl<|R rfl rfl (show _=eTypes t from rfl)<|R rfl rfl (show _=ePattern c.Pattern from rfl)<|K rfl<|I rfl<|C rfl ?_
      obtain ⟨x59,hx59,h⟩:=J h
      refine a2 rfl rfl (eLCondition_eq _) hx59 rfl<|R rfl rfl (show _=eCondition x59 from rfl) ?_
      obtain ⟨x61,hx61,h⟩:=J h
      refine W rfl (ih_138 t c.Pattern x59 _ hx61)<|C rfl<|E (kt<|kt<|kb<|kt<|kt<|kn) fun _=>?_
      refine D<|F<|C rfl<|a7 rfl rfl<|E (kt<|kt<|kb<|kt<|kt<|kt<|kn) fun _=>?_
      refine U rfl (fun hc63=>?_) (fun hc63=>?_)
      ·replace h:=M hc63 h
       refine D<|F<|C rfl<|C rfl<|E (kt<|kn) fun _=>?_
       refine L ?_
       cases h
       exact ⟨_,rfl,rfl⟩
      ·replace h:=O hc63 h
       refine P (kt<|kt<|kb<|kt<|kn) fun _=>?_
       refine F<|C rfl<|a5 rfl rfl<|C rfl<|E (kt<|kt<|kb<|kt<|kn) ?_
       cases h
       refine ⟨_,rfl,?_⟩
       rw [Ktv rfl (Ktv rfl (Kbx rfl (Ktv rfl (Knil _))))]
       rw [b2 (a4 (hw0 10)) hi0 (e4 (e9 (f0 (hw0 5)) (i:=1) rfl) (eLCondition_eq _))]
       all_goals rfl
     ·intro i0 s0 hi0
      refine D<|D<|F<|C rfl<|K rfl<|I rfl<|V rfl (eLCondition_eq _)<|X rfl rfl<|E (kt<|kt<|kb<|kt<|kt<|kn) fun _=>?_
      refine b5 rfl (b6 hi0)<|b0 (kn) ?_
      exact ⟨rfl,rfl⟩
     ·intro s0 hs
      replace h:=d1 h hs
      intro _
      refine D<|F<|C rfl<|E (kt<|kn) fun _=>?_
      exact L (by cases h;rfl)
     ·intro v0 ze hv hR
      replace h:=d2 h hv
      cases h
      exact hR
 ·replace h:=O hc15 h
  refine P (kt<|kt<|kb<|kn) fun _=>?_
  refine D<|D<|F<|C rfl<|E (kt<|kt<|kb<|kt<|kn) fun _=>?_
  obtain ⟨o0,ho0,h⟩:=d0 h
  refine d5 ho0 (fun (i0:Int) (_:Unit)=>[(3,.tv (.pt (eTypes t).cells)),(5,.tv (.pt (eCondition c).cells)),(7,.bx [⟨false,lI p.Graph.Nodes⟩,⟨false,lE p.Graph.Edges⟩,⟨false,lS p.Slots⟩,⟨false,eI p.Vars⟩,⟨false,lT p.Tests⟩]),(10,.tv (eI i0))]) (fun (_:Unit)=>[]) (fun zv ze=>resIs ([.tmp 6]) (.sh (eI zv)) ze) rfl ?_ ?_ ?_ ?_
  ·clear h ho0
   intro i0 s0 r0 hi0 h hw0
   refine D<|D<|F<|C rfl<|K rfl<|I rfl<|V rfl (eLCondition_eq _)<|X rfl rfl<|E (kt<|kt<|kb<|kt<|kt<|kn) fun _=>?_
   refine b3 rfl (b4 hi0)<|P (kt<|kt<|kb<|kt<|kn) fun _=>?_
   refine D<|a8<|D<|d4 rfl<|R rfl rfl (show _=eTypes t from rfl)<|R rfl rfl (show _=ePattern p from rfl)<|K rfl<|I rfl<|C rfl ?_
   obtain ⟨x59,hx59,h⟩:=J h
   refine a2 rfl rfl (eLCondition_eq _) hx59 rfl<|R rfl rfl (show _=eCondition x59 from rfl) ?_
   obtain ⟨x61,hx61,h⟩:=J h
   refine W rfl (ih_138 t p x59 _ hx61)<|C rfl<|E (kt<|kt<|kb<|kt<|kt<|kn) fun _=>?_
   refine D<|F<|C rfl<|a7 rfl rfl<|E (kt<|kt<|kb<|kt<|kt<|kt<|kn) fun _=>?_
   refine U rfl (fun hc63=>?_) (fun hc63=>?_)
   ·replace h:=M hc63 h
    refine D<|F<|C rfl<|C rfl<|E (kt<|kn) fun _=>?_
    refine L ?_
    cases h
    exact ⟨_,rfl,rfl⟩
   ·replace h:=O hc63 h
    refine P (kt<|kt<|kb<|kt<|kn) fun _=>?_
    refine F<|C rfl<|a5 rfl rfl<|C rfl<|E (kt<|kt<|kb<|kt<|kn) ?_
    cases h
    refine ⟨_,rfl,?_⟩
    rw [Ktv rfl (Ktv rfl (Kbx rfl (Ktv rfl (Knil _))))]
    rw [b2 (a4 (hw0 10)) hi0 (e4 (e9 (f0 (hw0 5)) (i:=1) rfl) (eLCondition_eq _))]
    all_goals rfl
  ·intro i0 s0 hi0
   refine D<|D<|F<|C rfl<|K rfl<|I rfl<|V rfl (eLCondition_eq _)<|X rfl rfl<|E (kt<|kt<|kb<|kt<|kt<|kn) fun _=>?_
   refine b5 rfl (b6 hi0)<|b0 (kn) ?_
   exact ⟨rfl,rfl⟩
  ·intro s0 hs
   replace h:=d1 h hs
   intro _
   refine D<|F<|C rfl<|E (kt<|kn) fun _=>?_
   exact L (by cases h;rfl)
  ·intro v0 ze hv hR
   replace h:=d2 h hv
   cases h
   exact hR
theorem c138A:∀ n:Nat,(∀ (t:Types) (p:Pattern) (c:Condition) (r:Int) (_:ref22_overF n t p c=some r),Sound prog 138 [eTypes t,ePattern p,eCondition c] (.sh (eI r))):=by
  intro n
  induction n with
  | zero=>intro t p c r h; cases h
  | succ n ih=>exact c138S n ih
theorem c138 (t:Types) (p:Pattern) (c:Condition) (r:Int) (h:ref22_over t p c=some r):Sound prog 138 [eTypes t,ePattern p,eCondition c] (.sh (eI r)):=by
  obtain ⟨N,hN⟩:=lim_some h
  exact (c138A N) t p c r (hN N (Nat.le_refl _))
theorem ck81:CK f81 (Rq [Af 3 0,Af 4 1,Af 5 2,Ad 6 0] [3,4,5]<|Sq (Rq [Ae 9 3 2,Ae 10 4 5,An 11 76 9 10,Aa 7 11] [3,4,5,7]<|Rq [Aa 12 7,Ax 13 12 0] [3,4,5,7,13]<|Co 13 (Rq [Aa 14 7,Aa 6 14] [6]<|.ret)<|Sk [3,4,5])<|Sq (Rq [Ae 15 5 9,Au 16 137 15,Aa 8 16] [3,4,5,8]<|Rq [Aa 17 8,Ax 18 17 0] [3,4,5,8,18]<|Co 18 (Rq [Aa 19 8,Aa 6 19] [6]<|.ret)<|Sk [3,4,5])<|Rq [Ae 20 3 2,Ae 21 4 5,Ae 22 5 9,Bf 23 138 20 21 22,Aa 6 23] [6]<|.ret) [.tmp 6]:= by decide +kernel
theorem c81 (t:Types) (p:Pattern) (c:Condition) (r:Int) (h:ref22_Valid t p c=some r):Sound prog 81 [eTypes t,ePattern p,eCondition c] (.sh (eI r)):= by
 refine Fn ck81 fun hw=>?_
 unfold ref22_Valid at h
 refine D<|F<|a1 rfl rfl<|a1 rfl rfl<|a1 rfl rfl<|C rfl<|E (kt<|kt<|kt<|kn) fun _=>?_
 refine D<|D<|F<|R rfl rfl (show _=eTypes t from rfl)<|R rfl rfl (show _=ePattern p from rfl) ?_
 obtain ⟨x11,hx11,h⟩:=J h
 refine W rfl (c76 t p _ hx11)<|C rfl<|E (kt<|kt<|kt<|kt<|kn) fun _=>?_
 refine D<|F<|C rfl<|a7 rfl rfl<|E (kt<|kt<|kt<|kt<|kt<|kn) fun _=>?_
 refine U rfl (fun hc13=>?_) (fun hc13=>?_)
 ·replace h:=M hc13 h
  refine D<|F<|C rfl<|C rfl<|E (kt<|kn) fun _=>?_
  exact L (by cases h;rfl)
 ·replace h:=O hc13 h
  refine P (kt<|kt<|kt<|kn) fun _=>?_
  refine D<|D<|F<|R rfl rfl (show _=eCondition c from rfl) ?_
  obtain ⟨x16,hx16,h⟩:=J h
  refine W rfl (c137 c _ hx16)<|C rfl<|E (kt<|kt<|kt<|kt<|kn) fun _=>?_
  refine D<|F<|C rfl<|a7 rfl rfl<|E (kt<|kt<|kt<|kt<|kt<|kn) fun _=>?_
  refine U rfl (fun hc18=>?_) (fun hc18=>?_)
  ·replace h:=M hc18 h
   refine D<|F<|C rfl<|C rfl<|E (kt<|kn) fun _=>?_
   exact L (by cases h;rfl)
  ·replace h:=O hc18 h
   refine P (kt<|kt<|kt<|kn) fun _=>?_
   refine D<|F<|R rfl rfl (show _=eTypes t from rfl)<|R rfl rfl (show _=ePattern p from rfl)<|R rfl rfl (show _=eCondition c from rfl) ?_
   obtain ⟨x23,hx23,h⟩:=J h
   refine W rfl (c138 t p c _ hx23)<|C rfl<|E (kt<|kn) fun _=>?_
   exact L (by cases h;rfl)
end Go.Sf.Sc
