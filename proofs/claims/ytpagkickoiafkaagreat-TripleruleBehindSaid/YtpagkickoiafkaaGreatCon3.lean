/- Contracts of the functions. -/
import Derived.Test.YtpagkickoiafkaaGreatCon2
set_option linter.all false
set_option maxRecDepth 100000
set_option maxHeartbeats 4000000
open Option renaming none->W
open Bool renaming true->X
namespace Go.Sf.Sc
open Go Go.Sf Go.Proofs.Tryz
instance(a b c d):CT (NV a b c d) 73 [AK a,BY b,BC c,BB d] (rT EF eI):=Fk f73 0x81e126440f3e55e11646cb77591f42580b6c591f4255e10116ee0152ac52f3024a244202460e0b5c7722427732770d42770b420b7759da0ee56c2242d86c0d426c0b420b6c59da024a224202460e5c0b77320e5a0bd83f18c91b460e6b0e6bd355e1164688f2e10116468530817c030f426b6bad10429ab5a8e10116468530a6e77cc6380b42c6a8e10116eea608c97cc6c63859b5a8e10116ee0e6b6bd3ac14c96092 [.nj 38 [W,W,W,W,W,W,W,W,W,W,W,W,W,W,W,W,W,W,W,W,W,W,W,W,W,W,W,W,W,W,W,some ⟨X,.list 1 []⟩,some ⟨X,.list 3 []⟩,some ⟨X,.xn []⟩,W,W,W,W] (.s 15) (.s 82)] [.cell 8 (some 38),.tmp 9] λr h e f=>by
  unfold NV at h;exact nz
instance(a b c d):CT (IT a b c d) 37 [AK a,BY b,BC c,BB d] (rT EF eI):=Fk f37 0x81e16f0e6b6bd3a8e10116ee0e6bd3ac14c96092 [] [.cell 8 (some 38),.tmp 9] λr h e f=>by
  unfold IT at h;exact nz
instance(a b):CT (DP a b) 116 [Aj a,Aj b] rB:=Fe f116 0x81b85c5c735a9f92 [] (DP.eq_1 ..)
instance(a b):CT (Mo a b) 221 [AU a,AU b] rB:=Fe f221 0x81b85c5c735a9f92 [] (Mo.eq_1 ..)
instance(a b):CT (FI a b) 172 [Av a,Av b] rB:=Fe f172 0x81b8d242d26eb8a7e2a5d4a16e903238b992 [] (FI.eq_1 ..)
abbrev Q_173(n:Nat):Prop:=∀(a:gt)(b:gt),CT (DM n a b) 173 [AG a,AG b] rB
theorem cd(n:Nat)(_ih_173:Q_173 n)(a:gt)(b:gt):CT (DM (n+1) a b) 173 [AG a,AG b] rB:=Fj f173 0xf83f5cbeb8d242d26e0ea7a7558ab6773277b90ab6d86cb9a5d4a16e0a0890cc38cc585a5adede0ac90ac99a04429a046e92 [.call 224 [.s 65,.s 67,.c (.kL 173 [])]] λh=>by
  unfold DM at h;exact nz
theorem cc:∀n:Nat,Q_173 n:=by
  intro n
  induction n with
  |zero=>exact(λa b=>⟨λ_ h=>b?⟩)
  |succ n c=>exact cd n c
instance(a b):CT (L8 a b) 173 [AG a,AG b] rB:=⟨λr h=>by
  obtain ⟨N,c⟩:=Bh h;exact((cc N) a b).snd r (c N (bk _))⟩
instance(a b):CT (Oy a b) 113 [BY a,BY b] rB:=Fe f113 0x81b8ad1042ad106e0a900d42380d6eb8770b42770b6eb86c0b426c0b6eb89ada9a066eb89ab59a016e0a07030f42030f6e065a9f92 [] (Oy.eq_1 ..)
instance(a b):CT (Iv a b) 114 [BB a,BB b] rB:=Fe f114 0x81b8a7e2903238b992 [] (Iv.eq_1 ..)
instance(a b):CT (K7 a b) 115 [BC a,BC b] rB:=Fe f115 0xf83fa7e2b87732773273d86cb992 [.call 175 [.s 23,.s 25,.c (.kL 18 [])]] (K7.eq_1 ..)
instance(a b):CT (O4 a b) 71 [EF a,EF b] rB:=Fe f71 0xf890244238246e0a90224238226eb86b1f426b1f6eb86b1c426b1c6eb86b19426b196e0ed332d3b992 [] (O4.eq_1 ..)
instance(a b):CT (NU a b) 31 [AK a,EF b] rB:=Fe f31 0x81b826442644585ee114c97c6b19426b1c42d332ac92 [] (NU.eq_1 ..)
instance(a b c):CT (FM a b c) 34 [eI a,.pt (C3 b).cells,.pt (AU c).cells] rB:=Fe f34 0xbc5d915a9f02ca [] (FM.eq_1 ..)
instance(a b c):CT (FN a b c) 35 [eI a,.pt (C3 b).cells,.pt (AU c).cells] rB:=Fe f35 0xbc5d6cd65cbe02ca [] (FN.eq_1 ..)
instance(a b):CT (EQ a b) 32 [AU a,.pt (C3 b).cells] (rS GL):=Fk f32 0xef0e1010380dc9db [] [.cell 3 (some 4)] λr h c d=>by
  unfold EQ at h;exact nz
instance(a b):CT (Cw a b) 36 [lI a,lI b] (rO lI):=BJ f36 0x8202cfc108050005d5b3c4dc02815dcf65c1080500059bd9c001406902 [] (Cw.eq_1 ..) (As 0 10 9 0 (hO 5 lI))
instance(a b c):CT (HZ a b c) 11 [AK a,C3 b,EF c] (λr=>.tp [EF r.1,EF r.2.1,eI r.2.2]):=Fk f11 0x706023b81e1e12644264455e1e101164616eee114c97c6b6b1f42d338131110070603069e9d9c1311100e0706030ad5f70141b9c45d0e01d4772442e44132815d13111007060306659e9d9c1311100e0706030a9b01c50b7759b5770d421311100e09070603087f7e7d1311100e090706030bd5f759b9c45d0e01a76c2442045932815d1311100e0907060308657f7e7d1311100e090706030b9b01c50b6c59b56c0d42035017c93f3f0e775919427722420e6c5919426c224255e1e101164616468530a6194b02490ec9117cd338a8e1e101164616468530e114c97c6b6b1c42d338bb17c91c4602460ed4775919420ea76c591942efef0dc90dc90f3859066e0f3859b55e1055e1e116461646d02644a8e1e101164616ee194b0ec97cd3f3194b0ec9d3b914c914c9ed [.ky [.w 106,.w 114],.ky [.g 115 0 2,.g 115 1 2,.z ⟨X,.list 1 []⟩]] [.cell 6 (some 38),.cell 7 (some 38),.tmp 8] λr h d e=>by
  unfold HZ at h;have:=As 0 127 126 0 λs0:AT=>[(19,.bx [⟨X,lI s0.f0.fd⟩,⟨X,lI s0.f0.fq⟩,⟨X,lI s0.jk⟩])];have:=As 2 158 157 0 λs2:AT=>[(19,.bx [⟨X,lI s2.f0.fd⟩,⟨X,lI s2.f0.fq⟩,⟨X,lI s2.jk⟩])];exact nz
end Go.Sf.Sc
