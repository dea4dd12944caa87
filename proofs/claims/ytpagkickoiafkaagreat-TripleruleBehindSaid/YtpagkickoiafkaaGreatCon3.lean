/- Contracts of the functions. -/
import Derived.Test.YtpagkickoiafkaaGreatCon2
set_option linter.all false
set_option maxRecDepth 100000
set_option maxHeartbeats 4000000
open Option renaming none->W
open Bool renaming true->X
namespace Go.Sf.Sc
open Go Go.Sf Go.Proofs.Tryz
instance(a b c d):CT (Qm a b c d) 73 [AO a,CE b,Bq c,Bp d] (rT IX eI):=Fk f73 0x81e126440f3e55e11646cb77591f42580b6c591f4255e10116ee0152ac52f3024a244202460e0b5c7722427732770d42770b420b7759da0ee56c2242d86c0d426c0b420b6c59da024a224202460e5c0b77320e5a0bd83f18c91b460e6b0e6bd355e1164688f2e10116468530817c030f426b6bad10429ab5a8e10116468530a6e77cc6380b42c6a8e10116eea608c97cc6c63859b5a8e10116ee0e6b6bd3ac14c96092 [.stq 38 [W,W,W,W,W,W,W,W,W,W,W,W,W,W,W,W,W,W,W,W,W,W,W,W,W,W,W,W,W,W,W,some ⟨X,.list 1 []⟩,some ⟨X,.list 3 []⟩,some ⟨X,.xn []⟩,W,W,W,W] (.s 15) (.s 82)] [.cell 8 (some 38),.tmp 9] λr h e f=>by
  unfold Qm at h;exact nz
instance(a b c d):CT (KC a b c d) 37 [AO a,CE b,Bq c,Bp d] (rT IX eI):=Fk f37 0x81e16f0e6b6bd3a8e10116ee0e6bd3ac14c96092 [] [.cell 8 (some 38),.tmp 9] λr h e f=>by
  unfold KC at h;exact nz
instance(a b):CT (Ep a b) 116 [Aw a,Aw b] rB:=Fe f116 0x81b85c5c735a9f92 [] (Ep.eq_1 ..)
instance(a b):CT (QV a b) 221 [An a,An b] rB:=Fe f221 0x81b85c5c735a9f92 [] (QV.eq_1 ..)
instance(a b):CT (GD a b) 172 [BP a,BP b] rB:=Fe f172 0x81b8d242d26eb8a7e2a5d4a16e903238b992 [] (GD.eq_1 ..)
abbrev Q_173(n:Nat):Prop:=∀(a:c9)(b:c9),CT (Dj n a b) 173 [AI a,AI b] rB
theorem yE(n:Nat)(_ih_173:Q_173 n)(a:c9)(b:c9):CT (Dj (n+1) a b) 173 [AI a,AI b] rB:=Fj f173 0xf83f5cbeb8d242d26e0ea7a7558ab6773277b90ab6d86cb9a5d4a16e0a0890cc38cc585a5adede0ac90ac99a04429a046e92 [.call 224 [.s 65,.s 67,.c (.z5 173 [])]] λh=>by
  unfold Dj at h;exact nz
theorem yD:∀n:Nat,Q_173 n:=by
  intro n
  induction n with
  |zero=>exact(λa b=>⟨λ_ h=>d!⟩)
  |succ n c=>exact yE n c
instance(a b):CT (Oh a b) 173 [AI a,AI b] rB:=⟨λr h=>by
  obtain ⟨N,c⟩:=Cl h;exact((yD N) a b).snd r (c N (aN _))⟩
instance(a b):CT (P0 a b) 113 [CE a,CE b] rB:=Fe f113 0x81b8ad1042ad106e0a900d42380d6eb8770b42770b6eb86c0b426c0b6eb89ada9a066eb89ab59a016e0a07030f42030f6e065a9f92 [] (P0.eq_1 ..)
instance(a b):CT (Jg a b) 114 [Bp a,Bp b] rB:=Fe f114 0x81b8a7e2903238b992 [] (Jg.eq_1 ..)
instance(a b):CT (ND a b) 115 [Bq a,Bq b] rB:=Fe f115 0xf83fa7e2b87732773273d86cb992 [.call 175 [.s 23,.s 25,.c (.z5 18 [])]] (ND.eq_1 ..)
instance(a b):CT (P5 a b) 71 [IX a,IX b] rB:=Fe f71 0xf890244238246e0a90224238226eb86b1f426b1f6eb86b1c426b1c6eb86b19426b196e0ed332d3b992 [] (P5.eq_1 ..)
instance(a b):CT (OM a b) 31 [AO a,IX b] rB:=Fe f31 0x81b826442644585ee114c97c6b19426b1c42d332ac92 [] (OM.eq_1 ..)
instance(a b c):CT (KF a b c) 34 [eI a,.pt (F1 b).cells,.pt (An c).cells] rB:=Fe f34 0xbc5d915a9f02ca [] (KF.eq_1 ..)
instance(a b c):CT (KG a b c) 35 [eI a,.pt (F1 b).cells,.pt (An c).cells] rB:=Fe f35 0xbc5d6cd65cbe02ca [] (KG.eq_1 ..)
instance(a b):CT (Gb a b) 32 [An a,.pt (F1 b).cells] (rS LE):=Fk f32 0xef0e1010380dc9db [] [.cell 3 (some 4)] λr h c d=>by
  unfold Gb at h;exact nz
instance(a b):CT (Dd a b) 36 [lI a,lI b] (rO lI):=B0 f36 0x8202cfc108050005d5b3c4dc02815dcf65c1080500059bd9c001406902 [] (Dd.eq_1 ..) (BG 0 10 9 0 (hO 5 lI))
instance(a b c):CT (Hv a b c) 11 [AO a,F1 b,IX c] (λr=>.tp [IX r.1,IX r.2.1,eI r.2.2]):=Fk f11 0x706023b81e1e12644264455e1e101164616eee114c97c6b6b1f42d338131110070603069e9d9c1311100e0706030ad5f70141b9c45d0e01d4772442e44132815d13111007060306659e9d9c1311100e0706030a9b01c50b7759b5770d421311100e09070603087f7e7d1311100e090706030bd5f759b9c45d0e01a76c2442045932815d1311100e0907060308657f7e7d1311100e090706030b9b01c50b6c59b56c0d42035017c93f3f0e775919427722420e6c5919426c224255e1e101164616468530a6194b02490ec9117cd338a8e1e101164616468530e114c97c6b6b1c42d338bb17c91c4602460ed4775919420ea76c591942efef0dc90dc90f3859066e0f3859b55e1055e1e116461646d02644a8e1e101164616ee194b0ec97cd3f3194b0ec9d3b914c914c9ed [.tl [.w 106,.w 114],.tl [.g 115 0 2,.g 115 1 2,.z ⟨X,.list 1 []⟩]] [.cell 6 (some 38),.cell 7 (some 38),.tmp 8] λr h d e=>by
  unfold Hv at h;have:=BG 0 127 126 0 λs0:AN=>[(19,.bx [⟨X,lI s0.cE.bq⟩,⟨X,lI s0.cE.ca⟩,⟨X,lI s0.ek⟩])];have:=BG 2 158 157 0 λs2:AN=>[(19,.bx [⟨X,lI s2.cE.bq⟩,⟨X,lI s2.cE.ca⟩,⟨X,lI s2.ek⟩])];exact nz
end Go.Sf.Sc
