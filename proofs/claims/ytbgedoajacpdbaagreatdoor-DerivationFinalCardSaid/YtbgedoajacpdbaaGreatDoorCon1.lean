/- Contracts of the functions. -/
import Derived.Test.YtbgedoajacpdbaaGreatDoorCon0
import Derived.Test.YtbgedoajacpdbaaGreatDoorTryzShelf
import Derived.Test.YtbgedoajacpdbaaGreatDoorFo
set_option linter.all false
set_option maxRecDepth 100000
set_option maxHeartbeats 4000000
namespace Go.Sf.Sc
open Go Go.Sf Go.Proofs.Tryz
instance yV(c:Int):Ct prog (J5 c) 332 [T3 c] (fun r=>.sh (eB r)):=Fj f332 0xa20aa9a90aa9a9bd [] [.tmp 2] (h:=fun r h a b=>by
  unfold J5 at h;exact nz)
instance yW(b:ByteArray)(d:Int->K1)(e:FuncId)(a:Fq)[g:∀(c:Int),Ct prog (d c) e (T3 c::a) (fun r=>.sh (eB r))]:Ct prog (GZ b d) 333 [eS b,.clo e a] (fun r=>.sh (eI r)):=Fj f333 0x81386d8c0360386d8a0f123030050c308ccde7 [] [.tmp 4] (h:=fun r h i j=>by
  unfold GZ at h;have:HW 0 fun(f:Int)=>[(5,.tv (eI f))]:=⟨⟩;exact nz)
instance yY(c:Int):Ct prog (JP c) 335 [T3 c] (fun r=>.sh (eB r)):=Fj f335 0xa2a9a9bd [] [.tmp 2] (h:=fun r h a b=>by
  unfold JP at h;exact nz)
instance yX(c:Int):Ct prog (MS c) 334 [T3 c] (fun r=>.sh (eB r)):=Fj f334 0xa2a90a0e300e30bd [] [.tmp 2] (h:=fun r h a b=>by
  unfold MS at h;exact nz)
instance zC(c:Int):Ct prog (KO c) 386 [T3 c] (fun r=>.sh (eB r)):=Fj f386 0xa2a90aa9a9bd [] [.tmp 2] (h:=fun r h a b=>by
  unfold KO at h;exact nz)
instance yZ(a:ByteArray):Ct prog (Fg a) 336 [eS a] (fun r=>.tp [eI r.1,eI r.2]):=Fj f336 0x89b7c58501c58a051205fb0c385d3f0d72bd [.call 333 [.s 6,.c (.clo 386 [])]] [.tmp 2,.tmp 3] (h:=fun r h b d=>by
  unfold Fg at h;exact nz)
instance ya(a:ByteArray):Ct prog (MR a) 337 [eS a] (fun r=>.sh (eB r)):=Fj f337 0xa20e0d013f380c30bd [.lst 1 [.c (.str ⟨#[45,62]⟩),.c (.str ⟨#[60,61]⟩),.c (.str ⟨#[62,61]⟩),.c (.str ⟨#[61,61]⟩),.c (.str ⟨#[33,61]⟩)]] [.tmp 2] (h:=fun r h b d=>by
  unfold MR at h;exact nz)
instance xV(a:ByteArray):Ct prog (Hk a) 275 [eS a] (fun r=>.tp [eI r.1,eI r.2.1,eI r.2.2]):=Fj f275 0x8189ffc589053f5d81890e5d893089715d055d89ee89643f5d0e5d89ee89643f5d0e5d123030bd [.call 333 [.s 15,.c (.clo 334 [])],.call 333 [.s 23,.c (.clo 335 [])],.call 338 [.c (.str ⟨#[123,125,40,41,91,93,44,59,58,61,43,45,42,60,62,33,38,124,46,63]⟩),.s 42]] [.tmp 2,.tmp 3,.tmp 4] (h:=fun r h b d=>by
  unfold Hk at h;exact nz)
instance wO(t:EG):Ct prog (H0 t) 204 [T1 t] (fun r=>.tp [eS r.1,eB r.2]):=Fj f204 0x890a050c720a055530a981891171eebfbfe4b304b33c013f3f01855581fe3ff5 [.mv (.c (.str ⟨#[]⟩)),.bin (.s) .add (.c (.str ⟨#[34]⟩)) (.s 13),.bin (.s) .add (.s 14) (.c (.str ⟨#[34]⟩)),.bin (.s) .eql (.s 16) (.c (.str ⟨#[]⟩)),.mv (.c (.str ⟨#[]⟩))] [.tmp 2,.tmp 3] (h:=fun r h b d=>by
  unfold H0 at h;have:HJ 12 fun(a:ByteArray)=>[(4,.tv (eS a))]:=⟨⟩;exact nz)
instance vC(a:ByteArray):Ct prog (DC a) 136 [eS a] (fun r=>.sh (eB r)):=Fj f136 0x815df1004630bd [] [.tmp 2] (h:=fun r h b c=>by
  unfold DC at h;exact nz)
instance wH(m:Bz)(a:Bz):Ct prog (MU m a) 197 [EX m,.pt (EX a).cells] (fun r=>.sh (eB r)):=Fj f197 0x8106d3e1 [] [.tmp 3] (h:=fun r h b c=>by
  unfold MU at h;exact nz)
abbrev Q_198(n:Nat):Prop:=∀(t:AC)(a:Int),Ct prog (C0 n t a) 198 [AQ t,eI a] (fun r=>.Aa1 4 (List.map GI r))
theorem qE(n:Nat)(_ih_198:Q_198 n)(t:AC)(a:Int):Ct prog (C0 (n+1) t a) 198 [AQ t,eI a] (fun r=>.Aa1 4 (List.map GI r)):=Fj f198 0x99044f7c41d7551905a60305a6033c191abc647dd75504ce044e9330 [] [.tmp 4] (h:=fun r h c d=>by
  unfold C0 at h;have:HJ 14 fun(b:List kq)=>[(5,.xo 4 (List.map GI b))]:=⟨⟩;exact nz)
theorem qC:∀n:Nat,Q_198 n:=by
  intro n
  induction n with
  |zero=>exact(fun t a=>⟨fun _ h=>by cases h⟩)
  |succ n b=>exact qE n b
instance wI(t:AC)(a:Int):Ct prog (JQ t a) 198 [AQ t,eI a] (fun r=>.Aa1 4 (List.map GI r)):=⟨fun r h=>by
  obtain ⟨N,b⟩:=Cl h;exact((qC N) t a).snd r (b N (bk _))⟩
instance xS(y:kq)(a:kq):Ct prog (IA y a) 272 [GI y,.pt (GI a).cells] (fun r=>.sh (eB r)):=Fj f272 0x8106d3e1 [] [.tmp 3] (h:=fun r h b c=>by
  unfold IA at h;exact nz)
instance xT(l:List ByteArray):Ct prog (Gb l) 273 [lB l] (fun r=>.sh (eI r)):=Fj f273 0x9bc408000484ffc50e30453089975d815f6362c408000490f2d530bd [] [.tmp 2] (h:=fun r h b c=>by
  unfold Gb at h;have:HA 0 10 9 0 fun(a:Int)(_:Unit)=>[(10,.tv (eI a))]:=⟨⟩;exact nz)
instance wJ(b:kq)(a:List kq):Ct prog (D5 b a) 199 [GI b,lA a] (fun r=>.sh (eI r)):=Fj f199 0xf28801060106013cfa6ca776385cd5a7a20576fa765c385cd1a7ffc50e105d819755e1 [] [.tmp 4] (h:=fun r h d e=>by
  unfold D5 at h;have:HJ 40 fun(c:Bool)=>[(6,.tv (eB c))]:=⟨⟩;exact nz)
instance vA(t:AC)(a:Int):Ct prog (Hm t a) 134 [AQ t,eI a] (fun r=>.sh (eI r)):=Fj f134 0x9bb602ad78044530c1c63000cbb602816ca70beed501820ebcffc56ca7890ab75c385c890e1004450155899755053dd200c9c1d755e1 [] [.tmp 4] (h:=fun r h c d=>by
  unfold Hm at h;have:HA 1 7 6 0 fun(b:Int)(_:Unit)=>[(7,.tv (eI b))]:=⟨⟩;exact nz)
instance wK(n:Int)(a:AC):Ct prog (J6 n a) 200 [eI n,.pt (AQ a).cells] (fun r=>.sh (eB r)):=Fj f200 0xa26c553005df [] [.tmp 3] (h:=fun r h b c=>by
  unfold J6 at h;exact nz)
instance wM(y:B9)(a:B9):Ct prog (MT y a) 202 [E4 y,.pt (E4 a).cells] (fun r=>.sh (eB r)):=Fj f202 0x8106d3e1 [] [.tmp 3] (h:=fun r h b c=>by
  unfold MT at h;exact nz)
instance wN(b:Int)(a:Int):Ct prog (I8 b a) 203 [eI b,eI a] (fun r=>.sh (eB r)):=Fj f203 0xa20a0aa90572a90aa905df [] [.tmp 4] (h:=fun r h c d=>by
  unfold I8 at h;exact nz)
instance vB(t:AC)(a:Int):Ct prog (Hl t a) 135 [AQ t,eI a] (fun r=>.sh (eI r)):=Fj f135 0x81ff3719013c779703b9030542019703baa7195d0a080f7630080f5c5d810e100745015c8997558110053d074b01c9074407cae1 [] [.tmp 4] (h:=fun r h c d=>by
  unfold Hl at h;have:HJ 25 fun(b:Bool)=>[(25,.tv (eB b))]:=⟨⟩;exact nz)
instance c89(t:AC):Ct prog (C3 t) 89 [AQ t] (fun r=>.tp [eS r.1,eI r.2]):=Fj f89 0x81bf002e2d2ce484c50155640ebc074b8101c90744074363622e2d2ce4d0b8301d1c1be484c50155640ebcd29bc9c1c672621d1c1be4d032ff37bfa2d938bb81bf816c55013ff5 [.mv (.c (.str ⟨#[]⟩)),.mv (.c (.str ⟨#[]⟩)),.mv (.c (.str ⟨#[]⟩)),.mv (.c (.str ⟨#[]⟩))] [.tmp 2,.tmp 3] (h:=fun r h d e=>by
  unfold C3 at h;have:HA 1 29 28 0 fun(a:Int)(_:Unit)=>[(29,.tv (eI a))]:=⟨⟩;have:HA 3 46 45 0 fun(b:Int)(_:Unit)=>[(46,.tv (eI b))]:=⟨⟩;exact nz)
instance vb(n:Int)(a:Int):Ct prog (Gi n a) 166 [eI n,eI a] (fun r=>.sh (eB r)):=Fj f166 0xa205fbdf [] [.tmp 4] (h:=fun r h b c=>by
  unfold Gi at h;exact nz)
instance va(t:Int):Ct prog (Kz t) 165 [eI t] (fun r=>.sh (eB r)):=Fj f165 0x819730bd [] [.tmp 2] (h:=fun r h a b=>by
  unfold Kz at h;exact nz)
instance ve(e:Bf)(a:Int):Ct prog (Lv e a) 169 [Br e,eI a] (fun r=>.sh (eB r)):=Fj f169 0xa20eb776770eb75c6a55e1 [] [.tmp 4] (h:=fun r h b c=>by
  unfold Lv at h;exact nz)
instance vd(e:Bf)(a:d5):Ct prog (K0 e a) 168 [Br e,.pt (Am a).cells] (fun r=>.sh (eB r)):=Fj f168 0x8197bb65e1 [] [.tmp 3] (h:=fun r h b c=>by
  unfold K0 at h;exact nz)
instance uh(g:d5):Ct prog (CW g) 107 [Am g] (fun r=>.sh (eI r)):=Fj f107 0xf28e105c37bf5596d938bbef [.call 129 [.s 14,.c (.clo 165 [])]] [.tmp 2] (h:=fun r h a b=>by
  unfold CW at h;exact nz)
instance xD(a:Int)(b:AC):Ct prog (K9 a b) 251 [eI a,.pt (AQ b).cells] (fun r=>.sh (eB r)):=Fj f251 0xa26c553005df [] [.tmp 3] (h:=fun r h c d=>by
  unfold K9 at h;exact nz)
instance vg(t:AC)(l:Fp):Ct prog (El t l) 171 [AQ t,lI l] (fun r=>.sh (eI r)):=Fj f171 0xf28e10ee70f136e1 [] [.tmp 4] (h:=fun r h a b=>by
  unfold El at h;exact nz)
instance vf(t:AC)(a:Int):Ct prog (Dl t a) 170 [AQ t,eI a] (fun r=>.tp [lA r.1,eI r.2]):=Fj f170 0x81821807011514070384014d0354044c0e170354044c01140114810107e8151407cd9514991a018004c078acbce4409330 [] [.tmp 4,.tmp 5] (h:=fun r h d e=>by
  unfold Dl at h;have:HA 0 21 20 0 fun(b:Int)(c:List kq)=>[(7,.xo 4 (List.map GI c)),(21,.tv (eI b))]:=⟨⟩;have:HS 31:=⟨⟩;have:HX 33 fun(a:kq)(v:List ByteArray)=>kq.mk a.po a.Low a.AaE v:=⟨⟩;exact nz)
instance ui(t:AC)(a:Int)(b:Fp):Ct prog (IX t a b) 108 [AQ t,eI a,lI b] (fun r=>.sh (eI r)):=Fj f108 0x9b2322210204849605765ffb5cb5d28102c9c1c66362232221020490f2d5010b30e00180830241d7553785bb3093a602 [] [.tmp 6] (h:=fun r h d e=>by
  unfold IX at h;have:HA 0 35 34 0 fun(c:Int)(_:Unit)=>[(35,.tv (eI c))]:=⟨⟩;exact nz)
instance xE(t:AC)(a:Int):Ct prog (Iw t a) 252 [AQ t,eI a] (fun r=>.own (lI r)):=Fj f252 0x821829140538a6033c017dd755ff19014fac0119b76238a631cef89330 [] [.tmp 4] (h:=fun r h c d=>by
  unfold Iw at h;have:HW 0 fun(b:Int×Fp)=>[(1,.tv (eI b.1)),(5,.xo 1 (List.map eI b.2))]:=⟨⟩;exact nz)
instance vh(t:AC)(a:Int)(b:Int):Ct prog (H2 t a b) 172 [AQ t,eI a,eI b] (fun r=>.sh (eB r)):=Fj f172 0x810e6abc7fa602 [] [.tmp 6] (h:=fun r h c d=>by
  unfold H2 at h;exact nz)
instance uj(t:AC)(b:Int)(a:Int)(c:Int):Ct prog (GP t b a c) 109 [AQ t,eI b,eI a,eI c] (fun r=>.sh (eB r)):=Fj f109 0xa20e5e4107cabc6a7d07ca01808ad9300aa9050eac30367f5ee5 [] [.tmp 8] (h:=fun r h d e=>by
  unfold GP at h;exact nz)
instance c68(t:AC)(a:AG):Ct prog (Et t a) 68 [AQ t,Bc a] (fun r=>.tp [eI r.1,eI r.2]):=Fj f68 0x89003e3d3cfc84c501b25f76c85f5cc855808101d55c559181fd4363623e3d3cfcd00141325e02282726fc84c530640ea176bc89a15e0262282726fcd05b32c5d5c80b76c578b1c570f136309f [] [.tmp 4,.tmp 5] (h:=fun r h d e=>by
  unfold Et at h;have:HA 0 40 39 0 fun(b:Int)(_:Unit)=>[(40,.tv (eI b))]:=⟨⟩;have:HA 2 62 61 0 fun(c:Int)(_:Unit)=>[(62,.tv (eI c))]:=⟨⟩;exact nz)
instance wP(n:Int)(a:AC):Ct prog (F7 n a) 205 [eI n,.pt (AQ a).cells] (fun r=>.sh (eB r)):=Fj f205 0x816c55df [] [.tmp 3] (h:=fun r h b c=>by
  unfold F7 at h;exact nz)
instance wQ(a:Bf)(b:AC):Ct prog (F8 a b) 206 [Br a,.pt (AQ b).cells] (fun r=>.sh (eB r)):=Fj f206 0x81d955e1 [] [.tmp 3] (h:=fun r h c d=>by
  unfold F8 at h;exact nz)
instance wR(n:Int)(b:Int)(a:Int):Ct prog (CP n b a) 207 [eI n,eI b,eI a] (fun r=>.sh (eB r)):=Fj f207 0xa205fb72026303 [] [.tmp 6] (h:=fun r h c d=>by
  unfold CP at h;exact nz)
instance wT(t:AC)(p:ec)(a:CU):Ct prog (ET t p a) 208 [AQ t,A9 p,FO a] (fun r=>.tp [GI r.1,eB r.2]):=Fj f208 0x81d2c1c65ceed20146b26c01fee05f55c880d20146b26cc855b3c9939f [] [.cell 6 (some 4),.tmp 7] (h:=fun r h b c=>by
  unfold ET at h;exact nz)
instance yb(n:Int)(t:j4):Ct prog (HM n t) 339 [eI n,N6 t] (fun r=>.sh (eB r)):=Fj f339 0xa2055cfa5c77b7ed557fbd [] [.tmp 4] (h:=fun r h a b=>by
  unfold HM at h;exact nz)
instance xW(n:Int)(a:Test):Ct prog (IF n a) 276 [eI n,GK a] (fun r=>.sh (eI r)):=Fj f276 0x81ff37a297360342309736b85da205ed557fbd [] [.tmp 4] (h:=fun r h b c=>by
  unfold IF at h;exact nz)
instance wU(n:Int)(l:List Test):Ct prog (Gh n l) 209 [eI n,lT l] (fun r=>.sh (eI r)):=Fj f209 0x9bf911000484d18d384b04c98d05430062f911000490f2d50196a905df [] [.tmp 4] (h:=fun r h b c=>by
  unfold Gh at h;have:HA 0 19 18 0 fun(a:Int)(_:Unit)=>[(19,.tv (eI a))]:=⟨⟩;exact nz)
instance vD(t:AC)(p:ec):Ct prog (Cd t p) 137 [AQ t,A9 p] (fun r=>.sh (eI r)):=Fj f137 0xf2a014d103baa7085e3c3b3a085e06843c3b3a085e063c3b3a085e063c01f66e9d14856e9d96977d9d779705a76e9d01085dd2024971c18d36d205c9c1c6085e623c3b3a085e06d09d993fa7966c03ba380b7637b2a7960e10f36a10c8d1b13770f136019f [.mkx 1 [.bool false] (.s 55)] [.tmp 4] (h:=fun r h c d=>by
  unfold Cd at h;have:HA 0 60 59 0 fun(a:Int)(b:a6)=>[(8,.xo 1 (List.map eB b)),(60,.tv (eI a))]:=⟨⟩;exact nz)
instance xY(n:Int)(a:AC):Ct prog (MM n a) 278 [eI n,.pt (AQ a).cells] (fun r=>.sh (eB r)):=Fj f278 0x816c55df [] [.tmp 3] (h:=fun r h b c=>by
  unfold MM at h;exact nz)
instance xZ(a:Bf)(b:AC):Ct prog (MN a b) 279 [Br a,.pt (AQ b).cells] (fun r=>.sh (eB r)):=Fj f279 0x81d955e1 [] [.tmp 3] (h:=fun r h c d=>by
  unfold MN at h;exact nz)
instance wW(t:AC)(g:d5):Ct prog (He t g) 211 [AQ t,Am g] (fun r=>.sh (eB r)):=Fj f211 0xa29710fe971055019f [] [.tmp 4] (h:=fun r h a b=>by
  unfold He at h;exact nz)
instance xb(y:CU)(a:CU):Ct prog (NG y a) 281 [FO y,.pt (FO a).cells] (fun r=>.sh (eB r)):=Fj f281 0xa2055c5c38d3e1 [] [.tmp 3] (h:=fun r h b c=>by
  unfold NG at h;exact nz)
instance wX(t:AC)(b:hT)(a:Int):Ct prog (Ie t b a) 212 [AQ t,B3 b,eI a] (fun r=>.sh (eI r)):=Fj f212 0xf28e100445015e41b996055cfa5cfa7c41b955fa55776c015c385c9206c9369d01e05f556e5bb9808a6c6e5bb9ed55073dd205c9c1d75e41b90161a6 [] [.tmp 6] (h:=fun r h c d=>by
  unfold Ie at h;exact nz)
instance vE(t:AC)(a:hT):Ct prog (Hd t a) 138 [AQ t,B3 a] (fun r=>.sh (eI r)):=Fj f138 0x9b2f2e5e0484d101d4368163622f2e5e04905e41b9ffc56c5e41b9890a6c030441b9387c41b87c41b98997ebb9eaebb9019f [] [.tmp 4] (h:=fun r h c d=>by
  unfold Hd at h;have:HA 1 47 46 0 fun(b:Int)(_:Unit)=>[(47,.tv (eI b))]:=⟨⟩;exact nz)
instance vj(a:d5)(b:d5)(m:d6):Ct prog (Cy a b m) 173 [Am a,Am b,Ap m] (fun r=>.sh (eI r)):=Fj f173 0x9b494847cc06849605765f76ed5c5f5c553785d39191e6fdcacfca96d930055d815f6362494847cc06d0b8697c2c2b2acc06843785a155a155966c5530055d815f38047c622c2b2acc06d03296d9e938bbbbd1ea367f9f [] [.tmp 6] (h:=fun r h e f=>by
  unfold Cy at h;have:HA 0 44 43 0 fun(c:Int)(_:Unit)=>[(44,.tv (eI c))]:=⟨⟩;have:HA 2 73 72 0 fun(d:Int)(_:Unit)=>[(73,.tv (eI d))]:=⟨⟩;exact nz)
instance vk(l:Fp):Ct prog (Fv l) 174 [lI l] (fun r=>.sh (eI r)):=Fj f174 0x81152a142914991a30bd [] [.tmp 2] (h:=fun r h a b=>by
  unfold Fv at h;exact nz)
instance uk(a:d5)(b:d5)(m:d6):Ct prog (Ch a b m) 110 [Am a,Am b,Ap m] (fun r=>.sh (eB r)):=Fj f110 0xa2d90e5c776c550eed0e369e7f9f [] [.tmp 6] (h:=fun r h c d=>by
  unfold Ch at h;exact nz)
instance zD(l:Fp)(n:Int):Ct prog (HC l n) 388 [lI l,eI n] (fun r=>.sh (eI r)):=Fj f388 0x9b097363058496055fa930b79605fb5d815f6362097363059081e7 [] [.tmp 4] (h:=fun r h b c=>by
  unfold HC at h;have:HA 0 9 8 0 fun(a:Int)(_:Unit)=>[(9,.tv (eI a))]:=⟨⟩;exact nz)
instance zE(l:Fp)(n:Int):Ct prog (J4 l n) 389 [lI l,eI n] (fun r=>.sh (eB r)):=Fj f389 0x815df130e7 [] [.tmp 4] (h:=fun r h a b=>by
  unfold J4 at h;exact nz)
instance yd(g:d5)(p:BB):Ct prog (K8 g p) 341 [Am g,GJ p] (fun r=>.sh (eI r)):=Fj f341 0x9b1e1d1cfc8496975e4103ca5501977d03ca55815f00621e1d1cfcd0b8d1e95cd1bb55019f [] [.tmp 4] (h:=fun r h b c=>by
  unfold K8 at h;have:HA 0 30 29 0 fun(a:Int)(_:Unit)=>[(30,.tv (eI a))]:=⟨⟩;exact nz)
instance xc(g:d5)(p:BB):Ct prog (Ds g p) 282 [Am g,GJ p] (fun r=>.sh (eI r)):=Fj f282 0x810e36ea36019f [] [.tmp 4] (h:=fun r h a b=>by
  unfold Ds at h;exact nz)
instance wY(g:d5)(p:BB):Ct prog (Dh g p) 213 [Am g,GJ p] (fun r=>.tp [Am r.1,Ap r.2.1,eI r.2.2]):=Fj f213 0x69023b81929204460e5c0e553608cc042b2a2908695e0884f7b8034803476504b8f79d717655f7b8715c5591fdca815f08cc04622b2a2908695e08d0b80869fc19181708695e0884f73201dba1550432815f0869fc6219181708695e08d03207c9379292e54602dc0e9e01de07c99f [] [.cell 4 (some 2),.cell 5 (some 2),.tmp 6] (h:=fun r h e f=>by
  unfold Dh at h;have:HA 0 25 24 0 fun(c:Int)(b:d5)=>[(8,.bx [⟨true,lI b.d3⟩,⟨true,lE b.d4⟩]),(25,.tv (eI c))]:=⟨⟩;have:HA 2 43 42 0 fun(d:Int)(a:d5)=>[(8,.bx [⟨true,lI a.d3⟩,⟨true,lE a.d4⟩]),(43,.tv (eI d))]:=⟨⟩;exact nz)
instance vF(a:hT):Ct prog (Ic a) 139 [B3 a] (fun r=>.sh (eI r)):=Fj f139 0xf2b2360d42ebb9ea360d42ebb980709292084907c91171360b42ebb8ef [] [.tmp 2] (h:=fun r h b c=>by
  unfold Ic at h;exact nz)
instance wZ(l:Fp)(n:Int):Ct prog (JO l n) 214 [lI l,eI n] (fun r=>.own (lI r)):=Fj f214 0xf4b7730500048473050004730500043ca6dbb3b2308138e87305000489d8f86302 [] [.tmp 4] (h:=fun r h c d=>by
  unfold JO at h;have:HA 0 8 7 0 fun(a:Int)(b:Fp)=>[(5,.ow (lI b)),(8,.tv (eI a))]:=⟨⟩;exact nz)
instance vG(a:hT):Ct prog (J2 a) 140 [B3 a] (fun r=>.tp [lI r.1,lI r.2]):=Fj f140 0x82820e0b3174b97d0d420e0b6e5bb96e0d42f8f8f5 [] [.tmp 2,.tmp 3] (h:=fun r h b c=>by
  unfold J2 at h;exact nz)
instance wa(a:Int)(b:AC)(c:d5):Ct prog (KL a b c) 215 [eI a,.pt (AQ b).cells,.pt (Am c).cells] (fun r=>.sh (eB r)):=Fj f215 0x815e41c6a1d3b36303 [] [.tmp 4] (h:=fun r h d e=>by
  unfold KL at h;exact nz)
instance wb(a:Int)(b:d5)(c:AC):Ct prog (FM a b c) 216 [eI a,.pt (Am b).cells,.pt (AQ c).cells] (fun r=>.sh (eB r)):=Fj f216 0x81975f76555f5cd33691fdcab36303 [] [.tmp 4] (h:=fun r h d e=>by
  unfold FM at h;exact nz)
instance vH(t:AC)(g:d5)(a:Fp)(b:Fp):Ct prog (Fd t g a b) 141 [AQ t,Am g,lI a,lI b] (fun r=>.sh (eB r)):=Fj f141 0xa2971030971030615e02 [] [.tmp 8] (h:=fun r h c d=>by
  unfold Fd at h;exact nz)
instance ye(c:d7):Ct prog (EU c) 344 [AJ c] (fun r=>.sh (eB r)):=Fj f344 0xa205a7386c03ba6c766cf36cc86c7d9d0b6e9dbe09c98dbaef [] [.tmp 2] (h:=fun r h a b=>by
  unfold EU at h;exact nz)
abbrev Ab1(n:Nat):Prop:=∀(c:d7),Ct prog (BI n c) 284 [AJ c] (fun r=>.sh (eB r))
abbrev Ab3(n:Nat):Prop:=∀(k:d7),Ct prog (BT n k) 346 [AJ k] (fun r=>.sh (eB r))
theorem qN(n:Nat)(_ih_284:Ab1 n)(_ih_346:Ab3 n)(c:d7):Ct prog (BI (n+1) c) 284 [AJ c] (fun r=>.sh (eB r)):=Fj f284 0xa2083f5c30ff04b304b3605d69b33c770ea538011a09043105601a090431058169b33c770ea5385d69b33c770ea5385d05833289e9ef [.call 345 [.s 42,.c (.clo 346 [])]] [.tmp 2] (h:=fun r h b d=>by
  unfold BI at h;have:HJ 10 fun(a:Bool)=>[(4,.tv (eB a))]:=⟨⟩;exact nz)
theorem qU(n:Nat)(_ih_284:Ab1 n)(_ih_346:Ab3 n)(k:d7):Ct prog (BT (n+1) k) 346 [AJ k] (fun r=>.sh (eB r)):=Fj f346 0x8197a5ef [] [.tmp 2] (h:=fun r h a b=>by
  unfold BT at h;exact nz)
theorem iT:∀n:Nat,Ab1 n/\Ab3 n:=by
  intro n
  induction n with
  |zero=>exact⟨(fun c=>⟨fun _ h=>by cases h⟩),(fun k=>⟨fun _ h=>by cases h⟩)⟩
  |succ n a=>exact⟨qN n a.1 a.2,qU n a.1 a.2⟩
instance xd(c:d7):Ct prog (Es c) 284 [AJ c] (fun r=>.sh (eB r)):=⟨fun r h=>by
  obtain ⟨N,a⟩:=Cl h;exact((iT N).1 c).snd r (a N (bk _))⟩
instance yg(k:d7):Ct prog (PU k) 346 [AJ k] (fun r=>.sh (eB r)):=⟨fun r h=>by
  obtain ⟨N,a⟩:=Cl h;exact((iT N).2 k).snd r (a N (bk _))⟩
abbrev Q_285(n:Nat):Prop:=∀(c:d7),Ct prog (CA n c) 285 [AJ c] (fun r=>.tp [eI r.1,eI r.2])
theorem qP(n:Nat)(_ih_285:Q_285 n)(c:d7):Ct prog (CA (n+1) c) 285 [AJ c] (fun r=>.tp [eI r.1,eI r.2]):=Fj f285 0x8930690269026001855569e5c30b69010684302c30a98971a5094b0ac9a5094369e562c30b690106d0b88930f5 [] [.tmp 2,.tmp 3] (h:=fun r h e f=>by
  unfold CA at h;have:HA 0 13 12 0 fun(b:Int)(a:Int×Int)=>[(4,.tv (eI a.1)),(5,.tv (eI a.2)),(13,.tv (eI b))]:=⟨⟩;have:HJ 31 fun(d:Int)=>[(5,.tv (eI d))]:=⟨⟩;exact nz)
theorem qO:∀n:Nat,Q_285 n:=by
  intro n
  induction n with
  |zero=>exact(fun c=>⟨fun _ h=>by cases h⟩)
  |succ n a=>exact qP n a
instance xe(c:d7):Ct prog (GA c) 285 [AJ c] (fun r=>.tp [eI r.1,eI r.2]):=⟨fun r h=>by
  obtain ⟨N,a⟩:=Cl h;exact((qO N) c).snd r (a N (bk _))⟩
instance wc(c:d7):Ct prog (D1 c) 217 [AJ c] (fun r=>.sh (eI r)):=Fj f217 0x8196a9055d8171a537b2a5ef [] [.tmp 2] (h:=fun r h a b=>by
  unfold D1 at h;exact nz)
instance yh(a:CU)(b:Int):Ct prog (Gy a b) 347 [FO a,.pt [eI b]] (fun r=>.sh (eB r)):=Fj f347 0xaa036e9de1 [] [.tmp 3] (h:=fun r h c d=>by
  unfold Gy at h;exact nz)
instance xf(t:AC)(q:ec)(a:Int):Ct prog (DH t q a) 286 [AQ t,A9 q,eI a] (fun r=>.sh (eI r)):=Fj f286 0x9b7304033c083d014b05314b0b4983ff3701b210760062a703730403083d014b0bc901d18d360161a6 [] [.tmp 6] (h:=fun r h c d=>by
  unfold DH at h;have:HW 0 fun(b:Int)=>[(8,.tv (.pt [eI b]))]:=⟨⟩;exact nz)
abbrev Q_218(n:Nat):Prop:=∀(t:AC)(p:ec)(c:d7),Ct prog (Bu n t p c) 218 [AQ t,A9 p,AJ c] (fun r=>.sh (eI r))
theorem qG(n:Nat)(_ih_218:Q_218 n)(t:AC)(p:ec)(c:d7):Ct prog (Bu (n+1) t p c) 218 [AQ t,A9 p,AJ c] (fun r=>.sh (eI r)):=Fj f218 0x9b35343304030584d1a58d36094b0ac9a509430062353433040305d0b8697c697c3cbe8d37b2369db1b1d1369db1b1d1a78d8085a7a7be09c98dba85557fbff5 [.Aby (.s 1)] [.tmp 6] (h:=fun r h b d=>by
  unfold Bu at h;have:HA 0 53 52 0 fun(a:Int)(_:Unit)=>[(53,.tv (eI a))]:=⟨⟩;exact nz)
theorem qF:∀n:Nat,Q_218 n:=by
  intro n
  induction n with
  |zero=>exact(fun t p c=>⟨fun _ h=>by cases h⟩)
  |succ n a=>exact qG n a
instance wd(t:AC)(p:ec)(c:d7):Ct prog (Io t p c) 218 [AQ t,A9 p,AJ c] (fun r=>.sh (eI r)):=⟨fun r h=>by
  obtain ⟨N,a⟩:=Cl h;exact((qF N) t p c).snd r (a N (bk _))⟩
instance vI(t:AC)(p:ec)(c:d7):Ct prog (Cf t p c) 142 [AQ t,A9 p,AJ c] (fun r=>.sh (eI r)):=Fj f142 0x810ea58deaa5d18d367f9f [] [.tmp 6] (h:=fun r h a b=>by
  unfold Cf at h;exact nz)
instance c90(t:AC)(a:hT):Ct prog (GM t a) 90 [AQ t,B3 a] (fun r=>.sh (eI r)):=Fj f90 0x810ea510428db880b230ebb93682e0d4d1d4d1d4ea8db880b2553770f136019f [] [.tmp 4] (h:=fun r h b c=>by
  unfold GM at h;exact nz)
instance c49(t:AC)(a:List hT)(b:AG):Ct prog (C9 t a b) 49 [AQ t,(eL 25 B3) a,Bc b] (fun r=>.sh (eI r)):=Fj f49 0x815df16536055e1b1a1905030584d1d436194b0cc9d41943055e621b1a1905030590f2d5ee70f136016130 [] [.tmp 6] (h:=fun r h d e=>by
  unfold C9 at h;have:HA 0 27 26 0 fun(c:Int)(_:Unit)=>[(27,.tv (eI c))]:=⟨⟩;exact nz)
instance vJ(t:AC)(a:hT)(b:AG):Ct prog (Hi t a b) 143 [AQ t,B3 a,Bc b] (fun r=>.sh (eI r)):=Fj f143 0x815df165ead48070f1367f9f [] [.tmp 6] (h:=fun r h c d=>by
  unfold Hi at h;exact nz)
instance zI(n:Int)(a:AC):Ct prog (Jd n a) 392 [eI n,.pt (AQ a).cells] (fun r=>.sh (eB r)):=Fj f392 0x816c55df [] [.tmp 3] (h:=fun r h b c=>by
  unfold Jd at h;exact nz)
instance zJ(a:Bf)(b:AC):Ct prog (Je a b) 393 [Br a,.pt (AQ b).cells] (fun r=>.sh (eB r)):=Fj f393 0x81d955e1 [] [.tmp 3] (h:=fun r h c d=>by
  unfold Je at h;exact nz)
instance yi(t:AC)(g:d5):Ct prog (EL t g) 348 [AQ t,Am g] (fun r=>.sh (eB r)):=Fj f348 0xa29710fe971055019f [] [.tmp 4] (h:=fun r h a b=>by
  unfold EL at h;exact nz)
instance xg(t:AC)(p:d5)(g:d5):Ct prog (Dg t p g) 287 [AQ t,Am p,Am g] (fun r=>.sh (eI r)):=Fj f287 0x8196979e01979e697c181716cc0684d1369207c9360243697c62181716cc069002c7368070f1367f9f [] [.tmp 6] (h:=fun r h b c=>by
  unfold Dg at h;have:HA 0 24 23 0 fun(a:Int)(_:Unit)=>[(24,.tv (eI a))]:=⟨⟩;exact nz)
instance zN(t:AC)(a:Int):Ct prog (Ga t a) 399 [AQ t,eI a] (fun r=>.tp [lI r.1,eI r.2]):=Fj f399 0x81f40701f907023884f9070238f90702383ca6dbb38e3036810107e8f90702389055d837d878acbc30409330 [] [.tmp 4,.tmp 5] (h:=fun r h d e=>by
  unfold Ga at h;have:HA 0 19 18 0 fun(b:Int)(c:Fp)=>[(7,.ow (lI c)),(19,.tv (eI b))]:=⟨⟩;exact nz)
instance yp(t:AC):Ct prog (Ew t) 356 [AQ t] (fun r=>.own ((eL 1 (eL 1 eB)) r)):=Fj f356 0xf431c3310484a6db1802c30531051c1b1ac30531088401f60114815fc3053105621c1b1ac3053108908101e0bc993fbb81013162c331049055d8f8f5 [.mkx 1 [.bool false] (.s 18)] [.tmp 2] (h:=fun r h e f=>by
  unfold Ew at h;have:HA 0 13 12 0 fun(b:Int)(d:List a6)=>[(3,.ow ((eL 1 (eL 1 eB)) d)),(13,.tv (eI b))]:=⟨⟩;have:HA 2 28 27 0 fun(c:Int)(a:a6)=>[(5,.xo 1 (List.map eB a)),(28,.tv (eI c))]:=⟨⟩;exact nz)
instance xr(t:AC)(p:d5)(g:d5)(m:d6):Ct prog (Ex t p g m) 293 [AQ t,Am p,Am g,Ap m] (fun r=>.sh (eI r)):=Fj f293 0x9b474645b60506849605765f76ed5c5f5c553785d39191e6fdcacfca96d930055d815f6362474645b60506d0b8b6050325242309b605078437885fa1555fa15501966c5530055d81a1b605036225242309b60507d032820e808ad9e938bbbb01619f [] [.tmp 8] (h:=fun r h c d=>by
  unfold Ex at h;have:HA 0 37 36 0 fun(a:Int)(_:Unit)=>[(37,.tv (eI a))]:=⟨⟩;have:HA 2 71 70 0 fun(b:Int)(_:Unit)=>[(71,.tv (eI b))]:=⟨⟩;exact nz)
theorem tq(l:Fp)(r:Bool)(h:Gs l=some r):AN prog 355 [lI l] (.sh (eB r)):=by
  unfold Gs at h;rw[<-iL]at h;split at h
  · rename_i a
    cases h;exact Yy l a
  .cases h
instance z7(l:Fp):Ct Go.Proofs.Tryz.prog (Gs l) 355 [lI l] (fun r=>.sh (eB r)):=⟨tq l⟩
instance xk(t:AC)(p:d5)(g:d5)(m:d6)(a:Bool):Ct prog (EF t p g m a) 291 [AQ t,Am p,Am g,Ap m,eB a] (fun r=>.sh (eI r)):=Fj f291 0x81960a0e5c6a5530d1369eea369e0161610401 [] [.tmp 10] (h:=fun r h b c=>by
  unfold EF at h;exact nz)
instance we(t:AC)(p:ec)(a:AG):Ct prog (DQ t p a) 219 [AQ t,A9 p,Bc a] (fun r=>.sh (eI r)):=Fj f219 0x815df165ea8d367f9f [] [.tmp 6] (h:=fun r h b c=>by
  unfold DQ at h;exact nz)
instance xi(a:j4)(b:Fp):Ct prog (Dy a b) 289 [N6 a,lI b] (fun r=>.sh (eI r)):=Fj f289 0xaa5c5f55ee5c8555e1 [] [.tmp 4] (h:=fun r h c d=>by
  unfold Dy at h;exact nz)
instance yl(a:Int)(b:Int):Ct prog (Fr a b) 351 [eI a,eI b] (fun r=>.tp [eI r.1,JS r.2]):=Fj f351 0x89383f383f013f5d816b01283f013f30e7 [.cvt .u64 (.s 9),.cvt .u64 (.s 11),.bin (.w) .shr (.s 16) (.c (.int .u64 63)),.bin (.w) .shr (.s 18) (.c (.int .u64 63)),.cvt .i64 (.s 21)] [.tmp 4,.tmp 5] (h:=fun r h d e=>by
  unfold Fr at h;exact nz)
instance yk(t:j4)(a:Fp):Ct prog (EW t a) 350 [N6 t,.pt [lI a]] (fun r=>.tp [eI r.1,JS r.2.1,eB r.2.2]):=Fj f350 0x81893089715c5f5503ffc5890a6c03ed5581893089715caa55729330 [] [.tmp 3,.tmp 4,.tmp 5] (h:=fun r h b c=>by
  unfold EW at h;exact nz)
instance xj(a:Test)(b:Fp):Ct prog (FH a b) 290 [GK a,lI b] (fun r=>.sh (eB r)):=Fj f290 0xa20aa9055577a90555810eac0e300e30960830085d89116b010f3603425d89116b010f36b85d10019f [] [.tmp 4] (h:=fun r h c d=>by
  unfold FH at h;exact nz)
instance wj(p:ec)(a:AG)(m:d6):Ct prog (Fm p a m) 221 [A9 p,Bc a,Ap m] (fun r=>.tp [lI r.1,eI r.2]):=Fj f221 0x81821808da4b4a08048437d88820148dbe04c98d054308e84c4b4a0804d0ba085e1918170908cc088437d885012014369d1918170c0b0908cc0a1918170c0b0908cc0a3c01f601f6057d9d301401148a0817da0114385d6e9d815f5c5f5fd376d205c9c1c6085e621918170908cc08d09d99993fa73fa73040939f [.mkx 1 [.int .i64 0] (.s 17),.mkx 1 [.bool false] (.s 20)] [.tmp 6,.tmp 7] (h:=fun r h e f=>by
  unfold Fm at h;have:HA 0 25 24 0 fun(c:Int)(b:Fp×a6)=>[(8,.xo 1 (List.map eI b.1)),(9,.xo 1 (List.map eB b.2)),(25,.tv (eI c))]:=⟨⟩;have:HA 2 76 75 0 fun(d:Int)(_:Unit)=>[(76,.tv (eI d))]:=⟨⟩;exact nz)
instance xm(t:AC)(p:ec)(a:AG)(m:d6):Ct prog (DP t p a m) 292 [AQ t,A9 p,Bc a,Ap m] (fun r=>.tp [lI r.1,eI r.2]):=Fj f292 0x81826b0e36658d37d8789e32b180d878658d363040619f [] [.tmp 8,.tmp 9] (h:=fun r h b c=>by
  unfold DP at h;exact nz)
instance wk(t:AC)(b:hT)(a:AG)(m:AM):Ct prog (Gt t b a m) 222 [AQ t,B3 b,Bc a,BW m] (fun r=>.sh (eI r)):=Fj f222 0xf2b276ee70e0b1658db880850e030f42b1b1ebb83601619f [] [.tmp 8] (h:=fun r h c d=>by
  unfold Gt at h;exact nz)
instance wl(t:AC)(p:d5)(g:d5)(m:d6):Ct prog (D3 t p g m) 223 [AQ t,Am p,Am g,Ap m] (fun r=>.tp [Am r.1,eI r.2]):=Fj f223 0x8192360c08022726250c08060684f73201dba1550432815f0c0802622726250c080606d032025007c93f0e5c3792b3dc0e369e8092b3dc0e369e0107c9619f [.Aaz [.z ⟨true,.list 1 []⟩,.w 34]] [.cell 8 (some 2),.tmp 9] (h:=fun r h c d=>by
  unfold D3 at h;have:HA 0 39 38 0 fun(b:Int)(a:d5)=>[(12,.bx [⟨true,lI a.d3⟩,⟨true,lE a.d4⟩]),(39,.tv (eI b))]:=⟨⟩;exact nz)
instance xt(a:Ba):Ct prog (CL a) 294 [HN a] (fun r=>.sh (eI r)):=Fj f294 0x810e36bab1d136b9369db1ef [] [.tmp 2] (h:=fun r h b c=>by
  unfold CL at h;exact nz)
instance yq(a:Fp)(b:Fp):Ct prog (FD a b) 357 [lI a,lI b] (fun r=>.own ((eL 2 O0) r)):=Fj f357 0xf40577098c0584c48c05c4b68c076fc4b68c07c4b68c073c0202480247054630028a0a977297fbb5b5c48c05cbc4b68c07aa5d38e8c48c0590b3c002406302 [] [.tmp 4] (h:=fun r h g i=>by
  unfold FD at h;have:HA 0 10 9 0 fun(d:Int)(f:List F2)=>[(5,.ow ((eL 2 O0) f)),(10,.tv (eI d))]:=⟨⟩;have:HA 2 7 0 0 fun(e:Int)(c:List F2)=>[(5,.ow ((eL 2 O0) c)),(7,.tv (eI e))]:=⟨⟩;exact nz)
instance xu(a:Ba):Ct prog (DN a) 295 [HN a] (fun r=>.tp [(eL 2 O0) r.1,(eL 2 O0) r.2]):=Fj f295 0x82820e7dba7db90e6eba6eb902400240f5 [] [.tmp 2,.tmp 3] (h:=fun r h b c=>by
  unfold DN at h;exact nz)
instance yr(a:Ba):Ct prog (C6 a) 358 [HN a] (fun r=>.own (lI r)):=Fj f358 0xf431c408310584c4083105c40831053ca6dbb3b2016eba89a13162c4083105d05bb9d8f8f5 [] [.tmp 2] (h:=fun r h d e=>by
  unfold C6 at h;have:HA 0 10 9 0 fun(b:Int)(c:Fp)=>[(3,.ow (lI c)),(10,.tv (eI b))]:=⟨⟩;exact nz)
instance xw(a:Ba):Ct prog (Cv a) 296 [HN a] (fun r=>.own (lI r)):=Fj f296 0xf40401c30b04310684c30b043106c30b0431063ca6dbb38a0a0e76300e5c3097017db99181fd7e04e8c30b043106d001419dd8820e0844f8f5 [] [.tmp 2] (h:=fun r h d e=>by
  unfold Cv at h;have:HA 0 13 12 0 fun(b:Int)(c:Fp)=>[(4,.ow (lI c)),(13,.tv (eI b))]:=⟨⟩;exact nz)
instance xx(n:Int)(a:Fp)(b:Fp):Ct prog (Fo n a b) 297 [eI n,lI a,lI b] (fun r=>.own (lI r)):=Fj f297 0xf40a01201f1e0a0484201f1e0a04201f1e0a043ca6dbb3885d815f77e8201f1e0a049098d8070111100f0702058411100f07020511100f0702053c01f60114b23089a107e811100f0702059081993f3040026303 [.mkx 1 [.bool false] (.s 13)] [.tmp 6] (h:=fun r h g i=>by
  unfold Fo at h;have:HA 0 17 16 0 fun(d:Int)(f:a6)=>[(7,.xo 1 (List.map eB f)),(17,.tv (eI d))]:=⟨⟩;have:HA 2 32 31 0 fun(e:Int)(c:Fp)=>[(10,.ow (lI c)),(32,.tv (eI e))]:=⟨⟩;exact nz)
instance wm(l:d5)(g:d5)(a:BB)(m:d6):Ct prog (E3 l g a m) 224 [Am l,Am g,GJ a,Ap m] (fun r=>.tp [GJ r.1,eI r.2]):=Fj f224 0x8013b819204460e5c5ce90ed3bbff37920346816c0e084481920346aa6c010b0182e008443792e5dc0e0844084b0dc906469e9e01de619f [] [.cell 8 (some 2),.tmp 9] (h:=fun r h b c=>by
  unfold E3 at h;exact nz)
instance yt(t:AC)(p:ec)(c:d7)(b:AG)(m:AM)(a:Bool):Ct prog (D0 t p c b m a) 359 [AQ t,A9 p,AJ c,Bc b,BW m,eB a] (fun r=>.sh (eI r)):=Fj f359 0xf2b276ee70e0b1658dea01b1b1b18070f165eaa58d367f6161b7 [] [.tmp 12] (h:=fun r h d e=>by
  unfold D0 at h;exact nz)
instance zg(n:Int)(b:Fp)(a:Fp):Ct prog (FE n b a) 428 [eI n,lI b,lI a] (fun r=>.own (lI r)):=Fj f428 0x821807010f0e0d0702058401f65f721489a107e80f0e0d0702059081991a3047f8026303 [] [.tmp 6] (h:=fun r h e f=>by
  unfold FE at h;have:HA 0 15 14 0 fun(c:Int)(d:Fp)=>[(7,.xo 1 (List.map eI d)),(15,.tv (eI c))]:=⟨⟩;exact nz)
theorem qw:CK f420 (.seq (.region [⟨some 4,.mv (.c (.int .i64 0)),none⟩] [0,1])
 (.seq (.seq (.region [⟨some 5,.mv (.s 0),none⟩,
    ⟨some 6,.isn (.s 5),none⟩] [0,1,6])
  (.cond (.s 6) (.seq (.region [⟨some 4,.mv (.c (.int .i64 (-1))),none⟩] [4])
   (.ret))
  (.skip [0,1])))
 (.seq (.region [⟨some 7,.mv (.s 0),none⟩,
    ⟨some 8,.mv (.s 1),none⟩,
    ⟨some 9,.iad (.s 7) (.s 8) 1,none⟩,
    ⟨some 10,.ld (.s 9),none⟩,
    ⟨some 4,.mv (.s 10),none⟩] [4])
 (.ret)))) [.tmp 4]:=by decide +kernel
instance zb(l:Option Fp)(i:Int):Ct Go.Proofs.Tryz.prog (J3 l i) 420 [(eO 1 eI) l,eI i] (fun r=>.sh (eI r)):=Fi qw fun r h a b=>by
  cases l with
  |none=>replace h:some (-1)=some r:=h;exact au|some l=>replace h:((TL l).bind fun _=>(idx l i).bind fun x=>some x)=some r:=h;exact au
instance ze(f:AI)(b:Int)(k:Int):Ct prog (DV f b k) 422 [.pt (Pm f).cells,eI b,eI k] (fun r=>.sh (eB r)):=Fj f422 0x813f07465f76030974015f5c0309740155cf7e7d0274019605fb5d0e017d05740191fd7e31745b30026303 [.bin (.a [0,0,0]) .eql (.s 38) (.s 57)] [.tmp 6] (h:=fun r h c d=>by
  unfold DV at h;exact nz)
instance zc(f:AI):Ct prog (B2 f) 421 [.pt (Pm f).cells] (fun r=>.sh (eB r)):=Fj f421 0x9b14f90300056014f903000514f903000581880114f906030006262514f9060403000984ff14f906030006018e72810114f90603000662262514f90604030009907d02745dff14f903000585012c765c9181fd43636214f9030005d001745b5d6c03097430bd [] [.tmp 2] (h:=fun r h d e=>by
  unfold B2 at h;have:HA 0 20 19 0 fun(b:Int)(_:Unit)=>[(20,.tv (eI b))]:=⟨⟩;have:HA 2 38 37 0 fun(c:Int)(a:Bool)=>[(6,.tv (eB a)),(38,.tv (eI c))]:=⟨⟩;exact nz)
noncomputable def Wd:PC:=PC.of Un f394.body (xq bT 0xffbd3cf70b74024802470446201d0aa8201d09a8040ba832bda4a306000460a4a3060004a4a30600043c1f0a740151011e0aa8320052321f0a74014fac011e0aa832ffa4a30600048a0a20011d0aa8e507a801082030328163e8a4a3060004907d02a881151d0aa8816c31745b32151d0aa8bd3f3e3d020005603f3e3d0200053f3e3d0200053c1f09740151011e09a8323f3e3d0200053f3e3d0200053c005232a0321f0974014fac011e09a832ff3f3e3d0200058a0a20011d09a8e507a87708a15fa16e5b5b320304a8fafb5d0e016e05a8895f63e83f3e3d020005d05b02a881151d09a8816c6e5b5b32151d09a8005d050308a80b030ba8bd) []
theorem qu:CK f394 Wd []:=by decide +kernel
theorem rR:PC.Aaf Wd=true/\PC.Aag 0 Wd=true:=by decide +kernel
abbrev Q_394(n:Nat):Prop:=∀(f:AI),Ct prog (Aw n f) 394 [.undef] (fun r=>.bo (Ce f) (Ce r) 0 [])
theorem qZ(n:Nat)(_ih_394:Q_394 n)(f:AI):Ct prog (Aw (n+1) f) 394 [.undef] (fun r=>.bo (Ce f) (Ce r) 0 []):=iP qu rR fun r h i g j=>by
  unfold Wd;unfold f394;unfold Aw at h;have:HA 1 63 62 0 fun(b:Int)(a:AI)=>[(0,.bx (Ce a)),(63,.tv (eI b))]:=⟨⟩;have:HA 3 164 163 0 fun(d:Int)(e:AI)=>[(0,.bx (Ce e)),(164,.tv (eI d))]:=⟨⟩;have:HJ 28 fun(c:AI)=>[(0,.bx (Ce c))]:=⟨⟩;exact nz
theorem qY:∀n:Nat,Q_394 n:=by
  intro n
  induction n with
  |zero=>exact(fun f=>⟨fun _ h=>by cases h⟩)
  |succ n a=>exact qZ n a
instance zK(f:AI):Ct prog (ER f) 394 [.undef] (fun r=>.bo (Ce f) (Ce r) 0 []):=⟨fun r h=>by
  obtain ⟨N,a⟩:=Cl h;exact((qY N) f).snd r (a N (bk _))⟩
theorem qr:CK f349 (Rq [Aa 6 0,Aa 7 1,Aa 8 2,Aa 9 3,⟨some 12,.Abz 2,none⟩] [4,5,6,7,8,9]<|Sq (Dr [13,14,15,16,17,18,19,20,21] [Ab 14 7 2,Ab 15 8 2,Ab 16 6 2,⟨some 17,.call 356 [.s 16],none⟩,Ab 18 9 2,⟨some 19,.mv (.s 4),none⟩,⟨some 20,.mv (.s 5),none⟩,⟨some 21,.bld [.list 1 [],.list 3 [],.list 1 [],.list 3 [],.list 1 [],.nil,.nil,.bool false,.int .i64 0,.nil,.nil,.nil] [(0,2,.s 14),(2,2,.s 15),(4,1,.s 17),(5,2,.s 18),(7,1,.s 19),(8,1,.s 20)],none⟩,⟨some 22,.Abu [none,none,none,none,none,none,none,none,none,some ⟨true,.xl 1 []⟩,some ⟨true,.xl 1 []⟩,some ⟨true,.list 2 []⟩] (.s 21),none⟩,⟨some 13,.bad 22 0,none⟩] [13,22])<|Rq [Ac 23 13 0,⟨some 24,.AaF 394 [.s 23] 0,none⟩] [13,22]<|Rq [Ac 25 13 0,Ac 26 25 0,Ac 27 26 11,⟨some 28,.ld (.s 27),none⟩,⟨some 12,.tk 28,none⟩] [12]<|.ret) [.tmp 12]:=by decide +kernel
instance yj(t:AC)(p:d5)(g:d5)(b:Mb)(a:Bool)(c:Int):Ct prog (Fe t p g b a c) 349 [AQ t,Am p,Am g,iZ b,eB a,eI c] (fun r=>.sh ((eL 2 Ap) r)):=Fi qr fun r h d e=>by
  unfold Fe at h;exact au
instance xh(t:AC)(p:d5)(g:d5)(b:Mb)(a:Bool):Ct prog (Hf t p g b a) 288 [AQ t,Am p,Am g,iZ b,eB a] (fun r=>.tp [(eL 2 Ap) r.1,eI r.2]):=Fj f288 0x8182ee02c0d501820e019e9eb34061610401 [] [.tmp 10,.tmp 11] (h:=fun r h c d=>by
  unfold Hf at h;exact nz)
instance zk(k:Int)(a:Int):Ct prog (K7 k a) 432 [eI k,.pt [eI a]] (fun r=>.sh (eB r)):=Fj f432 0xa205033005df [] [.tmp 3] (h:=fun r h b c=>by
  unfold K7 at h;exact nz)
instance zj(l:Fp)(n:Int):Ct prog (FU l n) 431 [lI l,eI n] (fun r=>.sh (eI r)):=Fj f431 0xf28e103093bd [] [.tmp 4] (h:=fun r h a b=>by
  unfold FU at h;exact nz)
instance zh(t:AC)(p:d5)(g:d5)(b:d6)(a:Bool):Ct prog (E9 t p g b a) 429 [AQ t,Am p,Am g,Ap b,eB a] (fun r=>.tp [(eL 2 Ap) r.1,eI r.2]):=Fj f429 0x81826b0ebc9e8002c078e95c3702c078bb553702c08ad9e938bbbb3702c078369eb34061610401 [] [.tmp 10,.tmp 11] (h:=fun r h c d=>by
  unfold E9 at h;exact nz)
instance yv(a:j4)(b:Fp):Ct prog (ES a b) 362 [N6 a,lI b] (fun r=>.tp [eI r.1,eI r.2]):=Fj f362 0x890e018081b26c0155309330 [] [.tmp 4,.tmp 5] (h:=fun r h c d=>by
  unfold ES at h;exact nz)
instance zi(b:Al)(q:ec)(m:d6)(a:Fp):Ct prog (Da b q m a) 430 [CH b,A9 q,Ap m,lI a] (fun r=>.tp [lI r.1,eB r.2]):=Fj f430 0x8182180a016867660a048437d88820148dbe04c98d05430ae86867660a04d0ba0a05022c2b2ae30669088437d88a05fb5d816b012014369d2c2b2a0f0ee306690a2c2b2a0f0ee306690a3c01f601f6057d9d301401148a0817da0114385d6e9d815f5c5f5fd35e419dd205c9c1c60a0502622c2b2ae3066908d09de30669052221e30669078401f601148101e3066905622221e30669079001993fa7993f6c01a71a7240936131 [.Abl 1 22 (.int .i64 0) (.s 27),.mkx 1 [.bool false] (.s 30)] [.tmp 8,.tmp 9] (h:=fun r h i j=>by
  unfold Da at h;have:HA 0 34 33 0 fun(d:Int)(g:a6)=>[(11,.xo 1 (List.map eB g)),(34,.tv (eI d))]:=⟨⟩;have:HA 2 44 43 0 fun(e:Int)(c:Fp×a6)=>[(10,.xo 1 (List.map eI c.1)),(11,.xo 1 (List.map eB c.2)),(44,.tv (eI e))]:=⟨⟩;have:HA 4 104 103 0 fun(f:Int)(_:Unit)=>[(104,.tv (eI f))]:=⟨⟩;exact nz)
instance zf(a:Al)(c:d7)(m:AM):Ct prog (Bm a c m) 425 [CH a,AJ c,BW m] (fun r=>.tp [(eL 3 BW) r.1,eI r.2]):=Fj f425 0x81f40c013b3a390ccc07843b3a390ccc073b3a390ccc073c02034803470946bc0289e076368dba064492de3602430ce83b3a390ccc07908103c03703c070e00305429e5b9d9e3292de04460ef37d9de90ec86e9dbb9207c9ebbae540939f [] [.tmp 6,.tmp 7] (h:=fun r h e f=>by
  unfold Bm at h;have:HA 0 59 58 0 fun(b:Int)(d:List AM)=>[(12,.ow ((eL 3 BW) d)),(59,.tv (eI b))]:=⟨⟩;exact nz)
abbrev AbZ(n:Nat):Prop:=∀(a:Al)(c:d7)(m:AM),Ct prog (Ai n a c m) 360 [CH a,AJ c,BW m] (fun r=>.tp [D9 r.1,eI r.2])
abbrev AbX(n:Nat):Prop:=∀(a:Al)(c:d7)(m:AM),Ct prog (BE n a c m) 400 [CH a,AJ c,BW m] (fun r=>.tp [D9 r.1,eI r.2])
theorem qV(n:Nat)(_ih_360:AbZ n)(_ih_400:AbX n)(b:Al)(c:d7)(m:AM):Ct prog (Ai (n+1) b c m) 360 [CH b,AJ c,BW m] (fun r=>.tp [D9 r.1,eI r.2]):=Fj f360 0xaa4b0a46ff37be6b0e65a50644aaaa4b0a4606014b4a49060503068437be774685eebe0b4605478d70be0ec97165a50644094ba2c9a5097e06e84b4a4906050306d0b8aaaa4b8d0a06022f2e2d0a0605030784f7ba054805478d04ba37be77dcbe0ec97165a50644094b0ac9a509430a0602622f2e2d0a06050307d0b80ec9aaaa4b7746ff37be0a46aaaa4b0a46aa89be0e497165a509435c0644aa83326ac9939f [] [.cell 6 (some 5),.tmp 7] (h:=fun r h g i=>by
  unfold Ai at h;have:HA 2 47 46 0 fun(e:Int)(a:Az×Az)=>[(6,.bx [⟨false,eI a.1.AaC⟩,⟨true,lI a.1.pc.d6.d3⟩,⟨true,lI a.1.pc.d6.d4⟩,⟨true,lI a.1.pc.hV⟩,⟨true,G3 a.1.gt⟩]),(10,.bx [⟨false,eI a.2.AaC⟩,⟨true,lI a.2.pc.d6.d3⟩,⟨true,lI a.2.pc.d6.d4⟩,⟨true,lI a.2.pc.hV⟩,⟨true,G3 a.2.gt⟩]),(47,.tv (eI e))]:=⟨⟩;have:HA 4 75 74 0 fun(f:Int)(d:Az)=>[(6,.bx [⟨false,eI d.AaC⟩,⟨true,lI d.pc.d6.d3⟩,⟨true,lI d.pc.d6.d4⟩,⟨true,lI d.pc.hV⟩,⟨true,G3 d.gt⟩]),(75,.tv (eI f))]:=⟨⟩;exact nz)
theorem qa(n:Nat)(_ih_360:AbZ n)(_ih_400:AbX n)(a:Al)(c:d7)(m:AM):Ct prog (BE (n+1) a c m) 400 [CH a,AJ c,BW m] (fun r=>.tp [D9 r.1,eI r.2]):=Fj f400 0xaa4b0a4606011b1a19060403068437be774685eebe0c4605478d6564be0ec97165a509435c0644910fc9cf4306e81b1a190604030690f2be77dce065a506446ac9939f [] [.cell 6 (some 5),.tmp 7] (h:=fun r h e f=>by
  unfold BE at h;have:HA 0 27 26 0 fun(d:Int)(b:Az)=>[(6,.bx [⟨false,eI b.AaC⟩,⟨true,lI b.pc.d6.d3⟩,⟨true,lI b.pc.d6.d4⟩,⟨true,lI b.pc.hV⟩,⟨true,G3 b.gt⟩]),(27,.tv (eI d))]:=⟨⟩;exact nz)
theorem iU:∀n:Nat,AbZ n/\AbX n:=by
  intro n
  induction n with
  |zero=>exact⟨(fun b c m=>⟨fun _ h=>by cases h⟩),(fun b c m=>⟨fun _ h=>by cases h⟩)⟩
  |succ n a=>exact⟨qV n a.1 a.2,qa n a.1 a.2⟩
instance yu(a:Al)(c:d7)(m:AM):Ct prog (DO a c m) 360 [CH a,AJ c,BW m] (fun r=>.tp [D9 r.1,eI r.2]):=⟨fun r h=>by
  obtain ⟨N,b⟩:=Cl h;exact((iU N).1 a c m).snd r (b N (bk _))⟩
instance zO(a:Al)(c:d7)(m:AM):Ct prog (Np a c m) 400 [CH a,AJ c,BW m] (fun r=>.tp [D9 r.1,eI r.2]):=⟨fun r h=>by
  obtain ⟨N,b⟩:=Cl h;exact((iU N).2 a c m).snd r (b N (bk _))⟩
instance xy(t:AC)(p:ec)(c:d7)(b:AG)(m:AM)(a:Bool):Ct prog (DG t p c b m a) 298 [AQ t,A9 p,AJ c,Bc b,BW m,eB a] (fun r=>.tp [D9 r.1,eI r.2]):=Fj f298 0xaa4b6b0e65a50d46016580be77dc0e016565a58d366ac9936161b7 [] [.cell 12 (some 5),.tmp 13] (h:=fun r h d e=>by
  unfold DG at h;exact nz)
instance wn(t:AC)(p:ec)(c:d7)(b:AG)(m:AM)(a:Bool):Ct prog (Cr t p c b m a) 225 [AQ t,A9 p,AJ c,Bc b,BW m,eB a] (fun r=>.tp [eB r.1,eI r.2]):=Fj f225 0x893801c564be0e4971016565a58d3630936161b7 [] [.tmp 12,.tmp 13] (h:=fun r h d e=>by
  unfold Cr at h;exact nz)
instance wo(m:AM):Ct prog (IU m) 226 [BW m] (fun r=>.sh (BW r)):=Fj f226 0xa63b9109460e7604460ef30ec80fc9f5 [] [.cell 2 (some 3)] (h:=fun r h a b=>by
  unfold IU at h;exact nz)
instance wq(a:AG):Ct prog (I6 a) 227 [Bc a] (fun r=>.sh (Bc r)):=Fj f227 0x91655e02f911fc84f79d01db01483047049d825f5e0262f911fcd09d035010c93f3f0ef30ec810c9f5 [.Aaz [.w 9,.w 13],.Aaz [.g 14 0 2,.g 14 1 2,.z ⟨true,.list 1 []⟩]] [.cell 2 (some 3)] (h:=fun r h d e=>by
  unfold I6 at h;have:HA 0 19 18 0 fun(c:Int)(b:AG)=>[(3,.bx [⟨true,lI b.d5.d3⟩,⟨true,lE b.d5.d4⟩,⟨true,(eL 1 lI) b.gn⟩]),(19,.tv (eI c))]:=⟨⟩;exact nz)
instance ws(n:Int)(l:Fp):Ct prog (KN n l) 228 [eI n,lI l] (fun r=>.own (lI r)):=Fj f228 0x8218b7c3b7048401f63014c3b6b706c3b6b7063c01885d8171308138e8c3b704819514993f30406302 [.mkx 1 [.int .i64 0] (.s 9)] [.tmp 4] (h:=fun r h c d=>by
  unfold KN at h;have:HA 0 13 12 0 fun(a:Int)(b:Fp)=>[(5,.xo 1 (List.map eI b)),(13,.tv (eI a))]:=⟨⟩;exact nz)
instance wt(b:Int)(e:Fp)(d:Fp)(a:Fp)(c:Fp)(n:Int):Ct prog (Ff b e d a c n) 229 [eI b,lI e,lI d,lI a,lI c,eI n] (fun r=>.own (lI r)):=Fj f229 0x82180d012b2a0d69842b2a0d692b2a0d696030f630148517da011481010de82b2a0d698195140d05021615140d6931088401f65f5f5f72301489a10d0502621615140d6931089081991a3047f8695e6306 [] [.tmp 12] (h:=fun r h k l=>by
  unfold Ff at h;have:HA 0 22 21 0 fun(g:Int)(j:Fp)=>[(13,.xo 1 (List.map eI j)),(22,.tv (eI g))]:=⟨⟩;have:HA 2 43 42 0 fun(i:Int)(f:Int×Fp)=>[(5,.tv (eI f.1)),(13,.xo 1 (List.map eI f.2)),(43,.tv (eI i))]:=⟨⟩;exact nz)
instance xz(t:AC)(a:Int):Ct prog (Hj t a) 300 [AQ t,eI a] (fun r=>.own (lI r)):=Fj f300 0xf40701f911070484a6db5c02d202c9c1c607e8f9110704908182ac01e0bcf89330 [] [.tmp 4] (h:=fun r h d e=>by
  unfold Hj at h;have:HA 0 19 18 0 fun(b:Int)(c:Fp)=>[(7,.ow (lI c)),(19,.tv (eI b))]:=⟨⟩;exact nz)
noncomputable def Wa:PC:=PC.of Un f230.body (xq bT 0x30b0afaee484b0afaee4b0afaee43cf701741f740348034707465f766e24a85f5c6e24a8550401741fa832d531741fa8a17d24a89181fd437262b0afaee4d0b807b37b7a79073106847b7a790731067b7a790731063c1f02411f7421221abc2302411fa832f75b5b1f7401dbe45b5b1fa832d56e5b1fa8a16e24a889a107b3627b7a79073106d0320731914a49b6310784f701741f740348034707465f766e22a85f5c6e22a8550401741fa83291fd7ef3815f073103624b4a49b63107d0b8b60531051e1d1cb6053108841f02411f742122014fa17601562302411fa832f75b5b1f7401dba1c8045b5b1fa832815fb6053105621e1d1cb6053108d032929107c910c9eb06745b32651ca86130) []
theorem ql:CK f230 Wa []:=by decide +kernel
theorem rO:PC.Aaf Wa=true/\PC.Aag 1 Wa=true:=by decide +kernel
instance wu(t:AC)(a:Ar)(d:BB):Ct prog (GO t a d) 230 [AQ t,.undef,GJ d] (fun r=>.bo (DE a) (DE r) 1 []):=iP ql rO fun r h m l n=>by
  unfold Wa;unfold f230;unfold GO at h;have:HA 0 30 29 0 fun(e:Int)(k:Ar)=>[(1,.bx (DE k)),(30,.tv (eI e))]:=⟨⟩;have:HA 2 75 74 0 fun(i:Int)(b:Ar)=>[(1,.bx (DE b)),(75,.tv (eI i))]:=⟨⟩;have:HA 4 123 122 0 fun(j:Int)(f:Ar)=>[(1,.bx (DE f)),(123,.tv (eI j))]:=⟨⟩;have:HA 6 176 175 0 fun(c:Int)(g:Ar)=>[(1,.bx (DE g)),(176,.tv (eI c))]:=⟨⟩;exact nz
theorem qp:CK f301 (.seq (.region [⟨some 1,.Abs (.s 0),none⟩,
    ⟨some 2,.mv (.c .undef),none⟩,
    ⟨some 3,.mv (.c (.int .i64 0)),none⟩] [1])
 (.seq (.region [⟨some 12,.mkm,none⟩,
    ⟨some 4,.mvm 12,none⟩] [1,4,12])
 (.seq (.seq (.region [⟨some 13,.bad 1 0,none⟩,
    ⟨some 14,.fad (.s 13) 6,none⟩,
    ⟨some 15,.fad (.s 14) 2,none⟩,
    ⟨some 16,.ld (.s 15),none⟩,
    ⟨some 17,.len (.s 16),none⟩,
    ⟨some 18,.mv (.c (.int .i64 0)),none⟩] [1,4,12,16,17,18])
 (.block 0 (.loop [1,4,12,16,17,18] (.seq (.region [⟨some 19,.bin (.i) .lss (.s 18) (.s 17),none⟩] [1,4,12,16,17,18,19])
 (.seq (.cond (.s 19) (.skip [1,4,12,16,17,18])
 (.exit 0 [4,12]))
 (.seq (.block 1 (.seq (.region [⟨some 20,.iad (.s 16) (.s 18) 4,none⟩,
    ⟨some 21,.lda (.s 20) 4,none⟩,
    ⟨some 6,.alc [⟨false,.int .i64 0⟩,⟨false,.int .i64 0⟩,⟨false,.int .i64 0⟩,⟨false,.int .i64 0⟩],none⟩,
    ⟨none,.stb 4 6 (.s 21),none⟩] [1,4,6,12,16,17,18])
 (.seq (.region [⟨some 23,.bad 6 2,none⟩,
    ⟨some 24,.lda (.s 23) 2,none⟩,
    ⟨some 25,.bad 1 25,none⟩,
    ⟨some 26,.fad (.s 25) 2,none⟩,
    ⟨some 27,.ld (.s 26),none⟩,
    ⟨some 28,.call 362 [.s 24,.s 27],none⟩,
    ⟨some 22,.mv (.s 28),none⟩,
    ⟨some 29,.ext (.s 22) 0,none⟩,
    ⟨some 30,.ext (.s 22) 1,none⟩,
    ⟨some 7,.mv (.s 29),none⟩,
    ⟨some 8,.mv (.s 30),none⟩] [1,4,6,7,8,12,16,17,18])
 (.seq (.seq (.region [⟨some 31,.mv (.s 8),none⟩,
    ⟨some 32,.bin (.i) .neq (.s 31) (.c (.int .i64 0)),none⟩] [1,4,6,7,8,12,16,17,18,32])
 (.cond (.s 32) (.seq (.region [⟨some 33,.mv (.s 8),none⟩,
    ⟨some 2,.mv (.c .undef),none⟩,
    ⟨some 3,.mv (.s 33),none⟩] [2,3,12])
 .ret)
 (.skip [1,4,6,7,12,16,17,18])))
 (.seq (.draw [9,34,35,36,37,38,39,40,41,42,43] [⟨some 34,.bad 1 36,none⟩,
    ⟨some 35,.fad (.s 34) 0,none⟩,
    ⟨some 36,.ld (.s 35),none⟩,
    ⟨some 37,.bad 6 0,none⟩,
    ⟨some 38,.ld (.s 37),none⟩,
    ⟨some 39,.iad (.s 36) (.s 38) 1,none⟩,
    ⟨some 40,.ld (.s 39),none⟩,
    ⟨some 41,.bad 6 1,none⟩,
    ⟨some 42,.ld (.s 41),none⟩,
    ⟨some 43,.bld [.int .i64 0,.int .i64 0] [(0,1,.s 40),(1,1,.s 42)],none⟩,
    ⟨some 9,.alc [⟨false,.int .i64 0⟩,⟨false,.int .i64 0⟩],none⟩,
    ⟨none,.stb 2 9 (.s 43),none⟩] [1,4,7,9,12,16,17,18])
 (.seq (.seq (.region [⟨some 45,.mv (.s 4),none⟩,
    ⟨some 46,.lda (.s 9) 2,none⟩,
    ⟨some 47,.mlk 12 (.s 45) (.s 46),none⟩,
    ⟨some 44,.mv (.s 47),none⟩,
    ⟨some 48,.ext (.s 44) 0,none⟩,
    ⟨some 49,.ext (.s 44) 1,none⟩,
    ⟨some 10,.mv (.s 48),none⟩,
    ⟨some 11,.mv (.s 49),none⟩] [1,4,7,9,10,11,12,16,17,18])
 (.seq (.region [⟨some 50,.mv (.s 11),none⟩,
    ⟨some 51,.mv (.s 50),none⟩,
    ⟨some 52,.mv (.s 10),some (51,true)⟩,
    ⟨some 53,.mv (.s 7),some (51,true)⟩,
    ⟨some 54,.bin (.i) .neq (.s 52) (.s 53),some (51,true)⟩,
    ⟨some 55,.pick (.s 51) (.s 54) (.c (.bool false)),none⟩] [1,4,7,9,12,16,17,18,55])
 (.cond (.s 55) (.seq (.region [⟨some 2,.mv (.c .undef),none⟩,
    ⟨some 3,.mv (.c (.int .i64 11)),none⟩] [2,3,12])
 .ret)
 (.skip [1,4,7,9,12,16,17,18]))))
 (.region [⟨some 56,.mv (.s 4),none⟩,
    ⟨some 57,.lda (.s 9) 2,none⟩,
    ⟨some 58,.mv (.s 7),none⟩,
    ⟨none,.mup 12 (.s 56) (.s 57) (.s 58),none⟩] [1,4,12,16,17,18])))))))
 (.region [⟨some 59,.bin (.i) .add (.s 18) (.c (.int .i64 1)),none⟩,
    ⟨some 18,.mv (.s 59),none⟩] [1,4,12,16,17,18])))))))
 (.seq (.region [⟨some 60,.mv (.s 4),none⟩,
    ⟨some 2,.mv (.s 60),none⟩,
    ⟨some 3,.mv (.c (.int .i64 0)),none⟩] [2,3,12])
 .ret)))) [.tmp 2,.tmp 3]:=by decide +kernel
instance zy(s:Ar):Ct Go.Proofs.Tryz.prog (G9 s) 301 [ZB s] Lz:=uV qp fun r h d e=>by
  unfold G9 at h;have K:∀b:Nat,HA 0 18 17 0 fun(c:Int)(a:BD)=>[(12,.mx (.mp b a)),(18,.tv (eI c))]:=fun _=>⟨⟩;have:tJ 12:=⟨⟩;exact au
theorem VV(t:AC)(s:Ar)(V:List Fp)(p:(Int×Int)×Int)(a:BD)(r:Bp (List Fp) Unit)(h:Lt t s V p=some r):WP (AN Go.Proofs.Tryz.prog) (.block 1 (.seq (.region [⟨some 25,.men 22,none⟩,
    ⟨some 26,.ext (.s 25) 0,none⟩,
    ⟨some 27,.ext (.s 25) 1,none⟩,
    ⟨some 7,.alc [⟨false,.int .i64 0⟩,⟨false,.int .i64 0⟩],none⟩,
    ⟨none,.stb 2 7 (.s 26),none⟩,
    ⟨some 8,.mv (.s 27),none⟩] [1,2,7,8,22])
 (.seq (.draw [9,10,28,29,30,31,32,33,34,35,36,37,38,39,40,41,42] [⟨some 29,.lda (.s 2) 2,none⟩,
    ⟨some 30,.bad 1 0,none⟩,
    ⟨some 31,.fad (.s 30) 0,none⟩,
    ⟨some 32,.fad (.s 31) 31,none⟩,
    ⟨some 33,.fad (.s 32) 0,none⟩,
    ⟨some 34,.fad (.s 33) 0,none⟩,
    ⟨some 35,.ld (.s 34),none⟩,
    ⟨some 36,.bad 7 0,none⟩,
    ⟨some 37,.ld (.s 36),none⟩,
    ⟨some 38,.iad (.s 35) (.s 37) 1,none⟩,
    ⟨some 39,.ld (.s 38),none⟩,
    ⟨some 40,.call 170 [.s 29,.s 39],none⟩,
    ⟨some 28,.mv (.s 40),none⟩,
    ⟨some 41,.ext (.s 28) 0,none⟩,
    ⟨some 42,.ext (.s 28) 1,none⟩,
    ⟨some 9,.mv (.s 41),none⟩,
    ⟨some 10,.mv (.s 42),none⟩] [1,2,7,8,9,22])
 (.seq (.seq (.region [⟨some 43,.mv (.s 8),none⟩,
    ⟨some 44,.mv (.s 9),none⟩,
    ⟨some 45,.bad 7 1,none⟩,
    ⟨some 46,.ld (.s 45),none⟩,
    ⟨some 47,.iad (.s 44) (.s 46) 4,none⟩,
    ⟨some 48,.fad (.s 47) 1,none⟩,
    ⟨some 49,.ld (.s 48),none⟩,
    ⟨some 50,.bin (.i) .lss (.s 43) (.s 49),none⟩,
    ⟨some 51,.mv (.s 50),none⟩,
    ⟨some 52,.mv (.s 8),some (51,false)⟩,
    ⟨some 53,.mv (.s 9),some (51,false)⟩,
    ⟨some 54,.bad 7 1,some (51,false)⟩,
    ⟨some 55,.ld (.s 54),some (51,false)⟩,
    ⟨some 56,.iad (.s 53) (.s 55) 4,some (51,false)⟩,
    ⟨some 57,.fad (.s 56) 2,some (51,false)⟩,
    ⟨some 58,.ld (.s 57),some (51,false)⟩,
    ⟨some 59,.bin (.i) .gtr (.s 52) (.s 58),some (51,false)⟩,
    ⟨some 60,.pick (.s 51) (.c (.bool true)) (.s 59),none⟩] [1,2,7,8,22,60])
 (.cond (.s 60) (.seq (.region [⟨some 4,.mv (.c (.int .i64 6)),none⟩] [1,4])
 .ret)
 (.skip [1,2,7,8,22])))
 (.draw [61,62,63,64,65,66,67,68,69,70,71,72,73] [⟨some 61,.bad 1 0,none⟩,
    ⟨some 62,.fad (.s 61) 0,none⟩,
    ⟨some 63,.fad (.s 62) 31,none⟩,
    ⟨some 64,.fad (.s 63) 2,none⟩,
    ⟨some 65,.lan (.s 64),none⟩,
    ⟨some 66,.bad 7 0,none⟩,
    ⟨some 67,.ld (.s 66),none⟩,
    ⟨some 68,.nia (.s 65) (.s 67),none⟩,
    ⟨some 69,.nld (.s 68),none⟩,
    ⟨some 70,.bad 7 1,none⟩,
    ⟨some 71,.ld (.s 70),none⟩,
    ⟨some 72,.mv (.s 8),none⟩,
    ⟨some 73,.nia (.s 69) (.s 71),none⟩,
    ⟨none,.nst (.s 73) (.s 72),none⟩] [1,2,22]))))) ⟨fun e=>∃b,r=.next b/\Rn (e.jj [1,2,22]) [(1,.bx (DE (MP s b))),(2,.tv (.pt (AQ t).cells)),(22,.mx (.mi (some p) a))],fun _ _=>False,fun e=>∃v,r=.ret v/\Rn e [(1,.bx (DE (MP s V))),(4,.tv (eI 6))]⟩ [(1,.bx (DE (MP s V))),(2,.tv (.pt (AQ t).cells)),(22,.mx (.mi (some p) a))]:=by
  unfold Lt at h;exact au
noncomputable def Wb:PC:=(.seq (.region [⟨some 2,.Abs (.s 0),none⟩,
    ⟨some 4,.mv (.c (.int .i64 0)),none⟩] [1,2])
 (.seq (.region [⟨some 12,.bad 1 0,none⟩,
    ⟨some 13,.fad (.s 12) 0,none⟩,
    ⟨some 14,.lda (.s 13) 38,none⟩,
    ⟨some 15,.AaV 301 [.s 14],none⟩,
    ⟨some 11,.mvm 15,none⟩,
    ⟨some 16,.ext (.s 11) 0,none⟩,
    ⟨some 17,.ext (.s 11) 1,none⟩,
    ⟨some 5,.mv (.s 16),none⟩,
    ⟨some 6,.mv (.s 17),none⟩] [1,2,5,6,15])
 (.seq (.seq (.region [⟨some 18,.mv (.s 6),none⟩,
    ⟨some 19,.bin (.i) .neq (.s 18) (.c (.int .i64 0)),none⟩] [1,2,5,6,15,19])
 (.cond (.s 19) (.seq (.region [⟨some 20,.mv (.s 6),none⟩,
    ⟨some 4,.mv (.s 20),none⟩] [1,4])
 .ret)
 (.skip [1,2,5,15])))
 (.seq (.seq (.region [⟨some 21,.mv (.s 5),none⟩,
    ⟨some 22,.mrg 15 (.s 21),none⟩] [1,2,22])
 (.block 0 (.loop [1,2,22] (.seq (.region [⟨some 23,.mnx 22,none⟩,
    ⟨some 24,.ext (.s 23) 0,none⟩] [1,2,22,24])
 (.seq (.cond (.s 24) (.skip [1,2,22])
 (.exit 0 [1]))
 (.block 1 (.seq (.region [⟨some 25,.men 22,none⟩,
    ⟨some 26,.ext (.s 25) 0,none⟩,
    ⟨some 27,.ext (.s 25) 1,none⟩,
    ⟨some 7,.alc [⟨false,.int .i64 0⟩,⟨false,.int .i64 0⟩],none⟩,
    ⟨none,.stb 2 7 (.s 26),none⟩,
    ⟨some 8,.mv (.s 27),none⟩] [1,2,7,8,22])
 (.seq (.draw [9,10,28,29,30,31,32,33,34,35,36,37,38,39,40,41,42] [⟨some 29,.lda (.s 2) 2,none⟩,
    ⟨some 30,.bad 1 0,none⟩,
    ⟨some 31,.fad (.s 30) 0,none⟩,
    ⟨some 32,.fad (.s 31) 31,none⟩,
    ⟨some 33,.fad (.s 32) 0,none⟩,
    ⟨some 34,.fad (.s 33) 0,none⟩,
    ⟨some 35,.ld (.s 34),none⟩,
    ⟨some 36,.bad 7 0,none⟩,
    ⟨some 37,.ld (.s 36),none⟩,
    ⟨some 38,.iad (.s 35) (.s 37) 1,none⟩,
    ⟨some 39,.ld (.s 38),none⟩,
    ⟨some 40,.call 170 [.s 29,.s 39],none⟩,
    ⟨some 28,.mv (.s 40),none⟩,
    ⟨some 41,.ext (.s 28) 0,none⟩,
    ⟨some 42,.ext (.s 28) 1,none⟩,
    ⟨some 9,.mv (.s 41),none⟩,
    ⟨some 10,.mv (.s 42),none⟩] [1,2,7,8,9,22])
 (.seq (.seq (.region [⟨some 43,.mv (.s 8),none⟩,
    ⟨some 44,.mv (.s 9),none⟩,
    ⟨some 45,.bad 7 1,none⟩,
    ⟨some 46,.ld (.s 45),none⟩,
    ⟨some 47,.iad (.s 44) (.s 46) 4,none⟩,
    ⟨some 48,.fad (.s 47) 1,none⟩,
    ⟨some 49,.ld (.s 48),none⟩,
    ⟨some 50,.bin (.i) .lss (.s 43) (.s 49),none⟩,
    ⟨some 51,.mv (.s 50),none⟩,
    ⟨some 52,.mv (.s 8),some (51,false)⟩,
    ⟨some 53,.mv (.s 9),some (51,false)⟩,
    ⟨some 54,.bad 7 1,some (51,false)⟩,
    ⟨some 55,.ld (.s 54),some (51,false)⟩,
    ⟨some 56,.iad (.s 53) (.s 55) 4,some (51,false)⟩,
    ⟨some 57,.fad (.s 56) 2,some (51,false)⟩,
    ⟨some 58,.ld (.s 57),some (51,false)⟩,
    ⟨some 59,.bin (.i) .gtr (.s 52) (.s 58),some (51,false)⟩,
    ⟨some 60,.pick (.s 51) (.c (.bool true)) (.s 59),none⟩] [1,2,7,8,22,60])
 (.cond (.s 60) (.seq (.region [⟨some 4,.mv (.c (.int .i64 6)),none⟩] [1,4])
 .ret)
 (.skip [1,2,7,8,22])))
 (.draw [61,62,63,64,65,66,67,68,69,70,71,72,73] [⟨some 61,.bad 1 0,none⟩,
    ⟨some 62,.fad (.s 61) 0,none⟩,
    ⟨some 63,.fad (.s 62) 31,none⟩,
    ⟨some 64,.fad (.s 63) 2,none⟩,
    ⟨some 65,.lan (.s 64),none⟩,
    ⟨some 66,.bad 7 0,none⟩,
    ⟨some 67,.ld (.s 66),none⟩,
    ⟨some 68,.nia (.s 65) (.s 67),none⟩,
    ⟨some 69,.nld (.s 68),none⟩,
    ⟨some 70,.bad 7 1,none⟩,
    ⟨some 71,.ld (.s 70),none⟩,
    ⟨some 72,.mv (.s 8),none⟩,
    ⟨some 73,.nia (.s 69) (.s 71),none⟩,
    ⟨none,.nst (.s 73) (.s 72),none⟩] [1,2,22]))))))))))
 (.seq (.region [⟨some 4,.mv (.c (.int .i64 0)),none⟩] [1,4])
 .ret)))))
theorem qn:CK f231 Wb [.tmp 4]:=by decide +kernel
theorem rP:PC.Aaf Wb=true/\PC.Aag 1 Wb=true:=by decide +kernel
variable{t:AC}{s:Ar}
theorem aH{p:(Int×Int)×Int}{b:Bool}(h:Lu t s p=some b){V:List Fp}(a:J7 V s.tn.gn):
    (b=true->Lt t s V p=some (.next (CR V p)))/\(b=false->Lt t s V p=some (.ret ())):=by
  unfold Lu Lt at h;unfold Lt;obtain⟨c,d,h⟩:=bind_some h;obtain⟨q,f,d⟩:=bind_some d;obtain⟨r,g,d⟩:=bind_some d;obtain⟨u,i,d⟩:=bind_some d;obtain⟨j,k,d⟩:=bind_some d;simp only[f,g,i,Option.bind_some]at *;rw[k,Option.bind_some];cases j with
  |true=>
    simp only[if_true,x5]at d|-;subst d;simp only[x5]at h;subst h;exact⟨fun e=>(by cases e),fun _=>trivial⟩
  |false=>
    simp only[Bool.false_eq_true,if_false]at d|-;obtain⟨v,l,d⟩:=bind_some d;obtain⟨w,m,d⟩:=bind_some d;cases d;simp only[x5]at h;subst h;obtain⟨x,x',n,o⟩:=a.idx l m;refine⟨fun _=>?_,fun e=>(by cases e)⟩;rw[n,Option.bind_some,o,Option.bind_some,XG n o]
theorem cI{a:BD}{c:Bool}(k:a.Dis)(g:AaS (Lu t s) a=some c){L y:AB->Prop}{x:Nat->AB->Prop}{d:AB->Prop}
    (m:c=true->y [(1,.bx (DE (MP s (a.foldl CR s.tn.gn))))])(f:c=false->∀V,d [(1,.bx (DE (MP s V))),(4,.tv (eI 6))]):
    WP (AN Go.Proofs.Tryz.prog) (.loop [1,2,22] (.seq (.region [⟨some 23,.mnx 22,none⟩,
    ⟨some 24,.ext (.s 23) 0,none⟩] [1,2,22,24])
 (.seq (.cond (.s 24) (.skip [1,2,22])
 (.exit 0 [1]))
 (.block 1 (.seq (.region [⟨some 25,.men 22,none⟩,
    ⟨some 26,.ext (.s 25) 0,none⟩,
    ⟨some 27,.ext (.s 25) 1,none⟩,
    ⟨some 7,.alc [⟨false,.int .i64 0⟩,⟨false,.int .i64 0⟩],none⟩,
    ⟨none,.stb 2 7 (.s 26),none⟩,
    ⟨some 8,.mv (.s 27),none⟩] [1,2,7,8,22])
 (.seq (.draw [9,10,28,29,30,31,32,33,34,35,36,37,38,39,40,41,42] [⟨some 29,.lda (.s 2) 2,none⟩,
    ⟨some 30,.bad 1 0,none⟩,
    ⟨some 31,.fad (.s 30) 0,none⟩,
    ⟨some 32,.fad (.s 31) 31,none⟩,
    ⟨some 33,.fad (.s 32) 0,none⟩,
    ⟨some 34,.fad (.s 33) 0,none⟩,
    ⟨some 35,.ld (.s 34),none⟩,
    ⟨some 36,.bad 7 0,none⟩,
    ⟨some 37,.ld (.s 36),none⟩,
    ⟨some 38,.iad (.s 35) (.s 37) 1,none⟩,
    ⟨some 39,.ld (.s 38),none⟩,
    ⟨some 40,.call 170 [.s 29,.s 39],none⟩,
    ⟨some 28,.mv (.s 40),none⟩,
    ⟨some 41,.ext (.s 28) 0,none⟩,
    ⟨some 42,.ext (.s 28) 1,none⟩,
    ⟨some 9,.mv (.s 41),none⟩,
    ⟨some 10,.mv (.s 42),none⟩] [1,2,7,8,9,22])
 (.seq (.seq (.region [⟨some 43,.mv (.s 8),none⟩,
    ⟨some 44,.mv (.s 9),none⟩,
    ⟨some 45,.bad 7 1,none⟩,
    ⟨some 46,.ld (.s 45),none⟩,
    ⟨some 47,.iad (.s 44) (.s 46) 4,none⟩,
    ⟨some 48,.fad (.s 47) 1,none⟩,
    ⟨some 49,.ld (.s 48),none⟩,
    ⟨some 50,.bin (.i) .lss (.s 43) (.s 49),none⟩,
    ⟨some 51,.mv (.s 50),none⟩,
    ⟨some 52,.mv (.s 8),some (51,false)⟩,
    ⟨some 53,.mv (.s 9),some (51,false)⟩,
    ⟨some 54,.bad 7 1,some (51,false)⟩,
    ⟨some 55,.ld (.s 54),some (51,false)⟩,
    ⟨some 56,.iad (.s 53) (.s 55) 4,some (51,false)⟩,
    ⟨some 57,.fad (.s 56) 2,some (51,false)⟩,
    ⟨some 58,.ld (.s 57),some (51,false)⟩,
    ⟨some 59,.bin (.i) .gtr (.s 52) (.s 58),some (51,false)⟩,
    ⟨some 60,.pick (.s 51) (.c (.bool true)) (.s 59),none⟩] [1,2,7,8,22,60])
 (.cond (.s 60) (.seq (.region [⟨some 4,.mv (.c (.int .i64 6)),none⟩] [1,4])
 .ret)
 (.skip [1,2,7,8,22])))
 (.draw [61,62,63,64,65,66,67,68,69,70,71,72,73] [⟨some 61,.bad 1 0,none⟩,
    ⟨some 62,.fad (.s 61) 0,none⟩,
    ⟨some 63,.fad (.s 62) 31,none⟩,
    ⟨some 64,.fad (.s 63) 2,none⟩,
    ⟨some 65,.lan (.s 64),none⟩,
    ⟨some 66,.bad 7 0,none⟩,
    ⟨some 67,.ld (.s 66),none⟩,
    ⟨some 68,.nia (.s 65) (.s 67),none⟩,
    ⟨some 69,.nld (.s 68),none⟩,
    ⟨some 70,.bad 7 1,none⟩,
    ⟨some 71,.ld (.s 70),none⟩,
    ⟨some 72,.mv (.s 8),none⟩,
    ⟨some 73,.nia (.s 69) (.s 71),none⟩,
    ⟨none,.nst (.s 73) (.s 72),none⟩] [1,2,22])))))))) ⟨L,fun j e=>if j=0 then y e else x j e,d⟩ [(1,.bx (DE s)),(2,.tv (.pt (AQ t).cells)),(22,.mx (.mi none a))]:=by
  obtain ⟨m1,Q⟩:=UT g;refine⟨lm _ (σ:=List Fp×Option ((Int×Int)×Int)×BD) (fun σ=>[(1,.bx (DE (MP s σ.1))),(2,.tv (.pt (AQ t).cells)),(22,.mx (.mi σ.2.1 σ.2.2))])
    (fun σ=>J7 σ.1 s.tn.gn/\(∀l,σ.2.2.Perm l->l.foldl CR σ.1=a.foldl CR s.tn.gn)/\(∀p∈σ.2.2,p∈a)/\(c=false->∃p∈σ.2.2,Lu t s p=some false))
    (fun σ=>σ.2.2.length) (s.tn.gn,none,a) rfl ⟨rfl,fun l z=>T4 k z _,fun p o=>o,Q⟩ ?_⟩
  rintro ⟨V,last,r⟩ ⟨H,I,J,K⟩ U;refine WP.out (?_:WP _ _ _ _);apply JT;apply N1;refine sb rfl (by decide) (fun e=>?_) (fun p n o=>?_)
  · simp only at e
    subst e;have O:c=true:=by
      cases c with
      |true=>rfl|false=>obtain⟨p,o,_⟩:=K rfl;cases o
    have P:V=a.foldl CR s.tn.gn:=I [] (List.Perm.refl _);apply Qo;exact rfl;exact rfl;apply Lb;(focus (repeat(first|exact HQ|(apply JZ;exact rfl)|(apply JW;exact rfl)|(apply JX;exact rfl)|(apply Ja;exact rfl)|(apply JY;exact rfl))));intro B;apply JT;apply Pc;exact rfl;exact rfl;apply bj;(focus (repeat(first|exact HQ|(apply JZ;exact rfl)|(apply JW;exact rfl)|(apply JX;exact rfl)|(apply Ja;exact rfl)|(apply JY;exact rfl))));show(if(0:Nat)=0 then y [(1,.bx (DE (MP s V)))]else x 0 [(1,.bx (DE (MP s V)))]);rw[ae rfl,P];exact m O
  · apply Qo;exact rfl;exact rfl
    apply Lb;(focus (repeat(first|exact HQ|(apply JZ;exact rfl)|(apply JW;exact rfl)|(apply JX;exact rfl)|(apply Ja;exact rfl)|(apply JY;exact rfl))));intro B;apply JT;apply Pd;exact rfl;exact rfl;apply Wq;(focus (repeat(first|exact HQ|(apply JZ;exact rfl)|(apply JW;exact rfl)|(apply JX;exact rfl)|(apply Ja;exact rfl)|(apply JY;exact rfl))));intro N;have C:p∈r:=o.mem_iff.2 (by simp);obtain⟨b,G,D⟩:=m1 p (J p C);obtain⟨R,S⟩:=aH G H;cases b with
    |true=>
      refine ⟨PC.pr _ _ _ _ (VV t s V p n _ (R rfl)).out _ (fun e he=>?_) (fun _ _ h=>h.elim) (fun e he=>?_)⟩
      · obtain⟨T,w,E⟩:=he
        cases w;refine⟨(CR V p,some p,n),E.out,⟨(VU V p).trans H,fun l z=>?_,fun q A=>J q (o.mem_iff.2 (by simp[A])),fun M=>?_⟩,?_⟩
        .exact I (p::l) (o.trans (z.cons p))
        · obtain⟨q,A,u⟩:=K M
          rcases List.mem_cons.1 (o.mem_iff.1 A)with rfl|F
          .rw[G]at u;cases u
          .exact⟨q,F,u⟩
        · have:=o.length_eq
          simp only[c8]at this;show n.length<r.length;omega
      · obtain⟨v,w,_⟩:=he
        cases w
    |false=>
      refine ⟨PC.pr _ _ _ _ (VV t s V p n _ (S rfl)).out _ (fun e he=>?_) (fun _ _ h=>h.elim) (fun e he=>?_)⟩
      · obtain⟨T,w,_⟩:=he
        cases w
      · obtain⟨v,_,E⟩:=he
        rw [E.out];exact f (by cases c with|false=>rfl|true=>exact absurd (D rfl) (by simp)) V
instance zr(t:AC)(s:Ar):Ct Go.Proofs.Tryz.prog (If t s) 231 [AQ t,.undef] (fun r=>.bo (DE s) (if(!decide (r.1=0))=true then(DE r.2).set 33 ⟨false,.undef⟩else DE r.2) 1 [eI r.1]):=tY qn rP fun r h u k=>by
  unfold Wb;unfold If at h;obtain⟨a,p,h⟩:=bind_some h;have d:=(inferInstance:Ct Go.Proofs.Tryz.prog (G9 s) 301 [ZB s] Lz).snd a p;apply JT;apply N1;apply de;exact rfl;exact rfl;apply Ny;exact rfl;apply Lb;(focus (repeat(first|exact HQ|(apply JZ;exact rfl)|(apply JW;exact rfl)|(apply JX;exact rfl)|(apply Ja;exact rfl)|(apply JY;exact rfl))));intro l;apply JT;apply N1
  first|(apply iu;exact rfl)|(apply dc;exact rfl)
  first|(apply iv;exact rfl)|(apply dg;exact rfl;exact rfl)
  apply Wj;exact rfl;exact rfl;exact rfl;by_cases he:a.2=0
  · have e:Lz a=.mpr a.1 [.int .i64 a.2]:=ae he
    rw [e]at d;rw[az (by simp[he])]at h;split at h
    · rename_i hd
      have hd:BD.Dis a.1:=(show List.Pairwise (fun x y:(Int×Int)×Int=>x.1≠y.1) a.1 from of_decide_eq_true hd);obtain⟨c,q,h⟩:=bind_some h;refine gH rfl d (fun b=>?_);apply di;exact rfl;apply Qo;exact rfl;exact rfl;apply Qo;exact rfl;exact rfl;apply Ny;exact rfl;apply Ny;exact rfl;apply Lb;(focus (repeat(first|exact HQ|(apply JZ;exact rfl)|(apply JW;exact rfl)|(apply JX;exact rfl)|(apply Ja;exact rfl)|(apply JY;exact rfl))));intro g;apply JT;apply JT;apply N1;apply Ny;exact rfl;apply bF;exact rfl;exact rfl;apply Lb;(focus (repeat(first|exact HQ|(apply JZ;exact rfl)|(apply JW;exact rfl)|(apply JX;exact rfl)|(apply Ja;exact rfl)|(apply JY;exact rfl))));intro i;apply Pc;exact rfl;simp[he];apply Wq;(focus (repeat(first|exact HQ|(apply JZ;exact rfl)|(apply JW;exact rfl)|(apply JX;exact rfl)|(apply Ja;exact rfl)|(apply JY;exact rfl))));intro j;apply JT;apply JT;apply N1;apply Ny;exact rfl;apply i7;exact rfl;exact rfl;decide;apply Lb;(focus (repeat(first|exact HQ|(apply JZ;exact rfl)|(apply JW;exact rfl)|(apply JX;exact rfl)|(apply Ja;exact rfl)|(apply JY;exact rfl))));intro m;apply Y2;refine cI hd q (fun f=>?_) (fun f V=>?_)
      · intro n
        apply JT;apply N1;apply Ny;exact rfl;apply Lb;(focus (repeat(first|exact HQ|(apply JZ;exact rfl)|(apply JW;exact rfl)|(apply JX;exact rfl)|(apply Ja;exact rfl)|(apply JY;exact rfl))));intro o;apply Z6;rw[ae f]at h;cases h;exact⟨_,Wk.refl _,rfl,rfl⟩
      · rw[az (by simp[f])]at h
        cases h;refine⟨_,?_,rfl,rfl⟩;exact Wk.set (DE (MP s V)) 33
    .cases h
  · have e:Lz a=.tp [.undef,.int .i64 a.2]:=az he
    rw [e]at d;rw[ae (by simp[he])]at h;refine gG rfl d ?_;apply dh;exact rfl;apply Qo;exact rfl;exact rfl;apply Qo;exact rfl;exact rfl;apply Ny;exact rfl;apply Ny;exact rfl;apply Lb;(focus (repeat(first|exact HQ|(apply JZ;exact rfl)|(apply JW;exact rfl)|(apply JX;exact rfl)|(apply Ja;exact rfl)|(apply JY;exact rfl))));intro g;apply JT;apply JT;apply N1;apply Ny;exact rfl;apply bF;exact rfl;exact rfl;apply Lb;(focus (repeat(first|exact HQ|(apply JZ;exact rfl)|(apply JW;exact rfl)|(apply JX;exact rfl)|(apply Ja;exact rfl)|(apply JY;exact rfl))));intro i;apply Pd;exact rfl;simp[he];apply JT;apply N1;apply Ny;exact rfl;apply Ny;exact rfl;apply Lb;(focus (repeat(first|exact HQ|(apply JZ;exact rfl)|(apply JW;exact rfl)|(apply JX;exact rfl)|(apply Ja;exact rfl)|(apply JY;exact rfl))));intro j;apply Z6;cases h;simp only[he,decide_false,Bool.not_false,if_true];exact⟨_,Wk.set (DE s) 33,rfl,rfl⟩
instance vL(t:AC)(b:hT)(a:AG)(m:AM):Ct prog (Hh t b a m) 145 [AQ t,B3 b,Bc a,BW m] (fun r=>.tp [Lq r.1,eI r.2]):=Fj f145 0x81ec26440f3e37ec0e468a6c31741f42380b6e5b1f4237ec6adc01523601529e024a244204460ee97d2242f37d0d427d0b420b3174b90ebb6e2242c86e0d426e0b420b6e5bb9024a224204460e5c0bf30e550bc83f12c90f460e650e65d437ec0e4688eeec6a4685308171030f426565a510428db880ec6a46853092de71b1360b42b180ec6adc9207c971b1b1ebb880ec6adc0e6565d4360111c9619f [.stq 38 [none,none,none,none,none,none,none,none,none,none,none,none,none,none,none,none,none,none,none,none,none,none,none,none,none,none,none,none,none,none,none,some ⟨true,.list 1 []⟩,some ⟨true,.list 3 []⟩,some ⟨true,.xn []⟩,none,none,none,none] (.s 15) (.s 82)] [.cell 8 (some 38),.tmp 9] (h:=fun r h c d=>by
  unfold Hh at h;exact nz)
instance c92(t:AC)(b:hT)(a:AG)(m:AM):Ct prog (Hg t b a m) 92 [AQ t,B3 b,Bc a,BW m] (fun r=>.tp [Lq r.1,eI r.2]):=Fj f92 0x81ec6b0e6565d480ec6adc0e65d4360111c9619f [] [.cell 8 (some 38),.tmp 9] (h:=fun r h c d=>by
  unfold Hg at h;exact nz)
instance c51(t:AC)(a:List hT)(b:AG)(m:C4):Ct prog (C8 t a b m) 51 [AQ t,(eL 25 B3) a,Bc b,Ft m] (fun r=>.tp [Lq r.1,eI r.2]):=Fj f51 0x8013b81ec6b0e65b865d41943550180ec0e468a6c01ed550111c9936130 [] [.cell 8 (some 38),.tmp 9] (h:=fun r h c d=>by
  unfold C8 at h;exact nz)
instance c27(t:AC)(a:List hT)(d:AY):Ct prog (DI t a d) 27 [AQ t,(eL 25 B3) a,C2 d] (fun r=>.tp [(eL 38 Lq) r.1,eI r.2.1,eI r.2.2]):=Fj f27 0x89820bb30a0121201fe33107840b013b9102651f4226482647264402c526c03064ec11c971c165bcd28113c9c1c677e821201fe33107d003429110c9653226c0c526c0d5a7c526c0786532bc3026406130 [] [.tmp 6,.tmp 7,.tmp 8] (h:=fun r h e f=>by
  unfold DI at h;have:HA 0 33 32 0 fun(c:Int)(b:List Ar×AG)=>[(10,.ow ((eL 38 Lq) b.1)),(11,.bx [⟨false,lI b.2.d5.d3⟩,⟨false,lE b.2.d5.d4⟩,⟨false,(eL 1 lI) b.2.gn⟩]),(33,.tv (eI c))]:=⟨⟩;exact nz)
instance u9(n:Int):Ct prog (FJ n) 133 [eI n] (fun r=>.own (lI r)):=Fj f133 0x82183109087c8401f630148101316209087c819514993f3040bd [.mkx 1 [.int .i64 0] (.s 5)] [.tmp 2] (h:=fun r h c d=>by
  unfold FJ at h;have:HA 0 9 8 0 fun(b:Int)(a:Fp)=>[(3,.xo 1 (List.map eI a)),(9,.tv (eI b))]:=⟨⟩;exact nz)
instance c86(g:d5):Ct prog (Dw g) 86 [Am g] (fun r=>.tp [Ap r.1,eI r.2]):=Fj f86 0xa63b819204460ee90ebb3792e5dc0e3601def5 [] [.cell 2 (some 2),.tmp 3] (h:=fun r h a b=>by
  unfold Dw at h;exact nz)
instance c40(g:d5):Ct prog (Cs g) 40 [Am g] (fun r=>.sh (Ap r)):=Fj f40 0x92360192de7136def5 [] [.cell 2 (some 2)] (h:=fun r h a b=>by
  unfold Cs at h;exact nz)
instance c41(l:Fp)(a:Fp):Ct prog (FG l a) 41 [lI l,lI a] (fun r=>.own (lI r)):=Fj f41 0x8218b70ce30538840ce305380ce305383c01f65f7214648117da38e80ce30538819594991a30406302 [] [.tmp 4] (h:=fun r h d e=>by
  unfold FG at h;have:HA 0 12 11 0 fun(b:Int)(c:Fp)=>[(5,.xo 1 (List.map eI c)),(12,.tv (eI b))]:=⟨⟩;exact nz)
instance c42(a:AG):Ct prog (E2 a) 42 [Bc a] (fun r=>.sh (Bc r)):=Fj f42 0x91655e02f911fc84f79d01db0ee49d825f5e0262f911fcd09d035010c93f3f0ef30ec810c9f5 [.Aaz [.w 9,.w 13],.Aaz [.g 14 0 2,.g 14 1 2,.z ⟨true,.list 1 []⟩]] [.cell 2 (some 3)] (h:=fun r h d e=>by
  unfold E2 at h;have:HA 0 19 18 0 fun(c:Int)(b:AG)=>[(3,.bx [⟨true,lI b.d5.d3⟩,⟨true,lE b.d5.d4⟩,⟨true,(eL 1 lI) b.gn⟩]),(19,.tv (eI c))]:=⟨⟩;exact nz)
instance c11(t:AC)(a:List hT)(d:AY):Ct prog (C7 t a d) 11 [AQ t,(eL 25 B3) a,C2 d] (fun r=>.tp [Bc r.1,Ap r.2.1,eI r.2.2]):=Fj f11 0xb6023b819291360e65c3b604252423c3b607840c013b929104460e7d22425c0e6e224255651f42ec11c926442643c3b60462252423c3b60790819291de10c90eeb326532379291e54610dc01821171c1bc01de10c96130 [] [.cell 6 (some 3),.cell 7 (some 2),.tmp 8] (h:=fun r h e f=>by
  unfold C7 at h;have:HA 0 37 36 0 fun(c:Int)(b:AG×d6)=>[(12,.bx [⟨false,lI b.1.d5.d3⟩,⟨false,lE b.1.d5.d4⟩,⟨false,(eL 1 lI) b.1.gn⟩]),(13,.bx [⟨false,lI b.2.d3⟩,⟨false,lI b.2.d4⟩]),(37,.tv (eI c))]:=⟨⟩;exact nz)
instance wg(t:AC)(p:d5)(g:d5)(a:Bool):Ct prog (KM t p g a) 220 [AQ t,Am p,Am g,eB a] (fun r=>.tp [(eL 2 Ap) r.1,eI r.2]):=Fj f220 0x81826b0e0111469e8002c078369eb340936131 [] [.tmp 8,.tmp 9] (h:=fun r h b c=>by
  unfold KM at h;exact nz)
instance vK(t:AC)(p:ec)(b:AG)(a:Bool):Ct prog (E0 t p b a) 144 [AQ t,A9 p,Bc b,eB a] (fun r=>.tp [(eL 3 BW) r.1,eI r.2]):=Fj f144 0x81f40d012827260d060506842827260d0605062827260d0605063c02034803470946bc0264e036658d92de3602430de82827260d060506908103c03703c070e001b1b18003c078658d36e540936131 [] [.tmp 8,.tmp 9] (h:=fun r h e f=>by
  unfold E0 at h;have:HA 0 40 39 0 fun(c:Int)(d:List AM)=>[(13,.ow ((eL 3 BW) d)),(40,.tv (eI c))]:=⟨⟩;exact nz)
instance c91(t:AC)(b:hT)(a:AG):Ct prog (Fy t b a) 91 [AQ t,B3 b,Bc a] (fun r=>.tp [(eL 3 BW) r.1,eI r.2]):=Fj f91 0x81f40b012625240bcc07842625240bcc072625240bcc073c0203480347650264ec1149716565d436910fc9cf430be82625240bcc07908103c03703c070e0030f42658db88003c07865d436e540939f [] [.tmp 6,.tmp 7] (h:=fun r h e f=>by
  unfold Fy at h;have:HA 0 38 37 0 fun(c:Int)(d:List AM)=>[(11,.ow ((eL 3 BW) d)),(38,.tv (eI c))]:=⟨⟩;exact nz)
instance c50(t:AC)(a:List hT)(b:AG):Ct prog (D6 t a b) 50 [AQ t,(eL 25 B3) a,Bc b] (fun r=>.tp [(eL 4 Ft) r.1,eI r.2]):=Fj f50 0x81f4080111100f080503068411100f0805030622212011100f090805030a840204480447124665b3910fc9cf4311100f080503066222212011100f090805030a90f204c070e065d436194b810cc9d4197e08e811100f08050306908104c0e4406130 [] [.tmp 6,.tmp 7] (h:=fun r h g i=>by
  unfold D6 at h;have:HA 0 17 16 0 fun(d:Int)(f:List C4)=>[(8,.ow ((eL 4 Ft) f)),(17,.tv (eI d))]:=⟨⟩;have:HA 2 34 33 0 fun(e:Int)(c:List C4)=>[(8,.ow ((eL 4 Ft) c)),(34,.tv (eI e))]:=⟨⟩;exact nz)
instance c17(t:AC)(b:List hT)(d:AG)(a:Fp):Ct prog (E1 t b d a) 17 [AQ t,(eL 25 B3) b,Bc d,lI a] (fun r=>.tp [C2 r.1,eI r.2]):=Fj f17 0x81d2c10b08022423220b0806040108841106023b91f7034203591f5a04480447045804034237d20113468501123d01ec11c971c165bcd213c9c1c605383872ff0b0802640beed20113dce065bc815f0b0802622423220b08060401089081045014c93f0e6537d21346d5eed20113dc0e65bc0114c9bf933102 [.Aby (.s 2),.Aaz [.v (.s 32) 0 3,.v (.s 32) 1 3,.v (.s 32) 2 3,.z ⟨true,.list 4 []⟩]] [.cell 8 (some 4),.tmp 9] (h:=fun r h f g=>by
  unfold E1 at h;have:HA 0 36 35 0 fun(e:Int)(c:AG×AY×AY)=>[(6,.bx [⟨false,lI c.1.d5.d3⟩,⟨false,lE c.1.d5.d4⟩,⟨false,(eL 1 lI) c.1.gn⟩]),(8,.bx [⟨true,lI c.2.1.o3.d5.d3⟩,⟨true,lE c.2.1.o3.d5.d4⟩,⟨true,(eL 1 lI) c.2.1.o3.gn⟩,⟨true,(eL 4 Ft) c.2.1.kg⟩]),(11,.bx [⟨false,lI c.2.2.o3.d5.d3⟩,⟨false,lE c.2.2.o3.d5.d4⟩,⟨false,(eL 1 lI) c.2.2.o3.gn⟩,⟨true,(eL 4 Ft) c.2.2.kg⟩]),(36,.tv (eI e))]:=⟨⟩;exact nz)
instance u7(n:Int)(a:Int):Ct prog (GH n a) 130 [eI n,.pt [eI a]] (fun r=>.sh (eB r)):=Fj f130 0xa2a90531e7 [] [.tmp 3] (h:=fun r h b c=>by
  unfold GH at h;exact nz)
instance c81(l:Fp)(a:Int):Ct prog (Cg l a) 81 [lI l,eI a] (fun r=>.sh (eB r)):=Fj f81 0x810e103093bd [] [.tmp 4] (h:=fun r h b c=>by
  unfold Cg at h;exact nz)
instance c84(l:Fp):Ct prog (Dc l) 84 [lI l] (fun r=>.sh (eS r)):=Fj f84 0x813f0131b4030484b403043c01063f0e30b403043c01063f0e0930645f3162b403049081bf3fbd [.mv (.c (.str ⟨#[]⟩)),.mv (.c (.str ⟨#[40]⟩)),.bin (.s) .add (.c (.str ⟨#[32,45,32]⟩)) (.s 17),.bin (.s) .add (.c (.str ⟨#[32]⟩)) (.s 22),.bin (.s) .add (.s 26) (.c (.str ⟨#[32,41]⟩))] [.tmp 2] (h:=fun r h d e=>by
  unfold Dc at h;have:HA 0 8 7 0 fun(b:Int)(a:ByteArray)=>[(3,.tv (eS a)),(8,.tv (eI b))]:=⟨⟩;exact nz)
instance i37(d:AY):Ct Go.Proofs.Tryz.prog (H5 d) 37 [C2 d] (fun r=>.tp [eS r.1,eI r.2]):=⟨XP (fun l low b h=>(inferInstance:Ct _ (Cg l low) _ _ fun r=>.sh (eB r)).snd b h) (fun i s h=>(inferInstance:Ct _ (strconv_Itoa i) _ _ fun r=>.sh (eS r)).snd s h) (fun l s h=>(inferInstance:Ct _ (Dc l) _ _ fun r=>.sh (eS r)).snd s h) d⟩
end Go.Sf.Sc
