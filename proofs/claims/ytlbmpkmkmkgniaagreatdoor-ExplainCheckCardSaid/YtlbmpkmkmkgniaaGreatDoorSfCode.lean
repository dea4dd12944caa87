/- Code, and functions. -/
import Derived.Test.YtlbmpkmkmkgniaaGreatDoorSfReg
set_option linter.all false
namespace Go.Sf
open Go.RowKit (Below)
def FU (P:Program) (N:Nat) (D:ci->Array Oper->List PR->Bool):PC->Code->Bool
 | .skip _,.skip=>true
 | .ret,.ret=>true
 | .exit i _,.exit j=>i==j
 | .seq a b,.seq c d=>FU P N D a c&&FU P N D b d
 | .cond c a b,.cond x p q=>AP x c&&(FU P N D a p&&FU P N D b q)
 | .block i c,.block j d=>i==j&&FU P N D c d
 | .loop _ c,.loop d=>FU P N D c d
 | .region rs _,.region _ ops draw=>!draw&&Lw P N ops ops.toList rs
 | .draw ds rs _,.region _ ops draw=>draw&&D ds ops rs
 | .rls _ a,c=>FU P N D a c
 | .bad,_=>true
 | _,_=>false
def PC.noClm:PC->Bool
 | .seq a b=>a.noClm&&b.noClm
 | .cond _ a b=>a.noClm&&b.noClm
 | .block _ c=>c.noClm
 | .loop _ c=>c.noClm
 | .rls _ c=>c.noClm
 | _=>true
def noDst (i:Nat) (rs:List PR):Bool:=rs.all fun r=>r.dst != some i
def PC.noDst (i:Nat):PC->Bool
 | .seq a b=>a.noDst i&&b.noDst i
 | .cond _ a b=>a.noDst i&&b.noDst i
 | .block _ c=>c.noDst i
 | .loop _ c=>c.noDst i
 | .rls _ c=>c.noDst i
 | .region rs _=>Go.Sf.noDst i rs
 | .draw _ rs _=>Go.Sf.noDst i rs
 | _=>true
theorem T9 {i:Nat} {b:List PR} (h:noDst i b=true):∀ r∈b,r.dst≠some i:=by
 intro r c;have:=List.all_eq_true.1 h r c;simpa using this
section
variable {P:Program} {F0:Nat->Nat->Prop} {w0:W0} {N:Nat} {p:Option (Nat × Value)} {D:ci->Array Oper->List PR->Bool}
theorem DI.envWF {O:AD} {a:Act} {w:World} (h:DI F0 w0 O a w):∀ s,(O.get s).WF:=by
 obtain ⟨G,h⟩:=h;exact h.wf
def PG (P:Program) (N:Nat) (D:ci->Array Oper->List PR->Bool):Prop:=
 ∀ (F0:Nat->Nat->Prop) (w0:W0) (p:Option (Nat × Value)) (id:Nat) (ds:ci) (ops:Array Oper) (rs:List PR) (live:ci) (O:AD) (a:Act) (w:World) (K:AD->Prop) (Q:Exit->Act->World->Prop),D ds ops rs=true->(∀ i v,p=some (i,v)->∀ r∈rs,r.dst≠some i)->MX N p a->DI F0 w0 O a w->P3 O ds=true->wpOps (AT P) (fun e=>K (e.keep live)) rs O ->
  (∀ O a w,K O->MX N p a->DI F0 w0 O a w->Q .normal a w)->(Code.region id ops true).wp P Q a w
theorem Tg (hD:PG P N D):∀ (T:PC) (c:Code),FU P N D T c=true->((∀ b o,¬ w0.E b o)∨T.noClm=true)->(∀ i v,p=some (i,v)->T.noDst i=true)->∀ (q:Q) (t:Exit->Act->World->Prop),
  (∀ O a w,q.normal O->MX N p a->DI F0 w0 O a w->t .normal a w)->(∀ i O a w,q.exit i O->MX N p a->DI F0 w0 O a w->t (.exit i) a w)->(∀ O a w,q.ret O->MX N p a->DI F0 w0 O a w->t .ret a w) ->
  ∀ O a w,MX N p a->DI F0 w0 O a w->T.wp (AT P) q O->c.wp P t a w:=by
 intro T
 induction T with
 | skip l=>
  intro c f F m q t z A B O a w n g h;cases c <;> simp only [FU] at f <;> first | exact Go.wp_skip (z _ a w h n (g.keep l)) | cases f
 | ret=>
  intro c f F m q t z A B O a w n g h;cases c <;> simp only [FU] at f <;> first | exact Go.wp_ret (B O a w h n g) | cases f
 | exit i l=>
  intro c f F m q t z A B O a w n g h;cases c <;> simp only [FU] at f <;> first | cases f | skip
  simp only [beq_iff_eq] at f;subst f;exact Go.wp_exit (A i _ a w h n (g.keep l))
 | seq x y R S=>
  intro c f F m q t z A B O a w n g h;cases c <;> simp only [FU] at f <;> first | cases f | skip
  rename_i c d;simp only [zzZ] at f;have I:=F.imp id (fun e=>(zzZ _ _ ▸ e:x.noClm=true∧y.noClm=true));have J:=fun i v C=>(zzZ _ _ ▸ m i v C:x.noDst i=true∧y.noDst i=true);refine Go.wp_seq (R c f.1 (I.imp id And.left) (fun i v C=>(J i v C).1) _ _ ?_ ?_ ?_ O a w n g h)
  ·intro O a w H n g;exact S d f.2 (I.imp id And.right) (fun i v C=>(J i v C).2) q t z A B O a w n g (H g.envWF)
  ·exact A
  ·exact B
 | cond o x y R S=>
  intro c f F m q t z A B O a w n g h;cases c <;> simp only [FU] at f <;> first | cases f | skip
  rename_i c d e;simp only [zzZ] at f;simp only [PC.wp] at h;split at h
  ·rename_i b L;have hc:a.eval c=.bool b:=by
    obtain ⟨G,g⟩:=g;have:=(BR g f.1 L).1;simpa only [A7] using this
   have I:=F.imp id (fun e=>(zzZ _ _ ▸ e:x.noClm=true∧y.noClm=true));have J:=fun i v C=>(zzZ _ _ ▸ m i v C:x.noDst i=true∧y.noDst i=true);refine Go.wp_cond_split hc (fun L=>?_) (fun L=>?_)
   ·exact R d f.2.1 (I.imp id And.left) (fun i v C=>(J i v C).1) q t z A B O a w n g (h.1 L)
   ·exact S e f.2.2 (I.imp id And.right) (fun i v C=>(J i v C).2) q t z A B O a w n g (h.2 L)
  ·exact h.elim
 | block i x X=>
  intro c f F m q t z A B O a w n g h;cases c <;> simp only [FU] at f <;> first | cases f | skip
  rename_i j d;simp only [zzZ,beq_iff_eq] at f;obtain ⟨rfl,f⟩:=f;refine Go.wp_block (X d f F m _ _ ?_ ?_ ?_ O a w n g h)
  ·exact z
  ·intro k O a w H n g;simp only [Exit.inBlock];simp only at H;split
   ·rename_i e; rw [d1 e] at H; exact z O a w H n g
   ·rename_i e; rw [d2 e] at H; exact A k O a w H n g
  ·exact B
 | loop u x X=>
  intro c f F m q t z A B O a w n g h;cases c <;> simp only [FU] at f <;> first | cases f | skip
  rename_i c;simp only [PC.wp] at h
  let Y:Act->World->Prop:=fun a w=>∀ (b:Frame) (k:List Item) (cs:List Frame),∃ e Z w',t e Z w'∧Arrives P (lone (b.at a (.code c::.inLoop c::k)) cs w) b k cs e Z w'
  have hX:=h (fun e=>∀ a w,MX N p a->DI F0 w0 e a w->Y a w) ?_ a w n (g.keep u)
  ·intro b k cs;obtain ⟨e,Z,w',K,r⟩:=hX b k cs;exact ⟨e,Z,w',K,.of_steps (.one step_loop) r⟩
  ·intro e he a w n g;have L:c.wp P (Exit.then Y t) a w:=by
    refine X c f F m _ _ ?_ ?_ ?_ e a w n g (he g.envWF)
    ·intro O a w H n g;exact H a w n (g.keep u)
    ·exact A
    ·exact B
   intro b k cs;obtain ⟨e,V,W,K,r⟩:=L b (.inLoop c::k) cs;cases e with
   | normal=>
    obtain ⟨e₂,a₂,w₂,hq₂,M⟩:=K b k cs;exact ⟨e₂,a₂,w₂,hq₂,.of_steps (Steps.trans r (.one step_inLoop)) M⟩
   | exit id=>exact ⟨_,V,W,K,.pass (x:=.inLoop c) rfl (fun _ _=>.inl (by simp)) r⟩
   | goto l=>exact ⟨_,V,W,K,.pass (x:=.inLoop c) rfl (fun _ _=>.inl (by simp)) r⟩
   | ret=>exact ⟨_,V,W,K,.pass (x:=.inLoop c) rfl (fun _ _=>.inl (by simp)) r⟩
   | panic ch=>exact ⟨_,V,W,K,.pass (x:=.inLoop c) rfl (fun _ _=>.inl (by simp)) r⟩
   | outgrown=>exact ⟨_,V,W,K,.pass (x:=.inLoop c) rfl (fun _ _=>.inl (by simp)) r⟩
 | region rs u=>
  intro c f F m q t z A B O a w n g h;cases c <;> simp only [FU] at f <;> first | cases f | skip
  rename_i id ops draw;simp only [zzZ,Bool.not_eq_true'] at f;obtain ⟨rfl,f⟩:=f;exact XE f (fun i v C=>T9 (m i v C)) n g h fun O a w H n g=>z _ a w H n (g.keep u)
 | draw ds rs u=>
  intro c f F m q t z A B O a w n g h;cases c <;> simp only [FU] at f <;> first | cases f | skip
  rename_i id ops draw;simp only [zzZ] at f;obtain ⟨rfl,f⟩:=f;exact hD F0 w0 p id ds ops rs u O a w q.normal t f (fun i v C=>T9 (m i v C)) n g h.1 h.2 z
 | bad=>
  intro c f F m q t z A B O a w n g h;exact h.elim
 | rls s x X=>
  intro c f F m q t z A B O a w n g h;have U:FU P N D x c=true:=by
   cases c <;> simpa only [FU] using f
  simp only [PC.wp] at h;split at h
  ·rename_i cs hs;obtain ⟨G,g⟩:=g;exact X c U (F.imp id fun e=>e) m q t z A B _ a w n (g.rls hs) h
  ·exact h.elim
def Ke:Nat->QQ->AD
 | _,[]=>[]
 | k,t::ts=>(k,.tv t)::Ke (k+1) ts
theorem KN:∀ (b:QQ) (k n:Nat),AD.get (Ke k b) n=if k<=n then (match b[n - k]? with | some t=>.tv t | none=>.undef) else .undef
 | [],k,n=>by simp [Ke,AD.get]
 | t::b,k,n=>by
  rw [Ke,AD.get_cons,KN b (k+1) n];by_cases h:k=n
  ·subst h; simp
  ·rw [d2 h];by_cases c:k<=n
   ·rw [d1 c,d1 (by omega),show n - k=(n - (k+1))+1 from by omega,List.getElem?_cons_succ]
   ·rw [d2 c,d2 (by omega)]
theorem DI.start {w:World} {F0:Nat->Nat->Prop} {c:QQ} {vs:Array Value} (h:AS w F0 c vs.toList) (i:TV.WFs c) {n:Nat}:DI F0 (W0.mk w fun _ _=>False) (Ke 0 c) { tmps:=vs++Array.replicate n undef,defers:=[] } w:=by
 have l:=CN h;simp only [Array.length_toList] at l;refine ⟨fun _ _=>none,by simp,by simp,⟨rfl,rfl,rfl,d3 _,fun _ _ _=>rfl,fun _ _ _ _ h=>h,fun _ _ _ h=>h.elim⟩,rfl,fun s g=>?_,fun s g=>?_,fun s=>?_⟩
 ·rw [KN];simp only [Array.size_append,Array.size_replicate] at g;rw [d1 (Nat.zero_le _),List.getElem?_eq_none (by omega)]
 ·rw [KN,d1 (Nat.zero_le _),Nat.sub_zero];cases d:c[s]? with
  | none=>trivial
  | some t=>
   have e:s<vs.size:=by
    have:=(List.getElem?_eq_some_iff.1 d).1; omega
   have hv:vs.toList[s]?=some (slot { tmps:=vs++Array.replicate n undef,defers:=[] } s):=by
    simp [slot,Array.getD_eq_getD_getElem?,Array.getElem?_append,e]
   refine DG (fun b o u j k=>⟨j,?_⟩) _ _ (((CP _ _).1 h).2 s t _ d hv);rintro (f | ⟨_,_,_,f,_⟩)
   ·exact k f.2
   ·cases f
 ·rw [KN,d1 (Nat.zero_le _),Nat.sub_zero];cases d:c[s]? with
  | none=>trivial
  | some t=>exact CU.1 i t (List.mem_of_getElem? d)
def O3 (P:Program):ResultVar->RV->Bool
 | .tmp t,.tmp s=>t==s
 | .cell x t,.cell s none=>x==s&&DR P t==some false
 | .cell x t,.cell s (some n)=>x==s&&DR P t==some true&&FH P t==some n
 | _,_=>false
def JE (P:Program):List ResultVar->List RV->Bool
 | [],[]=>true
 | x::xs,y::ys=>O3 P x y&&JE P xs ys
 | _,_=>false
def Ix (tmps:Array Value):ResultVar->Sem Value
 | .tmp t=>pure (tmps.getD t undef)
 | .cell a t=>do loadVar t (←asAddr (tmps.getD a undef))
variable {O:AD} {a:Act} {w:World} {G:DP}
theorem Vs (j:AZ F0 w0 O a w G) {x:ResultVar} {y:RV} (c:O3 P x y=true) {t:TV} (h:y.get O=some t):∃ v,(Ix a.tmps x).run P w=.ok v w∧A7 w (A3 w0.heap.size F0 G) t v∧t.WF:=by
 have d:∀ s,AP (.tmp s) (.s s)=true:=fun s=>by simp [AP]
 cases x with
 | tmp s=>
  cases y with
  | tmp s'=>
   simp only [O3,beq_iff_eq] at c;subst c;have:=BR j (d s) (t:=t) h;exact ⟨slot a s,rfl,this⟩
  | cell s' n=>cases n <;> simp [O3] at c
 | cell s ty=>
  cases y with
  | tmp _=>cases c
  | cell s' n=>
   cases n with
   | none=>
    simp only [O3,zzZ,beq_iff_eq] at c;obtain ⟨rfl,m⟩:=c;simp only [RV.get] at h;split at h
    ·rename_i u r k;simp only [zzY] at h;subst h;obtain ⟨b,e,vs,o,i,q,_,z⟩:=PI j (d s) (y:=.s s) k;simp only [AS] at i;obtain ⟨v,I,rfl,F,J⟩:=i;have B:=z 0 v rfl;rw [Addr.add_zero'] at B;have g:a.tmps.getD s undef=.pointer (some ⟨b,e,none⟩):=o;refine ⟨v,?_,F,q.1⟩;simp [Ix,g,loadVar,FQ m,B,asAddr]
    ·cases h
   | some n=>
    simp only [O3,zzZ,beq_iff_eq] at c;obtain ⟨⟨rfl,m⟩,H⟩:=c;simp only [RV.get] at h;split at h
    ·rename_i cs k;split at h
     ·rename_i l;simp only [zzY] at h;subst h;obtain ⟨b,e,vs,o,i,q,A,z⟩:=PI j (d s) (y:=.s s) k;have E:=CN i;have f:=run_loadCells_list (P:=P) w ⟨b,e,none⟩ vs z;rw [E,l] at f;have g:a.tmps.getD s undef=.pointer (some ⟨b,e,none⟩):=o;refine ⟨.agg vs.toArray,?_,?_,q⟩
      ·simp [Ix,g,loadVar,FQ m,D7 H,f,asAddr]
      ·simp only [A7];exact ⟨_,rfl,i,by rw [List.all_eq_true]; exact fun x C=>A x C⟩
     ·cases h
    ·cases h
theorem MU (e:AZ F0 w0 O a w G):∀ {xs:List ResultVar} {d:List RV},JE P xs d=true->∀ {c:QQ},KF O d=some c->∃ vs,(xs.mapM (Ix a.tmps)).run P w=.ok vs w∧AS w (A3 w0.heap.size F0 G) c vs∧TV.WFs c
 | [],[],_,c,h=>by simp [KF] at h; subst h; exact ⟨[],by simp,rfl,trivial⟩
 | [],_::_,b,_,_=>by simp [JE] at b
 | _::_,[],b,_,_=>by simp [JE] at b
 | x::xs,y::d,b,c,h=>by
  simp only [JE,zzZ] at b;simp only [KF] at h;split at h
  ·rename_i t o f g;simp only [zzY] at h;subst h;obtain ⟨v,i,j,k⟩:=Vs e b.1 f;obtain ⟨vs,l,m,n⟩:=MU e b.2 g;exact ⟨v::vs,by simp [List.mapM_cons,i,l],⟨v,vs,rfl,j,m⟩,k,n⟩
  ·cases h
theorem KE {f:ResultVar->Sem Value} {xs:Array ResultVar} {vs:List Value} {w':World} (h:(xs.toList.mapM f).run P w=.ok vs w'):(xs.mapM f).run P w=.ok vs.toArray w':=by
 rw [←Array.toArray_toList (xs:=xs),List.mapM_toArray];simp [h]
theorem AS.toA {F:Nat->Nat->Prop} {b:QQ} {vs:List Value} (h:AS w F b vs):AS w F b vs.toArray.toList:=by simpa using h
theorem Xy (F:AZ F0 w0 O a w G) (hE:∀ b o,¬ w0.E b o) {q:Func} {k:List RV} (f:JE P q.results.toList k=true) {r:CS} (U:r.plain=true) (h:E7 k r O) :
  ∃ v,(results q a.tmps).run P w=.ok v w∧Jx w (fun b o=>b<w0.heap.size∧F0 b o) w0.heap.size r v∧r.WF:=by
 have B:∀ C,KF O k=some C->∃ vs:List Value,(q.results.mapM (Ix a.tmps)).run P w=.ok vs.toArray w∧AS w (A3 w0.heap.size F0 G) C vs∧TV.WFs C:=by
  intro C hts;obtain ⟨vs,K,H,S⟩:=MU (P:=P) F f hts;exact ⟨vs,KE K,H,S⟩
 have g:(results q a.tmps)=(q.results.mapM (Ix a.tmps) >>= fun vs=>pure (if h:vs.size=1 then vs[0] else .tuple vs)):=by
  unfold results;congr 1
 have W:DW w w (A3 w0.heap.size F0 G) (fun b o=>b<w0.heap.size∧F0 b o):=fun b o u M Q=>⟨M,fun hF'=>Q (.inl hF')⟩;cases r with
 | sh t=>
  have m:∃ x,k=[x]∧x.get O=some t:=by
   rcases k with _ | ⟨x,_ | ⟨y,k⟩⟩ <;> simp [E7] at h;exact ⟨x,rfl,h⟩
  obtain ⟨x,rfl,R⟩:=m;obtain ⟨vs,K,H,S⟩:=B [t] (by simp [KF,R]);simp only [AS] at H;obtain ⟨v,r',rfl,e4,rfl⟩:=H;refine ⟨v,?_,DG W _ _ e4,S.1⟩;rw [g];simp [K]
 | own t=>
  have m:∃ s,k=[.tmp s]∧O.get s=.ow t:=by
   rcases k with _ | ⟨x,_ | ⟨y,k⟩⟩
   ·simp [E7] at h
   ·cases x <;> simp [E7] at h;exact ⟨_,rfl,h⟩
   ·simp [E7] at h
  obtain ⟨s,rfl,J⟩:=m;obtain ⟨vs,K,H,S⟩:=B [t] (by simp [KF,RV.get,J,EV.val]);have hr:O3 P (.tmp s) (.tmp s)=true:=by simp [O3]
  have z:=A9 F J (by simp);have A:=F.wf s;rw [J] at A;simp only [AY] at z;have l:q.results.toList=[.tmp s]:=by
   rcases R:q.results.toList with _ | ⟨x,_ | ⟨y,xs⟩⟩ <;> rw [R] at f
   ·simp [JE] at f
   ·cases x <;> simp [JE,O3] at f;rw [f]
   ·simp [JE] at f
  have hv:(results q a.tmps).run P w=.ok (slot a s) w:=by
   rw [g];have X:(q.results.mapM (Ix a.tmps)).run P w=.ok [slot a s].toArray w:=by
    refine KE ?_;rw [l];simp [List.mapM_cons,Ix,slot]
   simp [X]
  refine ⟨slot a s,hv,⟨G s none,z.kept (fun b o u M Q=>⟨M,?_⟩) (fun _ _ _=>rfl),fun b lo V=>?_⟩,A⟩
  ·rintro (m | ⟨lo,m,I⟩)
   ·exact Q (.inl m)
   ·exact Q (.inr ⟨s,none,lo,m,I⟩)
  ·have:=F.lt _ _ _ _ V;exact ⟨this.2.resolve_right (fun e=>hE _ _ (e _ (d3 _))),this.1⟩
 | tp C=>
  simp only [E7] at h;have hne:k.length≠1:=by
   rcases k with _ | ⟨x,_ | ⟨y,k⟩⟩ <;> simp_all
  have I:KF O k=some C:=by
   rcases k with _ | ⟨x,_ | ⟨y,k⟩⟩ <;> simp_all
  obtain ⟨vs,K,H,S⟩:=B C I;have Y:vs.length≠1:=by
   rw [CN H];have:∀ (k:List RV) (C:QQ),KF O k=some C->C.length=k.length:=by
    intro k
    induction k with
    | nil=>intro C h; simp [KF] at h; subst h; rfl
    | cons y k ih=>
     intro C h;simp only [KF] at h;split at h
     ·rename_i m I;simp only [zzY] at h;subst h;simp [ih _ I]
     ·cases h
   rw [this _ _ I]; exact hne
  refine ⟨.tuple vs.toArray,?_,⟨vs.toArray,rfl,(BP W _ _ H).toA⟩,S⟩;rw [g];simp [K,Y]
 | xown n es=>
  have m:∃ s,k=[.tmp s]∧O.get s=.xo n es:=by
   rcases k with _ | ⟨x,_ | ⟨y,k⟩⟩
   ·simp [E7] at h
   ·cases x <;> simp [E7] at h;exact ⟨_,rfl,h⟩
   ·simp [E7] at h
  obtain ⟨s,rfl,J⟩:=m;have z:=A9 F J (by simp);have A:=F.wf s;rw [J] at A;simp only [AY] at z;obtain ⟨xs,⟨z0,k1,k2⟩,k3,k4,k5⟩:=z;have l:q.results.toList=[.tmp s]:=by
   rcases R:q.results.toList with _ | ⟨x,_ | ⟨y,xs⟩⟩ <;> rw [R] at f
   ·simp [JE] at f
   ·cases x <;> simp [JE,O3] at f;rw [f]
   ·simp [JE] at f
  have hv:(results q a.tmps).run P w=.ok (slot a s) w:=by
   rw [g];have X:(q.results.mapM (Ix a.tmps)).run P w=.ok [slot a s].toArray w:=by
    refine KE ?_;rw [l];simp [List.mapM_cons,Ix,slot]
   simp [X]
  refine ⟨slot a s,hv,⟨z0,xs,k1,BP (fun b o u M hf=>⟨M,fun hf'=>hf ?_⟩) _ _ k3,k4,k5,fun b lo V=>?_⟩,A⟩
  ·rcases hf' with h6 | ⟨lo,h6⟩
   ·exact .inl h6
   ·exact .inr ⟨s,none,0,by rw [k2,h6]; rfl,Nat.zero_le _⟩
  ·have:=F.lt s none b 0 (by rw [k2,V]; rfl);exact ⟨this.2.resolve_right (fun e=>hE _ _ (e _ (d3 _))),this.1⟩
 | turn zs=>exact h.elim
 | cut zs=>exact h.elim
 | bo _ _ _ _=>cases U
 | ext _=>cases U
 | oag cs=>
  have m:∃ s n,k=[.cell s (some n)]∧O.get s=.bx cs∧cs.length=n:=by
   rcases k with _ | ⟨x,_ | ⟨y,k⟩⟩
   ·simp [E7] at h
   ·rcases x with s | ⟨s,_ | n⟩
    ·simp [E7] at h
    ·simp [E7] at h
    ·exact ⟨s,n,rfl,h⟩
   ·rcases x with s | ⟨s,_ | n⟩ <;> simp [E7] at h
  obtain ⟨s,n,rfl,J,hn⟩:=m;have Z:=A9 F J (by simp);have A:=F.wf s;rw [J] at A;simp only [AY] at Z;obtain ⟨b,c,T,k1,k2,k3,k4,k5⟩:=Z;have l:∃ ty,q.results.toList=[.cell s ty]∧DR P ty=some true∧FH P ty=some n:=by
   rcases R:q.results.toList with _ | ⟨x,_ | ⟨y,xs⟩⟩ <;> rw [R] at f
   ·simp [JE] at f
   ·cases x <;> simp [JE,O3] at f;obtain ⟨⟨rfl,m⟩,I⟩:=f;exact ⟨_,rfl,m,I⟩
   ·simp [JE] at f
  obtain ⟨ty,l,hag',hcn⟩:=l;have hv:(results q a.tmps).run P w=.ok (.agg c) w:=by
   rw [g];have L:=run_loadCells_list (P:=P) w ⟨b,0,none⟩ c.toList (fun j v hv=>by
    have:=cell_of_row w b j c T (0,0) k2;rw [show ((⟨b,0,none⟩:Addr).add j)=⟨b,j,none⟩ by simp [Addr.add]; omega,this];simpa using hv)
   rw [Array.length_toList,k3,hn] at L;have h1':a.tmps.getD s undef=.pointer (some ⟨b,0,none⟩):=k1;have X:(q.results.mapM (Ix a.tmps)).run P w=.ok [.agg c].toArray w:=by
    refine KE ?_;rw [l];simp [List.mapM_cons,Ix,h1',loadVar,FQ hag',D7 hcn,L,asAddr]
   simp [X]
  refine ⟨.agg c,hv,⟨c,fun i=>G s (some i),rfl,k3,fun i d hd=>?_,fun i j b' lo lo' K H=>?_,fun i b' lo V=>?_⟩,A⟩
  ·obtain ⟨x,j1,j2⟩:=k5 i d hd;refine ⟨x,j1,j2.kept (fun b o u M Q=>⟨M,?_⟩) (fun _ _ _=>rfl),MN j2⟩;rintro (m | ⟨j,lo,m,I⟩)
   ·exact Q (.inl m)
   ·exact Q (.inr ⟨s,some j,lo,m,I⟩)
  ·have:=(F.uniq _ _ _ _ _ _ _ K H).2;simpa using this
  ·have:=F.lt _ _ _ _ V;exact ⟨this.2.resolve_right (fun e=>hE _ _ (e _ (d3 _))),this.1⟩
theorem cN {f : FuncId} {fn : Func} {c : Code} {pl : PC} {rv : List RV} (hD : PG P fn.ntmps D) (hf : P.funcs[f]? = some fn) (hb : fn.body = some c) (hname : fn.name ≠ "runtime.NumGoroutine") (hok : FU P fn.ntmps D pl c = true) (hrv : JE P fn.results.toList rv = true)
  {args:QQ} (hn:args.length<=fn.ntmps) {r:CS} (hp:r.plain=true) (h:TV.WFs args->pl.wp (AT P) ⟨E7 rv r,fun _ _=>False,E7 rv r⟩ (Ke 0 args)):AT P f args r:=by
 refine AT.of0 ?_ hp;intro hw;refine ⟨by simp [GV,hf,hb,hname],fun F0 w vs hrep=>?_⟩;have hl:=CN hrep;simp only [Array.length_toList] at hl;have hcalls:Calls P f vs w fun e w'=>(∃ v,e=.returned v∧Below w.heap.size w w'∧Jx w' (fun b o=>b<w.heap.size∧F0 b o) w.heap.size r v)∧r.WF:=by
  refine calls_of_wp hf hb ?_;have fin:∀ (O:AD) (a:Act) (w':World),E7 rv r O->MX fn.ntmps none a->DI F0 (W0.mk w fun _ _=>False) O a w'->a.defers=[]∧∃ v,(results fn a.tmps).run P w'=.ok v w'∧((∃ v',Ending.returned v=.returned v'∧Below w.heap.size w w'∧Jx w' (fun b o=>b<w.heap.size∧F0 b o) w.heap.size r v')∧r.WF):=by
   intro O a w' hr hN ⟨G,hI⟩;obtain ⟨v,e1,e2,e3⟩:=Xy (P:=P) hI (fun _ _ h=>h) hrv hp hr;exact ⟨hI.defers,v,e1,⟨v,rfl,⟨hI.below.os,hI.below.tape,hI.below.output,hI.below.size,fun k hk=>hI.below.block k hk (fun _ h=>h)⟩,e2⟩,e3⟩
  refine Tg (p:=none) hD pl c hok (.inl fun _ _ h=>h) (by simp) _ _ ?_ ?_ ?_ _ _ w ?_ (DI.start hrep hw) (h hw)
  ·exact fun O a w' h1 h2 h3=>fin O a w' h1 h2 h3
  ·exact fun i O a w' h1 _ _=>h1.elim
  ·exact fun O a w' h1 h2 h3=>fin O a w' h1 h2 h3
  ·exact ⟨by simp only [Array.size_append,Array.size_replicate]; omega,by simp⟩
 refine ⟨?_,hcalls.mono fun e w' h=>h.1⟩;obtain ⟨_,_,_,h1,_⟩:=hcalls [];exact h1.2
theorem DI.startB {w:World} {F0:Nat->Nat->Prop} {zs:Option Nat->Option (Nat × Nat)} {f:QQ} {vs:Array Value} {cs:List A1} {i:Nat} {v:Value} (h:AS w (fun b o=>F0 b o∨ZF zs b o) f vs.toList) (U:TV.WFs f) (H:∀ c∈cs,c.t.WF)
  (hi:vs[i]?=some v) (V:Om w (fun b o=>F0 b o∨ZF zs b o) zs cs v) (I:∀ i Q b lo k,zs i=some (b,lo)->zs Q=some (b,k)->i=Q) (J:∀ i b lo,zs i=some (b,lo)->b<w.heap.size) (K:∀ b o W,ZF zs b o->¬ F0 b W) {n:Nat} :
  DI F0 (W0.mk w (ZF zs)) ((i,.bx cs)::Ke 0 f) { tmps:=vs++Array.replicate n undef,defers:=[] } w:=by
 have Z:=CN h;simp only [Array.length_toList] at Z;have m:i<vs.size:=(Array.getElem?_eq_some_iff.1 hi).1
 let G:DP:=fun s=>if s=i then zs else fun _=>none
 have C:∀ p j b lo,G p j=some (b,lo)->p=i∧zs j=some (b,lo):=by
  intro p j b lo B;simp only [G] at B;split at B
  ·rename_i e; exact ⟨e,B⟩
  ·cases B
 have q:DW w w (fun b o=>F0 b o∨ZF zs b o) (A3 w.heap.size F0 G):=by
  refine fun b o u X R=>⟨X,?_⟩;rintro (⟨_,A⟩ | ⟨p,j,lo,A,M⟩)
  ·exact R (.inl A)
  ·exact R (.inr ⟨j,lo,(C _ _ _ _ A).2,M⟩)
 have r:∀ s (g:s<vs.size),slot { tmps:=vs++Array.replicate n undef,defers:=[] } s=vs[s]:=by
  intro s g;simp [slot,Array.getD_eq_getD_getElem?,Array.getElem?_append,g]
 refine ⟨G,fun p j p' j' b lo k l L=>?_,fun p j b lo l=>?_,⟨rfl,rfl,rfl,d3 _,fun _ _ _=>rfl,fun _ _ _ _ h=>h,K⟩,rfl,fun s g=>?_,fun s g=>?_,fun s=>?_⟩
 ·obtain ⟨S,F⟩:=C _ _ _ _ l;obtain ⟨f3,f4⟩:=C _ _ _ _ L;exact ⟨by rw [S,f3],I _ _ _ _ _ F f4⟩
 ·obtain ⟨S,F⟩:=C _ _ _ _ l;exact ⟨J _ _ _ F,.inr fun o ho=>⟨j,lo,F,ho⟩⟩
 ·simp only [Array.size_append,Array.size_replicate] at g;rw [AD.get_cons,d2 (by omega),KN,d1 (Nat.zero_le _),List.getElem?_eq_none (by omega)]
 ·rw [AD.get_cons];by_cases y:i=s
  ·subst y;rw [d1 rfl,r i m];have hv:vs[i]=v:=by
    have:=Array.getElem?_eq_getElem m;rw [this] at hi; simpa using hi
   rw [hv];obtain ⟨b,c,T,A,M,h3,h4,h5⟩:=V;simp only [AY];refine ⟨b,c,T,A,M,h3,by simp only [G,if_true]; exact h4,fun j d Y=>?_⟩;obtain ⟨x,l,L⟩:=h5 j d Y;refine ⟨x,l,?_⟩;simp only [G,if_true];exact L.kept q (fun _ _ _=>rfl)
  ·rw [d2 y,KN,d1 (Nat.zero_le _),Nat.sub_zero];cases E:f[s]? with
   | none=>trivial
   | some t=>
    have z:s<vs.size:=by
     have:=(List.getElem?_eq_some_iff.1 E).1; omega
    have hv:vs.toList[s]?=some (slot { tmps:=vs++Array.replicate n undef,defers:=[] } s):=by
     rw [r s z]; simp [z]
    exact DG q _ _ (((CP _ _).1 h).2 s t _ E hv)
 ·rw [AD.get_cons];split
  ·exact H
  ·rw [KN,d1 (Nat.zero_le _),Nat.sub_zero];cases E:f[s]? with
   | none=>trivial
   | some t=>exact CU.1 U t (List.mem_of_getElem? E)
theorem aM {f : FuncId} {fn : Func} {c : Code} {pl : PC} {rv : List RV} (hD : PG P fn.ntmps D) (hf : P.funcs[f]? = some fn) (hb : fn.body = some c) (hname : fn.name ≠ "runtime.NumGoroutine") (hok : FU P fn.ntmps D pl c = true) (hrv : JE P fn.results.toList rv = true)
  {args:QQ} (hn:args.length<=fn.ntmps) {cs cs':List A1} {i:Nat} {us:QQ} (hcl:pl.noClm=true) (hdst:pl.noDst i=true) (h:TV.WFs args->(∀ c∈cs,c.t.WF)->pl.wp (AT P) ⟨E7 rv (.bo cs cs' i us),fun _ _=>False,E7 rv (.bo cs cs' i us)⟩ ((i,.bx cs)::Ke 0 args)):AT P f args (.bo cs cs' i us):=by
 intro hw hwc;refine ⟨by simp [GV,hf,hb,hname],fun F0 w vs v zs hrep hvi hbox hzu hzl hfree=>?_⟩;have hl:=CN hrep;simp only [Array.length_toList] at hl;have hcalls:Calls P f vs w fun e w'=>((∀ c∈cs',c.t.WF)∧TV.WFs us)∧∃ r zs',e=.returned r∧R1 zs w w'∧Om w' (fun b o=>(b<w.heap.size∧F0 b o)∨ZF zs' b o) zs' cs' v ∧
   (∀ i i' b lo lo',zs' i=some (b,lo)->zs' i'=some (b,lo')->i=i')∧(∀ i b lo,zs' i=some (b,lo)->b<w'.heap.size∧(w.heap.size<=b∨∃ j lo',zs j=some (b,lo')∧lo'<=lo)) ∧
   Vw w' (fun b o=>(b<w.heap.size∧F0 b o)∨ZF zs' b o) us r:=by
  refine calls_of_wp hf hb ?_;have fin:∀ (O:AD) (a:Act) (w':World),E7 rv (.bo cs cs' i us) O->MX fn.ntmps (some (i,v)) a->DI F0 (W0.mk w (ZF zs)) O a w'->a.defers=[]∧∃ r,(results fn a.tmps).run P w'=.ok r w'∧(((∀ c∈cs',c.t.WF)∧TV.WFs us)∧∃ r' zs',Ending.returned r=.returned r'∧R1 zs w w'∧Om w' (fun b o=>(b<w.heap.size∧F0 b o)∨ZF zs' b o) zs' cs' v ∧
    (∀ i i' b lo lo',zs' i=some (b,lo)->zs' i'=some (b,lo')->i=i')∧(∀ i b lo,zs' i=some (b,lo)->b<w'.heap.size∧(w.heap.size<=b∨∃ j lo',zs j=some (b,lo')∧lo'<=lo)) ∧
    Vw w' (fun b o=>(b<w.heap.size∧F0 b o)∨ZF zs' b o) us r'):=by
   rintro O a w' ⟨hs,hr⟩ hN ⟨G,hI⟩;have hag:DW w' w' (A3 w.heap.size F0 G) (fun b o=>(b<w.heap.size∧F0 b o)∨ZF (G i) b o):=by
    refine fun b o u hc hF=>⟨hc,?_⟩;rintro (h1 | ⟨j,lo,h1,h2⟩)
    ·exact hF (.inl h1)
    ·exact hF (.inr ⟨i,j,lo,h1,h2⟩)
   have hbx:=A9 hI hs (by simp);have hwb:=hI.wf i;rw [hs] at hwb;rw [hN.pin i v rfl] at hbx;simp only [AY] at hbx;obtain ⟨b,c,T,k1,k2,k3,k4,k5⟩:=hbx;obtain ⟨vs',e1,e2,e3⟩:=MU (P:=P) hI hrv hr;have hm:=KE e1;have hshape:(results fn a.tmps)=(fn.results.mapM (Ix a.tmps) >>= fun vs=>pure (if h:vs.size=1 then vs[0] else .tuple vs)):=by
    unfold results;congr 1
   have hlen:=CN e2;have hres:∃ r,(results fn a.tmps).run P w'=.ok r w'∧Vw w' (A3 w.heap.size F0 G) us r:=by
    rw [hshape];by_cases h1:vs'.length=1
    ·obtain ⟨x,rfl⟩:=List.length_eq_one_iff.1 h1;rcases us with _ | ⟨t,_ | ⟨t',us⟩⟩
     ·simp at hlen
     ·simp only [AS] at e2;obtain ⟨v',r',hv',e4,rfl⟩:=e2;simp only [List.cons.injEq,and_true] at hv';subst hv';exact ⟨x,by simp [hm],e4⟩
     ·simp at hlen
    ·refine ⟨.tuple vs'.toArray,by simp [hm,h1],?_⟩;rcases us with _ | ⟨t,_ | ⟨t',us⟩⟩
     ·exact ⟨_,rfl,e2.toA⟩
     ·exact absurd (by simpa using hlen) h1
     ·exact ⟨_,rfl,e2.toA⟩
   obtain ⟨r,hr1,hr2⟩:=hres;refine ⟨hI.defers,r,hr1,⟨hwb,e3⟩,r,G i,rfl,?_,⟨b,c,T,k1,k2,k3,k4,fun j d hj=>?_⟩,fun j j' b lo lo' f1 f2=>(hI.uniq _ _ _ _ _ _ _ f1 f2).2,fun j b lo f1=>?_,?_⟩
   ·exact ⟨hI.below.os,hI.below.tape,hI.below.output,hI.below.size,fun k hk hz=>hI.below.block k hk (fun o ⟨j,lo,f1,_⟩=>hz j lo f1),fun b o u hz hu=>hI.below.cell b o u hz hu⟩
   ·obtain ⟨x,f1,f2⟩:=k5 j d hj;exact ⟨x,f1,f2.kept hag (fun _ _ _=>rfl)⟩
   ·obtain ⟨f2,f3⟩:=hI.lt _ _ _ _ f1;refine ⟨f2,f3.imp id (fun e=>?_)⟩;exact e lo (d3 _)
   ·rcases us with _ | ⟨t,_ | ⟨t',us⟩⟩
    ·obtain ⟨vs2,f1,f2⟩:=hr2;exact ⟨vs2,f1,BP hag _ _ f2⟩
    ·exact DG hag _ _ hr2
    ·obtain ⟨vs2,f1,f2⟩:=hr2;exact ⟨vs2,f1,BP hag _ _ f2⟩
  refine Tg (p:=some (i,v)) hD pl c hok (.inr hcl) (fun j u hp=>by cases hp; exact hdst) _ _ ?_ ?_ ?_ _ _ w ?_ (DI.startB hrep hw hwc hvi hbox hzu hzl hfree) (h hw hwc)
  ·exact fun O a w' h1 h2 h3=>fin O a w' h1 h2 h3
  ·exact fun i O a w' h1 _ _=>h1.elim
  ·exact fun O a w' h1 h2 h3=>fin O a w' h1 h2 h3
  ·have hil:i<vs.size:=(Array.getElem?_eq_some_iff.1 hvi).1;refine ⟨by simp only [Array.size_append,Array.size_replicate]; omega,fun j u hp=>?_⟩;cases hp;have:=Array.getElem?_eq_getElem hil;rw [this] at hvi;simp only [zzY] at hvi;simp [slot,Array.getD_eq_getD_getElem?,Array.getElem?_append,hil,hvi]
 refine ⟨?_,hcalls.mono fun e w' h=>h.2⟩;obtain ⟨_,_,_,h1,_⟩:=hcalls [];exact h1.1
end
end Go.Sf
