/- Code, and functions. -/
import Derived.Test.YtlbmpkmkmkgniaaGreatDoorSfReg
set_option linter.all false
namespace Go.Sf
open Go.RowKit (Below)
def FY (P:Program) (N:Nat) (D:ci->Array Oper->List PR->Bool):PC->Code->Bool
 | .skip _,.skip=>true
 | .ret,.ret=>true
 | .exit i _,.exit j=>i==j
 | .seq a b,.seq c d=>FY P N D a c&&FY P N D b d
 | .cond c a b,.cond x p q=>AR x c&&(FY P N D a p&&FY P N D b q)
 | .block i c,.block j d=>i==j&&FY P N D c d
 | .loop _ c,.loop d=>FY P N D c d
 | .region rs _,.region _ ops draw=>!draw&&Lx P N ops ops.toList rs
 | .draw ds rs _,.region _ ops draw=>draw&&D ds ops rs
 | .rls _ a,c=>FY P N D a c
 | .bad,_=>true
 | _,_=>false
def PC.noClm:PC->Bool
 | .seq a b=>a.noClm&&b.noClm
 | .cond _ a b=>a.noClm&&b.noClm
 | .block _ c=>c.noClm
 | .loop _ c=>c.noClm
 | .rls _ c=>c.noClm
 | _=>true
def noDst (i:Nat) (rs:List PR):Bool:=rs.all fun r=>r.dst != some i
def PC.noDst (i:Nat):PC->Bool
 | .seq a b=>a.noDst i&&b.noDst i
 | .cond _ a b=>a.noDst i&&b.noDst i
 | .block _ c=>c.noDst i
 | .loop _ c=>c.noDst i
 | .rls _ c=>c.noDst i
 | .region rs _=>Go.Sf.noDst i rs
 | .draw _ rs _=>Go.Sf.noDst i rs
 | _=>true
variable {i:Nat}
theorem Tz {b:List PR} (h:noDst i b=true):∀ r∈b,r.dst≠some i:=by
 intro r d;have:=List.all_eq_true.1 h r d;simpa using this
section
variable {P:Program} {F0:Nat->Nat->Prop} {w0:W0} {N:Nat} {p:Option (Nat × Value)} {D:ci->Array Oper->List PR->Bool}
theorem DJ.envWF {O:AD} {a:Act} {w:World} (h:DJ F0 w0 O a w):∀ s,(O.get s).WF:=by
 obtain ⟨G,h⟩:=h;exact h.wf
def O9 (P:Program) (N:Nat) (D:ci->Array Oper->List PR->Bool):Prop:=
 ∀ (F0:Nat->Nat->Prop) (w0:W0) (p:Option (Nat × Value)) (id:Nat) (ds:ci) (ops:Array Oper) (rs:List PR) (live:ci) (O:AD) (a:Act) (w:World) (K:AD->Prop) (Q:Exit->Act->World->Prop),D ds ops rs=true->(∀ i v,p=some (i,v)->∀ r∈rs,r.dst≠some i)->MU N p a->DJ F0 w0 O a w->Pt O ds=true->wpOps (AU P) (fun e=>K (e.keep live)) rs O ->
  (∀ O a w,K O->MU N p a->DJ F0 w0 O a w->Q .normal a w)->(Code.region id ops true).wp P Q a w
theorem TY (hD:O9 P N D):∀ (W:PC) (c:Code),FY P N D W c=true->((∀ b o,¬ w0.E b o)∨W.noClm=true)->(∀ i v,p=some (i,v)->W.noDst i=true)->∀ (q:Q) (A:Exit->Act->World->Prop),
  (∀ O a w,q.normal O->MU N p a->DJ F0 w0 O a w->A .normal a w)->(∀ i O a w,q.exit i O->MU N p a->DJ F0 w0 O a w->A (.exit i) a w)->(∀ O a w,q.ret O->MU N p a->DJ F0 w0 O a w->A .ret a w) ->
  ∀ O a w,MU N p a->DJ F0 w0 O a w->W.wp (AU P) q O->c.wp P A a w:=by
 intro W
 induction W with
 | skip l=>
  intro c g J t q A C F H O a w u m h;cases c <;> simp only [FY] at g <;> first | exact Go.wp_skip (C _ a w h u (m.keep l)) | cases g
 | ret=>
  intro c g J t q A C F H O a w u m h;cases c <;> simp only [FY] at g <;> first | exact Go.wp_ret (H O a w h u m) | cases g
 | exit i l=>
  intro c g J t q A C F H O a w u m h;cases c <;> simp only [FY] at g <;> first | cases g | skip
  simp only [beq_iff_eq] at g;subst g;exact Go.wp_exit (F i _ a w h u (m.keep l))
 | seq x y U V=>
  intro c g J t q A C F H O a w u m h;cases c <;> simp only [FY] at g <;> first | cases g | skip
  rename_i c d;simp only [zzZ] at g;have L:=J.imp id (fun e=>(zzZ _ _ ▸ e:x.noClm=true∧y.noClm=true));have M:=fun i v I=>(zzZ _ _ ▸ t i v I:x.noDst i=true∧y.noDst i=true);refine Go.wp_seq (U c g.1 (L.imp id And.left) (fun i v I=>(M i v I).1) _ _ ?_ ?_ ?_ O a w u m h)
  ·intro O a w K u m;exact V d g.2 (L.imp id And.right) (fun i v I=>(M i v I).2) q A C F H O a w u m (K m.envWF)
  ·exact F
  ·exact H
 | cond o x y U V=>
  intro c g J t q A C F H O a w u m h;cases c <;> simp only [FY] at g <;> first | cases g | skip
  rename_i c d e;simp only [zzZ] at g;simp only [PC.wp] at h;split at h
  ·rename_i b S;have hc:a.eval c=.bool b:=by
    obtain ⟨G,m⟩:=m;have:=(BU m g.1 S).1;simpa only [A7] using this
   have L:=J.imp id (fun e=>(zzZ _ _ ▸ e:x.noClm=true∧y.noClm=true));have M:=fun i v I=>(zzZ _ _ ▸ t i v I:x.noDst i=true∧y.noDst i=true);refine Go.wp_cond_split hc (fun S=>?_) (fun S=>?_)
   ·exact U d g.2.1 (L.imp id And.left) (fun i v I=>(M i v I).1) q A C F H O a w u m (h.1 S)
   ·exact V e g.2.2 (L.imp id And.right) (fun i v I=>(M i v I).2) q A C F H O a w u m (h.2 S)
  ·exact h.elim
 | block i x ih=>
  intro c g J t q A C F H O a w u m h;cases c <;> simp only [FY] at g <;> first | cases g | skip
  rename_i j d;simp only [zzZ,beq_iff_eq] at g;obtain ⟨rfl,g⟩:=g;refine Go.wp_block (ih d g J t _ _ ?_ ?_ ?_ O a w u m h)
  ·exact C
  ·intro k O a w K u m;simp only [Exit.inBlock];simp only at K;split
   ·rename_i e; rw [d1 e] at K; exact C O a w K u m
   ·rename_i e; rw [d2 e] at K; exact F k O a w K u m
  ·exact H
 | loop B x ih=>
  intro c g J t q A C F H O a w u m h;cases c <;> simp only [FY] at g <;> first | cases g | skip
  rename_i c;simp only [PC.wp] at h
  let Y:Act->World->Prop:=fun a w=>∀ (b:Frame) (k:List Item) (cs:List Frame),∃ e a' w',A e a' w'∧Arrives P (lone (b.at a (.code c::.inLoop c::k)) cs w) b k cs e a' w'
  have hX:=h (fun e=>∀ a w,MU N p a->DJ F0 w0 e a w->Y a w) ?_ a w u (m.keep B)
  ·intro b k cs;obtain ⟨e,a',w',R,z⟩:=hX b k cs;exact ⟨e,a',w',R,.of_steps (.one step_loop) z⟩
  ·intro e he a w u m;have S:c.wp P (Exit.then Y A) a w:=by
    refine ih c g J t _ _ ?_ ?_ ?_ e a w u m (he m.envWF)
    ·intro O a w K u m;exact K a w u (m.keep B)
    ·exact F
    ·exact H
   intro b k cs;obtain ⟨e,Z,w₁,R,z⟩:=S b (.inLoop c::k) cs;cases e with
   | normal=>
    obtain ⟨e₂,a₂,w₂,hq₂,T⟩:=R b k cs;exact ⟨e₂,a₂,w₂,hq₂,.of_steps (Steps.trans z (.one step_inLoop)) T⟩
   | exit id=>exact ⟨_,Z,w₁,R,.pass (x:=.inLoop c) rfl (fun _ _=>.inl (by simp)) z⟩
   | goto l=>exact ⟨_,Z,w₁,R,.pass (x:=.inLoop c) rfl (fun _ _=>.inl (by simp)) z⟩
   | ret=>exact ⟨_,Z,w₁,R,.pass (x:=.inLoop c) rfl (fun _ _=>.inl (by simp)) z⟩
   | panic ch=>exact ⟨_,Z,w₁,R,.pass (x:=.inLoop c) rfl (fun _ _=>.inl (by simp)) z⟩
   | outgrown=>exact ⟨_,Z,w₁,R,.pass (x:=.inLoop c) rfl (fun _ _=>.inl (by simp)) z⟩
 | region rs B=>
  intro c g J t q A C F H O a w u m h;cases c <;> simp only [FY] at g <;> first | cases g | skip
  rename_i id ops draw;simp only [zzZ,Bool.not_eq_true'] at g;obtain ⟨rfl,g⟩:=g;exact W8 g (fun i v I=>Tz (t i v I)) u m h fun O a w K u m=>C _ a w K u (m.keep B)
 | draw ds rs B=>
  intro c g J t q A C F H O a w u m h;cases c <;> simp only [FY] at g <;> first | cases g | skip
  rename_i id ops draw;simp only [zzZ] at g;obtain ⟨rfl,g⟩:=g;exact hD F0 w0 p id ds ops rs B O a w q.normal A g (fun i v I=>Tz (t i v I)) u m h.1 h.2 C
 | bad=>
  intro c g J t q A C F H O a w u m h;exact h.elim
 | rls s x ih=>
  intro c g J t q A C F H O a w u m h;have X:FY P N D x c=true:=by
   cases c <;> simpa only [FY] using g
  simp only [PC.wp] at h;split at h
  ·rename_i cs hs;obtain ⟨G,m⟩:=m;exact ih c X (J.imp id fun e=>e) t q A C F H _ a w u (m.rls hs) h
  ·exact h.elim
def Kc:Nat->QQ->AD
 | _,[]=>[]
 | k,t::ts=>(k,.tv t)::Kc (k+1) ts
theorem KL:∀ (ts:QQ) (k n:Nat),AD.get (Kc k ts) n=if k<=n then (match ts[n - k]? with | some t=>.tv t | none=>.undef) else .undef
 | [],k,n=>by simp [Kc,AD.get]
 | t::ts,k,n=>by
  rw [Kc,AD.get_cons,KL ts (k+1) n];by_cases h:k=n
  ·subst h; simp
  ·rw [d2 h];by_cases b:k<=n
   ·rw [d1 b,d1 (by omega),show n - k=(n - (k+1))+1 from by omega,List.getElem?_cons_succ]
   ·rw [d2 b,d2 (by omega)]
variable {ts:QQ} {n:Nat}
theorem DJ.start {w:World} {F0:Nat->Nat->Prop} {vs:Array Value} (h:AS w F0 ts vs.toList) (k:TV.WFs ts):DJ F0 (W0.mk w fun _ _=>False) (Kc 0 ts) { tmps:=vs++Array.replicate n undef,defers:=[] } w:=by
 have q:=CN h;simp only [Array.length_toList] at q;refine ⟨fun _ _=>none,by simp,by simp,⟨rfl,rfl,rfl,d3 _,fun _ _ _=>rfl,fun _ _ _ _ h=>h,fun _ _ _ h=>h.elim⟩,rfl,fun s j=>?_,fun s j=>?_,fun s=>?_⟩
 ·rw [KL];simp only [Array.size_append,Array.size_replicate] at j;rw [d1 (Nat.zero_le _),List.getElem?_eq_none (by omega)]
 ·rw [KL,d1 (Nat.zero_le _),Nat.sub_zero];cases d:ts[s]? with
  | none=>trivial
  | some t=>
   have e:s<vs.size:=by
    have:=(List.getElem?_eq_some_iff.1 d).1; omega
   have hv:vs.toList[s]?=some (slot { tmps:=vs++Array.replicate n undef,defers:=[] } s):=by
    simp [slot,Array.getD_eq_getD_getElem?,Array.getElem?_append,e]
   refine DH (fun b o u l m=>⟨l,?_⟩) _ _ (((CP _ _).1 h).2 s t _ d hv);rintro (g | ⟨_,_,_,g,_⟩)
   ·exact m g.2
   ·cases g
 ·rw [KL,d1 (Nat.zero_le _),Nat.sub_zero];cases d:ts[s]? with
  | none=>trivial
  | some t=>exact CW.1 k t (List.mem_of_getElem? d)
def Oy (P:Program):ResultVar->RV->Bool
 | .tmp t,.tmp s=>t==s
 | .cell x t,.cell s none=>x==s&&DV P t==some false
 | .cell x t,.cell s (some n)=>x==s&&DV P t==some true&&FK P t==some n
 | _,_=>false
def JA (P:Program):List ResultVar->List RV->Bool
 | [],[]=>true
 | x::xs,y::ys=>Oy P x y&&JA P xs ys
 | _,_=>false
def Iu (tmps:Array Value):ResultVar->Sem Value
 | .tmp t=>pure (tmps.getD t undef)
 | .cell a t=>do loadVar t (←asAddr (tmps.getD a undef))
variable {O:AD} {a:Act} {w:World} {G:DT}
theorem Vf (m:AY F0 w0 O a w G) {x:ResultVar} {y:RV} (d:Oy P x y=true) {t:TV} (h:y.get O=some t):∃ v,(Iu a.tmps x).run P w=.ok v w∧A7 w (A2 w0.heap.size F0 G) t v∧t.WF:=by
 have e:∀ s,AR (.tmp s) (.s s)=true:=fun s=>by simp [AR]
 cases x with
 | tmp s=>
  cases y with
  | tmp s'=>
   simp only [Oy,beq_iff_eq] at d;subst d;have:=BU m (e s) (t:=t) h;exact ⟨slot a s,rfl,this⟩
  | cell s' n=>cases n <;> simp [Oy] at d
 | cell s ty=>
  cases y with
  | tmp _=>cases d
  | cell s' n=>
   cases n with
   | none=>
    simp only [Oy,zzZ,beq_iff_eq] at d;obtain ⟨rfl,z⟩:=d;simp only [RV.get] at h;split at h
    ·rename_i u r o;simp only [zzY] at h;subst h;obtain ⟨b,g,vs,A,l,B,_,C⟩:=PB m (e s) (y:=.s s) o;simp only [AS] at l;obtain ⟨v,L,rfl,J,M⟩:=l;have F:=C 0 v rfl;rw [Addr.add_zero'] at F;have k:a.tmps.getD s undef=.pointer (some ⟨b,g,none⟩):=A;refine ⟨v,?_,J,B.1⟩;simp [Iu,k,loadVar,FV z,F,asAddr]
    ·cases h
   | some n=>
    simp only [Oy,zzZ,beq_iff_eq] at d;obtain ⟨⟨rfl,z⟩,K⟩:=d;simp only [RV.get] at h;split at h
    ·rename_i cs o;split at h
     ·rename_i q;simp only [zzY] at h;subst h;obtain ⟨b,g,vs,A,l,B,E,C⟩:=PB m (e s) (y:=.s s) o;have I:=CN l;have j:=run_loadCells_list (P:=P) w ⟨b,g,none⟩ vs C;rw [I,q] at j;have k:a.tmps.getD s undef=.pointer (some ⟨b,g,none⟩):=A;refine ⟨.agg vs.toArray,?_,?_,B⟩
      ·simp [Iu,k,loadVar,FV z,D7 K,j,asAddr]
      ·simp only [A7];exact ⟨_,rfl,l,by rw [List.all_eq_true]; exact fun x H=>E x H⟩
     ·cases h
    ·cases h
theorem MR (e:AY F0 w0 O a w G):∀ {xs:List ResultVar} {d:List RV},JA P xs d=true->∀ {ts:QQ},KD O d=some ts->∃ vs,(xs.mapM (Iu a.tmps)).run P w=.ok vs w∧AS w (A2 w0.heap.size F0 G) ts vs∧TV.WFs ts
 | [],[],_,ts,h=>by simp [KD] at h; subst h; exact ⟨[],by simp,rfl,trivial⟩
 | [],_::_,b,_,_=>by simp [JA] at b
 | _::_,[],b,_,_=>by simp [JA] at b
 | x::xs,y::d,b,ts,h=>by
  simp only [JA,zzZ] at b;simp only [KD] at h;split at h
  ·rename_i t u g j;simp only [zzY] at h;subst h;obtain ⟨v,k,l,m⟩:=Vf e b.1 g;obtain ⟨vs,o,q,s⟩:=MR e b.2 j;exact ⟨v::vs,by simp [List.mapM_cons,k,o],⟨v,vs,rfl,l,q⟩,m,s⟩
  ·cases h
theorem KC {f:ResultVar->Sem Value} {xs:Array ResultVar} {vs:List Value} {w':World} (h:(xs.toList.mapM f).run P w=.ok vs w'):(xs.mapM f).run P w=.ok vs.toArray w':=by
 rw [←Array.toArray_toList (xs:=xs),List.mapM_toArray];simp [h]
theorem AS.toA {F:Nat->Nat->Prop} {vs:List Value} (h:AS w F ts vs):AS w F ts vs.toArray.toList:=by simpa using h
variable {fn:Func} {r:CS}
theorem Xx (C:AY F0 w0 O a w G) (hE:∀ b o,¬ w0.E b o) {l:List RV} (g:JA P fn.results.toList l=true) (S:r.plain=true) (h:FA l r O) :
  ∃ v,(results fn a.tmps).run P w=.ok v w∧Ju w (fun b o=>b<w0.heap.size∧F0 b o) w0.heap.size r v∧r.WF:=by
 have B:∀ ts,KD O l=some ts->∃ vs:List Value,(fn.results.mapM (Iu a.tmps)).run P w=.ok vs.toArray w∧AS w (A2 w0.heap.size F0 G) ts vs∧TV.WFs ts:=by
  intro ts hts;obtain ⟨vs,J,F,R⟩:=MR (P:=P) C g hts;exact ⟨vs,KC J,F,R⟩
 have k:(results fn a.tmps)=(fn.results.mapM (Iu a.tmps) >>= fun vs=>pure (if h:vs.size=1 then vs[0] else .tuple vs)):=by
  unfold results;congr 1
 have V:D0 w w (A2 w0.heap.size F0 G) (fun b o=>b<w0.heap.size∧F0 b o):=fun b o u L M=>⟨L,fun hF'=>M (.inl hF')⟩;cases r with
 | sh t=>
  have q:∃ x,l=[x]∧x.get O=some t:=by
   rcases l with _ | ⟨x,_ | ⟨y,l⟩⟩ <;> simp [FA] at h;exact ⟨x,rfl,h⟩
  obtain ⟨x,rfl,Q⟩:=q;obtain ⟨vs,J,F,R⟩:=B [t] (by simp [KD,Q]);simp only [AS] at F;obtain ⟨v,r',rfl,e4,rfl⟩:=F;refine ⟨v,?_,DH V _ _ e4,R.1⟩;rw [k];simp [J]
 | own t=>
  have q:∃ s,l=[.tmp s]∧O.get s=.ow t:=by
   rcases l with _ | ⟨x,_ | ⟨y,l⟩⟩
   ·simp [FA] at h
   ·cases x <;> simp [FA] at h;exact ⟨_,rfl,h⟩
   ·simp [FA] at h
  obtain ⟨s,rfl,I⟩:=q;obtain ⟨vs,J,F,R⟩:=B [t] (by simp [KD,RV.get,I,EV.val]);have hr:Oy P (.tmp s) (.tmp s)=true:=by simp [Oy]
  have z:=A9 C I (by simp);have A:=C.wf s;rw [I] at A;simp only [AX] at z;have m:fn.results.toList=[.tmp s]:=by
   rcases Q:fn.results.toList with _ | ⟨x,_ | ⟨y,xs⟩⟩ <;> rw [Q] at g
   ·simp [JA] at g
   ·cases x <;> simp [JA,Oy] at g;rw [g]
   ·simp [JA] at g
  have hv:(results fn a.tmps).run P w=.ok (slot a s) w:=by
   rw [k];have W:(fn.results.mapM (Iu a.tmps)).run P w=.ok [slot a s].toArray w:=by
    refine KC ?_;rw [m];simp [List.mapM_cons,Iu,slot]
   simp [W]
  refine ⟨slot a s,hv,⟨G s none,z.kept (fun b o u L M=>⟨L,?_⟩) (fun _ _ _=>rfl),fun b lo U=>?_⟩,A⟩
  ·rintro (q | ⟨lo,q,H⟩)
   ·exact M (.inl q)
   ·exact M (.inr ⟨s,none,lo,q,H⟩)
  ·have:=C.lt _ _ _ _ U;exact ⟨this.2.resolve_right (fun e=>hE _ _ (e _ (d3 _))),this.1⟩
 | tp ts=>
  simp only [FA] at h;have hne:l.length≠1:=by
   rcases l with _ | ⟨x,_ | ⟨y,l⟩⟩ <;> simp_all
  have H:KD O l=some ts:=by
   rcases l with _ | ⟨x,_ | ⟨y,l⟩⟩ <;> simp_all
  obtain ⟨vs,J,F,R⟩:=B ts H;have X:vs.length≠1:=by
   rw [CN F];have:∀ (l:List RV) (ts:QQ),KD O l=some ts->ts.length=l.length:=by
    intro l
    induction l with
    | nil=>intro ts h; simp [KD] at h; subst h; rfl
    | cons y l ih=>
     intro ts h;simp only [KD] at h;split at h
     ·rename_i q H;simp only [zzY] at h;subst h;simp [ih _ H]
     ·cases h
   rw [this _ _ H]; exact hne
  refine ⟨.tuple vs.toArray,?_,⟨vs.toArray,rfl,(BS V _ _ F).toA⟩,R⟩;rw [k];simp [J,X]
 | xown n es=>
  have q:∃ s,l=[.tmp s]∧O.get s=.xo n es:=by
   rcases l with _ | ⟨x,_ | ⟨y,l⟩⟩
   ·simp [FA] at h
   ·cases x <;> simp [FA] at h;exact ⟨_,rfl,h⟩
   ·simp [FA] at h
  obtain ⟨s,rfl,I⟩:=q;have z:=A9 C I (by simp);have A:=C.wf s;rw [I] at A;simp only [AX] at z;obtain ⟨xs,⟨z0,k1,k2⟩,k3,k4,k5⟩:=z;have m:fn.results.toList=[.tmp s]:=by
   rcases Q:fn.results.toList with _ | ⟨x,_ | ⟨y,xs⟩⟩ <;> rw [Q] at g
   ·simp [JA] at g
   ·cases x <;> simp [JA,Oy] at g;rw [g]
   ·simp [JA] at g
  have hv:(results fn a.tmps).run P w=.ok (slot a s) w:=by
   rw [k];have W:(fn.results.mapM (Iu a.tmps)).run P w=.ok [slot a s].toArray w:=by
    refine KC ?_;rw [m];simp [List.mapM_cons,Iu,slot]
   simp [W]
  refine ⟨slot a s,hv,⟨z0,xs,k1,BS (fun b o u L hf=>⟨L,fun hf'=>hf ?_⟩) _ _ k3,k4,k5,fun b lo U=>?_⟩,A⟩
  ·rcases hf' with h6 | ⟨lo,h6⟩
   ·exact .inl h6
   ·exact .inr ⟨s,none,0,by rw [k2,h6]; rfl,Nat.zero_le _⟩
  ·have:=C.lt s none b 0 (by rw [k2,U]; rfl);exact ⟨this.2.resolve_right (fun e=>hE _ _ (e _ (d3 _))),this.1⟩
 | turn zs=>exact h.elim
 | cut zs=>exact h.elim
 | bo _ _ _ _=>cases S
 | ext _=>cases S
 | oag cs=>
  have q:∃ s n,l=[.cell s (some n)]∧O.get s=.bx cs∧cs.length=n:=by
   rcases l with _ | ⟨x,_ | ⟨y,l⟩⟩
   ·simp [FA] at h
   ·rcases x with s | ⟨s,_ | n⟩
    ·simp [FA] at h
    ·simp [FA] at h
    ·exact ⟨s,n,rfl,h⟩
   ·rcases x with s | ⟨s,_ | n⟩ <;> simp [FA] at h
  obtain ⟨s,n,rfl,I,hn⟩:=q;have Y:=A9 C I (by simp);have A:=C.wf s;rw [I] at A;simp only [AX] at Y;obtain ⟨b,c,T,k1,k2,k3,k4,k5⟩:=Y;have m:∃ ty,fn.results.toList=[.cell s ty]∧DV P ty=some true∧FK P ty=some n:=by
   rcases Q:fn.results.toList with _ | ⟨x,_ | ⟨y,xs⟩⟩ <;> rw [Q] at g
   ·simp [JA] at g
   ·cases x <;> simp [JA,Oy] at g;obtain ⟨⟨rfl,q⟩,H⟩:=g;exact ⟨_,rfl,q,H⟩
   ·simp [JA] at g
  obtain ⟨ty,m,Z,hcn⟩:=m;have hv:(results fn a.tmps).run P w=.ok (.agg c) w:=by
   rw [k];have K:=run_loadCells_list (P:=P) w ⟨b,0,none⟩ c.toList (fun j v hv=>by
    have:=cell_of_row w b j c T (0,0) k2;rw [show ((⟨b,0,none⟩:Addr).add j)=⟨b,j,none⟩ by simp [Addr.add]; omega,this];simpa using hv)
   rw [Array.length_toList,k3,hn] at K;have h1':a.tmps.getD s undef=.pointer (some ⟨b,0,none⟩):=k1;have W:(fn.results.mapM (Iu a.tmps)).run P w=.ok [.agg c].toArray w:=by
    refine KC ?_;rw [m];simp [List.mapM_cons,Iu,h1',loadVar,FV Z,D7 hcn,K,asAddr]
   simp [W]
  refine ⟨.agg c,hv,⟨c,fun i=>G s (some i),rfl,k3,fun i d hd=>?_,fun i j b' lo lo' J F=>?_,fun i b' lo U=>?_⟩,A⟩
  ·obtain ⟨x,j1,j2⟩:=k5 i d hd;refine ⟨x,j1,j2.kept (fun b o u L M=>⟨L,?_⟩) (fun _ _ _=>rfl),ML j2⟩;rintro (q | ⟨j,lo,q,H⟩)
   ·exact M (.inl q)
   ·exact M (.inr ⟨s,some j,lo,q,H⟩)
  ·have:=(C.uniq _ _ _ _ _ _ _ J F).2;simpa using this
  ·have:=C.lt _ _ _ _ U;exact ⟨this.2.resolve_right (fun e=>hE _ _ (e _ (d3 _))),this.1⟩
variable {f:FuncId} {c:Code} {pl:PC} {rv:List RV}
theorem cJ (hD : O9 P fn.ntmps D) (hf : P.funcs[f]? = some fn) (hb : fn.body = some c) (hname : fn.name ≠ "runtime.NumGoroutine") (hok : FY P fn.ntmps D pl c = true) (hrv : JA P fn.results.toList rv = true)
  {args:QQ} (hn:args.length<=fn.ntmps) (hp:r.plain=true) (h:TV.WFs args->pl.wp (AU P) ⟨FA rv r,fun _ _=>False,FA rv r⟩ (Kc 0 args)):AU P f args r:=by
 refine AU.of0 ?_ hp;intro hw;refine ⟨by simp [GY,hf,hb,hname],fun F0 w vs hrep=>?_⟩;have hl:=CN hrep;simp only [Array.length_toList] at hl;have hcalls:Calls P f vs w fun e w'=>(∃ v,e=.returned v∧Below w.heap.size w w'∧Ju w' (fun b o=>b<w.heap.size∧F0 b o) w.heap.size r v)∧r.WF:=by
  refine calls_of_wp hf hb ?_;have fin:∀ (O:AD) (a:Act) (w':World),FA rv r O->MU fn.ntmps none a->DJ F0 (W0.mk w fun _ _=>False) O a w'->a.defers=[]∧∃ v,(results fn a.tmps).run P w'=.ok v w'∧((∃ v',Ending.returned v=.returned v'∧Below w.heap.size w w'∧Ju w' (fun b o=>b<w.heap.size∧F0 b o) w.heap.size r v')∧r.WF):=by
   intro O a w' hr hN ⟨G,hI⟩;obtain ⟨v,e1,e2,e3⟩:=Xx (P:=P) hI (fun _ _ h=>h) hrv hp hr;exact ⟨hI.defers,v,e1,⟨v,rfl,⟨hI.below.os,hI.below.tape,hI.below.output,hI.below.size,fun k hk=>hI.below.block k hk (fun _ h=>h)⟩,e2⟩,e3⟩
  refine TY (p:=none) hD pl c hok (.inl fun _ _ h=>h) (by simp) _ _ ?_ ?_ ?_ _ _ w ?_ (DJ.start hrep hw) (h hw)
  ·exact fun O a w' h1 h2 h3=>fin O a w' h1 h2 h3
  ·exact fun i O a w' h1 _ _=>h1.elim
  ·exact fun O a w' h1 h2 h3=>fin O a w' h1 h2 h3
  ·exact ⟨by simp only [Array.size_append,Array.size_replicate]; omega,by simp⟩
 refine ⟨?_,hcalls.mono fun e w' h=>h.1⟩;obtain ⟨_,_,_,h1,_⟩:=hcalls [];exact h1.2
variable {i:Nat}
theorem DJ.startB {w:World} {F0:Nat->Nat->Prop} {zs:Option Nat->Option (Nat × Nat)} {vs:Array Value} {cs:List At} {v:Value} (h:AS w (fun b o=>F0 b o∨ZF zs b o) ts vs.toList) (V:TV.WFs ts) (I:∀ c∈cs,c.t.WF)
  (hi:vs[i]?=some v) (W:Oj w (fun b o=>F0 b o∨ZF zs b o) zs cs v) (J:∀ i R b lo k,zs i=some (b,lo)->zs R=some (b,k)->i=R) (K:∀ i b lo,zs i=some (b,lo)->b<w.heap.size) (L:∀ b o X,ZF zs b o->¬ F0 b X) :
  DJ F0 (W0.mk w (ZF zs)) ((i,.bx cs)::Kc 0 ts) { tmps:=vs++Array.replicate n undef,defers:=[] } w:=by
 have hl:=CN h;simp only [Array.length_toList] at hl;have m:i<vs.size:=(Array.getElem?_eq_some_iff.1 hi).1
 let G:DT:=fun s=>if s=i then zs else fun _=>none
 have E:∀ p j b lo,G p j=some (b,lo)->p=i∧zs j=some (b,lo):=by
  intro p j b lo C;simp only [G] at C;split at C
  ·rename_i e; exact ⟨e,C⟩
  ·cases C
 have q:D0 w w (fun b o=>F0 b o∨ZF zs b o) (A2 w.heap.size F0 G):=by
  refine fun b o u Y S=>⟨Y,?_⟩;rintro (⟨_,B⟩ | ⟨p,j,lo,B,Q⟩)
  ·exact S (.inl B)
  ·exact S (.inr ⟨j,lo,(E _ _ _ _ B).2,Q⟩)
 have y:∀ s (g:s<vs.size),slot { tmps:=vs++Array.replicate n undef,defers:=[] } s=vs[s]:=by
  intro s g;simp [slot,Array.getD_eq_getD_getElem?,Array.getElem?_append,g]
 refine ⟨G,fun p j p' j' b lo k l M=>?_,fun p j b lo l=>?_,⟨rfl,rfl,rfl,d3 _,fun _ _ _=>rfl,fun _ _ _ _ h=>h,L⟩,rfl,fun s g=>?_,fun s g=>?_,fun s=>?_⟩
 ·obtain ⟨U,H⟩:=E _ _ _ _ l;obtain ⟨f3,f4⟩:=E _ _ _ _ M;exact ⟨by rw [U,f3],J _ _ _ _ _ H f4⟩
 ·obtain ⟨U,H⟩:=E _ _ _ _ l;exact ⟨K _ _ _ H,.inr fun o ho=>⟨j,lo,H,ho⟩⟩
 ·simp only [Array.size_append,Array.size_replicate] at g;rw [AD.get_cons,d2 (by omega),KL,d1 (Nat.zero_le _),List.getElem?_eq_none (by omega)]
 ·rw [AD.get_cons];by_cases z:i=s
  ·subst z;rw [d1 rfl,y i m];have hv:vs[i]=v:=by
    have:=Array.getElem?_eq_getElem m;rw [this] at hi; simpa using hi
   rw [hv];obtain ⟨b,c,T,B,Q,h3,h4,h5⟩:=W;simp only [AX];refine ⟨b,c,T,B,Q,h3,by simp only [G,if_true]; exact h4,fun j d Z=>?_⟩;obtain ⟨x,l,M⟩:=h5 j d Z;refine ⟨x,l,?_⟩;simp only [G,if_true];exact M.kept q (fun _ _ _=>rfl)
  ·rw [d2 z,KL,d1 (Nat.zero_le _),Nat.sub_zero];cases F:ts[s]? with
   | none=>trivial
   | some t=>
    have A:s<vs.size:=by
     have:=(List.getElem?_eq_some_iff.1 F).1; omega
    have hv:vs.toList[s]?=some (slot { tmps:=vs++Array.replicate n undef,defers:=[] } s):=by
     rw [y s A]; simp [A]
    exact DH q _ _ (((CP _ _).1 h).2 s t _ F hv)
 ·rw [AD.get_cons];split
  ·exact I
  ·rw [KL,d1 (Nat.zero_le _),Nat.sub_zero];cases F:ts[s]? with
   | none=>trivial
   | some t=>exact CW.1 V t (List.mem_of_getElem? F)
theorem aG (hD : O9 P fn.ntmps D) (hf : P.funcs[f]? = some fn) (hb : fn.body = some c) (hname : fn.name ≠ "runtime.NumGoroutine") (hok : FY P fn.ntmps D pl c = true) (hrv : JA P fn.results.toList rv = true)
  {args:QQ} (hn:args.length<=fn.ntmps) {cs cs':List At} {us:QQ} (hcl:pl.noClm=true) (hdst:pl.noDst i=true) (h:TV.WFs args->(∀ c∈cs,c.t.WF)->pl.wp (AU P) ⟨FA rv (.bo cs cs' i us),fun _ _=>False,FA rv (.bo cs cs' i us)⟩ ((i,.bx cs)::Kc 0 args)):AU P f args (.bo cs cs' i us):=by
 intro hw hwc;refine ⟨by simp [GY,hf,hb,hname],fun F0 w vs v zs hrep hvi hbox hzu hzl hfree=>?_⟩;have hl:=CN hrep;simp only [Array.length_toList] at hl;have hcalls:Calls P f vs w fun e w'=>((∀ c∈cs',c.t.WF)∧TV.WFs us)∧∃ r zs',e=.returned r∧SP zs w w'∧Oj w' (fun b o=>(b<w.heap.size∧F0 b o)∨ZF zs' b o) zs' cs' v ∧
   (∀ i i' b lo lo',zs' i=some (b,lo)->zs' i'=some (b,lo')->i=i')∧(∀ i b lo,zs' i=some (b,lo)->b<w'.heap.size∧(w.heap.size<=b∨∃ j lo',zs j=some (b,lo')∧lo'<=lo)) ∧
   Vk w' (fun b o=>(b<w.heap.size∧F0 b o)∨ZF zs' b o) us r:=by
  refine calls_of_wp hf hb ?_;have fin:∀ (O:AD) (a:Act) (w':World),FA rv (.bo cs cs' i us) O->MU fn.ntmps (some (i,v)) a->DJ F0 (W0.mk w (ZF zs)) O a w'->a.defers=[]∧∃ r,(results fn a.tmps).run P w'=.ok r w'∧(((∀ c∈cs',c.t.WF)∧TV.WFs us)∧∃ r' zs',Ending.returned r=.returned r'∧SP zs w w'∧Oj w' (fun b o=>(b<w.heap.size∧F0 b o)∨ZF zs' b o) zs' cs' v ∧
    (∀ i i' b lo lo',zs' i=some (b,lo)->zs' i'=some (b,lo')->i=i')∧(∀ i b lo,zs' i=some (b,lo)->b<w'.heap.size∧(w.heap.size<=b∨∃ j lo',zs j=some (b,lo')∧lo'<=lo)) ∧
    Vk w' (fun b o=>(b<w.heap.size∧F0 b o)∨ZF zs' b o) us r'):=by
   rintro O a w' ⟨hs,hr⟩ hN ⟨G,hI⟩;have hag:D0 w' w' (A2 w.heap.size F0 G) (fun b o=>(b<w.heap.size∧F0 b o)∨ZF (G i) b o):=by
    refine fun b o u hc hF=>⟨hc,?_⟩;rintro (h1 | ⟨j,lo,h1,h2⟩)
    ·exact hF (.inl h1)
    ·exact hF (.inr ⟨i,j,lo,h1,h2⟩)
   have hbx:=A9 hI hs (by simp);have hwb:=hI.wf i;rw [hs] at hwb;rw [hN.pin i v rfl] at hbx;simp only [AX] at hbx;obtain ⟨b,c,T,k1,k2,k3,k4,k5⟩:=hbx;obtain ⟨vs',e1,e2,e3⟩:=MR (P:=P) hI hrv hr;have hm:=KC e1;have hshape:(results fn a.tmps)=(fn.results.mapM (Iu a.tmps) >>= fun vs=>pure (if h:vs.size=1 then vs[0] else .tuple vs)):=by
    unfold results;congr 1
   have hlen:=CN e2;have hres:∃ r,(results fn a.tmps).run P w'=.ok r w'∧Vk w' (A2 w.heap.size F0 G) us r:=by
    rw [hshape];by_cases h1:vs'.length=1
    ·obtain ⟨x,rfl⟩:=List.length_eq_one_iff.1 h1;rcases us with _ | ⟨t,_ | ⟨t',us⟩⟩
     ·simp at hlen
     ·simp only [AS] at e2;obtain ⟨v',r',hv',e4,rfl⟩:=e2;simp only [List.cons.injEq,and_true] at hv';subst hv';exact ⟨x,by simp [hm],e4⟩
     ·simp at hlen
    ·refine ⟨.tuple vs'.toArray,by simp [hm,h1],?_⟩;rcases us with _ | ⟨t,_ | ⟨t',us⟩⟩
     ·exact ⟨_,rfl,e2.toA⟩
     ·exact absurd (by simpa using hlen) h1
     ·exact ⟨_,rfl,e2.toA⟩
   obtain ⟨r,hr1,hr2⟩:=hres;refine ⟨hI.defers,r,hr1,⟨hwb,e3⟩,r,G i,rfl,?_,⟨b,c,T,k1,k2,k3,k4,fun j d hj=>?_⟩,fun j j' b lo lo' f1 f2=>(hI.uniq _ _ _ _ _ _ _ f1 f2).2,fun j b lo f1=>?_,?_⟩
   ·exact ⟨hI.below.os,hI.below.tape,hI.below.output,hI.below.size,fun k hk hz=>hI.below.block k hk (fun o ⟨j,lo,f1,_⟩=>hz j lo f1),fun b o u hz hu=>hI.below.cell b o u hz hu⟩
   ·obtain ⟨x,f1,f2⟩:=k5 j d hj;exact ⟨x,f1,f2.kept hag (fun _ _ _=>rfl)⟩
   ·obtain ⟨f2,f3⟩:=hI.lt _ _ _ _ f1;refine ⟨f2,f3.imp id (fun e=>?_)⟩;exact e lo (d3 _)
   ·rcases us with _ | ⟨t,_ | ⟨t',us⟩⟩
    ·obtain ⟨vs2,f1,f2⟩:=hr2;exact ⟨vs2,f1,BS hag _ _ f2⟩
    ·exact DH hag _ _ hr2
    ·obtain ⟨vs2,f1,f2⟩:=hr2;exact ⟨vs2,f1,BS hag _ _ f2⟩
  refine TY (p:=some (i,v)) hD pl c hok (.inr hcl) (fun j u hp=>by cases hp; exact hdst) _ _ ?_ ?_ ?_ _ _ w ?_ (DJ.startB hrep hw hwc hvi hbox hzu hzl hfree) (h hw hwc)
  ·exact fun O a w' h1 h2 h3=>fin O a w' h1 h2 h3
  ·exact fun i O a w' h1 _ _=>h1.elim
  ·exact fun O a w' h1 h2 h3=>fin O a w' h1 h2 h3
  ·have hil:i<vs.size:=(Array.getElem?_eq_some_iff.1 hvi).1;refine ⟨by simp only [Array.size_append,Array.size_replicate]; omega,fun j u hp=>?_⟩;cases hp;have:=Array.getElem?_eq_getElem hil;rw [this] at hvi;simp only [zzY] at hvi;simp [slot,Array.getD_eq_getD_getElem?,Array.getElem?_append,hil,hvi]
 refine ⟨?_,hcalls.mono fun e w' h=>h.2⟩;obtain ⟨_,_,_,h1,_⟩:=hcalls [];exact h1.1
end
end Go.Sf
