/- Regions whose order is drawn. -/
import Derived.Test.YtlbmpkmkmkgniaaGreatDoorSfSwapSt
set_option linter.all false
namespace Go.Sf
open Go.RowKit (Below)
def M0 (rs:List PR) (i:Nat):PR:=(rs[i]?).getD ⟨none,.nilo 0,none⟩
def okBd (p:PR):Bool:=match p.op,p.guard,p.dst with
 | .bldg _,none,some _=>true
 | _,_,_=>false
def okPairB (p q:PR):Bool:=match p.op,p.guard,p.dst,q.op,q.guard,q.dst with
 | .bldg gs,none,some dp,.alc _,none,some dq=>dp != dq&&!(gs.flatMap GC.sl).contains dq
 | _,_,_,_,_,_=>false
theorem ZN {p q:PR} (h:okPairB p q=true):okBd p=true:=by
 unfold okPairB at h;split at h
 ·rename_i a b c _ _ _; simp [okBd,a,b,c]
 ·cases h
def UZ (p:PR):Bool:=match p.op,p.guard,p.dst with
 | .st _ (.s _) _,none,none=>true
 | _,_,_=>false
def okPairA (D:ci) (p q:PR):Bool:=match p.op,p.guard,p.dst,q.op,q.guard,q.dst with
 | .st _ (.s x) v,none,none,.bad m _,none,some d=>D.contains d&&d != x&&d != m&&!v.sl.contains d&&!v.sl.contains m
 | .st _ (.s x) v,none,none,.fad (.s m) _,none,some d=>D.contains d&&d != x&&d != m&&!v.sl.contains d&&!v.sl.contains m
 | _,_,_,_,_,_=>false
theorem ZM {D:ci} {p q:PR} (h:okPairA D p q=true):UZ p=true:=by
 unfold okPairA at h;split at h
 ·rename_i a b c _ _ _; simp [UZ,a,b,c]
 ·rename_i a b c _ _ _; simp [UZ,a,b,c]
 ·cases h
def AJ.vops:AJ->Option (List AL)
 | .len x=>some [x]
 | .mm _ x y=>some [x,y]
 | .slc _ x lo hi=>some (x::(lo.toList++hi.toList))
 | .bin _ _ x y=>some [x,y]
 | .cvt _ x=>some [x]
 | _=>none
def okPairV (D:ci) (p q:PR):Bool:=match p.op.vops,p.guard,p.dst,q.op,q.guard,q.dst with
 | some xs,none,some d,.st _ (.s x) v,none,none=>PR.movOk D p&&d != x&&!v.sl.contains d&&Iy (xs.flatMap AL.sl) v.sl
 | _,_,_,_,_,_=>false
def okPairL (D:ci) (p q:PR):Bool:=match p.op,p.guard,p.dst,q.op,q.guard,q.dst with
 | .ldb b _,none,some d,.st _ (.s x) v,none,none=>PR.movOk D p&&D.contains b&&b != x&&d != x&&d != b&&!v.sl.contains d&&!v.sl.contains b
 | _,_,_,_,_,_=>false
def okPair2 (D:ci) (p q:PR):Bool:=T3 D p q||okPairSt D p q||okPairB p q||okPairT D p q||okPairX D p q||okPairA D p q||okPairV D p q||okPairL D p q
def okQ (p:PR):Bool:=match p.op,p.guard,p.dst with
 | .tkx _,none,some _=>true
 | .appz _ _ _ _,none,some _=>true
 | _,_,_=>false
theorem Xr {D:ci} {p q:PR} (h:okPair2 D p q=true):(PR.movOk D p=true∨okBd p=true)∨UZ p=true:=by
 simp only [okPair2,Bool.or_eq_true] at h;rcases h with (((((((h | h) | h) | h) | h) | h) | h) | h)
 ·simp only [T3,zzZ] at h;exact .inl (.inl h.1.1.1.1.1)
 ·unfold okPairSt at h;split at h
  ·simp only [zzZ] at h;exact .inl (.inl h.1.1.1.1)
  ·simp only [zzZ] at h;exact .inl (.inl h.1.1.1.1.1.1)
  ·cases h
 ·exact .inl (.inr (ZN h))
 ·unfold okPairT at h;split at h
  ·simp only [zzZ] at h;exact .inl (.inl h.1.1.1.1)
  ·cases h
 ·unfold okPairX at h;split at h
  ·simp only [zzZ] at h;exact .inl (.inl h.1.1.1)
  ·cases h
 ·exact .inr (ZM h)
 ·unfold okPairV at h;split at h
  ·simp only [zzZ] at h;exact .inl (.inl h.1.1.1)
  ·cases h
 ·unfold okPairL at h;split at h
  ·simp only [zzZ] at h;exact .inl (.inl h.1.1.1.1.1.1)
  ·cases h
def eE (ops:Array Oper):ci:=
 ops.toList.foldl (fun acc o=>acc++[o.after.toList.foldl (fun m e=>if Region.binds .any e then m ||| (1 <<< e.on) ||| acc.getD e.on 0 else m) 0]) []
def Wl (D:ci) (r:PR):Bool:=
 MY r.op||okBd r||okQ r||(r.op.mov&&r.dst.isSome&&(!r.op.isNew||r.guard.isNone)&&Iy r.op.bads D)
def SA (P:Program) (N:Nat) (D:ci) (ops:Array Oper) (rs:List PR):Bool:=
 let n:=ops.size
 let M:=eE ops
 Lx P N ops ops.toList rs&&(List.range n).all (fun i=>Wl D (M0 rs i)) &&
 (List.range n).all (fun i=>match ops[i]? with
  | some o=>o.after.toList.all fun e=>!Region.binds .any e||decide (e.on<i)
  | none=>false) &&
 (List.range n).all (fun i=>(List.range n).all fun j=>!(M.getD i 0).testBit j||(match ops[i]? with
  | some o=>o.after.toList.any fun e=>Region.binds .any e&&(e.on==j||(decide (e.on<i)&&(M.getD e.on 0).testBit j))
  | none=>false)) &&
 (List.range n).all (fun i=>(List.range i).all fun j=>(M.getD i 0).testBit j||okPair2 D (M0 rs j) (M0 rs i))
section
variable {P:Program} {F0:Nat->Nat->Prop} {w0:W0} {N:Nat} {p:Option (Nat × Value)} {ops:Array Oper} {K:AD->Prop} {D:ci}
variable {d:Option Nat} {O:AD}
theorem GX.refl {op:AJ} {f:CF} (h:f.ok O):GX op f d O O:=
 ⟨fun _ _=>.inl rfl,fun _ _ _ _=>.inl rfl,fun _ _ _=>rfl,h,fun _ _ _ h=>h⟩
theorem LV (d:Nat) (a:AD):∀ (b:ci) (O:AD),AD.noRef d (OI a b O)=AD.noRef d O
 | [],_=>rfl
 | q::b,O=>by
  rw [OI,AD.noRef_cons,LV d a b O];rcases Mw (a.get q) with ⟨t,_,c⟩ | c <;> rw [c] <;> simp [EV.noR,EV.ref]
theorem fU (d:Nat) (e:EV) (O:AD) (g:GC) (h:d ∉ g.sl):GC.cell ((d,e)::O) g=g.cell O:=by
 cases g with
 | z c=>rfl
 | v x k n=>
  cases x with
  | s q=>
   simp only [GC.sl,List.mem_singleton] at h;simp only [GC.cell,AL.val,AL.ev,AD.get_cons,d2 h]
  | c t=>rfl
 | w q=>
  simp only [GC.sl,List.mem_singleton] at h;simp only [GC.cell,AD.get_cons,d2 h]
 | g q k n=>
  simp only [GC.sl,List.mem_singleton] at h;simp only [GC.cell,AD.get_cons,d2 h]
theorem WR (d:Nat) (e:EV) (O:AD):∀ (gs:List GC),d ∉ gs.flatMap GC.sl->JO ((d,e)::O) gs=JO O gs
 | [],_=>rfl
 | g::gs,h=>by
  rw [List.flatMap_cons,List.mem_append,not_or] at h;simp only [JO,fU d e O g h.1,WR d e O gs h.2]
variable {gs:List GC}
theorem gj {q:Nat} (h:q∈gs.filterMap GC.slot):q∈gs.flatMap GC.sl:=by
 rw [List.mem_filterMap] at h;obtain ⟨g,a,e⟩:=h;rw [List.mem_flatMap];refine ⟨g,a,?_⟩;cases g <;> simp [GC.slot] at e <;> simp [GC.sl,e]
variable {S:FuncId->QQ->CS->Prop}
theorem S1 {p:PR} {K:AD->Prop} {d:Nat} (c:p.op=.bldg gs) (e:p.guard=none) (f:p.dst=some d) (h:p.wp S O K) :
  ∃ cs,((gs.filterMap GC.src).Nodup∧d ∉ gs.filterMap GC.slot)∧JO O gs=some cs∧K ((d,.oag cs)::OI O (gs.filterMap GC.slot) O):=by
 simp only [PR.wp,c,e,f,AJ.wp,AD.put] at h;obtain ⟨g,b⟩:=h;cases a:JO O gs with
 | none=>rw [a] at b; exact b.elim
 | some i=>rw [a] at b; exact ⟨i,g,rfl,b⟩
theorem QE {p:PR} {K:AD->Prop} {d:Nat} {cs:List At} (b:p.op=.bldg gs) (c:p.guard=none) (e:p.dst=some d) (f:(gs.filterMap GC.src).Nodup∧d ∉ gs.filterMap GC.slot) (a:JO O gs=some cs)
  (h:K ((d,.oag cs)::OI O (gs.filterMap GC.slot) O)):p.wp S O K:=by
 simp only [PR.wp,b,c,e,AJ.wp,AD.put,a];exact ⟨f,h⟩
variable {q:PR} {v:AL}
theorem Tl {K:AD->Prop} {n x:Nat} (f:q.op=.st n (.s x) v) (l:q.guard=none) (m:q.dst=none) (h:q.wp S O K) :
  ∃ s b cs cs' o,(AL.s x).place O=some (s,b)∧O.get s=.bx cs∧(∀ i e,o=some (i,e)->v=.s i∧(∃ t,e=.tv t)∧i≠s)∧K (NO s cs' o O) ∧
   ∀ a,(AL.s x).place a=some (s,b)->a.get s=.bx cs->v.ev a=v.ev O->∀ j:AD->Prop,j (NO s cs' o a)->q.wp S a j:=by
 unfold PR.wp at h;rw [l,f,m] at h;simp only [AJ.wp] at h;split at h
 ·rename_i s b w;split at h
  ·rename_i cs y;split at h
   ·rename_i t hv;cases v with
    | c t=>exact h.elim
    | s i=>
     simp only at h;simp only [AL.ev] at hv;refine ⟨s,b,cs,_,some (i,.tv t),w,y,?_,h.2.2.2,fun a r u k j g=>?_⟩
     ·intro s' A z;simp only [zzY,Prod.mk.injEq] at z;obtain ⟨rfl,rfl⟩:=z;exact ⟨rfl,⟨t,rfl⟩,h.1⟩
     ·simp only [AL.ev] at k;unfold PR.wp;rw [l,f,m];simp only [AJ.wp,r,u,AL.ev,k,hv];exact ⟨h.1,h.2.1,h.2.2.1,g⟩
   ·rename_i t hv;refine ⟨s,b,cs,_,none,w,y,by simp,h.2.2,fun a r u k j g=>?_⟩;unfold PR.wp;rw [l,f,m];simp only [AJ.wp,r,u,k,hv];exact ⟨h.1,h.2.1,g⟩
   ·exact h.elim
  ·exact h.elim
 ·exact h.elim
theorem tc {p:PR} {o:Oper} (ho:Nd P N ops o p=true) {K:AD->Prop} (b:(PR.movOk D p=true∨okBd p=true)∨UZ p=true) {a:AD} (B:Mi F0 w0 N a) (C:JD D a) (h:p.wp (AU P) a K) :
  ∃ env1,K env1∧Mi F0 w0 N env1∧JD D env1∧∀ g:AD->Prop,g env1->p.wp (AU P) a g:=by
 rcases b with (b | b) | b
 ·simp only [PR.movOk,zzZ,Bool.or_eq_true,Bool.not_eq_true'] at b;obtain ⟨⟨⟨⟨M,Q⟩,R⟩,T⟩,U⟩:=b;obtain ⟨V,F⟩:=Option.isSome_iff_exists.1 Q;have E:p.op.isNew=true->p.guard=none:=fun H=>by
   rcases R with h | h
   ·rw [H] at h; cases h
   ·simpa using h
  obtain ⟨env1,⟨l,W,X,Fp⟩,f⟩:=LG B ho (Pv F M E h);exact ⟨env1,l,f,Fp.jd T C,fun g c=>Fp.again a (.refl Fp.ok) (fun _ _=>rfl) _ (by rw [←Fp.env1]; exact c)⟩
 ·unfold okBd at b;split at b
  ·rename_i gs d r u w;obtain ⟨env1,l,f⟩:=LG (K:=fun env1=>K env1∧∃ cs,((gs.filterMap GC.src).Nodup∧d ∉ gs.filterMap GC.slot)∧JO a gs=some cs∧env1=(d,.oag cs)::OI a (gs.filterMap GC.slot) a) B ho (by
    obtain ⟨G,j,k,y⟩:=S1 r u w h;exact QE r u w j k ⟨y,G,j,k,rfl⟩)
   obtain ⟨l,G,j,k,rfl⟩:=l;refine ⟨_,l,f,fun x I=>?_,fun g c=>QE r u w j k c⟩;rw [AD.noRef_cons,LV,C x I];rfl
  ·cases b
 ·unfold UZ at b;split at b
  ·rename_i n x v r u w;obtain ⟨env1,⟨l,s,i,cs,cs',Y,j,z,k,y,A⟩,f⟩:=LG (K:=fun env1=>K env1∧∃ s i cs cs' o,(AL.s x).place a=some (s,i)∧a.get s=.bx cs∧(∀ m e,o=some (m,e)->v=.s m∧(∃ t,e=EV.tv t)∧m≠s)∧env1=NO s cs' o a ∧
     ∀ g:AD->Prop,g (NO s cs' o a)->p.wp (AU P) a g) B ho (by
    obtain ⟨s,i,cs,cs',o,j,z,k,y,A⟩:=Tl r u w h;exact A a j z rfl _ ⟨y,s,i,cs,cs',o,j,z,k,rfl,fun g c=>A a j z rfl g c⟩)
   subst y;refine ⟨_,l,f,fun d J=>?_,A⟩;rw [Ir _ _ _ _ _ (fun m e L=>by
    obtain ⟨_,⟨t,rfl⟩,_⟩:=k m e L;rfl)]
   exact C d J
  ·cases b
variable {rs:List PR}
theorem kH {p q:PR} (a:okPairB p q=true) (h:KJ (AU P) K (p::q::rs) O):KJ (AU P) K (q::p::rs) O:=by
 unfold okPairB at a;split at a
 ·rename_i gs A cs l m o r t u w;simp only [zzZ,bne_iff_ne,ne_eq,Bool.not_eq_true',List.contains_eq_mem,decide_eq_false_iff_not] at a;obtain ⟨i,y⟩:=a;obtain ⟨B,j,h⟩:=h;obtain ⟨C,E,F,x,k,e⟩:=S1 m o r h;simp only [PR.wp,t,u,w,AJ.wp,AD.put] at e;obtain ⟨b,e⟩:=e;rw [k.2,AD.noRef_cons,LV] at b;simp only [EV.noR,EV.ref,Bool.true_and] at b;refine ⟨B,j,?_⟩;simp only [PR.wp,t,u,w,AJ.wp,AD.put];refine ⟨b,_,.refl _,QE m o r E (by rw [WR _ _ _ _ y]; exact F) (OB e ?_)⟩;have f:l ∉ gs.filterMap GC.slot:=fun z=>y (gj z);refine ⟨fun n=>?_,fun d=>?_⟩
  ·rw [AD.get_cons,k.1,AD.get_cons,AD.get_cons,LC,LC];by_cases g:l=n
   ·subst g;rw [d1 rfl,d2 i,d2 f,AD.get_cons,d1 rfl]
   ·rw [d2 g];by_cases c:A=n
    ·rw [d1 c,d1 c]
    ·rw [d2 c,d2 c,AD.get_cons,d2 g]
  ·rw [AD.noRef_cons,k.2,AD.noRef_cons,AD.noRef_cons,LV,LV,AD.noRef_cons];cases EV.noR d (EV.bx cs) <;> cases EV.noR d (EV.oag C) <;> rfl
 ·cases a
theorem Z5 {O env1:AD} {K:AD->Prop} {m d s:Nat} {cs cs':List At} {o:Option (Nat × EV)} (a:(∃ k,q.op=.bad m k)∨∃ k,q.op=.fad (.s m) k) (g:q.guard=none) (i:q.dst=some d) (z:O.get s=.bx cs) (ho:∀ B e,o=some (B,e)->(∃ t,e=.tv t)∧B≠m)
  (A:∀ n,env1.get n=(NO s cs' o O).get n) (h:q.wp S env1 K):∃ e,K ((d,e)::env1)∧∀ j:AD->Prop,j ((d,e)::O)->q.wp S O j:=by
 have w:env1.get m=if s=m then .bx cs' else O.get m:=by
  rw [A,IV];by_cases e:s=m
  ·rw [d1 e,d1 e]
  ·rw [d2 e,d2 e];cases o with
   | none=>rfl
   | some p=>simp only; rw [d2 (ho p.1 p.2 rfl).2]
 have E:∀ r c,env1.get r=.bx c->∃ u,O.get r=.bx u:=by
  intro r c f;rw [A,IV] at f;by_cases e:s=r
  ·subst e; exact ⟨cs,z⟩
  ·rw [d2 e] at f;cases o with
   | none=>exact ⟨c,f⟩
   | some p=>
    simp only at f;split at f
    ·obtain ⟨⟨t,F⟩,_⟩:=ho p.1 p.2 rfl;rw [F] at f; cases f
    ·exact ⟨c,f⟩
 unfold PR.wp at h;rcases a with ⟨k,a⟩ | ⟨k,a⟩
 ·rw [g,a,i] at h;simp only [AJ.wp,AD.put] at h;by_cases e:s=m
  ·rw [w,d1 e] at h;refine ⟨_,h,fun j b=>?_⟩;unfold PR.wp;rw [g,a,i];simp only [AJ.wp,←e,z,AD.put];rw [←e] at b;exact b
  ·rw [w,d2 e] at h;split at h
   ·rename_i c l;refine ⟨_,h,fun j b=>?_⟩;unfold PR.wp;rw [g,a,i];simp only [AJ.wp,l,AD.put];exact b
   ·rename_i row l;refine ⟨_,h,fun j b=>?_⟩;unfold PR.wp;rw [g,a,i];simp only [AJ.wp,l,AD.put];exact b
   ·exact h.elim
 ·rw [g,a,i] at h;simp only [AJ.wp,AD.put,AL.ev] at h;by_cases e:s=m
  ·rw [w,d1 e] at h;exact h.elim
  ·rw [w,d2 e] at h;split at h
   ·rename_i row l;refine ⟨_,h,fun j b=>?_⟩;unfold PR.wp;rw [g,a,i];simp only [AJ.wp,AL.ev,l,AD.put];exact b
   ·rename_i r C l;split at h
    ·rename_i c f;obtain ⟨u,y⟩:=E r c f;refine ⟨_,h,fun j b=>?_⟩;unfold PR.wp;rw [g,a,i];simp only [AJ.wp,AL.ev,l,y,AD.put];exact b
    ·exact h.elim
   ·exact h.elim
theorem kG {p q:PR} (U:JD D O) (a:okPairA D p q=true) (h:KJ (AU P) K (p::q::rs) O):KJ (AU P) K (q::p::rs) O:=by
 have key:∃ n x v m d,p.op=.st n (.s x) v∧p.guard=none∧p.dst=none∧((∃ k,q.op=.bad m k)∨∃ k,q.op=.fad (.s m) k)∧q.guard=none∧q.dst=some d∧d∈D∧d≠x∧d ∉ v.sl∧m ∉ v.sl:=by
  unfold okPairA at a;split at a
  ·rename_i n x v m k d B i C E F G;simp only [zzZ,bne_iff_ne,ne_eq,Bool.not_eq_true',List.contains_eq_mem,decide_eq_false_iff_not,zzX] at a;exact ⟨n,x,v,m,d,by assumption,by assumption,by assumption,.inl ⟨_,by assumption⟩,by assumption,by assumption,a.1.1.1.1,a.1.1.1.2,a.1.2,a.2⟩
  ·rename_i n x v m k d B i C E F G;simp only [zzZ,bne_iff_ne,ne_eq,Bool.not_eq_true',List.contains_eq_mem,decide_eq_false_iff_not,zzX] at a;exact ⟨n,x,v,m,d,by assumption,by assumption,by assumption,.inr ⟨_,by assumption⟩,by assumption,by assumption,a.1.1.1.1,a.1.1.1.2,a.1.2,a.2⟩
  ·cases a
 obtain ⟨n,x,v,m,d,B,i,C,E,F,G,W,l,u,I⟩:=key;obtain ⟨J,w,h⟩:=h;have H:=U.congr w.symm;obtain ⟨s,X,cs,cs',o,f,T,L,⟨y,M,Y⟩,Z⟩:=Tl B i C h;have j:d≠s:=by
  intro e;subst e;simp only [AL.place] at f;split at f
  ·rename_i r Q V;simp only [zzY,Prod.mk.injEq] at f;exact H.no (x:=x) (s:=d) (by rw [V,←f.1]; rfl) W
  ·simp only [zzY,Prod.mk.injEq] at f;exact l f.1.symm
  ·cases f
 have ho:∀ b e,o=some (b,e)->(∃ t,e=EV.tv t)∧b≠m:=fun b e A=>by
  obtain ⟨g,k2,_⟩:=L b e A;exact ⟨k2,fun e=>I (by rw [g,←e]; simp [AL.sl])⟩
 obtain ⟨e,hK,hq⟩:=Z5 (cs':=cs') (o:=o) (O:=J) E F G T ho M.1 Y;refine ⟨J,w,hq _ ⟨_,.refl _,Z ((d,e)::J) ?_ (by rw [AD.get_cons,d2 j]; exact T) ?_ _ (OB hK ?_)⟩⟩
 ·simp only [AL.place,AD.get_cons,d2 l] at f ⊢;exact f
 ·cases v with
  | c t=>rfl
  | s b=>
   simp only [AL.ev,AD.get_cons];rw [d2 (fun e=>u (by rw [e]; simp [AL.sl]))]
 ·refine ⟨fun z=>?_,fun z=>?_⟩
  ·rw [AD.get_cons,M.1,IV,IV];by_cases g:d=z
   ·subst g;rw [d1 rfl,d2 (fun e=>j e.symm)];cases o with
    | none=>rw [AD.get_cons,d1 rfl]
    | some p=>
     simp only;rw [d2 (fun i=>u (by rw [(L p.1 p.2 rfl).1,←i]; simp [AL.sl])),AD.get_cons,d1 rfl]
   ·rw [d2 g];cases o with
    | none=>simp only [AD.get_cons,d2 g]
    | some p=>simp only [AD.get_cons,d2 g]
  ·have R:∀ b e,o=some (b,e)->e.noR z=true:=fun b e A=>by
    obtain ⟨_,⟨t,rfl⟩,_⟩:=L b e A;rfl
   rw [AD.noRef_cons,M.2,Ir _ _ _ _ _ R,Ir _ _ _ _ _ R,AD.noRef_cons]
theorem V2 {O a:AD} {b:Nat} {o:Option AL} (h:∀ y∈o.toList,y.val a=y.val O):HP a b o=HP O b o:=by
 cases o with
 | none=>rfl
 | some y=>simp only [HP]; exact h y (by simp)
theorem kM {p:AJ} {xs:List AL} {K:EV->AD->Prop} (B:p.vops=some xs) (h:p.wp S O d K) :
  ∃ t,K (.tv t) O∧(∀ x∈xs,∃ u,x.val O=some u)∧∀ c,(∀ x∈xs,x.val c=x.val O)->∀ j:EV->AD->Prop,j (.tv t) c->p.wp S c d j:=by
 cases p <;> simp only [AJ.vops,zzY] at B <;> first | cases B | skip
 case bin k op x y=>
  simp only [AJ.wp] at h;split at h
  ·rename_i a b f w;cases A:F5 k op a b with
   | none=>rw [A] at h; exact h.elim
   | some t=>
    rw [A] at h;refine ⟨t,h,fun z e=>?_,fun c g j i=>?_⟩
    ·simp only [List.mem_cons,List.not_mem_nil,or_false] at e;rcases e with rfl | rfl
     ·exact ⟨a,f⟩
     ·exact ⟨b,w⟩
    ·simp only [AJ.wp,g x (by simp),g y (by simp),f,w,A];exact i
  ·exact h.elim
 case len x=>
  simp only [AJ.wp] at h;split at h
  ·rename_i n es f;refine ⟨_,h,fun z e=>?_,fun c g j i=>?_⟩
   ·rw [List.mem_singleton.1 e]; exact ⟨_,f⟩
   ·simp only [AJ.wp,g x (by simp),f];exact i
  ·exact h.elim
 case cvt k x=>
  simp only [AJ.wp] at h;split at h
  ·rename_i H n f;refine ⟨_,h,fun z e=>?_,fun c g j i=>?_⟩
   ·rw [List.mem_singleton.1 e]; exact ⟨_,f⟩
   ·simp only [AJ.wp,g x (by simp),f];exact i
  ·exact h.elim
 case mm b x y=>
  simp only [AJ.wp] at h;split at h
  ·rename_i k a H I f w;refine ⟨_,h.2,fun z e=>?_,fun c g j i=>?_⟩
   ·simp only [List.mem_cons,List.not_mem_nil,or_false] at e;rcases e with rfl | rfl
    ·exact ⟨_,f⟩
    ·exact ⟨_,w⟩
   ·simp only [AJ.wp,g x (by simp),g y (by simp),f,w];exact ⟨h.1,i⟩
  ·exact h.elim
 case slc n x lo hi=>
  simp only [AJ.wp] at h;split at h
  ·rename_i m es f;split at h
   ·rename_i C l E r F G;refine ⟨_,h.2.2,fun z e=>?_,fun c g j i=>?_⟩
    ·simp only [List.mem_cons,List.mem_append,Option.mem_toList] at e;rcases e with rfl | e | e
     ·exact ⟨_,f⟩
     ·cases e; exact ⟨_,F⟩
     ·cases e; exact ⟨_,G⟩
    ·have C:HP c 0 lo=HP O 0 lo:=V2 (fun y o=>g y (by simp at o ⊢; exact .inr (.inl o)));have E:HP c es.length hi=HP O es.length hi:=V2 (fun y o=>g y (by simp at o ⊢; exact .inr (.inr o)));simp only [AJ.wp,g x (by simp),f,C,E,F,G];exact ⟨h.1,h.2.1,i⟩
   ·exact h.elim
  ·exact h.elim
theorem kK {p q:PR} (a:okPairV D p q=true) (h:KJ (AU P) K (p::q::rs) O):KJ (AU P) K (q::p::rs) O:=by
 unfold okPairV at a;split at a
 ·rename_i xs d n x v e1 T U f1 f2 f3;simp only [zzZ,bne_iff_ne,ne_eq,Bool.not_eq_true',List.contains_eq_mem,decide_eq_false_iff_not] at a;obtain ⟨⟨⟨_,H⟩,k⟩,I⟩:=a;obtain ⟨b,J,h⟩:=h;unfold PR.wp at h;rw [T,U] at h;simp only [AD.put] at h;obtain ⟨t,⟨y,l,hw⟩,hs,L⟩:=kM e1 h;obtain ⟨s,M,cs,cs',o,X,Q,R,hK,h5⟩:=Tl f1 f2 f3 hw;have B:∀ z,d≠z->y.get z=b.get z:=fun z w=>by rw [l.1,AD.get_cons,d2 w]
  have i:d≠s:=fun e=>by
   rw [l.1,AD.get_cons,d1 e] at Q; cases Q
  have hp:(AL.s x).place b=some (s,M):=by
   simp only [AL.place,B x H] at X ⊢;exact X
  have V:b.get s=.bx cs:=by rw [←B s i]; exact Q
  have hv:v.ev b=v.ev y:=by
   cases v with
   | c t=>rfl
   | s g=>
    simp only [AL.ev];exact (B g (fun e=>k (by rw [e]; simp [AL.sl]))).symm
  have hq:∀ r:AD->Prop,r (NO s cs' o b)->q.wp (AU P) b r:=fun r A=>h5 b hp V hv r A;refine ⟨b,J,hq _ ⟨_,.refl _,?_⟩⟩;unfold PR.wp;rw [T,U];simp only [AD.put];refine L _ (fun z w=>?_) _ (OB hK ?_)
  ·cases z with
   | c t=>rfl
   | s m=>
    obtain ⟨u,Y⟩:=hs _ w;have C:¬ s=m:=fun e=>by
     subst e;simp only [AL.val,AL.ev,V,EV.val] at Y;cases Y
    simp only [AL.val,AL.ev,IV,d2 C];cases o with
    | none=>rfl
    | some f=>
     have E:¬ f.1=m:=fun e=>DO I (x:=m) (List.mem_flatMap.2 ⟨_,w,by simp [AL.sl]⟩) (by rw [(R f.1 f.2 rfl).1,e]; simp [AL.sl]);simp only [d2 E]
  ·refine ⟨fun z=>?_,fun z=>?_⟩
   ·rw [AD.get_cons,IV,IV];by_cases F:s=z
    ·subst F; rw [d1 rfl,d2 i,d1 rfl]
    ·rw [d2 F,d2 F];cases o with
     | none=>
      simp only;rw [l.1,AD.get_cons]
     | some f=>
      have G:¬ d=f.1:=fun e=>k (by rw [(R f.1 f.2 rfl).1,e]; simp [AL.sl]);simp only;by_cases j:f.1=z
      ·rw [d1 j,d1 j,d2 (fun e=>G (e.trans j.symm))]
      ·rw [d2 j,d2 j,l.1,AD.get_cons]
   ·have W:∀ g e,o=some (g,e)->e.noR z=true:=fun g e Z=>by
     obtain ⟨_,⟨t,rfl⟩,_⟩:=R g e Z;rfl
    rw [AD.noRef_cons,Ir _ _ _ _ _ W,Ir _ _ _ _ _ W,l.2,AD.noRef_cons]
 ·cases a
theorem kI {p q:PR} (hj:JD D O) (a:okPairL D p q=true) (h:KJ (AU P) K (p::q::rs) O):KJ (AU P) K (q::p::rs) O:=by
 unfold okPairL at a;split at a
 ·rename_i b m d n x v W X Y f1 f2 f3;simp only [zzZ,bne_iff_ne,ne_eq,Bool.not_eq_true',List.contains_eq_mem,decide_eq_false_iff_not,zzX] at a;obtain ⟨⟨⟨⟨⟨⟨_,bD⟩,M⟩,Q⟩,hdb⟩,w⟩,R⟩:=a;obtain ⟨f,A,h⟩:=h;have G:=hj.congr A.symm;unfold PR.wp at h;rw [W,X,Y] at h;simp only [AD.put,AJ.wp] at h;split at h
  case h_2=>exact h.elim
  rename_i bs k;obtain ⟨E,y,B,hw⟩:=h;obtain ⟨s,T,cs,cs',o,h1,U,V,hK,h5⟩:=Tl f1 f2 f3 hw;have H:∀ z,d≠z->y.get z=f.get z:=fun z hz=>by rw [B.1,AD.get_cons,d2 hz]
  have l:d≠s:=fun e=>by
   rw [B.1,AD.get_cons,d1 e] at U; cases U
  have g:(AL.s x).place f=some (s,T):=by
   simp only [AL.place,H x Q] at h1 ⊢;exact h1
  have I:¬ s=b:=by
   intro e;subst e;simp only [AL.place] at g;split at g
   ·rename_i r Z hx;simp only [zzY,Prod.mk.injEq] at g;exact G.no (x:=x) (s:=s) (by rw [hx,←g.1]; rfl) bD
   ·simp only [zzY,Prod.mk.injEq] at g;exact M g.1.symm
   ·cases g
  have hb:f.get s=.bx cs:=by rw [←H s l]; exact U
  have hv:v.ev f=v.ev y:=by
   cases v with
   | c t=>rfl
   | s j=>
    simp only [AL.ev];exact (H j (fun e=>w (by rw [e]; simp [AL.sl]))).symm
  have hq:∀ C:AD->Prop,C (NO s cs' o f)->q.wp (AU P) f C:=fun C F=>h5 f g hb hv C F;refine ⟨f,A,hq _ ⟨_,.refl _,?_⟩⟩;have hg:(NO s cs' o f).get b=.bx bs:=by
   rw [IV,d2 I];cases o with
   | none=>exact k
   | some i=>
    simp only;rw [d2 (fun e=>R (by rw [(V i.1 i.2 rfl).1,←e]; simp [AL.sl]))];exact k
  unfold PR.wp;rw [W,X,Y];simp only [AD.put,AJ.wp,hg];refine ⟨E,OB hK ?_⟩;refine ⟨fun z=>?_,fun z=>?_⟩
  ·rw [AD.get_cons,IV,IV];by_cases J:s=z
   ·subst J; rw [d1 rfl,d2 l,d1 rfl]
   ·rw [d2 J,d2 J];cases o with
    | none=>
     simp only;rw [B.1,AD.get_cons]
    | some i=>
     have L:¬ d=i.1:=fun e=>w (by rw [(V i.1 i.2 rfl).1,e]; simp [AL.sl]);simp only;by_cases u:i.1=z
     ·rw [d1 u,d1 u,d2 (fun e=>L (e.trans u.symm))]
     ·rw [d2 u,d2 u,B.1,AD.get_cons]
  ·have E:∀ j e,o=some (j,e)->e.noR z=true:=fun j e he=>by
    obtain ⟨_,⟨t,rfl⟩,_⟩:=V j e he;rfl
   rw [AD.noRef_cons,Ir _ _ _ _ _ E,Ir _ _ _ _ _ E,B.2,AD.noRef_cons]
 ·cases a
theorem aA {oq:Oper} (r:Nd P N ops oq q=true) {e:List PR}:∀ (c:List PR),(∀ p∈c,okPair2 D p q=true∧∃ o,Nd P N ops o p=true)->∀ {O:AD},Mi F0 w0 N O->JD D O->KJ (AU P) K (c++q::e) O->KJ (AU P) K (q::(c++e)) O
 | [],_,O,_,_,h=>h
 | p::c,f,O,k,i,h=>by
  obtain ⟨a,o,ho⟩:=f p (by simp);obtain ⟨w,g,h⟩:=h;obtain ⟨env1,y,l,m,j⟩:=tc ho (Xr a) (k.congr g.symm) (i.congr g.symm) h;have u:=aA r c (fun p t=>f p (by simp [t])) l m y;have b:KJ (AU P) K (p::q::(c++e)) O:=⟨w,g,j _ u⟩;simp only [okPair2,Bool.or_eq_true] at a;rcases a with ((((((a | a) | a) | a) | a) | a) | a) | a
  ·exact swap k i ho r a b
  ·exact gm k i ho a b
  ·exact kH a b
  ·exact kJ k i ho a b
  ·exact kL a b
  ·exact kG i a b
  ·exact kK a b
  ·exact kI i a b
variable {n:Nat} {x:AL}
theorem pj {K:EV->AD->Prop} (h:(AJ.st n x v).wp S O d K):(AJ.st n x v).wp S O d fun e env'=>K e env'∧e=.undef∧∀ c,env'.noRef c=O.noRef c:=by
 simp only [AJ.wp] at h ⊢;split at h
 ·rename_i s a b;split at h
  ·rename_i cs f;split at h
   ·rename_i t hv;cases v with
    | c t=>exact h.elim
    | s q=>
     simp only at h ⊢;exact ⟨h.1,h.2.1,h.2.2.1,h.2.2.2,trivial,fun c=>by simp [AD.noRef_cons,EV.noR,EV.ref]⟩
   ·rename_i t hv;exact ⟨h.1,h.2.1,h.2.2,trivial,fun c=>by simp [AD.noRef_cons,EV.noR,EV.ref]⟩
   ·exact h.elim
  ·exact h.elim
 ·exact h.elim
variable {s:Nat}
theorem iu {K:EV->AD->Prop} (h:(AJ.stb n s v).wp S O d K):(AJ.stb n s v).wp S O d fun e env'=>K e env'∧e=.undef∧∀ c,env'.noRef c=O.noRef c:=by
 simp only [AJ.wp] at h ⊢;split at h
 ·rename_i cs a;split at h
  ·rename_i t hv;cases v with
   | c t=>exact h.elim
   | s q=>
    simp only at h ⊢;exact ⟨h.1,h.2.1,h.2.2.1,h.2.2.2,trivial,fun c=>by simp [AD.noRef_cons,EV.noR,EV.ref]⟩
  ·rename_i t hv;exact ⟨h.1,h.2.1,h.2.2,trivial,fun c=>by simp [AD.noRef_cons,EV.noR,EV.ref]⟩
  ·exact h.elim
 ·exact h.elim
theorem ZE (O:AD) (q:Nat) (i:Option Nat) (n:Nat) (es:QQ) (c:Nat):AD.noRef c (O.xput q i n es)=AD.noRef c O:=by
 cases i with
 | none=>simp [AD.xput,AD.noRef_cons,EV.noR,EV.ref]
 | some k=>
  simp only [AD.xput];split
  ·simp [AD.noRef_cons,EV.noR,EV.ref]
  ·rfl
theorem ir {q:Nat} {K:EV->AD->Prop} (h:(AJ.cpt x q).wp S O d K):(AJ.cpt x q).wp S O d fun e env'=>K e env'∧e=.undef∧∀ c,env'.noRef c=O.noRef c:=by
 simp only [AJ.wp] at h ⊢;split at h
 ·rename_i s a n es b f;split at h
  ·rename_i cs g;exact ⟨h.1,h.2.1,h.2.2,trivial,fun c=>by simp [AD.noRef_cons,EV.noR,EV.ref]⟩
  ·exact h.elim
 ·exact h.elim
theorem iw {K:EV->AD->Prop} (h:(AJ.xst x v).wp S O d K):(AJ.xst x v).wp S O d fun e env'=>K e env'∧e=.undef∧∀ c,env'.noRef c=O.noRef c:=by
 simp only [AJ.wp] at h ⊢;split at h
 ·rename_i q i c l;split at h
  ·obtain ⟨a,b,es',f,g,j,k⟩:=h;exact ⟨a,b,es',f,g,j,k,trivial,fun c=>ZE _ _ _ _ _ _⟩
  ·exact h.elim
 ·exact h.elim
theorem iv {n s q:Nat} {K:EV->AD->Prop} (h:(AJ.stx n s q).wp S O d K):(AJ.stx n s q).wp S O d fun e env'=>K e env'∧e=.undef∧∀ c,env'.noRef c=O.noRef c:=by
 simp only [AJ.wp] at h ⊢;split at h
 ·rename_i cs a b f;exact ⟨h.1,h.2.1,h.2.2.1,h.2.2.2,trivial,fun c=>by simp [AD.noRef_cons,EV.noR,EV.ref]⟩
 ·exact h.elim
theorem fa {r:PR} {K:AD->Prop} (C:Wl D r=true) (i:MY r.op=true->r.dst=none) (k:JD D O) (h:r.wp S O K):r.wp S O fun env'=>K env'∧JD D env':=by
 simp only [Wl,Bool.or_eq_true,zzZ,Bool.not_eq_true'] at C;rcases C with ((o | B) | l) | ⟨⟨⟨Z,a⟩,hg⟩,E⟩
 ·have a:=i o;have G:(r.op.wp S O r.dst fun e env'=>K (env'.put r.dst e))->r.op.wp S O r.dst fun e env'=>K (env'.put r.dst e)∧JD D (env'.put r.dst e):=by
   intro t;rw [a] at t ⊢;generalize r.op=p at o t ⊢;cases p <;> simp only [MY] at o <;> first | cases o | skip
   ·refine AJ.wp_mono S O none (fun e env' c=>⟨c.1,fun d i=>?_⟩) _ (pj t);simp only [AD.put];rw [c.2.2]; exact k d i
   ·refine AJ.wp_mono S O none (fun e env' c=>⟨c.1,fun d i=>?_⟩) _ (iu t);simp only [AD.put];rw [c.2.2]; exact k d i
   ·refine AJ.wp_mono S O none (fun e env' c=>⟨c.1,fun d i=>?_⟩) _ (iw t);simp only [AD.put];rw [c.2.2]; exact k d i
   ·refine AJ.wp_mono S O none (fun e env' c=>⟨c.1,fun d i=>?_⟩) _ (iv t);simp only [AD.put];rw [c.2.2]; exact k d i
   ·refine AJ.wp_mono S O none (fun e env' c=>⟨c.1,fun d i=>?_⟩) _ (ir t);simp only [AD.put];rw [c.2.2]; exact k d i
  unfold PR.wp at h ⊢;split
  ·rename_i J; rw [J] at h; exact G h
  ·rename_i g b J;rw [J] at h;simp only at h;split
   ·rename_i q l;rw [l] at h;exact ⟨fun E=>G (h.1 E),fun E=>⟨h.2 E,by rw [a]; exact k⟩⟩
   ·rename_i L;rw [L] at h;exact ⟨h,by rw [a]; exact k⟩
   ·rename_i M Q;split at h
    ·rename_i q l; exact absurd l (M q)
    ·rename_i l; exact absurd l Q
    ·exact h.elim
 ·unfold okBd at B;split at B
  ·rename_i gs d u w A;obtain ⟨ts,H,T,U⟩:=S1 u w A h;refine QE u w A H T ⟨U,fun x I=>?_⟩;rw [AD.noRef_cons,LV,k x I];rfl
  ·cases B
 ·unfold okQ at l;split at l
  ·rename_i s d u w A;obtain ⟨n,es,H,X,T,U⟩:=Yk u w A h;refine Yl u w A H X T ⟨U,fun x I=>?_⟩;have:=k x I;simp [AD.noRef_cons,EV.noR,EV.ref,this]
  ·rename_i n s z x d u w A;simp only [PR.wp,u,w,A,AJ.wp,AD.put] at h ⊢;split at h
   ·rename_i d' m es kk j F hs I;simp only [zzY] at F;subst F;refine ⟨h.1,h.2.1,h.2.2.1,h.2.2.2,fun y V=>?_⟩;have:=k y V;simp [AD.noRef_cons,EV.noR,EV.ref,this]
   ·exact h.elim
  ·cases l
 ·obtain ⟨d,i⟩:=Option.isSome_iff_exists.1 a;have R:r.op.isNew=true->r.guard=none:=fun W=>by
   rcases hg with h | h
   ·rw [W] at h; cases h
   ·simpa using h
  refine PR.wp_mono S O (fun env' c=>?_) r (Pv i Z R h);obtain ⟨H,e,f,Y⟩:=c;exact ⟨H,Y.jd E k⟩
theorem cL {a:Act} {w:World}:∀ {O:AD},Qb rs=true->KJ S K rs O->DJ F0 w0 O a w->∃ env',K env'∧DJ F0 w0 env' a w:=by
 induction rs with
 | nil=>intro O _ h b; obtain ⟨e,f,g⟩:=h; exact ⟨e,g,b.congr fun n=>(f.1 n).symm⟩
 | cons r rs o=>
  intro O c h b;simp only [Qb,zzZ] at c;obtain ⟨f,g⟩:=c;obtain ⟨t,i,h⟩:=h;have b:=b.congr (fun n=>(i.1 n).symm);split at f
  ·rename_i s j k l;simp only [PR.wp,j,k,l,AJ.wp] at h;split at h
   ·rename_i cs m;obtain ⟨G,b⟩:=b;exact o g h (b.frz m)
   ·exact h.elim
  ·cases f
theorem Qc:∀ (os:List Oper) (rs:List PR),Lx P N ops os rs=true->(∀ i o,os[i]?=some o->Nd P N ops o (M0 rs i)=true)∧Qb (rs.drop os.length)=true∧rs=(List.range os.length).map (M0 rs)++rs.drop os.length
 | [],rs,h=>⟨fun i o h=>by simp at h,h,by simp⟩
 | o::os,[],h=>by simp [Lx] at h
 | o::os,r::rs,h=>by
  simp only [Lx,zzZ] at h;obtain ⟨b,c,e⟩:=Qc os rs h.2;refine ⟨fun i a hi=>?_,by simpa using c,?_⟩
  ·cases i with
   | zero=>simp only [List.getElem?_cons_zero,zzY] at hi; subst hi; exact h.1
   | succ i=>simp only [List.getElem?_cons_succ] at hi; exact b i a hi
  ·rw [d6,List.range_succ_eq_map,List.map_cons,List.map_map,List.cons_append,List.drop_succ_cons];congr 1
theorem aF {Q:Exit->Act->World->Prop} (hok:SA P N D ops rs=true) (hpd:∀ i v,p=some (i,v)->∀ r∈rs,r.dst≠some i) (hQ:∀ O a w,K O->MU N p a->DJ F0 w0 O a w->Q .normal a w) :
  ∀ (fuel:Nat) (rem:ci) (b:Array Bool) (O:AD) (a:Act) (w:World),rem.length=fuel->rem.Pairwise (·<·)->(∀ j,j∈rem↔j<ops.size∧b.getD j true=false)->b.size=ops.size ->
   (∀ k o,ops[k]?=some o->b.getD k false=true->∀ e∈o.after,Region.binds .any e=true->b.getD e.on false=true) ->
   MU N p a->DJ F0 w0 O a w->JD D O->KJ (AU P) K (rem.map (M0 rs)++rs.drop ops.size) O->wpAny P .any ops Q fuel b a w:=by
 simp only [SA,zzZ,List.all_eq_true,List.mem_range] at hok;obtain ⟨⟨⟨⟨hl,hs⟩,he⟩,hM⟩,hP⟩:=hok;obtain ⟨C,hl2,hl3⟩:=Qc ops.toList rs hl;simp only [Array.length_toList,Array.getElem?_toList] at C hl2 hl3;intro fuel
 induction fuel with
 | zero=>
  intro rem b O a w m R c hsz T hN hI M h;have:rem=[]:=List.eq_nil_of_length_eq_zero m;subst this;refine ⟨?_,?_⟩
  ·refine List.eq_nil_iff_forall_not_mem.2 fun j G=>?_;rw [mem_ready] at G;obtain ⟨F,o,ho,_⟩:=G;have:=(c j).2 ⟨(Array.getElem?_eq_some_iff.1 ho).1,F⟩;cases this
  ·obtain ⟨env',F,l⟩:=cL hl2 h hI;exact hQ env' a w F hN l
 | succ fuel ih=>
  intro rem b O a w m R c hsz T hN hI M h;refine ⟨fun hnil=>?_,fun i hi=>?_⟩
  ·
   exfalso;cases rem with
   | nil=>simp at m
   | cons i rem=>
    have F:=(c i).1 (by simp);have g:i∈Region.ready .any ops b:=by
     rw [mem_ready];have ho:ops[i]?=some ops[i]:=Array.getElem?_eq_getElem F.1;refine ⟨F.2,_,ho,fun e u I=>?_⟩;have:=he i F.1;rw [ho] at this;simp only [List.all_eq_true,Bool.or_eq_true,Bool.not_eq_true',zzX] at this;have hlt:=(this e (by simpa using u)).resolve_left (by simp [I]);cases B:b.getD e.on false with
     | true=>rfl
     | false=>
      have U:e.on∈i::rem:=by
       refine (c _).2 ⟨by omega,?_⟩;have:e.on<b.size:=by omega
       simp only [Array.getD_eq_getD_getElem?,Array.getElem?_eq_getElem this,Option.getD_some] at B ⊢;exact B
      rcases List.mem_cons.1 U with l | l
      ·omega
      ·have:=(List.pairwise_cons.1 R).1 _ l; omega
    rw [hnil] at g; cases g
  ·have hi':=hi;rw [mem_ready] at hi';obtain ⟨hi1,o,ho,hi2⟩:=hi';have g:i<ops.size:=(Array.getElem?_eq_some_iff.1 ho).1;have hir:i∈rem:=(c i).2 ⟨g,hi1⟩;obtain ⟨E,t,rfl⟩:=List.append_of_mem hir;have f:=List.pairwise_append.1 R;have J:∀ j∈E,j<i:=fun j M=>f.2.2 j M i (by simp);have W:∀ j∈t,i<j:=fun j M=>(List.pairwise_cons.1 f.2.1).1 j M;have H:∀ (k:Nat),k<ops.size->(∀ o,ops[k]?=some o->∀ e∈o.after,Region.binds .any e=true->b.getD e.on false=true)->∀ j,j<ops.size->((eE ops).getD k 0).testBit j=true->b.getD j false=true:=by
    intro k
    induction k using Nat.strongRecOn with
    | _ k ihk=>
     intro Z hdir j A I;have:=hM k Z j A;rw [I] at this;simp only [Bool.not_true,Bool.false_or] at this;split at this
     ·rename_i ok hok';simp only [List.any_eq_true,zzZ,Bool.or_eq_true,beq_iff_eq,zzX] at this;obtain ⟨e,u,hbe,h3⟩:=this;have B:=hdir ok hok' e (by simpa using u) hbe;rcases h3 with h3 | ⟨h3,h4⟩
      ·rw [←h3]; exact B
      ·exact ihk e.on h3 (by omega) (fun L z e' he' hb'=>T e.on L z B e' he' hb') j A h4
     ·cases this
   have hwp:KJ (AU P) K (M0 rs i::(E.map (M0 rs)++(t.map (M0 rs)++rs.drop ops.size))) O:=by
    refine aA (ops:=ops) (F0:=F0) (w0:=w0) (N:=N) (oq:=o) (C i o ho) (E.map (M0 rs)) (fun p hp=>?_) ⟨a,w,hN.size,hI⟩ M (by simpa using h);obtain ⟨j,hj1,rfl⟩:=List.mem_map.1 hp;have hlt:=J j hj1;have A:j<ops.size:=by omega
    refine ⟨?_,ops[j],C j _ (Array.getElem?_eq_getElem A)⟩;have:=hP i g j hlt;rw [Bool.or_eq_true] at this;refine this.resolve_left fun I=>?_;have F:=H i g (fun L z=>by rw [ho] at z; simp only [zzY] at z; subst z; exact hi2) j A I;have l:=((c j).1 (by simp [hj1])).2;have:j<b.size:=by omega
    simp only [Array.getD_eq_getD_getElem?,Array.getElem?_eq_getElem this,Option.getD_some] at F l;rw [F] at l; cases l
   obtain ⟨e',heq,hw⟩:=hwp;have hI':=hI.congr (fun n=>(heq.1 n).symm);have G:=M.congr heq.symm;have hstd:MY (M0 rs i).op=true->(M0 rs i).dst=none:=by
    intro hst;have:=C i o ho;simp only [Nd,zzZ] at this;have l:=this.2;split at l
    ·simp only [hst,Bool.not_true,Bool.and_false,Bool.false_and] at l; cases l
    ·assumption
    ·cases l
   have hw':=fa (hs i g) hstd G hw;have X:∀ j,j∈E++t↔j<ops.size∧(b.setIfInBounds i true).getD j true=false:=by
    intro j;by_cases Y:j=i
    ·subst Y;constructor
     ·intro U;rcases List.mem_append.1 U with U | U
      ·have:=J _ U; omega
      ·have:=W _ U; omega
     ·rintro ⟨_,l⟩;have:j<b.size:=by omega
      simp [this] at l
    ·rw [getD_set_ne true (fun e=>Y e.symm),←c j];simp [Y]
   have hcl':∀ k L,ops[k]?=some L->(b.setIfInBounds i true).getD k false=true->∀ e∈L.after,Region.binds .any e=true->(b.setIfInBounds i true).getD e.on false=true:=by
    intro k L Z hlk e u I;refine getD_set_true ?_;by_cases hki:k=i
    ·subst hki;rw [ho] at Z;simp only [zzY] at Z;subst Z;exact hi2 e u I
    ·rw [getD_set_ne false (fun e=>hki e.symm)] at hlk;exact T k L Z hlk e u I
   have hpdi:∀ j v,p=some (j,v)->(M0 rs i).dst≠some j:=by
    intro j v hp;unfold M0;cases hr:rs[i]? with
    | none=>simp
    | some r=>exact hpd j v hp r (List.mem_of_getElem? hr)
   have:=TD (Q:=Q) (next:=wpAny P .any ops Q fuel (b.setIfInBounds i true)) hI' hN hpdi (C i o ho) hw' fun env' a' w' k1 k2 k3=>
    ih (E++t) _ env' a' w' (by simp only [d4,d6] at m ⊢; omega) (List.pairwise_append.2 ⟨f.1,(List.pairwise_cons.1 f.2.1).2,fun x hx y hy=>f.2.2 x hx y (by simp [hy])⟩) X (by simpa using hsz) hcl' k2 k3 k1.2 (by simpa using k1.1)
   unfold Go.wpOp;rw [ho];simp only [];split
   ·rename_i V; rw [d1 V] at this; exact .inl this
   ·rename_i V; rw [d2 V] at this; exact this
theorem Ur:∀ (a:ci) (O:AD),Pt O a=true->JD a O
 | [],O,_=>fun d c=>by simp at c
 | d::a,O,h=>by
  simp only [Pt,zzZ] at h;intro x b;rcases List.mem_cons.1 b with rfl | b
  ·exact h.1
  ·exact Ur a O h.2 x b
theorem Tb (C:P.follows .mixedOrders=true):O9 P N (SA P N):=by
 intro F0 w0 p id U ops rs f O a w K Q m z V c W h X;refine wp_region_any C ?_;have g:=m;simp only [SA,zzZ] at g;obtain ⟨_,_,t⟩:=Qc ops.toList rs g.1.1.1.1;simp only [Array.length_toList] at t;have A:DJ F0 w0 O a { w with drawn:=w.drawn+1 }:=by
  obtain ⟨G,c⟩:=c;refine ⟨G,c.uniq,c.lt,⟨c.below.os,c.below.tape,c.below.output,c.below.size,c.below.block,c.below.cell,c.below.free⟩,c.defers,c.dom,fun s E=>?_,c.wf⟩;exact AX.kept (w:=w) (w':={ w with drawn:=w.drawn+1 }) (F:=A2 w0.heap.size F0 G) (G:=G) (O:=O) (a:=a) (fun b o u H I=>⟨H,I⟩) (fun _=>rfl) (fun _ _ _ _=>rfl) (fun r J L l=>⟨l,rfl⟩) (fun r i L l=>⟨l,fun _ hv=>hv⟩) (c.slots s E)
 refine aF (K:=fun e=>K (e.keep f)) (F0:=F0) (w0:=w0) m z (fun O a w M R T=>X _ a w M R (T.keep f)) ops.size (List.range ops.size) _ O a _ (by simp) List.pairwise_lt_range (fun j=>?_) (by simp) (fun k o Y y=>?_) V A (Ur U O W) ?_
 ·rw [List.mem_range];constructor
  ·intro B; exact ⟨B,by simp [Array.getD_eq_getD_getElem?,Array.getElem?_replicate,B]⟩
  ·exact fun h=>h.1
 ·simp only [Array.getD_eq_getD_getElem?,Array.getElem?_replicate] at y;split at y <;> simp at y
 ·rw [←t]; exact bj h
end
end Go.Sf
