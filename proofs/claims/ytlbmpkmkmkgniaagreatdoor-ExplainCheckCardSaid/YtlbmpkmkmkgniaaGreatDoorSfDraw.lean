/- Regions whose order is drawn. -/
import Derived.Test.YtlbmpkmkmkgniaaGreatDoorSfSwapSt
set_option linter.all false
namespace Go.Sf
open Go.RowKit (Below)
def M5 (rs:List PR) (i:Nat):PR:=(rs[i]?).getD ⟨none,.nilo 0,none⟩
def okBd (p:PR):Bool:=match p.op,p.guard,p.dst with
 | .bldg _,none,some _=>true
 | _,_,_=>false
def okPairB (p q:PR):Bool:=match p.op,p.guard,p.dst,q.op,q.guard,q.dst with
 | .bldg gs,none,some dp,.alc _,none,some dq=>dp != dq&&!(gs.flatMap GC.sl).contains dq
 | _,_,_,_,_,_=>false
theorem ZS {p q:PR} (h:okPairB p q=true):okBd p=true:=by
 unfold okPairB at h;split at h
 ·rename_i a b c _ _ _; simp [okBd,a,b,c]
 ·cases h
def Uj (p:PR):Bool:=match p.op,p.guard,p.dst with
 | .st _ (.s _) _,none,none=>true
 | _,_,_=>false
def okPairA (D:ci) (p q:PR):Bool:=match p.op,p.guard,p.dst,q.op,q.guard,q.dst with
 | .st _ (.s x) v,none,none,.bad m _,none,some d=>D.contains d&&d != x&&d != m&&!v.sl.contains d&&!v.sl.contains m
 | .st _ (.s x) v,none,none,.fad (.s m) _,none,some d=>D.contains d&&d != x&&d != m&&!v.sl.contains d&&!v.sl.contains m
 | _,_,_,_,_,_=>false
theorem ZR {D:ci} {p q:PR} (h:okPairA D p q=true):Uj p=true:=by
 unfold okPairA at h;split at h
 ·rename_i a b c _ _ _; simp [Uj,a,b,c]
 ·rename_i a b c _ _ _; simp [Uj,a,b,c]
 ·cases h
def AJ.vops:AJ->Option (List AL)
 | .len x=>some [x]
 | .mm _ x y=>some [x,y]
 | .slc _ x lo hi=>some (x::(lo.toList++hi.toList))
 | .bin _ _ x y=>some [x,y]
 | .cvt _ x=>some [x]
 | _=>none
def okPairV (D:ci) (p q:PR):Bool:=match p.op.vops,p.guard,p.dst,q.op,q.guard,q.dst with
 | some xs,none,some d,.st _ (.s x) v,none,none=>PR.movOk D p&&d != x&&!v.sl.contains d&&I1 (xs.flatMap AL.sl) v.sl
 | _,_,_,_,_,_=>false
def okPairL (D:ci) (p q:PR):Bool:=match p.op,p.guard,p.dst,q.op,q.guard,q.dst with
 | .ldb b _,none,some d,.st _ (.s x) v,none,none=>PR.movOk D p&&D.contains b&&b != x&&d != x&&d != b&&!v.sl.contains d&&!v.sl.contains b
 | _,_,_,_,_,_=>false
def okPair2 (D:ci) (p q:PR):Bool:=UC D p q||okPairSt D p q||okPairB p q||okPairT D p q||okPairX D p q||okPairA D p q||okPairV D p q||okPairL D p q
def okQ (p:PR):Bool:=match p.op,p.guard,p.dst with
 | .tkx _,none,some _=>true
 | .appz _ _ _ _,none,some _=>true
 | _,_,_=>false
theorem Xs {D:ci} {p q:PR} (h:okPair2 D p q=true):(PR.movOk D p=true∨okBd p=true)∨Uj p=true:=by
 simp only [okPair2,Bool.or_eq_true] at h;rcases h with (((((((h | h) | h) | h) | h) | h) | h) | h)
 ·simp only [UC,zzZ] at h;exact .inl (.inl h.1.1.1.1.1)
 ·unfold okPairSt at h;split at h
  ·simp only [zzZ] at h;exact .inl (.inl h.1.1.1.1)
  ·simp only [zzZ] at h;exact .inl (.inl h.1.1.1.1.1.1)
  ·cases h
 ·exact .inl (.inr (ZS h))
 ·unfold okPairT at h;split at h
  ·simp only [zzZ] at h;exact .inl (.inl h.1.1.1.1)
  ·cases h
 ·unfold okPairX at h;split at h
  ·simp only [zzZ] at h;exact .inl (.inl h.1.1.1)
  ·cases h
 ·exact .inr (ZR h)
 ·unfold okPairV at h;split at h
  ·simp only [zzZ] at h;exact .inl (.inl h.1.1.1)
  ·cases h
 ·unfold okPairL at h;split at h
  ·simp only [zzZ] at h;exact .inl (.inl h.1.1.1.1.1.1)
  ·cases h
def eM (ops:Array Oper):ci:=
 ops.toList.foldl (fun acc o=>acc++[o.after.toList.foldl (fun m e=>if Region.binds .any e then m ||| (1 <<< e.on) ||| acc.getD e.on 0 else m) 0]) []
def Ws (D:ci) (r:PR):Bool:=
 Mb r.op||okBd r||okQ r||(r.op.mov&&r.dst.isSome&&(!r.op.isNew||r.guard.isNone)&&I1 r.op.bads D)
def Rm (P:Program) (N:Nat) (D:ci) (ops:Array Oper) (rs:List PR):Bool:=
 let n:=ops.size
 let M:=eM ops
 Lw P N ops ops.toList rs&&(List.range n).all (fun i=>Ws D (M5 rs i)) &&
 (List.range n).all (fun i=>match ops[i]? with
  | some o=>o.after.toList.all fun e=>!Region.binds .any e||decide (e.on<i)
  | none=>false) &&
 (List.range n).all (fun i=>(List.range n).all fun j=>!(M.getD i 0).testBit j||(match ops[i]? with
  | some o=>o.after.toList.any fun e=>Region.binds .any e&&(e.on==j||(decide (e.on<i)&&(M.getD e.on 0).testBit j))
  | none=>false)) &&
 (List.range n).all (fun i=>(List.range i).all fun j=>(M.getD i 0).testBit j||okPair2 D (M5 rs j) (M5 rs i))
section
variable {P:Program} {F0:Nat->Nat->Prop} {w0:W0} {N:Nat} {p:Option (Nat × Value)} {ops:Array Oper} {K:AD->Prop} {D:ci}
theorem GU.refl {op:AJ} {f:CC} {d:Option Nat} {O:AD} (h:f.ok O):GU op f d O O:=
 ⟨fun _ _=>.inl rfl,fun _ _ _ _=>.inl rfl,fun _ _ _=>rfl,h,fun _ _ _ h=>h⟩
theorem LU (d:Nat) (a:AD):∀ (b:ci) (O:AD),AD.noRef d (OJ a b O)=AD.noRef d O
 | [],_=>rfl
 | q::b,O=>by
  rw [OJ,AD.noRef_cons,LU d a b O];rcases M1 (a.get q) with ⟨t,_,c⟩ | c <;> rw [c] <;> simp [EV.noR,EV.ref]
theorem fa (d:Nat) (e:EV) (O:AD) (g:GC) (h:d ∉ g.sl):GC.cell ((d,e)::O) g=g.cell O:=by
 cases g with
 | z c=>rfl
 | v x k n=>
  cases x with
  | s q=>
   simp only [GC.sl,List.mem_singleton] at h;simp only [GC.cell,AL.val,AL.ev,AD.get_cons,d2 h]
  | c t=>rfl
 | w q=>
  simp only [GC.sl,List.mem_singleton] at h;simp only [GC.cell,AD.get_cons,d2 h]
 | g q k n=>
  simp only [GC.sl,List.mem_singleton] at h;simp only [GC.cell,AD.get_cons,d2 h]
theorem WZ (d:Nat) (e:EV) (O:AD):∀ (a:List GC),d ∉ a.flatMap GC.sl->JR ((d,e)::O) a=JR O a
 | [],_=>rfl
 | g::a,h=>by
  rw [List.flatMap_cons,List.mem_append,not_or] at h;simp only [JR,fa d e O g h.1,WZ d e O a h.2]
theorem gv {a:List GC} {q:Nat} (h:q∈a.filterMap GC.slot):q∈a.flatMap GC.sl:=by
 rw [List.mem_filterMap] at h;obtain ⟨g,b,e⟩:=h;rw [List.mem_flatMap];refine ⟨g,b,?_⟩;cases g <;> simp [GC.slot] at e <;> simp [GC.sl,e]
theorem Sd {S:FuncId->QQ->CS->Prop} {p:PR} {O:AD} {K:AD->Prop} {a:List GC} {d:Nat} (e:p.op=.bldg a) (f:p.guard=none) (g:p.dst=some d) (h:p.wp S O K) :
  ∃ cs,((a.filterMap GC.src).Nodup∧d ∉ a.filterMap GC.slot)∧JR O a=some cs∧K ((d,.oag cs)::OJ O (a.filterMap GC.slot) O):=by
 simp only [PR.wp,e,f,g,AJ.wp,AD.put] at h;obtain ⟨i,c⟩:=h;cases b:JR O a with
 | none=>rw [b] at c; exact c.elim
 | some j=>rw [b] at c; exact ⟨j,i,rfl,c⟩
theorem QP {S:FuncId->QQ->CS->Prop} {p:PR} {O:AD} {K:AD->Prop} {a:List GC} {d:Nat} {cs:List A1} (c:p.op=.bldg a) (e:p.guard=none) (f:p.dst=some d) (g:(a.filterMap GC.src).Nodup∧d ∉ a.filterMap GC.slot) (b:JR O a=some cs)
  (h:K ((d,.oag cs)::OJ O (a.filterMap GC.slot) O)):p.wp S O K:=by
 simp only [PR.wp,c,e,f,AJ.wp,AD.put,b];exact ⟨g,h⟩
theorem Tv {S:FuncId->QQ->CS->Prop} {q:PR} {O:AD} {K:AD->Prop} {n x:Nat} {v:AL} (d:q.op=.st n (.s x) v) (k:q.guard=none) (l:q.dst=none) (h:q.wp S O K) :
  ∃ s b cs cs' o,(AL.s x).place O=some (s,b)∧O.get s=.bx cs∧(∀ g e,o=some (g,e)->v=.s g∧(∃ t,e=.tv t)∧g≠s)∧K (NS s cs' o O) ∧
   ∀ a,(AL.s x).place a=some (s,b)->a.get s=.bx cs->v.ev a=v.ev O->∀ i:AD->Prop,i (NS s cs' o a)->q.wp S a i:=by
 unfold PR.wp at h;rw [k,d,l] at h;simp only [AJ.wp] at h;split at h
 ·rename_i s b u;split at h
  ·rename_i cs w;split at h
   ·rename_i t hv;cases v with
    | c t=>exact h.elim
    | s g=>
     simp only at h;simp only [AL.ev] at hv;refine ⟨s,b,cs,_,some (g,.tv t),u,w,?_,h.2.2.2,fun a m r j i f=>?_⟩
     ·intro s' z y;simp only [zzY,Prod.mk.injEq] at y;obtain ⟨rfl,rfl⟩:=y;exact ⟨rfl,⟨t,rfl⟩,h.1⟩
     ·simp only [AL.ev] at j;unfold PR.wp;rw [k,d,l];simp only [AJ.wp,m,r,AL.ev,j,hv];exact ⟨h.1,h.2.1,h.2.2.1,f⟩
   ·rename_i t hv;refine ⟨s,b,cs,_,none,u,w,by simp,h.2.2,fun a m r j i f=>?_⟩;unfold PR.wp;rw [k,d,l];simp only [AJ.wp,m,r,j,hv];exact ⟨h.1,h.2.1,f⟩
   ·exact h.elim
  ·exact h.elim
 ·exact h.elim
theorem th {p:PR} {o:Oper} (ho:Ng P N ops o p=true) {K:AD->Prop} (b:(PR.movOk D p=true∨okBd p=true)∨Uj p=true) {a:AD} (B:Mn F0 w0 N a) (C:JD D a) (h:p.wp (AT P) a K) :
  ∃ env1,K env1∧Mn F0 w0 N env1∧JD D env1∧∀ g:AD->Prop,g env1->p.wp (AT P) a g:=by
 rcases b with (b | b) | b
 ·simp only [PR.movOk,zzZ,Bool.or_eq_true,Bool.not_eq_true'] at b;obtain ⟨⟨⟨⟨M,O⟩,Q⟩,R⟩,S⟩:=b;obtain ⟨T,F⟩:=Option.isSome_iff_exists.1 O;have E:p.op.isNew=true->p.guard=none:=fun H=>by
   rcases Q with h | h
   ·rw [H] at h; cases h
   ·simpa using h
  obtain ⟨env1,⟨l,U,V,Fp⟩,f⟩:=LF B ho (P6 F M E h);exact ⟨env1,l,f,Fp.jd R C,fun g c=>Fp.again a (.refl Fp.ok) (fun _ _=>rfl) _ (by rw [←Fp.env1]; exact c)⟩
 ·unfold okBd at b;split at b
  ·rename_i y d q r u;obtain ⟨env1,l,f⟩:=LF (K:=fun env1=>K env1∧∃ cs,((y.filterMap GC.src).Nodup∧d ∉ y.filterMap GC.slot)∧JR a y=some cs∧env1=(d,.oag cs)::OJ a (y.filterMap GC.slot) a) B ho (by
    obtain ⟨G,j,k,w⟩:=Sd q r u h;exact QP q r u j k ⟨w,G,j,k,rfl⟩)
   obtain ⟨l,G,j,k,rfl⟩:=l;refine ⟨_,l,f,fun x I=>?_,fun g c=>QP q r u j k c⟩;rw [AD.noRef_cons,LU,C x I];rfl
  ·cases b
 ·unfold Uj at b;split at b
  ·rename_i n x v q r u;obtain ⟨env1,⟨l,s,i,cs,cs',W,j,z,k,w,A⟩,f⟩:=LF (K:=fun env1=>K env1∧∃ s i cs cs' o,(AL.s x).place a=some (s,i)∧a.get s=.bx cs∧(∀ m e,o=some (m,e)->v=.s m∧(∃ t,e=EV.tv t)∧m≠s)∧env1=NS s cs' o a ∧
     ∀ g:AD->Prop,g (NS s cs' o a)->p.wp (AT P) a g) B ho (by
    obtain ⟨s,i,cs,cs',o,j,z,k,w,A⟩:=Tv q r u h;exact A a j z rfl _ ⟨w,s,i,cs,cs',o,j,z,k,rfl,fun g c=>A a j z rfl g c⟩)
   subst w;refine ⟨_,l,f,fun d J=>?_,A⟩;rw [Is _ _ _ _ _ (fun m e L=>by
    obtain ⟨_,⟨t,rfl⟩,_⟩:=k m e L;rfl)]
   exact C d J
  ·cases b
theorem kO {p q:PR} (a:okPairB p q=true) {l:List PR} {O:AD} (h:KL (AT P) K (p::q::l) O):KL (AT P) K (q::p::l) O:=by
 unfold okPairB at a;split at a
 ·rename_i z A cs m o r s t u v;simp only [zzZ,bne_iff_ne,ne_eq,Bool.not_eq_true',List.contains_eq_mem,decide_eq_false_iff_not] at a;obtain ⟨i,w⟩:=a;obtain ⟨B,j,h⟩:=h;obtain ⟨C,E,F,x,k,e⟩:=Sd o r s h;simp only [PR.wp,t,u,v,AJ.wp,AD.put] at e;obtain ⟨b,e⟩:=e;rw [k.2,AD.noRef_cons,LU] at b;simp only [EV.noR,EV.ref,Bool.true_and] at b;refine ⟨B,j,?_⟩;simp only [PR.wp,t,u,v,AJ.wp,AD.put];refine ⟨b,_,.refl _,QP o r s E (by rw [WZ _ _ _ _ w]; exact F) (OC e ?_)⟩;have f:m ∉ z.filterMap GC.slot:=fun y=>w (gv y);refine ⟨fun n=>?_,fun d=>?_⟩
  ·rw [AD.get_cons,k.1,AD.get_cons,AD.get_cons,LB,LB];by_cases g:m=n
   ·subst g;rw [d1 rfl,d2 i,d2 f,AD.get_cons,d1 rfl]
   ·rw [d2 g];by_cases c:A=n
    ·rw [d1 c,d1 c]
    ·rw [d2 c,d2 c,AD.get_cons,d2 g]
  ·rw [AD.noRef_cons,k.2,AD.noRef_cons,AD.noRef_cons,LU,LU,AD.noRef_cons];cases EV.noR d (EV.bx cs) <;> cases EV.noR d (EV.oag C) <;> rfl
 ·cases a
theorem Z9 {S:FuncId->QQ->CS->Prop} {q:PR} {O env1:AD} {K:AD->Prop} {m d s:Nat} {cs cs':List A1} {o:Option (Nat × EV)} (a:(∃ k,q.op=.bad m k)∨∃ k,q.op=.fad (.s m) k) (g:q.guard=none) (i:q.dst=some d) (x:O.get s=.bx cs) (ho:∀ z e,o=some (z,e)->(∃ t,e=.tv t)∧z≠m)
  (y:∀ n,env1.get n=(NS s cs' o O).get n) (h:q.wp S env1 K):∃ e,K ((d,e)::env1)∧∀ j:AD->Prop,j ((d,e)::O)->q.wp S O j:=by
 have v:env1.get m=if s=m then .bx cs' else O.get m:=by
  rw [y,IW];by_cases e:s=m
  ·rw [d1 e,d1 e]
  ·rw [d2 e,d2 e];cases o with
   | none=>rfl
   | some p=>simp only; rw [d2 (ho p.1 p.2 rfl).2]
 have B:∀ r c,env1.get r=.bx c->∃ u,O.get r=.bx u:=by
  intro r c f;rw [y,IW] at f;by_cases e:s=r
  ·subst e; exact ⟨cs,x⟩
  ·rw [d2 e] at f;cases o with
   | none=>exact ⟨c,f⟩
   | some p=>
    simp only at f;split at f
    ·obtain ⟨⟨t,C⟩,_⟩:=ho p.1 p.2 rfl;rw [C] at f; cases f
    ·exact ⟨c,f⟩
 unfold PR.wp at h;rcases a with ⟨k,a⟩ | ⟨k,a⟩
 ·rw [g,a,i] at h;simp only [AJ.wp,AD.put] at h;by_cases e:s=m
  ·rw [v,d1 e] at h;refine ⟨_,h,fun j b=>?_⟩;unfold PR.wp;rw [g,a,i];simp only [AJ.wp,←e,x,AD.put];rw [←e] at b;exact b
  ·rw [v,d2 e] at h;split at h
   ·rename_i c l;refine ⟨_,h,fun j b=>?_⟩;unfold PR.wp;rw [g,a,i];simp only [AJ.wp,l,AD.put];exact b
   ·rename_i row l;refine ⟨_,h,fun j b=>?_⟩;unfold PR.wp;rw [g,a,i];simp only [AJ.wp,l,AD.put];exact b
   ·exact h.elim
 ·rw [g,a,i] at h;simp only [AJ.wp,AD.put,AL.ev] at h;by_cases e:s=m
  ·rw [v,d1 e] at h;exact h.elim
  ·rw [v,d2 e] at h;split at h
   ·rename_i row l;refine ⟨_,h,fun j b=>?_⟩;unfold PR.wp;rw [g,a,i];simp only [AJ.wp,AL.ev,l,AD.put];exact b
   ·rename_i r A l;split at h
    ·rename_i c f;obtain ⟨u,w⟩:=B r c f;refine ⟨_,h,fun j b=>?_⟩;unfold PR.wp;rw [g,a,i];simp only [AJ.wp,AL.ev,l,w,AD.put];exact b
    ·exact h.elim
   ·exact h.elim
theorem kN {p q:PR} {O:AD} (U:JD D O) (a:okPairA D p q=true) {Q:List PR} (h:KL (AT P) K (p::q::Q) O):KL (AT P) K (q::p::Q) O:=by
 have key:∃ n x v m d,p.op=.st n (.s x) v∧p.guard=none∧p.dst=none∧((∃ k,q.op=.bad m k)∨∃ k,q.op=.fad (.s m) k)∧q.guard=none∧q.dst=some d∧d∈D∧d≠x∧d ∉ v.sl∧m ∉ v.sl:=by
  unfold okPairA at a;split at a
  ·rename_i n x v m k d B i C E F G;simp only [zzZ,bne_iff_ne,ne_eq,Bool.not_eq_true',List.contains_eq_mem,decide_eq_false_iff_not,zzX] at a;exact ⟨n,x,v,m,d,by assumption,by assumption,by assumption,.inl ⟨_,by assumption⟩,by assumption,by assumption,a.1.1.1.1,a.1.1.1.2,a.1.2,a.2⟩
  ·rename_i n x v m k d B i C E F G;simp only [zzZ,bne_iff_ne,ne_eq,Bool.not_eq_true',List.contains_eq_mem,decide_eq_false_iff_not,zzX] at a;exact ⟨n,x,v,m,d,by assumption,by assumption,by assumption,.inr ⟨_,by assumption⟩,by assumption,by assumption,a.1.1.1.1,a.1.1.1.2,a.1.2,a.2⟩
  ·cases a
 obtain ⟨n,x,v,m,d,B,i,C,E,F,G,W,l,u,I⟩:=key;obtain ⟨J,w,h⟩:=h;have H:=U.congr w.symm;obtain ⟨s,X,cs,cs',o,f,T,L,⟨y,M,Y⟩,Z⟩:=Tv B i C h;have j:d≠s:=by
  intro e;subst e;simp only [AL.place] at f;split at f
  ·rename_i r R V;simp only [zzY,Prod.mk.injEq] at f;exact H.no (x:=x) (s:=d) (by rw [V,←f.1]; rfl) W
  ·simp only [zzY,Prod.mk.injEq] at f;exact l f.1.symm
  ·cases f
 have ho:∀ b e,o=some (b,e)->(∃ t,e=EV.tv t)∧b≠m:=fun b e A=>by
  obtain ⟨g,k2,_⟩:=L b e A;exact ⟨k2,fun e=>I (by rw [g,←e]; simp [AL.sl])⟩
 obtain ⟨e,hK,hq⟩:=Z9 (cs':=cs') (o:=o) (O:=J) E F G T ho M.1 Y;refine ⟨J,w,hq _ ⟨_,.refl _,Z ((d,e)::J) ?_ (by rw [AD.get_cons,d2 j]; exact T) ?_ _ (OC hK ?_)⟩⟩
 ·simp only [AL.place,AD.get_cons,d2 l] at f ⊢;exact f
 ·cases v with
  | c t=>rfl
  | s b=>
   simp only [AL.ev,AD.get_cons];rw [d2 (fun e=>u (by rw [e]; simp [AL.sl]))]
 ·refine ⟨fun z=>?_,fun z=>?_⟩
  ·rw [AD.get_cons,M.1,IW,IW];by_cases g:d=z
   ·subst g;rw [d1 rfl,d2 (fun e=>j e.symm)];cases o with
    | none=>rw [AD.get_cons,d1 rfl]
    | some p=>
     simp only;rw [d2 (fun i=>u (by rw [(L p.1 p.2 rfl).1,←i]; simp [AL.sl])),AD.get_cons,d1 rfl]
   ·rw [d2 g];cases o with
    | none=>simp only [AD.get_cons,d2 g]
    | some p=>simp only [AD.get_cons,d2 g]
  ·have S:∀ b e,o=some (b,e)->e.noR z=true:=fun b e A=>by
    obtain ⟨_,⟨t,rfl⟩,_⟩:=L b e A;rfl
   rw [AD.noRef_cons,M.2,Is _ _ _ _ _ S,Is _ _ _ _ _ S,AD.noRef_cons]
theorem WE {O a:AD} {b:Nat} {o:Option AL} (h:∀ y∈o.toList,y.val a=y.val O):HM a b o=HM O b o:=by
 cases o with
 | none=>rfl
 | some y=>simp only [HM]; exact h y (by simp)
theorem kT {S:FuncId->QQ->CS->Prop} {p:AJ} {xs:List AL} {O:AD} {d:Option Nat} {K:EV->AD->Prop} (v:p.vops=some xs) (h:p.wp S O d K) :
  ∃ t,K (.tv t) O∧(∀ x∈xs,∃ u,x.val O=some u)∧∀ c,(∀ x∈xs,x.val c=x.val O)->∀ j:EV->AD->Prop,j (.tv t) c->p.wp S c d j:=by
 cases p <;> simp only [AJ.vops,zzY] at v <;> first | cases v | skip
 case bin k op x y=>
  simp only [AJ.wp] at h;split at h
  ·rename_i a b f q;cases s:F1 k op a b with
   | none=>rw [s] at h; exact h.elim
   | some t=>
    rw [s] at h;refine ⟨t,h,fun z e=>?_,fun c g j i=>?_⟩
    ·simp only [List.mem_cons,List.not_mem_nil,or_false] at e;rcases e with rfl | rfl
     ·exact ⟨a,f⟩
     ·exact ⟨b,q⟩
    ·simp only [AJ.wp,g x (by simp),g y (by simp),f,q,s];exact i
  ·exact h.elim
 case len x=>
  simp only [AJ.wp] at h;split at h
  ·rename_i n es f;refine ⟨_,h,fun z e=>?_,fun c g j i=>?_⟩
   ·rw [List.mem_singleton.1 e]; exact ⟨_,f⟩
   ·simp only [AJ.wp,g x (by simp),f];exact i
  ·exact h.elim
 case cvt k x=>
  simp only [AJ.wp] at h;split at h
  ·rename_i E n f;refine ⟨_,h,fun z e=>?_,fun c g j i=>?_⟩
   ·rw [List.mem_singleton.1 e]; exact ⟨_,f⟩
   ·simp only [AJ.wp,g x (by simp),f];exact i
  ·exact h.elim
 case mm b x y=>
  simp only [AJ.wp] at h;split at h
  ·rename_i k a E F f q;refine ⟨_,h.2,fun z e=>?_,fun c g j i=>?_⟩
   ·simp only [List.mem_cons,List.not_mem_nil,or_false] at e;rcases e with rfl | rfl
    ·exact ⟨_,f⟩
    ·exact ⟨_,q⟩
   ·simp only [AJ.wp,g x (by simp),g y (by simp),f,q];exact ⟨h.1,i⟩
  ·exact h.elim
 case slc n x lo hi=>
  simp only [AJ.wp] at h;split at h
  ·rename_i m es f;split at h
   ·rename_i w l A r B C;refine ⟨_,h.2.2,fun z e=>?_,fun c g j i=>?_⟩
    ·simp only [List.mem_cons,List.mem_append,Option.mem_toList] at e;rcases e with rfl | e | e
     ·exact ⟨_,f⟩
     ·cases e; exact ⟨_,B⟩
     ·cases e; exact ⟨_,C⟩
    ·have w:HM c 0 lo=HM O 0 lo:=WE (fun y o=>g y (by simp at o ⊢; exact .inr (.inl o)));have A:HM c es.length hi=HM O es.length hi:=WE (fun y o=>g y (by simp at o ⊢; exact .inr (.inr o)));simp only [AJ.wp,g x (by simp),f,w,A,B,C];exact ⟨h.1,h.2.1,i⟩
   ·exact h.elim
  ·exact h.elim
theorem kR {p q:PR} {O:AD} (a:okPairV D p q=true) {S:List PR} (h:KL (AT P) K (p::q::S) O):KL (AT P) K (q::p::S) O:=by
 unfold okPairV at a;split at a
 ·rename_i xs d n x v e1 T U f1 f2 f3;simp only [zzZ,bne_iff_ne,ne_eq,Bool.not_eq_true',List.contains_eq_mem,decide_eq_false_iff_not] at a;obtain ⟨⟨⟨_,H⟩,k⟩,I⟩:=a;obtain ⟨b,J,h⟩:=h;unfold PR.wp at h;rw [T,U] at h;simp only [AD.put] at h;obtain ⟨t,⟨y,l,hw⟩,hs,L⟩:=kT e1 h;obtain ⟨s,M,cs,cs',o,X,Q,R,hK,h5⟩:=Tv f1 f2 f3 hw;have B:∀ z,d≠z->y.get z=b.get z:=fun z w=>by rw [l.1,AD.get_cons,d2 w]
  have i:d≠s:=fun e=>by
   rw [l.1,AD.get_cons,d1 e] at Q; cases Q
  have hp:(AL.s x).place b=some (s,M):=by
   simp only [AL.place,B x H] at X ⊢;exact X
  have V:b.get s=.bx cs:=by rw [←B s i]; exact Q
  have hv:v.ev b=v.ev y:=by
   cases v with
   | c t=>rfl
   | s g=>
    simp only [AL.ev];exact (B g (fun e=>k (by rw [e]; simp [AL.sl]))).symm
  have hq:∀ r:AD->Prop,r (NS s cs' o b)->q.wp (AT P) b r:=fun r A=>h5 b hp V hv r A;refine ⟨b,J,hq _ ⟨_,.refl _,?_⟩⟩;unfold PR.wp;rw [T,U];simp only [AD.put];refine L _ (fun z w=>?_) _ (OC hK ?_)
  ·cases z with
   | c t=>rfl
   | s m=>
    obtain ⟨u,Y⟩:=hs _ w;have C:¬ s=m:=fun e=>by
     subst e;simp only [AL.val,AL.ev,V,EV.val] at Y;cases Y
    simp only [AL.val,AL.ev,IW,d2 C];cases o with
    | none=>rfl
    | some f=>
     have E:¬ f.1=m:=fun e=>DM I (x:=m) (List.mem_flatMap.2 ⟨_,w,by simp [AL.sl]⟩) (by rw [(R f.1 f.2 rfl).1,e]; simp [AL.sl]);simp only [d2 E]
  ·refine ⟨fun z=>?_,fun z=>?_⟩
   ·rw [AD.get_cons,IW,IW];by_cases F:s=z
    ·subst F; rw [d1 rfl,d2 i,d1 rfl]
    ·rw [d2 F,d2 F];cases o with
     | none=>
      simp only;rw [l.1,AD.get_cons]
     | some f=>
      have G:¬ d=f.1:=fun e=>k (by rw [(R f.1 f.2 rfl).1,e]; simp [AL.sl]);simp only;by_cases j:f.1=z
      ·rw [d1 j,d1 j,d2 (fun e=>G (e.trans j.symm))]
      ·rw [d2 j,d2 j,l.1,AD.get_cons]
   ·have W:∀ g e,o=some (g,e)->e.noR z=true:=fun g e Z=>by
     obtain ⟨_,⟨t,rfl⟩,_⟩:=R g e Z;rfl
    rw [AD.noRef_cons,Is _ _ _ _ _ W,Is _ _ _ _ _ W,l.2,AD.noRef_cons]
 ·cases a
theorem kP {p q:PR} {O:AD} (hj:JD D O) (a:okPairL D p q=true) {V:List PR} (h:KL (AT P) K (p::q::V) O):KL (AT P) K (q::p::V) O:=by
 unfold okPairL at a;split at a
 ·rename_i b m d n x v W X Y f1 f2 f3;simp only [zzZ,bne_iff_ne,ne_eq,Bool.not_eq_true',List.contains_eq_mem,decide_eq_false_iff_not,zzX] at a;obtain ⟨⟨⟨⟨⟨⟨_,bD⟩,M⟩,Q⟩,hdb⟩,w⟩,R⟩:=a;obtain ⟨f,A,h⟩:=h;have G:=hj.congr A.symm;unfold PR.wp at h;rw [W,X,Y] at h;simp only [AD.put,AJ.wp] at h;split at h
  case h_2=>exact h.elim
  rename_i bs k;obtain ⟨E,y,B,hw⟩:=h;obtain ⟨s,S,cs,cs',o,h1,T,U,hK,h5⟩:=Tv f1 f2 f3 hw;have H:∀ z,d≠z->y.get z=f.get z:=fun z hz=>by rw [B.1,AD.get_cons,d2 hz]
  have l:d≠s:=fun e=>by
   rw [B.1,AD.get_cons,d1 e] at T; cases T
  have g:(AL.s x).place f=some (s,S):=by
   simp only [AL.place,H x Q] at h1 ⊢;exact h1
  have I:¬ s=b:=by
   intro e;subst e;simp only [AL.place] at g;split at g
   ·rename_i r Z hx;simp only [zzY,Prod.mk.injEq] at g;exact G.no (x:=x) (s:=s) (by rw [hx,←g.1]; rfl) bD
   ·simp only [zzY,Prod.mk.injEq] at g;exact M g.1.symm
   ·cases g
  have hb:f.get s=.bx cs:=by rw [←H s l]; exact T
  have hv:v.ev f=v.ev y:=by
   cases v with
   | c t=>rfl
   | s j=>
    simp only [AL.ev];exact (H j (fun e=>w (by rw [e]; simp [AL.sl]))).symm
  have hq:∀ C:AD->Prop,C (NS s cs' o f)->q.wp (AT P) f C:=fun C F=>h5 f g hb hv C F;refine ⟨f,A,hq _ ⟨_,.refl _,?_⟩⟩;have hg:(NS s cs' o f).get b=.bx bs:=by
   rw [IW,d2 I];cases o with
   | none=>exact k
   | some i=>
    simp only;rw [d2 (fun e=>R (by rw [(U i.1 i.2 rfl).1,←e]; simp [AL.sl]))];exact k
  unfold PR.wp;rw [W,X,Y];simp only [AD.put,AJ.wp,hg];refine ⟨E,OC hK ?_⟩;refine ⟨fun z=>?_,fun z=>?_⟩
  ·rw [AD.get_cons,IW,IW];by_cases J:s=z
   ·subst J; rw [d1 rfl,d2 l,d1 rfl]
   ·rw [d2 J,d2 J];cases o with
    | none=>
     simp only;rw [B.1,AD.get_cons]
    | some i=>
     have L:¬ d=i.1:=fun e=>w (by rw [(U i.1 i.2 rfl).1,e]; simp [AL.sl]);simp only;by_cases u:i.1=z
     ·rw [d1 u,d1 u,d2 (fun e=>L (e.trans u.symm))]
     ·rw [d2 u,d2 u,B.1,AD.get_cons]
  ·have E:∀ j e,o=some (j,e)->e.noR z=true:=fun j e he=>by
    obtain ⟨_,⟨t,rfl⟩,_⟩:=U j e he;rfl
   rw [AD.noRef_cons,Is _ _ _ _ _ E,Is _ _ _ _ _ E,B.2,AD.noRef_cons]
 ·cases a
theorem aE {q:PR} {oq:Oper} (m:Ng P N ops oq q=true) {d:List PR}:∀ (c:List PR),(∀ p∈c,okPair2 D p q=true∧∃ o,Ng P N ops o p=true)->∀ {O:AD},Mn F0 w0 N O->JD D O->KL (AT P) K (c++q::d) O->KL (AT P) K (q::(c++d)) O
 | [],_,O,_,_,h=>h
 | p::c,e,O,j,g,h=>by
  obtain ⟨a,o,ho⟩:=e p (by simp);obtain ⟨s,f,h⟩:=h;obtain ⟨env1,t,k,l,i⟩:=th ho (Xs a) (j.congr f.symm) (g.congr f.symm) h;have r:=aE m c (fun p n=>e p (by simp [n])) k l t;have b:KL (AT P) K (p::q::(c++d)) O:=⟨s,f,i _ r⟩;simp only [okPair2,Bool.or_eq_true] at a;rcases a with ((((((a | a) | a) | a) | a) | a) | a) | a
  ·exact swap j g ho m a b
  ·exact gz j g ho a b
  ·exact kO a b
  ·exact kQ j g ho a b
  ·exact kS a b
  ·exact kN g a b
  ·exact kR a b
  ·exact kP g a b
theorem py {S:FuncId->QQ->CS->Prop} {n:Nat} {x v:AL} {d:Option Nat} {O:AD} {K:EV->AD->Prop} (h:(AJ.st n x v).wp S O d K):(AJ.st n x v).wp S O d fun e env'=>K e env'∧e=.undef∧∀ c,env'.noRef c=O.noRef c:=by
 simp only [AJ.wp] at h ⊢;split at h
 ·rename_i s a b;split at h
  ·rename_i cs f;split at h
   ·rename_i t hv;cases v with
    | c t=>exact h.elim
    | s q=>
     simp only at h ⊢;exact ⟨h.1,h.2.1,h.2.2.1,h.2.2.2,trivial,fun c=>by simp [AD.noRef_cons,EV.noR,EV.ref]⟩
   ·rename_i t hv;exact ⟨h.1,h.2.1,h.2.2,trivial,fun c=>by simp [AD.noRef_cons,EV.noR,EV.ref]⟩
   ·exact h.elim
  ·exact h.elim
 ·exact h.elim
theorem jB {S:FuncId->QQ->CS->Prop} {n s:Nat} {v:AL} {d:Option Nat} {O:AD} {K:EV->AD->Prop} (h:(AJ.stb n s v).wp S O d K):(AJ.stb n s v).wp S O d fun e env'=>K e env'∧e=.undef∧∀ c,env'.noRef c=O.noRef c:=by
 simp only [AJ.wp] at h ⊢;split at h
 ·rename_i cs a;split at h
  ·rename_i t hv;cases v with
   | c t=>exact h.elim
   | s q=>
    simp only at h ⊢;exact ⟨h.1,h.2.1,h.2.2.1,h.2.2.2,trivial,fun c=>by simp [AD.noRef_cons,EV.noR,EV.ref]⟩
  ·rename_i t hv;exact ⟨h.1,h.2.1,h.2.2,trivial,fun c=>by simp [AD.noRef_cons,EV.noR,EV.ref]⟩
  ·exact h.elim
 ·exact h.elim
theorem ZK (O:AD) (q:Nat) (i:Option Nat) (n:Nat) (es:QQ) (c:Nat):AD.noRef c (O.xput q i n es)=AD.noRef c O:=by
 cases i with
 | none=>simp [AD.xput,AD.noRef_cons,EV.noR,EV.ref]
 | some k=>
  simp only [AD.xput];split
  ·simp [AD.noRef_cons,EV.noR,EV.ref]
  ·rfl
theorem jA {S:FuncId->QQ->CS->Prop} {x:AL} {q:Nat} {d:Option Nat} {O:AD} {K:EV->AD->Prop} (h:(AJ.cpt x q).wp S O d K):(AJ.cpt x q).wp S O d fun e env'=>K e env'∧e=.undef∧∀ c,env'.noRef c=O.noRef c:=by
 simp only [AJ.wp] at h ⊢;split at h
 ·rename_i s a n es b f;split at h
  ·rename_i cs g;exact ⟨h.1,h.2.1,h.2.2,trivial,fun c=>by simp [AD.noRef_cons,EV.noR,EV.ref]⟩
  ·exact h.elim
 ·exact h.elim
theorem jD {S:FuncId->QQ->CS->Prop} {x v:AL} {d:Option Nat} {O:AD} {K:EV->AD->Prop} (h:(AJ.xst x v).wp S O d K):(AJ.xst x v).wp S O d fun e env'=>K e env'∧e=.undef∧∀ c,env'.noRef c=O.noRef c:=by
 simp only [AJ.wp] at h ⊢;split at h
 ·rename_i q i c l;split at h
  ·obtain ⟨a,b,es',f,g,j,k⟩:=h;exact ⟨a,b,es',f,g,j,k,trivial,fun c=>ZK _ _ _ _ _ _⟩
  ·exact h.elim
 ·exact h.elim
theorem jC {S:FuncId->QQ->CS->Prop} {n s q:Nat} {d:Option Nat} {O:AD} {K:EV->AD->Prop} (h:(AJ.stx n s q).wp S O d K):(AJ.stx n s q).wp S O d fun e env'=>K e env'∧e=.undef∧∀ c,env'.noRef c=O.noRef c:=by
 simp only [AJ.wp] at h ⊢;split at h
 ·rename_i cs a b f;exact ⟨h.1,h.2.1,h.2.2.1,h.2.2.2,trivial,fun c=>by simp [AD.noRef_cons,EV.noR,EV.ref]⟩
 ·exact h.elim
theorem fh {S:FuncId->QQ->CS->Prop} {r:PR} {O:AD} {K:AD->Prop} (B:Ws D r=true) (i:Mb r.op=true->r.dst=none) (k:JD D O) (h:r.wp S O K):r.wp S O fun env'=>K env'∧JD D env':=by
 simp only [Ws,Bool.or_eq_true,zzZ,Bool.not_eq_true'] at B;rcases B with ((o | A) | l) | ⟨⟨⟨Y,a⟩,Z⟩,C⟩
 ·have a:=i o;have F:(r.op.wp S O r.dst fun e env'=>K (env'.put r.dst e))->r.op.wp S O r.dst fun e env'=>K (env'.put r.dst e)∧JD D (env'.put r.dst e):=by
   intro t;rw [a] at t ⊢;generalize r.op=p at o t ⊢;cases p <;> simp only [Mb] at o <;> first | cases o | skip
   ·refine AJ.wp_mono S O none (fun e env' c=>⟨c.1,fun d i=>?_⟩) _ (py t);simp only [AD.put];rw [c.2.2]; exact k d i
   ·refine AJ.wp_mono S O none (fun e env' c=>⟨c.1,fun d i=>?_⟩) _ (jB t);simp only [AD.put];rw [c.2.2]; exact k d i
   ·refine AJ.wp_mono S O none (fun e env' c=>⟨c.1,fun d i=>?_⟩) _ (jD t);simp only [AD.put];rw [c.2.2]; exact k d i
   ·refine AJ.wp_mono S O none (fun e env' c=>⟨c.1,fun d i=>?_⟩) _ (jC t);simp only [AD.put];rw [c.2.2]; exact k d i
   ·refine AJ.wp_mono S O none (fun e env' c=>⟨c.1,fun d i=>?_⟩) _ (jA t);simp only [AD.put];rw [c.2.2]; exact k d i
  unfold PR.wp at h ⊢;split
  ·rename_i I; rw [I] at h; exact F h
  ·rename_i g b I;rw [I] at h;simp only at h;split
   ·rename_i q l;rw [l] at h;exact ⟨fun C=>F (h.1 C),fun C=>⟨h.2 C,by rw [a]; exact k⟩⟩
   ·rename_i J;rw [J] at h;exact ⟨h,by rw [a]; exact k⟩
   ·rename_i L M;split at h
    ·rename_i q l; exact absurd l (L q)
    ·rename_i l; exact absurd l M
    ·exact h.elim
 ·unfold okBd at A;split at A
  ·rename_i gs d u v w;obtain ⟨ts,G,R,T⟩:=Sd u v w h;refine QP u v w G R ⟨T,fun x H=>?_⟩;rw [AD.noRef_cons,LU,k x H];rfl
  ·cases A
 ·unfold okQ at l;split at l
  ·rename_i s d u v w;obtain ⟨n,es,G,W,R,T⟩:=Yn u v w h;refine Yo u v w G W R ⟨T,fun x H=>?_⟩;have:=k x H;simp [AD.noRef_cons,EV.noR,EV.ref,this]
  ·rename_i n s z x d u v w;simp only [PR.wp,u,v,w,AJ.wp,AD.put] at h ⊢;split at h
   ·rename_i d' m es kk j E hs H;simp only [zzY] at E;subst E;refine ⟨h.1,h.2.1,h.2.2.1,h.2.2.2,fun y U=>?_⟩;have:=k y U;simp [AD.noRef_cons,EV.noR,EV.ref,this]
   ·exact h.elim
  ·cases l
 ·obtain ⟨d,i⟩:=Option.isSome_iff_exists.1 a;have Q:r.op.isNew=true->r.guard=none:=fun V=>by
   rcases Z with h | h
   ·rw [V] at h; cases h
   ·simpa using h
  refine PR.wp_mono S O (fun env' c=>?_) r (P6 i Y Q h);obtain ⟨G,e,f,X⟩:=c;exact ⟨G,X.jd C k⟩
theorem cP {S:FuncId->QQ->CS->Prop} {a:Act} {w:World} {d:List PR}:∀ {O:AD},Qi d=true->KL S K d O->DI F0 w0 O a w->∃ env',K env'∧DI F0 w0 env' a w:=by
 induction d with
 | nil=>intro O _ h b; obtain ⟨e,f,g⟩:=h; exact ⟨e,g,b.congr fun n=>(f.1 n).symm⟩
 | cons r d o=>
  intro O c h b;simp only [Qi,zzZ] at c;obtain ⟨f,g⟩:=c;obtain ⟨q,i,h⟩:=h;have b:=b.congr (fun n=>(i.1 n).symm);split at f
  ·rename_i s j k l;simp only [PR.wp,j,k,l,AJ.wp] at h;split at h
   ·rename_i cs m;obtain ⟨G,b⟩:=b;exact o g h (b.frz m)
   ·exact h.elim
  ·cases f
theorem Qj:∀ (os:List Oper) (a:List PR),Lw P N ops os a=true->(∀ i o,os[i]?=some o->Ng P N ops o (M5 a i)=true)∧Qi (a.drop os.length)=true∧a=(List.range os.length).map (M5 a)++a.drop os.length
 | [],a,h=>⟨fun i o h=>by simp at h,h,by simp⟩
 | o::os,[],h=>by simp [Lw] at h
 | o::os,r::a,h=>by
  simp only [Lw,zzZ] at h;obtain ⟨c,d,e⟩:=Qj os a h.2;refine ⟨fun i b hi=>?_,by simpa using d,?_⟩
  ·cases i with
   | zero=>simp only [List.getElem?_cons_zero,zzY] at hi; subst hi; exact h.1
   | succ i=>simp only [List.getElem?_cons_succ] at hi; exact c i b hi
  ·rw [d6,List.range_succ_eq_map,List.map_cons,List.map_map,List.cons_append,List.drop_succ_cons];congr 1
theorem aJ {Q:Exit->Act->World->Prop} {l:List PR} (X:Rm P N D ops l=true) (hpd:∀ i v,p=some (i,v)->∀ r∈l,r.dst≠some i) (hQ:∀ O a w,K O->MX N p a->DI F0 w0 O a w->Q .normal a w) :
  ∀ (fuel:Nat) (rem:ci) (b:Array Bool) (O:AD) (a:Act) (w:World),rem.length=fuel->rem.Pairwise (·<·)->(∀ j,j∈rem↔j<ops.size∧b.getD j true=false)->b.size=ops.size ->
   (∀ k o,ops[k]?=some o->b.getD k false=true->∀ e∈o.after,Region.binds .any e=true->b.getD e.on false=true) ->
   MX N p a->DI F0 w0 O a w->JD D O->KL (AT P) K (rem.map (M5 l)++l.drop ops.size) O->wpAny P .any ops Q fuel b a w:=by
 simp only [Rm,zzZ,List.all_eq_true,List.mem_range] at X;obtain ⟨⟨⟨⟨hl,hs⟩,he⟩,hM⟩,hP⟩:=X;obtain ⟨A,hl2,hl3⟩:=Qj ops.toList l hl;simp only [Array.length_toList,Array.getElem?_toList] at A hl2 hl3;intro fuel
 induction fuel with
 | zero=>
  intro rem b O a w m L c Z M hN hI J h;have:rem=[]:=List.eq_nil_of_length_eq_zero m;subst this;refine ⟨?_,?_⟩
  ·refine List.eq_nil_iff_forall_not_mem.2 fun j E=>?_;rw [mem_ready] at E;obtain ⟨C,o,ho,_⟩:=E;have:=(c j).2 ⟨(Array.getElem?_eq_some_iff.1 ho).1,C⟩;cases this
  ·obtain ⟨env',C,g⟩:=cP hl2 h hI;exact hQ env' a w C hN g
 | succ fuel ih=>
  intro rem b O a w m L c Z M hN hI J h;refine ⟨fun Y=>?_,fun i hi=>?_⟩
  ·
   exfalso;cases rem with
   | nil=>simp at m
   | cons i rem=>
    have C:=(c i).1 (by simp);have f:i∈Region.ready .any ops b:=by
     rw [mem_ready];have ho:ops[i]?=some ops[i]:=Array.getElem?_eq_getElem C.1;refine ⟨C.2,_,ho,fun e s G=>?_⟩;have:=he i C.1;rw [ho] at this;simp only [List.all_eq_true,Bool.or_eq_true,Bool.not_eq_true',zzX] at this;have hlt:=(this e (by simpa using s)).resolve_left (by simp [G]);cases z:b.getD e.on false with
     | true=>rfl
     | false=>
      have R:e.on∈i::rem:=by
       refine (c _).2 ⟨by omega,?_⟩;have:e.on<b.size:=by omega
       simp only [Array.getD_eq_getD_getElem?,Array.getElem?_eq_getElem this,Option.getD_some] at z ⊢;exact z
      rcases List.mem_cons.1 R with g | g
      ·omega
      ·have:=(List.pairwise_cons.1 L).1 _ g; omega
    rw [Y] at f; cases f
  ·have hi':=hi;rw [mem_ready] at hi';obtain ⟨hi1,o,ho,hi2⟩:=hi';have f:i<ops.size:=(Array.getElem?_eq_some_iff.1 ho).1;have hir:i∈rem:=(c i).2 ⟨f,hi1⟩;obtain ⟨B,q,rfl⟩:=List.append_of_mem hir;have d:=List.pairwise_append.1 L;have H:∀ j∈B,j<i:=fun j J=>d.2.2 j J i (by simp);have T:∀ j∈q,i<j:=fun j J=>(List.pairwise_cons.1 d.2.1).1 j J;have F:∀ (k:Nat),k<ops.size->(∀ o,ops[k]?=some o->∀ e∈o.after,Region.binds .any e=true->b.getD e.on false=true)->∀ j,j<ops.size->((eM ops).getD k 0).testBit j=true->b.getD j false=true:=by
    intro k
    induction k using Nat.strongRecOn with
    | _ k ihk=>
     intro W hdir j u G;have:=hM k W j u;rw [G] at this;simp only [Bool.not_true,Bool.false_or] at this;split at this
     ·rename_i ok hok';simp only [List.any_eq_true,zzZ,Bool.or_eq_true,beq_iff_eq,zzX] at this;obtain ⟨e,s,hbe,h3⟩:=this;have z:=hdir ok hok' e (by simpa using s) hbe;rcases h3 with h3 | ⟨h3,h4⟩
      ·rw [←h3]; exact z
      ·exact ihk e.on h3 (by omega) (fun I t e' he' hb'=>M e.on I t z e' he' hb') j u h4
     ·cases this
   have hwp:KL (AT P) K (M5 l i::(B.map (M5 l)++(q.map (M5 l)++l.drop ops.size))) O:=by
    refine aE (ops:=ops) (F0:=F0) (w0:=w0) (N:=N) (oq:=o) (A i o ho) (B.map (M5 l)) (fun p hp=>?_) ⟨a,w,hN.size,hI⟩ J (by simpa using h);obtain ⟨j,hj1,rfl⟩:=List.mem_map.1 hp;have hlt:=H j hj1;have u:j<ops.size:=by omega
    refine ⟨?_,ops[j],A j _ (Array.getElem?_eq_getElem u)⟩;have:=hP i f j hlt;rw [Bool.or_eq_true] at this;refine this.resolve_left fun G=>?_;have C:=F i f (fun I t=>by rw [ho] at t; simp only [zzY] at t; subst t; exact hi2) j u G;have g:=((c j).1 (by simp [hj1])).2;have:j<b.size:=by omega
    simp only [Array.getD_eq_getD_getElem?,Array.getElem?_eq_getElem this,Option.getD_some] at C g;rw [C] at g; cases g
   obtain ⟨e',heq,hw⟩:=hwp;have hI':=hI.congr (fun n=>(heq.1 n).symm);have E:=J.congr heq.symm;have hstd:Mb (M5 l i).op=true->(M5 l i).dst=none:=by
    intro hst;have:=A i o ho;simp only [Ng,zzZ] at this;have g:=this.2;split at g
    ·simp only [hst,Bool.not_true,Bool.and_false,Bool.false_and] at g; cases g
    ·assumption
    ·cases g
   have hw':=fh (hs i f) hstd E hw;have U:∀ j,j∈B++q↔j<ops.size∧(b.setIfInBounds i true).getD j true=false:=by
    intro j;by_cases V:j=i
    ·subst V;constructor
     ·intro R;rcases List.mem_append.1 R with R | R
      ·have:=H _ R; omega
      ·have:=T _ R; omega
     ·rintro ⟨_,g⟩;have:j<b.size:=by omega
      simp [this] at g
    ·rw [getD_set_ne true (fun e=>V e.symm),←c j];simp [V]
   have hcl':∀ k I,ops[k]?=some I->(b.setIfInBounds i true).getD k false=true->∀ e∈I.after,Region.binds .any e=true->(b.setIfInBounds i true).getD e.on false=true:=by
    intro k I W hlk e s G;refine getD_set_true ?_;by_cases hki:k=i
    ·subst hki;rw [ho] at W;simp only [zzY] at W;subst W;exact hi2 e s G
    ·rw [getD_set_ne false (fun e=>hki e.symm)] at hlk;exact M k I W hlk e s G
   have hpdi:∀ j v,p=some (j,v)->(M5 l i).dst≠some j:=by
    intro j v hp;unfold M5;cases hr:l[i]? with
    | none=>simp
    | some r=>exact hpd j v hp r (List.mem_of_getElem? hr)
   have:=TJ (Q:=Q) (next:=wpAny P .any ops Q fuel (b.setIfInBounds i true)) hI' hN hpdi (A i o ho) hw' fun env' a' w' k1 k2 k3=>
    ih (B++q) _ env' a' w' (by simp only [d4,d6] at m ⊢; omega) (List.pairwise_append.2 ⟨d.1,(List.pairwise_cons.1 d.2.1).2,fun x hx y hy=>d.2.2 x hx y (by simp [hy])⟩) U (by simpa using Z) hcl' k2 k3 k1.2 (by simpa using k1.1)
   unfold Go.wpOp;rw [ho];simp only [];split
   ·rename_i S; rw [d1 S] at this; exact .inl this
   ·rename_i S; rw [d2 S] at this; exact this
theorem U4:∀ (a:ci) (O:AD),P3 O a=true->JD a O
 | [],O,_=>fun d c=>by simp at c
 | d::a,O,h=>by
  simp only [P3,zzZ] at h;intro x b;rcases List.mem_cons.1 b with rfl | b
  ·exact h.1
  ·exact U4 a O h.2 x b
theorem Ti (x:P.follows .mixedOrders=true):PG P N (Rm P N):=by
 intro F0 w0 p id J ops L d O a w K Q l q M c R h S;refine wp_region_any x ?_;have f:=l;simp only [Rm,zzZ] at f;obtain ⟨_,_,m⟩:=Qj ops.toList L f.1.1.1.1;simp only [Array.length_toList] at m;have t:DI F0 w0 O a { w with drawn:=w.drawn+1 }:=by
  obtain ⟨G,c⟩:=c;refine ⟨G,c.uniq,c.lt,⟨c.below.os,c.below.tape,c.below.output,c.below.size,c.below.block,c.below.cell,c.below.free⟩,c.defers,c.dom,fun s y=>?_,c.wf⟩;exact AY.kept (w:=w) (w':={ w with drawn:=w.drawn+1 }) (F:=A3 w0.heap.size F0 G) (G:=G) (O:=O) (a:=a) (fun b o u z A=>⟨z,A⟩) (fun _=>rfl) (fun _ _ _ _=>rfl) (fun r B C g=>⟨g,rfl⟩) (fun r i C g=>⟨g,fun _ hv=>hv⟩) (c.slots s y)
 refine aJ (K:=fun e=>K (e.keep d)) (F0:=F0) (w0:=w0) l q (fun O a w E H I=>S _ a w E H (I.keep d)) ops.size (List.range ops.size) _ O a _ (by simp) List.pairwise_lt_range (fun j=>?_) (by simp) (fun k o T n=>?_) M t (U4 J O R) ?_
 ·rw [List.mem_range];constructor
  ·intro v; exact ⟨v,by simp [Array.getD_eq_getD_getElem?,Array.getElem?_replicate,v]⟩
  ·exact fun h=>h.1
 ·simp only [Array.getD_eq_getD_getElem?,Array.getElem?_replicate] at n;split at n <;> simp at n
 ·rw [←m]; exact bq h
end
end Go.Sf
