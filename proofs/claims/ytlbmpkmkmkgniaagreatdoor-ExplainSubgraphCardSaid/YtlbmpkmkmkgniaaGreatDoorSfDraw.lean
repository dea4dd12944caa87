/- Regions whose order is drawn. -/
import Derived.Test.YtlbmpkmkmkgniaaGreatDoorSfSwapSt
set_option linter.all false
namespace Go.Sf
open Go.RowKit (Below)
def ME (rs:List PR) (i:Nat):PR:=(rs[i]?).getD ⟨none,.nilo 0,none⟩
def okBd (p:PR):Bool:=match p.op,p.guard,p.dst with
 | .bldg _,none,some _=>true
 | _,_,_=>false
def okPairB (p q:PR):Bool:=match p.op,p.guard,p.dst,q.op,q.guard,q.dst with
 | .bldg gs,none,some dp,.alc _,none,some dq=>dp != dq&&!(gs.flatMap GC.sl).contains dq
 | _,_,_,_,_,_=>false
theorem Xu {p q:PR} (h:okPairB p q=true):okBd p=true:=by
 unfold okPairB at h;split at h
 ·rename_i a b c _ _ _; simp [okBd,a,b,c]
 ·cases h
def TI (p:PR):Bool:=match p.op,p.guard,p.dst with
 | .st _ (.s _) _,none,none=>true
 | _,_,_=>false
def okPairA (D:ci) (p q:PR):Bool:=match p.op,p.guard,p.dst,q.op,q.guard,q.dst with
 | .st _ (.s x) v,none,none,.bad m _,none,some d=>D.contains d&&d != x&&d != m&&!v.sl.contains d&&!v.sl.contains m
 | .st _ (.s x) v,none,none,.fad (.s m) _,none,some d=>D.contains d&&d != x&&d != m&&!v.sl.contains d&&!v.sl.contains m
 | _,_,_,_,_,_=>false
theorem Xt {D:ci} {p q:PR} (h:okPairA D p q=true):TI p=true:=by
 unfold okPairA at h;split at h
 ·rename_i a b c _ _ _; simp [TI,a,b,c]
 ·rename_i a b c _ _ _; simp [TI,a,b,c]
 ·cases h
def AH.vops:AH->Option (List AJ)
 | .len x=>some [x]
 | .mm _ x y=>some [x,y]
 | .slc _ x lo hi=>some (x::(lo.toList++hi.toList))
 | .bin _ _ x y=>some [x,y]
 | .cvt _ x=>some [x]
 | _=>none
def okPairV (D:ci) (p q:PR):Bool:=match p.op.vops,p.guard,p.dst,q.op,q.guard,q.dst with
 | some xs,none,some d,.st _ (.s x) v,none,none=>PR.movOk D p&&d != x&&!v.sl.contains d&&IT (xs.flatMap AJ.sl) v.sl
 | _,_,_,_,_,_=>false
def okPairL (D:ci) (p q:PR):Bool:=match p.op,p.guard,p.dst,q.op,q.guard,q.dst with
 | .ldb b _,none,some d,.st _ (.s x) v,none,none=>PR.movOk D p&&D.contains b&&b != x&&d != x&&d != b&&!v.sl.contains d&&!v.sl.contains b
 | _,_,_,_,_,_=>false
def okPair2 (D:ci) (p q:PR):Bool:=Si D p q||okPairSt D p q||okPairB p q||okPairT D p q||okPairX D p q||okPairA D p q||okPairV D p q||okPairL D p q
def okQ (p:PR):Bool:=match p.op,p.guard,p.dst with
 | .tkx _,none,some _=>true
 | .appz _ _ _ _,none,some _=>true
 | _,_,_=>false
theorem WQ {D:ci} {p q:PR} (h:okPair2 D p q=true):(PR.movOk D p=true∨okBd p=true)∨TI p=true:=by
 simp only [okPair2,Bool.or_eq_true] at h;rcases h with (((((((h | h) | h) | h) | h) | h) | h) | h)
 ·simp only [Si,zzZ] at h;exact .inl (.inl h.1.1.1.1.1)
 ·unfold okPairSt at h;split at h
  ·simp only [zzZ] at h;exact .inl (.inl h.1.1.1.1)
  ·simp only [zzZ] at h;exact .inl (.inl h.1.1.1.1.1.1)
  ·cases h
 ·exact .inl (.inr (Xu h))
 ·unfold okPairT at h;split at h
  ·simp only [zzZ] at h;exact .inl (.inl h.1.1.1.1)
  ·cases h
 ·unfold okPairX at h;split at h
  ·simp only [zzZ] at h;exact .inl (.inl h.1.1.1)
  ·cases h
 ·exact .inr (Xt h)
 ·unfold okPairV at h;split at h
  ·simp only [zzZ] at h;exact .inl (.inl h.1.1.1)
  ·cases h
 ·unfold okPairL at h;split at h
  ·simp only [zzZ] at h;exact .inl (.inl h.1.1.1.1.1.1)
  ·cases h
def cQ (ops:Array Oper):ci:=
 ops.toList.foldl (fun acc o=>acc++[o.after.toList.foldl (fun m e=>if Region.binds .any e then m ||| (1 <<< e.on) ||| acc.getD e.on 0 else m) 0]) []
def VT (D:ci) (r:PR):Bool:=
 Lq r.op||okBd r||okQ r||(r.op.mov&&r.dst.isSome&&(!r.op.isNew||r.guard.isNone)&&IT r.op.bads D)
def Qz (P:Program) (N:Nat) (D:ci) (ops:Array Oper) (rs:List PR):Bool:=
 let n:=ops.size
 let M:=cQ ops
 LF P N ops ops.toList rs&&(List.range n).all (fun i=>VT D (ME rs i)) &&
 (List.range n).all (fun i=>match ops[i]? with
  | some o=>o.after.toList.all fun e=>!Region.binds .any e||decide (e.on<i)
  | none=>false) &&
 (List.range n).all (fun i=>(List.range n).all fun j=>!(M.getD i 0).testBit j||(match ops[i]? with
  | some o=>o.after.toList.any fun e=>Region.binds .any e&&(e.on==j||(decide (e.on<i)&&(M.getD e.on 0).testBit j))
  | none=>false)) &&
 (List.range n).all (fun i=>(List.range i).all fun j=>(M.getD i 0).testBit j||okPair2 D (ME rs j) (ME rs i))
section
variable {P:Program} {F0:Nat->Nat->Prop} {w0:W0} {N:Nat} {p:Option (Nat × Value)} {ops:Array Oper} {K:AC->Prop} {D:ci}
theorem F8.refl {op:AH} {f:B3} {d:Option Nat} {O:AC} (h:f.ok O):F8 op f d O O:=
 ⟨fun _ _=>.inl rfl,fun _ _ _ _=>.inl rfl,fun _ _ _=>rfl,h,fun _ _ _ h=>h⟩
theorem Kv (d:Nat) (a:AC):∀ (b:ci) (O:AC),AC.noRef d (NO a b O)=AC.noRef d O
 | [],_=>rfl
 | q::b,O=>by
  rw [NO,AC.noRef_cons,Kv d a b O];rcases MC (a.get q) with ⟨t,_,c⟩ | c <;> rw [c] <;> simp [EV.noR,EV.ref]
theorem de (d:Nat) (e:EV) (O:AC) (g:GC) (h:d ∉ g.sl):GC.cell ((d,e)::O) g=g.cell O:=by
 cases g with
 | z c=>rfl
 | v x k n=>
  cases x with
  | s q=>
   simp only [GC.sl,List.mem_singleton] at h;simp only [GC.cell,AJ.val,AJ.ev,AC.get_cons,d2 h]
  | c t=>rfl
 | w q=>
  simp only [GC.sl,List.mem_singleton] at h;simp only [GC.cell,AC.get_cons,d2 h]
 | g q k n=>
  simp only [GC.sl,List.mem_singleton] at h;simp only [GC.cell,AC.get_cons,d2 h]
theorem U9 (d:Nat) (e:EV) (O:AC):∀ (a:List GC),d ∉ a.flatMap GC.sl->Iw ((d,e)::O) a=Iw O a
 | [],_=>rfl
 | g::a,h=>by
  rw [List.flatMap_cons,List.mem_append,not_or] at h;simp only [Iw,de d e O g h.1,U9 d e O a h.2]
theorem fA {a:List GC} {q:Nat} (h:q∈a.filterMap GC.slot):q∈a.flatMap GC.sl:=by
 rw [List.mem_filterMap] at h;obtain ⟨g,b,e⟩:=h;rw [List.mem_flatMap];refine ⟨g,b,?_⟩;cases g <;> simp [GC.slot] at e <;> simp [GC.sl,e]
theorem Rh {S:FuncId->QQ->CM->Prop} {p:PR} {O:AC} {K:AC->Prop} {a:List GC} {d:Nat} (e:p.op=.bldg a) (f:p.guard=none) (g:p.dst=some d) (h:p.wp S O K) :
  ∃ cs,((a.filterMap GC.src).Nodup∧d ∉ a.filterMap GC.slot)∧Iw O a=some cs∧K ((d,.oag cs)::NO O (a.filterMap GC.slot) O):=by
 simp only [PR.wp,e,f,g,AH.wp,AC.put] at h;obtain ⟨i,c⟩:=h;cases b:Iw O a with
 | none=>rw [b] at c; exact c.elim
 | some j=>rw [b] at c; exact ⟨j,i,rfl,c⟩
theorem PF {S:FuncId->QQ->CM->Prop} {p:PR} {O:AC} {K:AC->Prop} {a:List GC} {d:Nat} {cs:List AV} (c:p.op=.bldg a) (e:p.guard=none) (f:p.dst=some d) (g:(a.filterMap GC.src).Nodup∧d ∉ a.filterMap GC.slot) (b:Iw O a=some cs)
  (h:K ((d,.oag cs)::NO O (a.filterMap GC.slot) O)):p.wp S O K:=by
 simp only [PR.wp,c,e,f,AH.wp,AC.put,b];exact ⟨g,h⟩
theorem SP {S:FuncId->QQ->CM->Prop} {q:PR} {O:AC} {K:AC->Prop} {n x:Nat} {v:AJ} (d:q.op=.st n (.s x) v) (k:q.guard=none) (l:q.dst=none) (h:q.wp S O K) :
  ∃ s b cs cs' o,(AJ.s x).place O=some (s,b)∧O.get s=.bx cs∧(∀ g e,o=some (g,e)->v=.s g∧(∃ t,e=.tv t)∧g≠s)∧K (MZ s cs' o O) ∧
   ∀ a,(AJ.s x).place a=some (s,b)->a.get s=.bx cs->v.ev a=v.ev O->∀ i:AC->Prop,i (MZ s cs' o a)->q.wp S a i:=by
 unfold PR.wp at h;rw [k,d,l] at h;simp only [AH.wp] at h;split at h
 ·rename_i s b u;split at h
  ·rename_i cs w;split at h
   ·rename_i t hv;cases v with
    | c t=>exact h.elim
    | s g=>
     simp only at h;simp only [AJ.ev] at hv;refine ⟨s,b,cs,_,some (g,.tv t),u,w,?_,h.2.2.2,fun a m r j i f=>?_⟩
     ·intro s' z y;simp only [zzY,Prod.mk.injEq] at y;obtain ⟨rfl,rfl⟩:=y;exact ⟨rfl,⟨t,rfl⟩,h.1⟩
     ·simp only [AJ.ev] at j;unfold PR.wp;rw [k,d,l];simp only [AH.wp,m,r,AJ.ev,j,hv];exact ⟨h.1,h.2.1,h.2.2.1,f⟩
   ·rename_i t hv;refine ⟨s,b,cs,_,none,u,w,by simp,h.2.2,fun a m r j i f=>?_⟩;unfold PR.wp;rw [k,d,l];simp only [AH.wp,m,r,j,hv];exact ⟨h.1,h.2.1,f⟩
   ·exact h.elim
  ·exact h.elim
 ·exact h.elim
theorem rO {p:PR} {o:Oper} (ho:Mj P N ops o p=true) {K:AC->Prop} (b:(PR.movOk D p=true∨okBd p=true)∨TI p=true) {a:AC} (B:L0 F0 w0 N a) (C:JD D a) (h:p.wp (AR P) a K) :
  ∃ env1,K env1∧L0 F0 w0 N env1∧JD D env1∧∀ g:AC->Prop,g env1->p.wp (AR P) a g:=by
 rcases b with (b | b) | b
 ·simp only [PR.movOk,zzZ,Bool.or_eq_true,Bool.not_eq_true'] at b;obtain ⟨⟨⟨⟨M,O⟩,Q⟩,R⟩,S⟩:=b;obtain ⟨T,F⟩:=Option.isSome_iff_exists.1 O;have E:p.op.isNew=true->p.guard=none:=fun H=>by
   rcases Q with h | h
   ·rw [H] at h; cases h
   ·simpa using h
  obtain ⟨env1,⟨l,U,V,Fp⟩,f⟩:=Kh B ho (Ov F M E h);exact ⟨env1,l,f,Fp.jd R C,fun g c=>Fp.again a (.refl Fp.ok) (fun _ _=>rfl) _ (by rw [←Fp.env1]; exact c)⟩
 ·unfold okBd at b;split at b
  ·rename_i y d q r u;obtain ⟨env1,l,f⟩:=Kh (K:=fun env1=>K env1∧∃ cs,((y.filterMap GC.src).Nodup∧d ∉ y.filterMap GC.slot)∧Iw a y=some cs∧env1=(d,.oag cs)::NO a (y.filterMap GC.slot) a) B ho (by
    obtain ⟨G,j,k,w⟩:=Rh q r u h;exact PF q r u j k ⟨w,G,j,k,rfl⟩)
   obtain ⟨l,G,j,k,rfl⟩:=l;refine ⟨_,l,f,fun x I=>?_,fun g c=>PF q r u j k c⟩;rw [AC.noRef_cons,Kv,C x I];rfl
  ·cases b
 ·unfold TI at b;split at b
  ·rename_i n x v q r u;obtain ⟨env1,⟨l,s,i,cs,cs',W,j,z,k,w,A⟩,f⟩:=Kh (K:=fun env1=>K env1∧∃ s i cs cs' o,(AJ.s x).place a=some (s,i)∧a.get s=.bx cs∧(∀ m e,o=some (m,e)->v=.s m∧(∃ t,e=EV.tv t)∧m≠s)∧env1=MZ s cs' o a ∧
     ∀ g:AC->Prop,g (MZ s cs' o a)->p.wp (AR P) a g) B ho (by
    obtain ⟨s,i,cs,cs',o,j,z,k,w,A⟩:=SP q r u h;exact A a j z rfl _ ⟨w,s,i,cs,cs',o,j,z,k,rfl,fun g c=>A a j z rfl g c⟩)
   subst w;refine ⟨_,l,f,fun d J=>?_,A⟩;rw [IL _ _ _ _ _ (fun m e L=>by
    obtain ⟨_,⟨t,rfl⟩,_⟩:=k m e L;rfl)]
   exact C d J
  ·cases b
theorem ig {p q:PR} (a:okPairB p q=true) {l:List PR} {O:AC} (h:Jl (AR P) K (p::q::l) O):Jl (AR P) K (q::p::l) O:=by
 unfold okPairB at a;split at a
 ·rename_i z A cs m o r s t u v;simp only [zzZ,bne_iff_ne,ne_eq,Bool.not_eq_true',List.contains_eq_mem,decide_eq_false_iff_not] at a;obtain ⟨i,w⟩:=a;obtain ⟨B,j,h⟩:=h;obtain ⟨C,E,F,x,k,e⟩:=Rh o r s h;simp only [PR.wp,t,u,v,AH.wp,AC.put] at e;obtain ⟨b,e⟩:=e;rw [k.2,AC.noRef_cons,Kv] at b;simp only [EV.noR,EV.ref,Bool.true_and] at b;refine ⟨B,j,?_⟩;simp only [PR.wp,t,u,v,AH.wp,AC.put];refine ⟨b,_,.refl _,PF o r s E (by rw [U9 _ _ _ _ w]; exact F) (ND e ?_)⟩;have f:m ∉ z.filterMap GC.slot:=fun y=>w (fA y);refine ⟨fun n=>?_,fun d=>?_⟩
  ·rw [AC.get_cons,k.1,AC.get_cons,AC.get_cons,Kb,Kb];by_cases g:m=n
   ·subst g;rw [d1 rfl,d2 i,d2 f,AC.get_cons,d1 rfl]
   ·rw [d2 g];by_cases c:A=n
    ·rw [d1 c,d1 c]
    ·rw [d2 c,d2 c,AC.get_cons,d2 g]
  ·rw [AC.noRef_cons,k.2,AC.noRef_cons,AC.noRef_cons,Kv,Kv,AC.noRef_cons];cases EV.noR d (EV.bx cs) <;> cases EV.noR d (EV.oag C) <;> rfl
 ·cases a
theorem Ye {S:FuncId->QQ->CM->Prop} {q:PR} {O env1:AC} {K:AC->Prop} {m d s:Nat} {cs cs':List AV} {o:Option (Nat × EV)} (a:(∃ k,q.op=.bad m k)∨∃ k,q.op=.fad (.s m) k) (g:q.guard=none) (i:q.dst=some d) (x:O.get s=.bx cs) (ho:∀ z e,o=some (z,e)->(∃ t,e=.tv t)∧z≠m)
  (y:∀ n,env1.get n=(MZ s cs' o O).get n) (h:q.wp S env1 K):∃ e,K ((d,e)::env1)∧∀ j:AC->Prop,j ((d,e)::O)->q.wp S O j:=by
 have v:env1.get m=if s=m then .bx cs' else O.get m:=by
  rw [y,H5];by_cases e:s=m
  ·rw [d1 e,d1 e]
  ·rw [d2 e,d2 e];cases o with
   | none=>rfl
   | some p=>simp only; rw [d2 (ho p.1 p.2 rfl).2]
 have B:∀ r c,env1.get r=.bx c->∃ u,O.get r=.bx u:=by
  intro r c f;rw [y,H5] at f;by_cases e:s=r
  ·subst e; exact ⟨cs,x⟩
  ·rw [d2 e] at f;cases o with
   | none=>exact ⟨c,f⟩
   | some p=>
    simp only at f;split at f
    ·obtain ⟨⟨t,C⟩,_⟩:=ho p.1 p.2 rfl;rw [C] at f; cases f
    ·exact ⟨c,f⟩
 unfold PR.wp at h;rcases a with ⟨k,a⟩ | ⟨k,a⟩
 ·rw [g,a,i] at h;simp only [AH.wp,AC.put] at h;by_cases e:s=m
  ·rw [v,d1 e] at h;refine ⟨_,h,fun j b=>?_⟩;unfold PR.wp;rw [g,a,i];simp only [AH.wp,←e,x,AC.put];rw [←e] at b;exact b
  ·rw [v,d2 e] at h;split at h
   ·rename_i c l;refine ⟨_,h,fun j b=>?_⟩;unfold PR.wp;rw [g,a,i];simp only [AH.wp,l,AC.put];exact b
   ·rename_i row l;refine ⟨_,h,fun j b=>?_⟩;unfold PR.wp;rw [g,a,i];simp only [AH.wp,l,AC.put];exact b
   ·exact h.elim
 ·rw [g,a,i] at h;simp only [AH.wp,AC.put,AJ.ev] at h;by_cases e:s=m
  ·rw [v,d1 e] at h;exact h.elim
  ·rw [v,d2 e] at h;split at h
   ·rename_i row l;refine ⟨_,h,fun j b=>?_⟩;unfold PR.wp;rw [g,a,i];simp only [AH.wp,AJ.ev,l,AC.put];exact b
   ·rename_i r A l;split at h
    ·rename_i c f;obtain ⟨u,w⟩:=B r c f;refine ⟨_,h,fun j b=>?_⟩;unfold PR.wp;rw [g,a,i];simp only [AH.wp,AJ.ev,l,w,AC.put];exact b
    ·exact h.elim
   ·exact h.elim
theorem ic {p q:PR} {O:AC} (U:JD D O) (a:okPairA D p q=true) {Q:List PR} (h:Jl (AR P) K (p::q::Q) O):Jl (AR P) K (q::p::Q) O:=by
 have key:∃ n x v m d,p.op=.st n (.s x) v∧p.guard=none∧p.dst=none∧((∃ k,q.op=.bad m k)∨∃ k,q.op=.fad (.s m) k)∧q.guard=none∧q.dst=some d∧d∈D∧d≠x∧d ∉ v.sl∧m ∉ v.sl:=by
  unfold okPairA at a;split at a
  ·rename_i n x v m k d B i C E F G;simp only [zzZ,bne_iff_ne,ne_eq,Bool.not_eq_true',List.contains_eq_mem,decide_eq_false_iff_not,zzX] at a;exact ⟨n,x,v,m,d,by assumption,by assumption,by assumption,.inl ⟨_,by assumption⟩,by assumption,by assumption,a.1.1.1.1,a.1.1.1.2,a.1.2,a.2⟩
  ·rename_i n x v m k d B i C E F G;simp only [zzZ,bne_iff_ne,ne_eq,Bool.not_eq_true',List.contains_eq_mem,decide_eq_false_iff_not,zzX] at a;exact ⟨n,x,v,m,d,by assumption,by assumption,by assumption,.inr ⟨_,by assumption⟩,by assumption,by assumption,a.1.1.1.1,a.1.1.1.2,a.1.2,a.2⟩
  ·cases a
 obtain ⟨n,x,v,m,d,B,i,C,E,F,G,W,l,u,I⟩:=key;obtain ⟨J,w,h⟩:=h;have H:=U.congr w.symm;obtain ⟨s,X,cs,cs',o,f,T,L,⟨y,M,Y⟩,Z⟩:=SP B i C h;have j:d≠s:=by
  intro e;subst e;simp only [AJ.place] at f;split at f
  ·rename_i r R V;simp only [zzY,Prod.mk.injEq] at f;exact H.no (x:=x) (s:=d) (by rw [V,←f.1]; rfl) W
  ·simp only [zzY,Prod.mk.injEq] at f;exact l f.1.symm
  ·cases f
 have ho:∀ b e,o=some (b,e)->(∃ t,e=EV.tv t)∧b≠m:=fun b e A=>by
  obtain ⟨g,k2,_⟩:=L b e A;exact ⟨k2,fun e=>I (by rw [g,←e]; simp [AJ.sl])⟩
 obtain ⟨e,hK,hq⟩:=Ye (cs':=cs') (o:=o) (O:=J) E F G T ho M.1 Y;refine ⟨J,w,hq _ ⟨_,.refl _,Z ((d,e)::J) ?_ (by rw [AC.get_cons,d2 j]; exact T) ?_ _ (ND hK ?_)⟩⟩
 ·simp only [AJ.place,AC.get_cons,d2 l] at f ⊢;exact f
 ·cases v with
  | c t=>rfl
  | s b=>
   simp only [AJ.ev,AC.get_cons];rw [d2 (fun e=>u (by rw [e]; simp [AJ.sl]))]
 ·refine ⟨fun z=>?_,fun z=>?_⟩
  ·rw [AC.get_cons,M.1,H5,H5];by_cases g:d=z
   ·subst g;rw [d1 rfl,d2 (fun e=>j e.symm)];cases o with
    | none=>rw [AC.get_cons,d1 rfl]
    | some p=>
     simp only;rw [d2 (fun i=>u (by rw [(L p.1 p.2 rfl).1,←i]; simp [AJ.sl])),AC.get_cons,d1 rfl]
   ·rw [d2 g];cases o with
    | none=>simp only [AC.get_cons,d2 g]
    | some p=>simp only [AC.get_cons,d2 g]
  ·have S:∀ b e,o=some (b,e)->e.noR z=true:=fun b e A=>by
    obtain ⟨_,⟨t,rfl⟩,_⟩:=L b e A;rfl
   rw [AC.noRef_cons,M.2,IL _ _ _ _ _ S,IL _ _ _ _ _ S,AC.noRef_cons]
theorem Uq {O a:AC} {b:Nat} {o:Option AJ} (h:∀ y∈o.toList,y.val a=y.val O):GX a b o=GX O b o:=by
 cases o with
 | none=>rfl
 | some y=>simp only [GX]; exact h y (by simp)
theorem io {S:FuncId->QQ->CM->Prop} {p:AH} {xs:List AJ} {O:AC} {d:Option Nat} {K:EV->AC->Prop} (v:p.vops=some xs) (h:p.wp S O d K) :
  ∃ t,K (.tv t) O∧(∀ x∈xs,∃ u,x.val O=some u)∧∀ c,(∀ x∈xs,x.val c=x.val O)->∀ j:EV->AC->Prop,j (.tv t) c->p.wp S c d j:=by
 cases p <;> simp only [AH.vops,zzY] at v <;> first | cases v | skip
 case bin k op x y=>
  simp only [AH.wp] at h;split at h
  ·rename_i a b f q;cases s:FQ k op a b with
   | none=>rw [s] at h; exact h.elim
   | some t=>
    rw [s] at h;refine ⟨t,h,fun z e=>?_,fun c g j i=>?_⟩
    ·simp only [List.mem_cons,List.not_mem_nil,or_false] at e;rcases e with rfl | rfl
     ·exact ⟨a,f⟩
     ·exact ⟨b,q⟩
    ·simp only [AH.wp,g x (by simp),g y (by simp),f,q,s];exact i
  ·exact h.elim
 case len x=>
  simp only [AH.wp] at h;split at h
  ·rename_i n es f;refine ⟨_,h,fun z e=>?_,fun c g j i=>?_⟩
   ·rw [List.mem_singleton.1 e]; exact ⟨_,f⟩
   ·simp only [AH.wp,g x (by simp),f];exact i
  ·exact h.elim
 case cvt k x=>
  simp only [AH.wp] at h;split at h
  ·rename_i E n f;refine ⟨_,h,fun z e=>?_,fun c g j i=>?_⟩
   ·rw [List.mem_singleton.1 e]; exact ⟨_,f⟩
   ·simp only [AH.wp,g x (by simp),f];exact i
  ·exact h.elim
 case mm b x y=>
  simp only [AH.wp] at h;split at h
  ·rename_i k a E F f q;refine ⟨_,h.2,fun z e=>?_,fun c g j i=>?_⟩
   ·simp only [List.mem_cons,List.not_mem_nil,or_false] at e;rcases e with rfl | rfl
    ·exact ⟨_,f⟩
    ·exact ⟨_,q⟩
   ·simp only [AH.wp,g x (by simp),g y (by simp),f,q];exact ⟨h.1,i⟩
  ·exact h.elim
 case slc n x lo hi=>
  simp only [AH.wp] at h;split at h
  ·rename_i m es f;split at h
   ·rename_i w l A r B C;refine ⟨_,h.2.2,fun z e=>?_,fun c g j i=>?_⟩
    ·simp only [List.mem_cons,List.mem_append,Option.mem_toList] at e;rcases e with rfl | e | e
     ·exact ⟨_,f⟩
     ·cases e; exact ⟨_,B⟩
     ·cases e; exact ⟨_,C⟩
    ·have w:GX c 0 lo=GX O 0 lo:=Uq (fun y o=>g y (by simp at o ⊢; exact .inr (.inl o)));have A:GX c es.length hi=GX O es.length hi:=Uq (fun y o=>g y (by simp at o ⊢; exact .inr (.inr o)));simp only [AH.wp,g x (by simp),f,w,A,B,C];exact ⟨h.1,h.2.1,i⟩
   ·exact h.elim
  ·exact h.elim
theorem il {p q:PR} {O:AC} (a:okPairV D p q=true) {S:List PR} (h:Jl (AR P) K (p::q::S) O):Jl (AR P) K (q::p::S) O:=by
 unfold okPairV at a;split at a
 ·rename_i xs d n x v e1 T U f1 f2 f3;simp only [zzZ,bne_iff_ne,ne_eq,Bool.not_eq_true',List.contains_eq_mem,decide_eq_false_iff_not] at a;obtain ⟨⟨⟨_,H⟩,k⟩,I⟩:=a;obtain ⟨b,J,h⟩:=h;unfold PR.wp at h;rw [T,U] at h;simp only [AC.put] at h;obtain ⟨t,⟨y,l,hw⟩,hs,L⟩:=io e1 h;obtain ⟨s,M,cs,cs',o,X,Q,R,hK,h5⟩:=SP f1 f2 f3 hw;have B:∀ z,d≠z->y.get z=b.get z:=fun z w=>by rw [l.1,AC.get_cons,d2 w]
  have i:d≠s:=fun e=>by
   rw [l.1,AC.get_cons,d1 e] at Q; cases Q
  have hp:(AJ.s x).place b=some (s,M):=by
   simp only [AJ.place,B x H] at X ⊢;exact X
  have V:b.get s=.bx cs:=by rw [←B s i]; exact Q
  have hv:v.ev b=v.ev y:=by
   cases v with
   | c t=>rfl
   | s g=>
    simp only [AJ.ev];exact (B g (fun e=>k (by rw [e]; simp [AJ.sl]))).symm
  have hq:∀ r:AC->Prop,r (MZ s cs' o b)->q.wp (AR P) b r:=fun r A=>h5 b hp V hv r A;refine ⟨b,J,hq _ ⟨_,.refl _,?_⟩⟩;unfold PR.wp;rw [T,U];simp only [AC.put];refine L _ (fun z w=>?_) _ (ND hK ?_)
  ·cases z with
   | c t=>rfl
   | s m=>
    obtain ⟨u,Y⟩:=hs _ w;have C:¬ s=m:=fun e=>by
     subst e;simp only [AJ.val,AJ.ev,V,EV.val] at Y;cases Y
    simp only [AJ.val,AJ.ev,H5,d2 C];cases o with
    | none=>rfl
    | some f=>
     have E:¬ f.1=m:=fun e=>DK I (x:=m) (List.mem_flatMap.2 ⟨_,w,by simp [AJ.sl]⟩) (by rw [(R f.1 f.2 rfl).1,e]; simp [AJ.sl]);simp only [d2 E]
  ·refine ⟨fun z=>?_,fun z=>?_⟩
   ·rw [AC.get_cons,H5,H5];by_cases F:s=z
    ·subst F; rw [d1 rfl,d2 i,d1 rfl]
    ·rw [d2 F,d2 F];cases o with
     | none=>
      simp only;rw [l.1,AC.get_cons]
     | some f=>
      have G:¬ d=f.1:=fun e=>k (by rw [(R f.1 f.2 rfl).1,e]; simp [AJ.sl]);simp only;by_cases j:f.1=z
      ·rw [d1 j,d1 j,d2 (fun e=>G (e.trans j.symm))]
      ·rw [d2 j,d2 j,l.1,AC.get_cons]
   ·have W:∀ g e,o=some (g,e)->e.noR z=true:=fun g e Z=>by
     obtain ⟨_,⟨t,rfl⟩,_⟩:=R g e Z;rfl
    rw [AC.noRef_cons,IL _ _ _ _ _ W,IL _ _ _ _ _ W,l.2,AC.noRef_cons]
 ·cases a
theorem ii {p q:PR} {O:AC} (hj:JD D O) (a:okPairL D p q=true) {V:List PR} (h:Jl (AR P) K (p::q::V) O):Jl (AR P) K (q::p::V) O:=by
 unfold okPairL at a;split at a
 ·rename_i b m d n x v W X Y f1 f2 f3;simp only [zzZ,bne_iff_ne,ne_eq,Bool.not_eq_true',List.contains_eq_mem,decide_eq_false_iff_not,zzX] at a;obtain ⟨⟨⟨⟨⟨⟨_,bD⟩,M⟩,Q⟩,hdb⟩,w⟩,R⟩:=a;obtain ⟨f,A,h⟩:=h;have G:=hj.congr A.symm;unfold PR.wp at h;rw [W,X,Y] at h;simp only [AC.put,AH.wp] at h;split at h
  case h_2=>exact h.elim
  rename_i bs k;obtain ⟨E,y,B,hw⟩:=h;obtain ⟨s,S,cs,cs',o,h1,T,U,hK,h5⟩:=SP f1 f2 f3 hw;have H:∀ z,d≠z->y.get z=f.get z:=fun z hz=>by rw [B.1,AC.get_cons,d2 hz]
  have l:d≠s:=fun e=>by
   rw [B.1,AC.get_cons,d1 e] at T; cases T
  have g:(AJ.s x).place f=some (s,S):=by
   simp only [AJ.place,H x Q] at h1 ⊢;exact h1
  have I:¬ s=b:=by
   intro e;subst e;simp only [AJ.place] at g;split at g
   ·rename_i r Z hx;simp only [zzY,Prod.mk.injEq] at g;exact G.no (x:=x) (s:=s) (by rw [hx,←g.1]; rfl) bD
   ·simp only [zzY,Prod.mk.injEq] at g;exact M g.1.symm
   ·cases g
  have hb:f.get s=.bx cs:=by rw [←H s l]; exact T
  have hv:v.ev f=v.ev y:=by
   cases v with
   | c t=>rfl
   | s j=>
    simp only [AJ.ev];exact (H j (fun e=>w (by rw [e]; simp [AJ.sl]))).symm
  have hq:∀ C:AC->Prop,C (MZ s cs' o f)->q.wp (AR P) f C:=fun C F=>h5 f g hb hv C F;refine ⟨f,A,hq _ ⟨_,.refl _,?_⟩⟩;have hg:(MZ s cs' o f).get b=.bx bs:=by
   rw [H5,d2 I];cases o with
   | none=>exact k
   | some i=>
    simp only;rw [d2 (fun e=>R (by rw [(U i.1 i.2 rfl).1,←e]; simp [AJ.sl]))];exact k
  unfold PR.wp;rw [W,X,Y];simp only [AC.put,AH.wp,hg];refine ⟨E,ND hK ?_⟩;refine ⟨fun z=>?_,fun z=>?_⟩
  ·rw [AC.get_cons,H5,H5];by_cases J:s=z
   ·subst J; rw [d1 rfl,d2 l,d1 rfl]
   ·rw [d2 J,d2 J];cases o with
    | none=>
     simp only;rw [B.1,AC.get_cons]
    | some i=>
     have L:¬ d=i.1:=fun e=>w (by rw [(U i.1 i.2 rfl).1,e]; simp [AJ.sl]);simp only;by_cases u:i.1=z
     ·rw [d1 u,d1 u,d2 (fun e=>L (e.trans u.symm))]
     ·rw [d2 u,d2 u,B.1,AC.get_cons]
  ·have E:∀ j e,o=some (j,e)->e.noR z=true:=fun j e he=>by
    obtain ⟨_,⟨t,rfl⟩,_⟩:=U j e he;rfl
   rw [AC.noRef_cons,IL _ _ _ _ _ E,IL _ _ _ _ _ E,B.2,AC.noRef_cons]
 ·cases a
theorem Yj {q:PR} {oq:Oper} (m:Mj P N ops oq q=true) {d:List PR}:∀ (c:List PR),(∀ p∈c,okPair2 D p q=true∧∃ o,Mj P N ops o p=true)->∀ {O:AC},L0 F0 w0 N O->JD D O->Jl (AR P) K (c++q::d) O->Jl (AR P) K (q::(c++d)) O
 | [],_,O,_,_,h=>h
 | p::c,e,O,j,g,h=>by
  obtain ⟨a,o,ho⟩:=e p (by simp);obtain ⟨s,f,h⟩:=h;obtain ⟨env1,t,k,l,i⟩:=rO ho (WQ a) (j.congr f.symm) (g.congr f.symm) h;have r:=Yj m c (fun p n=>e p (by simp [n])) k l t;have b:Jl (AR P) K (p::q::(c++d)) O:=⟨s,f,i _ r⟩;simp only [okPair2,Bool.or_eq_true] at a;rcases a with ((((((a | a) | a) | a) | a) | a) | a) | a
  ·exact swap j g ho m a b
  ·exact fD j g ho a b
  ·exact ig a b
  ·exact ij j g ho a b
  ·exact im a b
  ·exact ic g a b
  ·exact il a b
  ·exact ii g a b
theorem ng {S:FuncId->QQ->CM->Prop} {n:Nat} {x v:AJ} {d:Option Nat} {O:AC} {K:EV->AC->Prop} (h:(AH.st n x v).wp S O d K):(AH.st n x v).wp S O d fun e env'=>K e env'∧e=.undef∧∀ c,env'.noRef c=O.noRef c:=by
 simp only [AH.wp] at h ⊢;split at h
 ·rename_i s a b;split at h
  ·rename_i cs f;split at h
   ·rename_i t hv;cases v with
    | c t=>exact h.elim
    | s q=>
     simp only at h ⊢;exact ⟨h.1,h.2.1,h.2.2.1,h.2.2.2,trivial,fun c=>by simp [AC.noRef_cons,EV.noR,EV.ref]⟩
   ·rename_i t hv;exact ⟨h.1,h.2.1,h.2.2,trivial,fun c=>by simp [AC.noRef_cons,EV.noR,EV.ref]⟩
   ·exact h.elim
  ·exact h.elim
 ·exact h.elim
theorem gL {S:FuncId->QQ->CM->Prop} {n s:Nat} {v:AJ} {d:Option Nat} {O:AC} {K:EV->AC->Prop} (h:(AH.stb n s v).wp S O d K):(AH.stb n s v).wp S O d fun e env'=>K e env'∧e=.undef∧∀ c,env'.noRef c=O.noRef c:=by
 simp only [AH.wp] at h ⊢;split at h
 ·rename_i cs a;split at h
  ·rename_i t hv;cases v with
   | c t=>exact h.elim
   | s q=>
    simp only at h ⊢;exact ⟨h.1,h.2.1,h.2.2.1,h.2.2.2,trivial,fun c=>by simp [AC.noRef_cons,EV.noR,EV.ref]⟩
  ·rename_i t hv;exact ⟨h.1,h.2.1,h.2.2,trivial,fun c=>by simp [AC.noRef_cons,EV.noR,EV.ref]⟩
  ·exact h.elim
 ·exact h.elim
theorem Xm (O:AC) (q:Nat) (i:Option Nat) (n:Nat) (es:QQ) (c:Nat):AC.noRef c (O.xput q i n es)=AC.noRef c O:=by
 cases i with
 | none=>simp [AC.xput,AC.noRef_cons,EV.noR,EV.ref]
 | some k=>
  simp only [AC.xput];split
  ·simp [AC.noRef_cons,EV.noR,EV.ref]
  ·rfl
theorem gK {S:FuncId->QQ->CM->Prop} {x:AJ} {q:Nat} {d:Option Nat} {O:AC} {K:EV->AC->Prop} (h:(AH.cpt x q).wp S O d K):(AH.cpt x q).wp S O d fun e env'=>K e env'∧e=.undef∧∀ c,env'.noRef c=O.noRef c:=by
 simp only [AH.wp] at h ⊢;split at h
 ·rename_i s a n es b f;split at h
  ·rename_i cs g;exact ⟨h.1,h.2.1,h.2.2,trivial,fun c=>by simp [AC.noRef_cons,EV.noR,EV.ref]⟩
  ·exact h.elim
 ·exact h.elim
theorem gN {S:FuncId->QQ->CM->Prop} {x v:AJ} {d:Option Nat} {O:AC} {K:EV->AC->Prop} (h:(AH.xst x v).wp S O d K):(AH.xst x v).wp S O d fun e env'=>K e env'∧e=.undef∧∀ c,env'.noRef c=O.noRef c:=by
 simp only [AH.wp] at h ⊢;split at h
 ·rename_i q i c l;split at h
  ·obtain ⟨a,b,es',f,g,j,k⟩:=h;exact ⟨a,b,es',f,g,j,k,trivial,fun c=>Xm _ _ _ _ _ _⟩
  ·exact h.elim
 ·exact h.elim
theorem gM {S:FuncId->QQ->CM->Prop} {n s q:Nat} {d:Option Nat} {O:AC} {K:EV->AC->Prop} (h:(AH.stx n s q).wp S O d K):(AH.stx n s q).wp S O d fun e env'=>K e env'∧e=.undef∧∀ c,env'.noRef c=O.noRef c:=by
 simp only [AH.wp] at h ⊢;split at h
 ·rename_i cs a b f;exact ⟨h.1,h.2.1,h.2.2.1,h.2.2.2,trivial,fun c=>by simp [AC.noRef_cons,EV.noR,EV.ref]⟩
 ·exact h.elim
theorem dk {S:FuncId->QQ->CM->Prop} {r:PR} {O:AC} {K:AC->Prop} (B:VT D r=true) (i:Lq r.op=true->r.dst=none) (k:JD D O) (h:r.wp S O K):r.wp S O fun env'=>K env'∧JD D env':=by
 simp only [VT,Bool.or_eq_true,zzZ,Bool.not_eq_true'] at B;rcases B with ((o | A) | l) | ⟨⟨⟨Y,a⟩,Z⟩,C⟩
 ·have a:=i o;have F:(r.op.wp S O r.dst fun e env'=>K (env'.put r.dst e))->r.op.wp S O r.dst fun e env'=>K (env'.put r.dst e)∧JD D (env'.put r.dst e):=by
   intro t;rw [a] at t ⊢;generalize r.op=p at o t ⊢;cases p <;> simp only [Lq] at o <;> first | cases o | skip
   ·refine AH.wp_mono S O none (fun e env' c=>⟨c.1,fun d i=>?_⟩) _ (ng t);simp only [AC.put];rw [c.2.2]; exact k d i
   ·refine AH.wp_mono S O none (fun e env' c=>⟨c.1,fun d i=>?_⟩) _ (gL t);simp only [AC.put];rw [c.2.2]; exact k d i
   ·refine AH.wp_mono S O none (fun e env' c=>⟨c.1,fun d i=>?_⟩) _ (gN t);simp only [AC.put];rw [c.2.2]; exact k d i
   ·refine AH.wp_mono S O none (fun e env' c=>⟨c.1,fun d i=>?_⟩) _ (gM t);simp only [AC.put];rw [c.2.2]; exact k d i
   ·refine AH.wp_mono S O none (fun e env' c=>⟨c.1,fun d i=>?_⟩) _ (gK t);simp only [AC.put];rw [c.2.2]; exact k d i
  unfold PR.wp at h ⊢;split
  ·rename_i I; rw [I] at h; exact F h
  ·rename_i g b I;rw [I] at h;simp only at h;split
   ·rename_i q l;rw [l] at h;exact ⟨fun C=>F (h.1 C),fun C=>⟨h.2 C,by rw [a]; exact k⟩⟩
   ·rename_i J;rw [J] at h;exact ⟨h,by rw [a]; exact k⟩
   ·rename_i L M;split at h
    ·rename_i q l; exact absurd l (L q)
    ·rename_i l; exact absurd l M
    ·exact h.elim
 ·unfold okBd at A;split at A
  ·rename_i gs d u v w;obtain ⟨ts,G,R,T⟩:=Rh u v w h;refine PF u v w G R ⟨T,fun x H=>?_⟩;rw [AC.noRef_cons,Kv,k x H];rfl
  ·cases A
 ·unfold okQ at l;split at l
  ·rename_i s d u v w;obtain ⟨n,es,G,W,R,T⟩:=XH u v w h;refine XI u v w G W R ⟨T,fun x H=>?_⟩;have:=k x H;simp [AC.noRef_cons,EV.noR,EV.ref,this]
  ·rename_i n s z x d u v w;simp only [PR.wp,u,v,w,AH.wp,AC.put] at h ⊢;split at h
   ·rename_i d' m es kk j E hs H;simp only [zzY] at E;subst E;refine ⟨h.1,h.2.1,h.2.2.1,h.2.2.2,fun y U=>?_⟩;have:=k y U;simp [AC.noRef_cons,EV.noR,EV.ref,this]
   ·exact h.elim
  ·cases l
 ·obtain ⟨d,i⟩:=Option.isSome_iff_exists.1 a;have Q:r.op.isNew=true->r.guard=none:=fun V=>by
   rcases Z with h | h
   ·rw [V] at h; cases h
   ·simpa using h
  refine PR.wp_mono S O (fun env' c=>?_) r (Ov i Y Q h);obtain ⟨G,e,f,X⟩:=c;exact ⟨G,X.jd C k⟩
theorem aP {S:FuncId->QQ->CM->Prop} {a:Act} {w:World} {d:List PR}:∀ {O:AC},Pd d=true->Jl S K d O->DE F0 w0 O a w->∃ env',K env'∧DE F0 w0 env' a w:=by
 induction d with
 | nil=>intro O _ h b; obtain ⟨e,f,g⟩:=h; exact ⟨e,g,b.congr fun n=>(f.1 n).symm⟩
 | cons r d o=>
  intro O c h b;simp only [Pd,zzZ] at c;obtain ⟨f,g⟩:=c;obtain ⟨q,i,h⟩:=h;have b:=b.congr (fun n=>(i.1 n).symm);split at f
  ·rename_i s j k l;simp only [PR.wp,j,k,l,AH.wp] at h;split at h
   ·rename_i cs m;obtain ⟨G,b⟩:=b;exact o g h (b.frz m)
   ·exact h.elim
  ·cases f
theorem Pe:∀ (os:List Oper) (a:List PR),LF P N ops os a=true->(∀ i o,os[i]?=some o->Mj P N ops o (ME a i)=true)∧Pd (a.drop os.length)=true∧a=(List.range os.length).map (ME a)++a.drop os.length
 | [],a,h=>⟨fun i o h=>by simp at h,h,by simp⟩
 | o::os,[],h=>by simp [LF] at h
 | o::os,r::a,h=>by
  simp only [LF,zzZ] at h;obtain ⟨c,d,e⟩:=Pe os a h.2;refine ⟨fun i b hi=>?_,by simpa using d,?_⟩
  ·cases i with
   | zero=>simp only [List.getElem?_cons_zero,zzY] at hi; subst hi; exact h.1
   | succ i=>simp only [List.getElem?_cons_succ] at hi; exact c i b hi
  ·rw [d6,List.range_succ_eq_map,List.map_cons,List.map_map,List.cons_append,List.drop_succ_cons];congr 1
theorem Yn {Q:Exit->Act->World->Prop} {l:List PR} (X:Qz P N D ops l=true) (hpd:∀ i v,p=some (i,v)->∀ r∈l,r.dst≠some i) (hQ:∀ O a w,K O->Lk N p a->DE F0 w0 O a w->Q .normal a w) :
  ∀ (fuel:Nat) (rem:ci) (b:Array Bool) (O:AC) (a:Act) (w:World),rem.length=fuel->rem.Pairwise (·<·)->(∀ j,j∈rem↔j<ops.size∧b.getD j true=false)->b.size=ops.size ->
   (∀ k o,ops[k]?=some o->b.getD k false=true->∀ e∈o.after,Region.binds .any e=true->b.getD e.on false=true) ->
   Lk N p a->DE F0 w0 O a w->JD D O->Jl (AR P) K (rem.map (ME l)++l.drop ops.size) O->wpAny P .any ops Q fuel b a w:=by
 simp only [Qz,zzZ,List.all_eq_true,List.mem_range] at X;obtain ⟨⟨⟨⟨hl,hs⟩,he⟩,hM⟩,hP⟩:=X;obtain ⟨A,hl2,hl3⟩:=Pe ops.toList l hl;simp only [Array.length_toList,Array.getElem?_toList] at A hl2 hl3;intro fuel
 induction fuel with
 | zero=>
  intro rem b O a w m L c Z M hN hI J h;have:rem=[]:=List.eq_nil_of_length_eq_zero m;subst this;refine ⟨?_,?_⟩
  ·refine List.eq_nil_iff_forall_not_mem.2 fun j E=>?_;rw [mem_ready] at E;obtain ⟨C,o,ho,_⟩:=E;have:=(c j).2 ⟨(Array.getElem?_eq_some_iff.1 ho).1,C⟩;cases this
  ·obtain ⟨env',C,g⟩:=aP hl2 h hI;exact hQ env' a w C hN g
 | succ fuel ih=>
  intro rem b O a w m L c Z M hN hI J h;refine ⟨fun Y=>?_,fun i hi=>?_⟩
  ·
   exfalso;cases rem with
   | nil=>simp at m
   | cons i rem=>
    have C:=(c i).1 (by simp);have f:i∈Region.ready .any ops b:=by
     rw [mem_ready];have ho:ops[i]?=some ops[i]:=Array.getElem?_eq_getElem C.1;refine ⟨C.2,_,ho,fun e s G=>?_⟩;have:=he i C.1;rw [ho] at this;simp only [List.all_eq_true,Bool.or_eq_true,Bool.not_eq_true',zzX] at this;have hlt:=(this e (by simpa using s)).resolve_left (by simp [G]);cases z:b.getD e.on false with
     | true=>rfl
     | false=>
      have R:e.on∈i::rem:=by
       refine (c _).2 ⟨by omega,?_⟩;have:e.on<b.size:=by omega
       simp only [Array.getD_eq_getD_getElem?,Array.getElem?_eq_getElem this,Option.getD_some] at z ⊢;exact z
      rcases List.mem_cons.1 R with g | g
      ·omega
      ·have:=(List.pairwise_cons.1 L).1 _ g; omega
    rw [Y] at f; cases f
  ·have hi':=hi;rw [mem_ready] at hi';obtain ⟨hi1,o,ho,hi2⟩:=hi';have f:i<ops.size:=(Array.getElem?_eq_some_iff.1 ho).1;have hir:i∈rem:=(c i).2 ⟨f,hi1⟩;obtain ⟨B,q,rfl⟩:=List.append_of_mem hir;have d:=List.pairwise_append.1 L;have H:∀ j∈B,j<i:=fun j J=>d.2.2 j J i (by simp);have T:∀ j∈q,i<j:=fun j J=>(List.pairwise_cons.1 d.2.1).1 j J;have F:∀ (k:Nat),k<ops.size->(∀ o,ops[k]?=some o->∀ e∈o.after,Region.binds .any e=true->b.getD e.on false=true)->∀ j,j<ops.size->((cQ ops).getD k 0).testBit j=true->b.getD j false=true:=by
    intro k
    induction k using Nat.strongRecOn with
    | _ k ihk=>
     intro W hdir j u G;have:=hM k W j u;rw [G] at this;simp only [Bool.not_true,Bool.false_or] at this;split at this
     ·rename_i ok hok';simp only [List.any_eq_true,zzZ,Bool.or_eq_true,beq_iff_eq,zzX] at this;obtain ⟨e,s,hbe,h3⟩:=this;have z:=hdir ok hok' e (by simpa using s) hbe;rcases h3 with h3 | ⟨h3,h4⟩
      ·rw [←h3]; exact z
      ·exact ihk e.on h3 (by omega) (fun I t e' he' hb'=>M e.on I t z e' he' hb') j u h4
     ·cases this
   have hwp:Jl (AR P) K (ME l i::(B.map (ME l)++(q.map (ME l)++l.drop ops.size))) O:=by
    refine Yj (ops:=ops) (F0:=F0) (w0:=w0) (N:=N) (oq:=o) (A i o ho) (B.map (ME l)) (fun p hp=>?_) ⟨a,w,hN.size,hI⟩ J (by simpa using h);obtain ⟨j,hj1,rfl⟩:=List.mem_map.1 hp;have hlt:=H j hj1;have u:j<ops.size:=by omega
    refine ⟨?_,ops[j],A j _ (Array.getElem?_eq_getElem u)⟩;have:=hP i f j hlt;rw [Bool.or_eq_true] at this;refine this.resolve_left fun G=>?_;have C:=F i f (fun I t=>by rw [ho] at t; simp only [zzY] at t; subst t; exact hi2) j u G;have g:=((c j).1 (by simp [hj1])).2;have:j<b.size:=by omega
    simp only [Array.getD_eq_getD_getElem?,Array.getElem?_eq_getElem this,Option.getD_some] at C g;rw [C] at g; cases g
   obtain ⟨e',heq,hw⟩:=hwp;have hI':=hI.congr (fun n=>(heq.1 n).symm);have E:=J.congr heq.symm;have hstd:Lq (ME l i).op=true->(ME l i).dst=none:=by
    intro hst;have:=A i o ho;simp only [Mj,zzZ] at this;have g:=this.2;split at g
    ·simp only [hst,Bool.not_true,Bool.and_false,Bool.false_and] at g; cases g
    ·assumption
    ·cases g
   have hw':=dk (hs i f) hstd E hw;have U:∀ j,j∈B++q↔j<ops.size∧(b.setIfInBounds i true).getD j true=false:=by
    intro j;by_cases V:j=i
    ·subst V;constructor
     ·intro R;rcases List.mem_append.1 R with R | R
      ·have:=H _ R; omega
      ·have:=T _ R; omega
     ·rintro ⟨_,g⟩;have:j<b.size:=by omega
      simp [this] at g
    ·rw [getD_set_ne true (fun e=>V e.symm),←c j];simp [V]
   have hcl':∀ k I,ops[k]?=some I->(b.setIfInBounds i true).getD k false=true->∀ e∈I.after,Region.binds .any e=true->(b.setIfInBounds i true).getD e.on false=true:=by
    intro k I W hlk e s G;refine getD_set_true ?_;by_cases hki:k=i
    ·subst hki;rw [ho] at W;simp only [zzY] at W;subst W;exact hi2 e s G
    ·rw [getD_set_ne false (fun e=>hki e.symm)] at hlk;exact M k I W hlk e s G
   have hpdi:∀ j v,p=some (j,v)->(ME l i).dst≠some j:=by
    intro j v hp;unfold ME;cases hr:l[i]? with
    | none=>simp
    | some r=>exact hpd j v hp r (List.mem_of_getElem? hr)
   have:=Rv (Q:=Q) (next:=wpAny P .any ops Q fuel (b.setIfInBounds i true)) hI' hN hpdi (A i o ho) hw' fun env' a' w' k1 k2 k3=>
    ih (B++q) _ env' a' w' (by simp only [d4,d6] at m ⊢; omega) (List.pairwise_append.2 ⟨d.1,(List.pairwise_cons.1 d.2.1).2,fun x hx y hy=>d.2.2 x hx y (by simp [hy])⟩) U (by simpa using Z) hcl' k2 k3 k1.2 (by simpa using k1.1)
   unfold Go.wpOp;rw [ho];simp only [];split
   ·rename_i S; rw [d1 S] at this; exact .inl this
   ·rename_i S; rw [d2 S] at this; exact this
theorem Tc:∀ (a:ci) (O:AC),Ol O a=true->JD a O
 | [],O,_=>fun d c=>by simp at c
 | d::a,O,h=>by
  simp only [Ol,zzZ] at h;intro x b;rcases List.mem_cons.1 b with rfl | b
  ·exact h.1
  ·exact Tc a O h.2 x b
theorem SG (x:P.follows .mixedOrders=true):OB P N (Qz P N):=by
 intro F0 w0 p id J ops L d O a w K Q l q M c R h S;refine wp_region_any x ?_;have f:=l;simp only [Qz,zzZ] at f;obtain ⟨_,_,m⟩:=Pe ops.toList L f.1.1.1.1;simp only [Array.length_toList] at m;have t:DE F0 w0 O a { w with drawn:=w.drawn+1 }:=by
  obtain ⟨G,c⟩:=c;refine ⟨G,c.uniq,c.lt,⟨c.below.os,c.below.tape,c.below.output,c.below.size,c.below.block,c.below.cell,c.below.free⟩,c.defers,c.dom,fun s y=>?_,c.wf⟩;exact AT.kept (w:=w) (w':={ w with drawn:=w.drawn+1 }) (F:=AZ w0.heap.size F0 G) (G:=G) (O:=O) (a:=a) (fun b o u z A=>⟨z,A⟩) (fun _=>rfl) (fun _ _ _ _=>rfl) (fun r B C g=>⟨g,rfl⟩) (fun r i C g=>⟨g,fun _ hv=>hv⟩) (c.slots s y)
 refine Yn (K:=fun e=>K (e.keep d)) (F0:=F0) (w0:=w0) l q (fun O a w E H I=>S _ a w E H (I.keep d)) ops.size (List.range ops.size) _ O a _ (by simp) List.pairwise_lt_range (fun j=>?_) (by simp) (fun k o T n=>?_) M t (Tc J O R) ?_
 ·rw [List.mem_range];constructor
  ·intro v; exact ⟨v,by simp [Array.getD_eq_getD_getElem?,Array.getElem?_replicate,v]⟩
  ·exact fun h=>h.1
 ·simp only [Array.getD_eq_getD_getElem?,Array.getElem?_replicate] at n;split at n <;> simp at n
 ·rw [←m]; exact Z4 h
end
end Go.Sf
