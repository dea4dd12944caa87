/- Stores into boxes, and taking out of them. -/
import Derived.Test.YtlbmpkmkmkgniaaGreatDoorSfBox
set_option linter.all false
namespace Go.Sf
open Go.RowKit (Below)
def NP (P:Program) (F0:Nat->Nat->Prop) (w0:W0) (a:Act) (w:World) (o:Oper) (K:EV->AD->Prop):Prop:=
 ∃ w',(execOp a.eval o).run P w=.ok .skip w'∧∃ env',K .undef env'∧DJ F0 w0 env' a w'
section
variable {P:Program} {S:FuncId->QQ->CS->Prop} {F0:Nat->Nat->Prop} {w0:W0} {O:AD} {a:Act} {w:World} {G:DT} {d:Nat} {o:Oper} {K:EV->AD->Prop}
variable {s b:Nat} {T:TypeId}
theorem AY.rebox_n (h:AY F0 w0 O a w G) {cs cs':List At} (z:O.get s=.bx cs) (g:slot a s=.pointer (some ⟨b,0,none⟩)) {c c':Array Value} (f:w.heap[b]?=some (.cells c T (0,0)))
  {zs:Option Nat->Option (Nat × Nat)} (j:zs none=some (b,0))
  (A:∀ i e lo,i≠none->zs i=some (e,lo)->G s i=some (e,lo))
  (l:∀ i u e lo r,zs i=some (e,lo)->zs u=some (e,r)->i=u)
  (B:c'.size=cs'.length) (m:∀ y w',D0 w w' (A2 w0.heap.size F0 G) y->(∀ k,k≠b->w'.heap[k]?=w.heap[k]?)->∀ (i:Nat) (x:At),cs'[i]?=some x->∃ v,c'[i]?=some v∧C6 w' y (zs (some i)) x v)
  (C:∀ x∈cs',x.t.WF) (D:∀ (k n:Nat) (es:QQ),cs'[k]?=some ⟨true,.xl n es⟩->(O.noX s (some k)=true∨((∃ p,O.xat s (some k)=some p)∧c'[k]?=c[k]?))) :
  DJ F0 w0 ((s,.bx cs')::O) a (w.setRow b c'):=by
 obtain ⟨H,I,_⟩:=h.rebox z g f (q:=none) (by simp) j (fun i e lo E F=>.inl (A i e lo E F)) l B m C D;exact ⟨H,I⟩
theorem AY.rebox_q (h:AY F0 w0 O a w G) {cs cs':List At} (I:O.get s=.bx cs) (m:slot a s=.pointer (some ⟨b,0,none⟩)) {c c':Array Value} (g:w.heap[b]?=some (.cells c T (0,0)))
  {q:Nat} {u:TV} (l:O.get q=.ow u) (r:q≠s) {zs:Option Nat->Option (Nat × Nat)} (z:zs none=some (b,0))
  (J:∀ i f lo,i≠none->zs i=some (f,lo)->G s i=some (f,lo)∨∃ E,some q=some E∧∃ j,G E j=some (f,lo))
  (A:∀ i F f lo C,zs i=some (f,lo)->zs F=some (f,C)->i=F)
  (L:c'.size=cs'.length) (B:∀ H w',D0 w w' (A2 w0.heap.size F0 G) H->(∀ k,k≠b->w'.heap[k]?=w.heap[k]?)->∀ (i:Nat) (x:At),cs'[i]?=some x->∃ v,c'[i]?=some v∧C6 w' H (zs (some i)) x v)
  (M:∀ x∈cs',x.t.WF) (N:∀ (k n:Nat) (es:QQ),cs'[k]?=some ⟨true,.xl n es⟩->(O.noX s (some k)=true∨((∃ p,O.xat s (some k)=some p)∧c'[k]?=c[k]?))) :
  DJ F0 w0 ((s,.bx cs')::(q,.tv u)::O) a (w.setRow b c'):=by
 obtain ⟨Q,R,D⟩:=h.rebox I m g (q:=some q) (by simpa using r) z J A L B M N;have hv:=BU h (x:=.tmp q) (y:=.s q) (by simp [AR]) (t:=u) (by simp [AL.val,AL.ev,l,EV.val]);refine ⟨Q,R.rem q (t:=u) (G9 h l (by simp)) (DH D _ _ hv.1) hv.2 fun n=>?_⟩;simp only [SL,Go.Sf.strip,AD.get_cons];split
 ·exact .inl rfl
 ·split
  ·rename_i e; exact .inr ⟨e.symm,rfl⟩
  ·exact .inl rfl
theorem Yg (A:AY F0 w0 O a w G) {x v:Operand} {x' v':AL} {t:TypeId} {n:Nat} (hop:o.op=.store t x v) (hx:AR x x'=true) (hv:AR v v'=true) (hn:FK P t=some n) (h:(AJ.st n x' v').wp S O none K):NP P F0 w0 a w o K:=by
 simp only [AJ.wp] at h;split at h
 ·rename_i s f hp;split at h
  ·rename_i cs Q;obtain ⟨b,W,hadr⟩:=KT A hx hp Q;have hr:=A9 A Q (by simp);simp only [AX] at hr;obtain ⟨I,c,T,h1,h2,h3,X,h5⟩:=hr;rw [W] at h1;simp only [Value.pointer.injEq,zzY,Addr.mk.injEq,and_true,and_self] at h1;subst h1;have hw:=A.wf s;rw [Q] at hw;have hst:∀ (vs:List Value),vs.length=n->(a.eval v).cells.toList=vs->f+n<=c.size->(∀ y∈vs,y.oneCell'=true)->(execOp a.eval o).run P w=.ok .skip (w.setRow b (c.toList.take f++vs++c.toList.drop (f+n)).toArray):=by
    intro vs hl U hle ho;have J:=run_storeCells_at P b f T vs 0 c w h2 (by omega) ho;simp only [Nat.add_zero] at J;have hsz:(a.eval v).cells.size=n:=by rw [←Array.length_toList,U,hl]
    rw [hl] at J;simp [execOp,hop,hadr,Instr.storeAt,Instr.sureAddr,storeVar,D7 hn,hsz,U,J]
   split at h
   ·
    rename_i u E;cases v' with
    | c t=>exact h.elim
    | s q=>
     simp only at h;obtain ⟨M,hn1,R,hK⟩:=h;subst hn1;cases v <;> simp [AR] at hv;subst hv;rename_i q;simp only [AL.ev] at E;have D:=A9 A E (by simp);simp only [AX] at D;have hqw:=A.wf q;rw [E] at hqw;have L:=SW D;have V:(a.eval (.tmp q)).cells.toList=[slot a q]:=by
      have:a.eval (.tmp q)=slot a q:=rfl;rw [this];cases hsq:slot a q <;> rw [hsq] at L <;> first | rfl | simp [Value.oneCell'] at L
     refine ⟨_,hst [slot a q] rfl V (by omega) (by simpa using L),_,hK,?_⟩
     let zs:Option Nat->Option (Nat × Nat):=fun i=>match i with | none=>some (b,0) | some j=>if j=f then G q none else G s (some j)
     refine A.rebox_q Q W h2 E (fun e=>M e) (zs:=zs) rfl ?_ ?_ ?_ ?_ ?_ ?_
     ·intro i I lo hi N;cases i with
      | none=>exact absurd rfl hi
      | some j=>
       simp only [zs] at N;split at N
       ·exact .inr ⟨q,rfl,none,N⟩
       ·exact .inl N
     ·intro i i' I lo C g r;have zn:∀ j I lo C,zs (some j)=some (I,lo)->zs none=some (I,C)->False:=by
       intro j I lo C g r;simp only [zs,zzY,Prod.mk.injEq] at r;obtain ⟨rfl,_⟩:=r;simp only [zs] at g;split at g
       ·exact M (A.uniq _ _ _ _ _ _ _ g X).1
       ·have:=(A.uniq _ _ _ _ _ _ _ g X).2; cases this
      cases i with
      | none=>cases i' with
       | none=>rfl
       | some j=>exact (zn j _ _ _ r g).elim
      | some j=>cases i' with
       | none=>exact (zn j _ _ _ g r).elim
       | some j'=>
        simp only [zs] at g r;split at g <;> split at r
        ·rename_i e3 e4; rw [e3,e4]
        ·exact absurd (A.uniq _ _ _ _ _ _ _ g r).1 M
        ·exact absurd (A.uniq _ _ _ _ _ _ _ r g).1 M
        ·exact (A.uniq _ _ _ _ _ _ _ g r).2
     ·simp only [List.size_toArray,d4,d5,List.length_drop,Array.length_toList,List.length_singleton,List.length_set]; omega
     ·intro F' w' F B i y l;rw [List.getElem?_set] at l;by_cases hi:f=i
      ·subst hi;rw [d1 rfl,d1 R] at l;simp only [zzY] at l;subst l;refine ⟨slot a q,?_,?_⟩
       ·rw [List.getElem?_toArray,ea,List.getElem?_append_right (by simp; omega)];simp only [d5,Array.length_toList];rw [Nat.min_eq_left (by omega),Nat.sub_self];rfl
       ·simp only [C6,zs,if_true];exact D.c.kept F (fun k lo p=>B k (fun e=>M (A.uniq _ _ _ _ _ _ _ (e ▸ p) X).1))
      ·rw [d2 hi] at l;obtain ⟨vv,g,r⟩:=h5 i y l;refine ⟨vv,?_,?_⟩
       ·rw [List.getElem?_toArray];rcases Nat.lt_or_ge i f with z | Z
        ·rw [ea,List.getElem?_append_left (by simp; omega),List.getElem?_take_of_lt z];simpa using g
        ·rw [List.getElem?_append_right (by simp; omega)];simp only [d4,d5,Array.length_toList,List.length_singleton];rw [Nat.min_eq_left (by omega),List.getElem?_drop,show f+1+(i - (f+1))=i from by omega];simpa using g
       ·have hi':¬ i=f:=fun e=>hi e.symm;simp only [zs]; rw [d2 hi'];exact r.kept F (fun k lo p=>B k (fun e=>by have:=(A.uniq _ _ _ _ _ _ _ (e ▸ p) X).2; cases this))
     ·intro y l;rcases List.mem_or_eq_of_mem_set l with l | rfl
      ·exact hw y l
      ·exact hqw
     ·intro k m es p;rw [List.getElem?_set] at p;by_cases hi:f=k
      ·rw [d1 hi] at p;rw [d1 (by omega)] at p;simp only [zzY,At.mk.injEq,true_and] at p;subst p;simp only [C3] at D
      ·rw [d2 hi] at p;refine .inr ⟨⟨(m,es),by simp only [AD.xat,Q,p]⟩,?_⟩;have hkc:k<c.size:=by
        have:=(List.getElem?_eq_some_iff.1 p).1; omega
       rw [List.getElem?_toArray];rcases Nat.lt_or_ge k f with z | Z
       ·rw [ea,List.getElem?_append_left (by simp; omega),List.getElem?_take_of_lt z,Array.getElem?_toList]
       ·rw [List.getElem?_append_right (by simp; omega)];simp only [d4,d5,Array.length_toList,List.length_singleton];rw [Nat.min_eq_left (by omega),List.getElem?_drop,show f+1+(k - (f+1))=k from by omega,Array.getElem?_toList]
   ·
    rename_i u E;obtain ⟨hun,R,hK⟩:=h;have hvv:=T4 A hv E;have U:=JW hvv.1;have H:=CN U.1;refine ⟨_,hst _ (by omega) rfl (by omega) U.2,_,hK,?_⟩
    let zs:Option Nat->Option (Nat × Nat):=fun i=>match i with | none=>some (b,0) | some j=>if f<=j∧j<f+n then none else G s (some j)
    refine A.rebox_n Q W h2 (zs:=zs) rfl ?_ ?_ ?_ ?_ ?_ ?_
    ·intro i I lo hi N;cases i with
     | none=>exact absurd rfl hi
     | some j=>
      simp only [zs] at N;split at N
      ·cases N
      ·exact N
    ·intro i i' I lo C g r;have zn:∀ j I lo C,zs (some j)=some (I,lo)->zs none=some (I,C)->False:=by
      intro j I lo C g r;simp only [zs,zzY,Prod.mk.injEq] at r;obtain ⟨rfl,_⟩:=r;simp only [zs] at g;split at g
      ·cases g
      ·have:=(A.uniq _ _ _ _ _ _ _ g X).2; cases this
     cases i with
     | none=>cases i' with
      | none=>rfl
      | some j=>exact (zn j _ _ _ r g).elim
     | some j=>cases i' with
      | none=>exact (zn j _ _ _ g r).elim
      | some j'=>
       simp only [zs] at g r;split at g <;> split at r
       ·cases g
       ·cases g
       ·cases r
       ·exact (A.uniq _ _ _ _ _ _ _ g r).2
    ·simp only [List.size_toArray,d4,d5,List.length_drop,Array.length_toList,d7] at H ⊢; omega
    ·intro F' w' F B i y l;rw [List.getElem?_toArray];rcases Nat.lt_or_ge i f with z | Z
     ·rw [ea,List.getElem?_append_left (by simp; omega),List.getElem?_take_of_lt z] at l;obtain ⟨vv,g,r⟩:=h5 i y l;refine ⟨vv,?_,?_⟩
      ·rw [ea,List.getElem?_append_left (by simp; omega),List.getElem?_take_of_lt z];simpa using g
      ·simp only [zs]; rw [d2 (by omega)];exact r.kept F (fun k lo p=>B k (fun e=>by have:=(A.uniq _ _ _ _ _ _ _ (e ▸ p) X).2; cases this))
     ·rcases Nat.lt_or_ge i (f+n) with z | hge2
      ·rw [ea,List.getElem?_append_right (by simp; omega),List.getElem?_append_left (by simp; omega)] at l;simp only [d5,List.getElem?_map,Option.map_eq_some_iff] at l;rw [Nat.min_eq_left (by omega)] at l;obtain ⟨tt,Y,rfl⟩:=l;have hx':(a.eval v).cells.toList[i - f]?=some ((a.eval v).cells.toList[i - f]'(by omega)):=List.getElem?_eq_getElem (by omega);refine ⟨(a.eval v).cells.toList[i - f]'(by omega),?_,?_⟩
       ·rw [ea,List.getElem?_append_right (by simp; omega),List.getElem?_append_left (by simp only [d5,Array.length_toList] at H ⊢; omega)];simp only [d5,Array.length_toList];rw [Nat.min_eq_left (by omega)];exact hx'
       ·exact ⟨DH F _ _ (((CP _ _).1 U.1).2 _ tt _ Y hx'),U.2 _ (List.getElem_mem _)⟩
      ·rw [List.getElem?_append_right (by simp; omega)] at l;simp only [d4,d5,d7,List.getElem?_drop] at l;rw [Nat.min_eq_left (by omega),show f+n+(i - (f+u.cells.length))=i from by omega] at l;obtain ⟨vv,g,r⟩:=h5 i y l;refine ⟨vv,?_,?_⟩
       ·rw [List.getElem?_append_right (by simp only [d4,d5,Array.length_toList] at H ⊢; omega)];simp only [d4,d5,Array.length_toList,List.getElem?_drop] at H ⊢;rw [Nat.min_eq_left (by omega),show f+n+(i - (f+(a.eval v).cells.size))=i from by omega];simpa using g
       ·simp only [zs]; rw [d2 (by omega)];exact r.kept F (fun k lo p=>B k (fun e=>by have:=(A.uniq _ _ _ _ _ _ _ (e ▸ p) X).2; cases this))
    ·intro y l;rcases List.mem_append.1 l with l | l
     ·rcases List.mem_append.1 l with l | l
      ·exact hw y (List.mem_of_mem_take l)
      ·simp only [List.mem_map] at l;obtain ⟨tt,Y,rfl⟩:=l;exact CW.1 (KY hvv.2) tt Y
     ·exact hw y (List.mem_of_mem_drop l)
    ·intro k m es p;have hlen:(cs.take f++u.cells.map (fun t=>(⟨false,t⟩:At))++cs.drop (f+n)).length=cs.length:=by
      simp only [d4,d5,d7,List.length_drop]; omega
     have hkl:k<cs.length:=by rw [←hlen]; exact (List.getElem?_eq_some_iff.1 p).1
     rw [List.getElem?_toArray];rcases Nat.lt_or_ge k f with z | Z
     ·rw [ea,List.getElem?_append_left (by simp; omega),List.getElem?_take_of_lt z] at p;refine .inr ⟨⟨(m,es),by simp only [AD.xat,Q,p]⟩,?_⟩;rw [ea,List.getElem?_append_left (by simp; omega),List.getElem?_take_of_lt z,Array.getElem?_toList]
     ·rcases Nat.lt_or_ge k (f+n) with z | hge2
      ·rw [ea,List.getElem?_append_right (by simp; omega),List.getElem?_append_left (by simp; omega),List.getElem?_map] at p;simp only [Option.map_eq_some_iff,At.mk.injEq,Bool.false_eq_true,false_and,and_false,exists_false] at p
      ·rw [List.getElem?_append_right (by simp; omega)] at p;simp only [d4,d5,d7,List.getElem?_drop] at p;rw [Nat.min_eq_left (by omega),show f+n+(k - (f+u.cells.length))=k from by omega] at p;refine .inr ⟨⟨(m,es),by simp only [AD.xat,Q,p]⟩,?_⟩;rw [List.getElem?_append_right (by simp only [d4,d5,Array.length_toList] at H ⊢; omega)];simp only [d4,d5,Array.length_toList,List.getElem?_drop] at H ⊢;rw [Nat.min_eq_left (by omega),show f+n+(k - (f+(a.eval v).cells.size))=k from by omega,Array.getElem?_toList]
   ·exact h.elim
  ·exact h.elim
 ·exact h.elim
theorem AY.frz (h:AY F0 w0 O a w G) {cs:List At} (C:O.get s=.bx cs):DJ F0 w0 ((s,.tv (.pt (cs.map (·.t))))::O) a w:=by
 have V:s<a.tmps.size:=G9 h C (by simp);have B:=A9 h C (by simp);have I:=h.wf s;rw [C] at I;simp only [AX] at B;obtain ⟨b,c,T,W,X,h3,J,Y⟩:=B
 let y:DT:=G0 G s (fun _=>none)
 have l:∀ p i n lo,y p i=some (n,lo)->p≠s∧G p i=some (n,lo):=by
  intro p i n lo m;by_cases f:p=s
  ·subst f; simp only [y,CD] at m; cases m
  ·simp only [y,B2 _ _ _ _ f] at m; exact ⟨f,m⟩
 have z:D0 w w (A2 w0.heap.size F0 G) (A2 w0.heap.size F0 y):=fun n o v L M=>⟨L,fun D=>M (A2.mono (fun p i N lo m=>⟨p,i,lo,(l _ _ _ _ m).2,d3 _⟩) D)⟩;refine ⟨y,fun p i p' i' n lo Q q E=>h.uniq _ _ _ _ _ _ _ (l _ _ _ _ q).2 (l _ _ _ _ E).2,fun p i n lo q=>h.lt _ _ _ _ (l _ _ _ _ q).2,h.below,h.defers,fun p m=>?_,fun p m=>?_,fun p=>?_⟩
 ·rw [AD.get_cons,d2 (by omega)]; exact h.dom p m
 ·rw [AD.get_cons];by_cases f:s=p
  ·subst f;rw [d1 rfl,W];simp only [AX,A7];refine ⟨b,0,rfl,?_⟩;rw [GU];intro i t u;rw [List.getElem?_map] at u;simp only [Option.map_eq_some_iff] at u;obtain ⟨cell,g,rfl⟩:=u;obtain ⟨x,Z,A⟩:=Y i cell g;refine ⟨x,?_,?_,ML A,DH z _ _ (S3 h A)⟩
   ·rw [Nat.zero_add,cell_of_row w b i c T (0,0) X]; exact Z
   ·rintro (⟨q,H⟩ | ⟨p,j,lo,q,_⟩)
    ·exact (h.lt _ _ _ _ J).2.elim (fun e=>by omega) (fun e=>h.below.free _ 0 _ (e 0 (Nat.zero_le 0)) H)
    ·obtain ⟨E,e3⟩:=l _ _ _ _ q;exact E (h.uniq _ _ _ _ _ _ _ e3 J).1
  ·rw [d2 f];refine AX.kept z (fun i=>by simp only [y]; rw [B2 _ _ _ _ (fun e=>f e.symm)]) (fun _ _ _ _=>rfl) (fun r R B ⟨cs',k⟩=>?_) (fun r i B ⟨U,F⟩=>⟨⟨U,(AD.xat_drop (by simp) (by simp) F).2⟩,fun _ hv=>hv⟩) (h.slots p m)
   ·rw [AD.get_cons] at k;split at k
    ·cases k
    ·exact ⟨⟨cs',k⟩,rfl⟩
 ·rw [AD.get_cons];split
  ·simp only [EV.WF,TV.WF];rw [CW];intro t u;simp only [List.mem_map] at u;obtain ⟨cell,g,rfl⟩:=u;exact I cell g
  ·exact h.wf p
theorem AY.rls (h:AY F0 w0 O a w G) {cs:List At} (M:O.get s=.bx cs):DJ F0 w0 ((s,.bx (cs.map At.rel))::O) a w:=by
 have hsz:s<a.tmps.size:=G9 h M (by simp);have N:=A9 h M (by simp);have Y:=h.wf s;rw [M] at Y;simp only [AX] at N;obtain ⟨b,c,T,h1,h2,h3,h4,Z⟩:=N
 let zs:Option Nat->Option (Nat × Nat):=fun i=>match i with
  | none=>G s none
  | some k=>match cs[k]? with
   | some ⟨true,.xl n es⟩=>(G s (some k)).map fun p=>(p.1,es.length*n)
   | _=>G s (some k)
 let u:DT:=G0 G s zs
 have y:∀ p i H lo,u p i=some (H,lo)->∃ l,G p i=some (H,l)∧l<=lo:=by
  intro p i H lo f;by_cases j:p=s
  ·subst j;simp only [u,CD] at f;cases i with
   | none=>exact ⟨lo,f,d3 _⟩
   | some k=>
    simp only [zs] at f;split at f
    ·rename_i n es hk;obtain ⟨x,_,xs,⟨z0,_,hz⟩,_⟩:=Z k _ hk;simp only [hz,Option.map_map,Option.map_eq_some_iff,Function.comp,Prod.mk.injEq] at f;obtain ⟨p,f,q,B⟩:=f;exact ⟨0,by rw [hz,f,←q]; rfl,Nat.zero_le _⟩
    ·exact ⟨lo,f,d3 _⟩
  ·simp only [u,B2 _ _ _ _ j] at f; exact ⟨lo,f,d3 _⟩
 have E:D0 w w (A2 w0.heap.size F0 G) (A2 w0.heap.size F0 u):=fun H o v U hF=>⟨U,fun V=>hF (A2.mono (fun p i b'' lo f=>by
  obtain ⟨l,q,B⟩:=y _ _ _ _ f;exact ⟨p,i,l,q,B⟩) V)⟩
 have J:∀ {d:At} {z:Option (Nat × Nat)} {x:Value} {z':Option (Nat × Nat)},C6 w (A2 w0.heap.size F0 G) z d x->(z'=match d with
   | ⟨true,.xl n es⟩=>z.map fun p=>(p.1,es.length*n)
   | _=>z)->C6 w (A2 w0.heap.size F0 u) z' d.rel x:=by
  intro d z x z' C I;unfold At.rel;split
  ·rename_i n es;subst I;obtain ⟨xs,⟨z0,k1,k2⟩,k3,k4,k5⟩:=C;refine ⟨xs,?_,BS E _ _ k3,k4,k5⟩;have:z.map (fun p=>(p.1,es.length*n))=z0:=by
    rw [k2];rcases k1.2 with ⟨_,_,e⟩ | ⟨g,cap,cur,e,_,_,_,_,_,_,e⟩
    ·rw [e]; rfl
    ·rw [e]; rfl
   show ID w n x es.length xs (z.map fun p=>(p.1,es.length*n));rw [this];exact k1
  ·rename_i W;have:z'=z:=by
    rw [I];split
    ·rename_i n es; exact absurd rfl (W n es)
    ·rfl
   rw [this];exact C.kept E (fun _ _ _=>rfl)
 refine ⟨u,fun p i p' i' H lo lo' q B=>?_,fun p i H lo q=>?_,h.below,h.defers,fun p f=>?_,fun p f=>?_,fun p=>?_⟩
 ·obtain ⟨_,R,_⟩:=y _ _ _ _ q;obtain ⟨_,X,_⟩:=y _ _ _ _ B;exact h.uniq _ _ _ _ _ _ _ R X
 ·obtain ⟨l,R,X⟩:=y _ _ _ _ q;exact ⟨(h.lt _ _ _ _ R).1,(h.lt _ _ _ _ R).2.imp id fun k o ho=>k o (Nat.le_trans X ho)⟩
 ·rw [AD.get_cons,d2 (by omega)]; exact h.dom p f
 ·rw [AD.get_cons];by_cases j:s=p
  ·subst j;rw [d1 rfl,h1];simp only [AX];refine ⟨b,c,T,rfl,h2,by simpa using h3,by simp only [u,CD,zs]; exact h4,fun i d C=>?_⟩;rw [List.getElem?_map] at C;simp only [Option.map_eq_some_iff] at C;obtain ⟨F,A,rfl⟩:=C;obtain ⟨x,hx,U⟩:=Z i F A;refine ⟨x,hx,J U ?_⟩;simp only [u,CD,zs,A];obtain ⟨o,t⟩:=F;cases o <;> cases t <;> rfl
  ·rw [d2 j];refine AX.kept E (fun i=>by simp only [u]; rw [B2 _ _ _ _ (fun e=>j e.symm)]) (fun _ _ _ _=>rfl) (fun r off N ⟨cs',m⟩=>?_) (fun r i N ⟨Q,D⟩=>?_) (h.slots p f)
   ·rw [AD.get_cons] at m;split at m
    ·rename_i e; subst e; exact ⟨⟨cs,M⟩,rfl⟩
    ·exact ⟨⟨cs',m⟩,rfl⟩
   ·by_cases L:s=r
    ·subst L;exfalso;cases i with
     | none=>simp [AD.xat,AD.get_cons] at D
     | some k=>
      obtain ⟨cs',q,B⟩:=AD.xat_some (n:=Q.1) (es:=Q.2) D;rw [AD.get_cons,d1 rfl] at q;cases q;rw [List.getElem?_map] at B;simp only [Option.map_eq_some_iff] at B;obtain ⟨F,_,e3⟩:=B;obtain ⟨o,t⟩:=F;cases o <;> cases t <;> simp [At.rel] at e3
    ·have:O.xat r i=some Q:=by
      rw [←D]; exact (AD.xat_of (by rw [AD.get_cons,d2 L])).symm
     exact ⟨⟨Q,this⟩,fun v hv=>hv⟩
 ·rw [AD.get_cons];split
  ·intro d C;obtain ⟨F,A,rfl⟩:=List.mem_map.1 C;have:=Y F A;obtain ⟨o,t⟩:=F;cases o <;> cases t <;> exact this
  ·exact h.wf p
end
end Go.Sf
