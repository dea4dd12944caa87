/- Boxes: variables in memory that a function has by itself. -/
import Derived.Test.YtlbmpkmkmkgniaaGreatDoorSfApp
set_option linter.all false
namespace Go.Sf
open Go.RowKit (Below)
def aS:TV->Bool
 | .list _ es=>es.isEmpty
 | .xl _ es=>es.isEmpty
 | _=>false
def Rl (c:A1) (v:Value):Bool:=if c.own then aS c.t&&Lu v else FO c.t v&&v.oneCell'
def Nf:List A1->List Value->Bool
 | [],vs=>vs.isEmpty
 | c::cs,vs=>match vs with | v::vs=>Rl c v&&Nf cs vs | []=>false
section
variable {w:World} {F:Nat->Nat->Prop}
theorem SS {c:A1} {v:Value} (h:Rl c v=true):C3 w F none c v∧c.t.WF:=by
 obtain ⟨_ | _,t⟩:=c
 ·simp only [Rl,Bool.false_eq_true,if_false,zzZ] at h;have b:=Il w F t v h.1;exact ⟨⟨b.1,h.2⟩,b.2⟩
 ·simp only [Rl,if_true,zzZ] at h;cases t <;> simp only [aS,Bool.false_eq_true,false_and] at h
  ·rename_i n es;rw [List.isEmpty_iff] at h;obtain ⟨rfl,h⟩:=h;refine ⟨?_,by simp,trivial⟩;simp only [C3,JI,C1];exact ⟨[],⟨by simp,.inl ⟨LC h,rfl,rfl⟩⟩,rfl,by simp,by simp⟩
  ·rename_i n es;rw [List.isEmpty_iff] at h;obtain ⟨rfl,h⟩:=h;refine ⟨?_,by simp,trivial⟩;simp only [C3,JI];exact ⟨[],⟨none,⟨by simp,.inl ⟨LC h,rfl,rfl⟩⟩,rfl⟩,rfl,by simp,by simp⟩
theorem M6:∀ {cs:List A1} {vs:List Value},Nf cs vs=true->vs.length=cs.length∧(∀ (i:Nat) (c:A1),cs[i]?=some c->∃ x,vs[i]?=some x∧C3 w F none c x)∧∀ c∈cs,c.t.WF
 | [],vs,h=>by simp [Nf] at h; subst h; simp
 | c::cs,[],h=>by simp [Nf] at h
 | c::cs,v::vs,h=>by
  simp only [Nf,zzZ] at h;obtain ⟨f,g,j⟩:=M6 (cs:=cs) (vs:=vs) h.2;have e:=SS (w:=w) (F:=F) h.1;refine ⟨by simp [f],fun i c' b=>?_,fun c' b=>?_⟩
  ·cases i with
   | zero=>simp at b; subst b; exact ⟨v,rfl,e.1⟩
   | succ i=>exact g i c' (by simpa using b)
  ·rcases List.mem_cons.1 b with rfl | b
   ·exact e.2
   ·exact j c' b
end
def Rx (O:AD):Option Nat->AD
 | some q=>Go.Sf.strip O q
 | none=>O
theorem Q0 (O:AD) (q:Option Nat) (p:Nat):(Rx O q).get p=.undef∨((Rx O q).get p=O.get p∧some p≠q):=by
 cases q with
 | none=>exact .inr ⟨rfl,by simp⟩
 | some c=>
  simp only [Rx,Go.Sf.strip,AD.get_cons];split
  ·exact .inl rfl
  ·rename_i b;exact .inr ⟨rfl,fun e=>b (by simpa using e.symm)⟩
section
variable {P:Program} {S:FuncId->QQ->CS->Prop} {F0:Nat->Nat->Prop} {w0:W0} {O:AD} {a:Act} {w:World} {G:DP} {d:Nat} {o:Oper} {K:EV->AD->Prop}
theorem AZ.box (h:AZ F0 w0 O a w G) (n:d<a.tmps.size) (g:O.noRef d=true) {cs:List A1} {c:Array Value} {T:TypeId} (p:c.size=cs.length)
  (q:∀ k,DW w (w.alloc (.cells c T)) (A3 w0.heap.size F0 G) k->∀ (i:Nat) (x:A1),cs[i]?=some x->∃ v,c[i]?=some v∧C3 (w.alloc (.cells c T)) k none x v) (r:∀ x∈cs,x.t.WF) :
  DI F0 w0 ((d,.bx cs)::O) (a.put (some d) (.pointer (some ⟨w.heap.size,0,none⟩))) (w.alloc (.cells c T)):=by
 have l:Below w.heap.size w (w.alloc (.cells c T)):=(Below.refl _ _).alloc (d3 _) _;have m:∀ (i:Option Nat) b lo,(if i=none then some (w.heap.size,0) else none)=some (b,lo)->w.heap.size<=b∧b<(w.alloc (.cells c T)).heap.size:=by
  intro i b lo hi;split at hi
  ·simp only [zzY,Prod.mk.injEq] at hi;rw [←hi.1]; exact ⟨d3 _,by simp⟩
  ·cases hi
 have j:=Lq (F0:=F0) (w0:=w0) (G:=G) l d (fun i=>if i=none then some (w.heap.size,0) else none) (fun i b lo hi=>(m i b lo hi).1);refine ⟨_,h.quiet l d n (.bx cs) _ (fun i=>if i=none then some (w.heap.size,0) else none) m (fun i y b lo s e f=>?_) (fun _=>g) ?_ r⟩
 ·split at e
  ·split at f
   ·simp_all
   ·cases f
  ·cases e
 ·simp only [AY];refine ⟨_,c,T,rfl,heap_alloc_new w _,p,by rw [CB]; simp,fun i x u=>?_⟩;obtain ⟨v,e,f⟩:=q _ j i x u;refine ⟨v,e,?_⟩;rw [CB];simpa using f
theorem bV (p:AZ F0 w0 O a w G) (s:d<a.tmps.size) {x:Operand} {y:AL} {t:TypeId} (g:o.op=.box t x) (j:AP x y=true) (h:(AJ.boxo y).wp S O (some d) K):B2 P F0 w0 a w o d K:=by
 simp only [AJ.wp] at h;split at h
 ·rename_i u C hv e;simp only [zzY] at e;subst e;obtain ⟨m,A⟩:=h;have q:=BR p j hv;have l:=Ja q.1;have v:=CN l.1;refine ⟨_,_,by simp [execOp,g,Instr.box,newVar,newRow],_,_,A,p.box s m (c:=(a.eval x).cells) (T:=t) (by simpa using v) (fun B k i c b=>?_) (fun c b=>?_)⟩
  ·rw [List.getElem?_map] at b;simp only [Option.map_eq_some_iff] at b;obtain ⟨n,f,rfl⟩:=b;have z:i<u.cells.length:=by
    rcases Nat.lt_or_ge i u.cells.length with h | h
    ·exact h
    ·rw [List.getElem?_eq_none h] at f; cases f
   have r:(a.eval x).cells.toList[i]?=some ((a.eval x).cells.toList[i]'(by omega)):=List.getElem?_eq_getElem (by omega);refine ⟨(a.eval x).cells.toList[i]'(by omega),by rw [←Array.getElem?_toList]; exact r,?_,l.2 _ (List.getElem_mem _)⟩;exact DG k _ _ (((CP _ _).1 l.1).2 i n _ f r)
  ·simp only [List.mem_map] at b;obtain ⟨n,f,rfl⟩:=b;exact CU.1 (Ka q.2) n f
 ·exact h.elim
theorem dQ (g:AZ F0 w0 O a w G) (j:d<a.tmps.size) {t:TypeId} {i:TypeInfo} {z:Value} {cs:List A1} (e:o.op=.alloc t) (hi:P.info? t=some i) (k:i.zero=some z) (b:Nf cs z.cells.toList=true) (h:(AJ.alc cs).wp S O (some d) K):B2 P F0 w0 a w o d K:=by
 simp only [AJ.wp] at h;obtain ⟨f,m⟩:=h;refine ⟨_,_,?_,_,_,m,g.box j f (c:=z.cells) (T:=t) (by have:=(M6 (w:=w) (F:=fun _ _=>False) b).1; simpa using this) (fun q _ i c l=>?_) (M6 (w:=w) (F:=fun _ _=>False) b).2.2⟩
 ·simp [execOp,e,Instr.alloc,zeroValue,typeInfo,hi,k,newVar,newRow]
 ·obtain ⟨x,n,p⟩:=(M6 b).2.1 i c l;exact ⟨x,by simpa using n,p⟩
theorem KV (i:AZ F0 w0 O a w G) {x:Operand} {y:AL} (f:AP x y=true) {s g:Nat} (e:y.place O=some (s,g)) {cs:List A1} (j:O.get s=.bx cs) :
  ∃ b,slot a s=.pointer (some ⟨b,0,none⟩)∧a.eval x=.pointer (some ⟨b,g,none⟩):=by
 cases y with
 | c t=>simp [AL.place] at e
 | s n=>
  cases x <;> simp [AP] at f;subst f;rename_i n;simp only [AL.place] at e;have h:=A9 i j (by simp);simp only [AY] at h;obtain ⟨b,c,T,m,_⟩:=h;split at e
  ·rename_i q k l;simp only [zzY,Prod.mk.injEq] at e;obtain ⟨rfl,rfl⟩:=e;have h:=A9 i l (by simp);simp only [AY] at h;obtain ⟨p,r,u⟩:=h ⟨cs,j⟩;exact ⟨p,r,u⟩
  ·rename_i cs' l;simp only [zzY,Prod.mk.injEq] at e;obtain ⟨rfl,rfl⟩:=e;exact ⟨b,m,m⟩
  ·cases e
theorem AZ.rebox (h:AZ F0 w0 O a w G) {s:Nat} {cs cs':List A1} (hs:O.get s=.bx cs) {b:Nat} (V:slot a s=.pointer (some ⟨b,0,none⟩)) {c c':Array Value} {T:TypeId} (L:w.heap[b]?=some (.cells c T (0,0)))
  {q:Option Nat} (hqs:q≠some s) {zs:Option Nat->Option (Nat × Nat)} (hzb:zs none=some (b,0))
  (hz:∀ i f lo,i≠none->zs i=some (f,lo)->G s i=some (f,lo)∨∃ q',q=some q'∧∃ j,G q' j=some (f,lo))
  (hzu:∀ i J f lo E,zs i=some (f,lo)->zs J=some (f,E)->i=J)
  (hl:c'.size=cs'.length) (hcs:∀ F' w',DW w w' (A3 w0.heap.size F0 G) F'->(∀ k,k≠b->w'.heap[k]?=w.heap[k]?)->∀ (i:Nat) (x:A1),cs'[i]?=some x->∃ v,c'[i]?=some v∧C3 w' F' (zs (some i)) x v)
  (hw:∀ x∈cs',x.t.WF) (hx:∀ (k n:Nat) (es:QQ),cs'[k]?=some ⟨true,.xl n es⟩->(O.noX s (some k)=true∨((∃ p,O.xat s (some k)=some p)∧c'[k]?=c[k]?))) :
  ∃ H,AZ F0 w0 ((s,.bx cs')::Rx O q) a (w.setRow b c') H∧DW w (w.setRow b c') (A3 w0.heap.size F0 G) (A3 w0.heap.size F0 H):=by
 have hsz:s<a.tmps.size:=G7 h hs (by simp);have Q:G s none=some (b,0):=by
  have:=A9 h hs (by simp);simp only [AY] at this;obtain ⟨f,_,_,u,_,_,h4,_⟩:=this;rw [V] at u;simp only [Value.pointer.injEq,zzY,Addr.mk.injEq,and_true,and_self] at u;rw [u]; exact h4
 let H:DP:=fun p=>if p=s then zs else if some p=q then (fun _=>none) else G p
 have z:H s=zs:=by simp [H]
 have g:∀ p i f lo,H p i=some (f,lo)->∃ M J,G M J=some (f,lo)∧(M=p∨some M=q)∧(p≠s->M=p∧J=i):=by
  intro p i f lo A;by_cases l:p=s
  ·subst l;rw [z] at A;by_cases hi:i=none
   ·subst hi;rw [hzb] at A;simp only [zzY,Prod.mk.injEq] at A;obtain ⟨rfl,rfl⟩:=A;exact ⟨p,none,Q,.inl rfl,fun h=>absurd rfl h⟩
   ·rcases hz i f lo hi A with u | ⟨q',u,j,D⟩
    ·exact ⟨p,i,u,.inl rfl,fun h=>absurd rfl h⟩
    ·exact ⟨q',j,D,.inr u.symm,fun h=>absurd rfl h⟩
  ·simp only [H,d2 l] at A;split at A
   ·cases A
   ·exact ⟨p,i,A,.inl rfl,fun _=>⟨rfl,rfl⟩⟩
 have R:∀ p i f lo,H p i=some (f,lo)->some p≠q:=by
  intro p i f lo A W;by_cases l:p=s
  ·subst l; exact hqs W.symm
  ·simp only [H,d2 l,d1 W] at A; cases A
 have m:∀ k,k≠b->(w.setRow b c').heap[k]?=w.heap[k]?:=fun k hk=>setRow_other w b k _ hk;have hag:DW w (w.setRow b c') (A3 w0.heap.size F0 G) (A3 w0.heap.size F0 H):=by
  intro f o v hc hF;have hbb:f≠b:=fun e=>hF (.inr ⟨s,none,0,by rw [e]; exact Q,Nat.zero_le _⟩);refine ⟨by rw [World.cell?_of_block (w:=w) (a:=⟨f,o,none⟩) (m f hbb)]; exact hc,fun hF'=>hF ?_⟩;rcases hF' with u | ⟨p,i,lo,u,D⟩
  ·exact .inl u
  ·obtain ⟨M,J,h3,_⟩:=g p i f lo u;exact .inr ⟨M,J,lo,h3,D⟩
 have X:Jw F0 w0 (w.setRow b c'):=h.below.but rfl rfl rfl (by simp) (Z:=fun k=>k=b) (fun k hk=>by rw [hk]; exact (h.lt _ _ _ _ Q).2.imp id (fun e o=>e o (Nat.zero_le _))) (fun k _ hk=>m k hk);refine ⟨H,⟨?_,?_,X,h.defers,?_,?_,?_⟩,hag⟩
 ·intro p i M J f lo E u D;by_cases l:p=s <;> by_cases B:M=s
  ·subst l; subst B;rw [z] at u D;exact ⟨rfl,hzu i J f lo E u D⟩
  ·obtain ⟨r,j,U,C,_⟩:=g p i f lo u;obtain ⟨r',j',e3,_,e4⟩:=g M J f E D;obtain ⟨rfl,rfl⟩:=e4 B;obtain ⟨rfl,_⟩:=h.uniq _ _ _ _ _ _ _ U e3;rcases C with C | C
   ·exact absurd (C.trans l) B
   ·exact absurd C (R _ _ _ _ D)
  ·obtain ⟨r,j,U,C,_⟩:=g M J f E D;obtain ⟨r',j',e3,_,e4⟩:=g p i f lo u;obtain ⟨rfl,rfl⟩:=e4 l;obtain ⟨rfl,_⟩:=h.uniq _ _ _ _ _ _ _ U e3;rcases C with C | C
   ·exact absurd (C.trans B) l
   ·exact absurd C (R _ _ _ _ u)
  ·obtain ⟨r,j,U,_,C⟩:=g p i f lo u;obtain ⟨r',j',e3,_,e4⟩:=g M J f E D;obtain ⟨rfl,rfl⟩:=C l;obtain ⟨rfl,rfl⟩:=e4 B;exact h.uniq _ _ _ _ _ _ _ U e3
 ·intro p i f lo u;obtain ⟨r,j,U,_⟩:=g p i f lo u;have:=h.lt _ _ _ _ U;exact ⟨by simpa using this.1,this.2⟩
 ·intro p A;rw [AD.get_cons,d2 (by omega)];cases q with
  | none=>exact h.dom p A
  | some q'=>exact (h.strip q').dom p A
 ·intro p A;rw [AD.get_cons];by_cases l:s=p
  ·subst l;rw [d1 rfl];simp only [AY];refine ⟨b,c',T,V,setRow_heap w b c c' T (0,0) L,hl,by rw [z]; exact hzb,fun i x hx=>?_⟩;obtain ⟨v,u,D⟩:=hcs _ _ hag m i x hx;exact ⟨v,u,by rw [z]; exact D⟩
  ·rw [d2 l];have hcase:=Q0 O q p;rcases hcase with Y | ⟨Y,W⟩ <;> rw [Y]
   ·trivial
   ·have hGp:∀ i,H p i=G p i:=fun i=>by simp only [H]; rw [d2 (fun e=>l e.symm),d2 W]
    refine AY.kept hag hGp (fun i f lo hb'=>m f (fun e=>l (h.uniq _ _ _ _ _ _ _ Q (e ▸ hb')).1)) (fun r off hr ⟨cs'',y⟩=>⟨?_,rfl⟩) (fun r i hr ⟨pp,I⟩=>?_) (h.slots p A)
    ·rw [AD.get_cons] at y;split at y
     ·rename_i N; subst N; exact ⟨cs,hs⟩
     ·rcases Q0 O q r with Y | ⟨Y,_⟩ <;> rw [Y] at y
      ·cases y
      ·exact ⟨_,y⟩
    ·by_cases N:s=r
     ·subst N;obtain ⟨n,es⟩:=pp;cases i with
      | none=>have:=AD.xat_none I; rw [AD.get_cons,d1 rfl] at this; cases this
      | some k=>
       obtain ⟨cs'',u,D⟩:=AD.xat_some I;rw [AD.get_cons,d1 rfl] at u;simp only [EV.bx.injEq] at u;subst u;rcases hx k n es D with h3 | ⟨h3,h4⟩
       ·have h5:=AD.noX_spec h3 p k (.inr rfl);rcases hr with hr | ⟨c,hr⟩
        ·exact absurd hr h5.1
        ·exact absurd hr (h5.2 c)
       ·refine ⟨h3,fun v hv=>?_⟩;obtain ⟨f,c0,T0,U,C,e3⟩:=hv;rw [V] at U;simp only [Value.pointer.injEq,zzY,Addr.mk.injEq,and_true,and_self] at U;subst U;rw [L] at C;cases C;exact ⟨_,_,_,V,setRow_heap w _ _ c' _ (0,0) L,h4.trans e3⟩
     ·rw [AD.xat_cons N] at I;have hp2:O.xat r i=some pp:=by
       rcases Q0 O q r with Y | ⟨Y,_⟩
       ·rw [AD.xat_undef Y] at I; cases I
       ·rw [←I]; exact (AD.xat_of Y).symm
      exact ⟨⟨pp,hp2⟩,h.xv ⟨pp,hp2⟩ rfl (fun f hb'=>m f (fun e=>N (h.uniq _ _ _ _ _ _ _ Q (e ▸ hb')).1))⟩
 ·intro p;rw [AD.get_cons];split
  ·exact hw
  ·cases q with
   | none=>exact h.wf p
   | some q'=>exact (h.strip q').wf p
end
end Go.Sf
