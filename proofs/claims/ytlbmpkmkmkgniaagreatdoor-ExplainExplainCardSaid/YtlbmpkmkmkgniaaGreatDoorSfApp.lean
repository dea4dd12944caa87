/- Appending to a list that a slot owns. -/
import Derived.Test.YtlbmpkmkmkgniaaGreatDoorSfOps1
set_option linter.all false
namespace Go.Sf
open Go.RowKit (Below)
structure Jd (w w':World) (z z':Option (Nat × Nat)):Prop where
 os:w'.os=w.os
 tape:w'.tape=w.tape
 output:w'.output=w.output
 size:w.heap.size<=w'.heap.size
 other:∀ k,k<w.heap.size->(∀ lo,z≠some (k,lo))->w'.heap[k]?=w.heap[k]?
 cell:∀ b o v,w.cell? ⟨b,o,none⟩=some v->(∀ lo,z=some (b,lo)->o<lo)->w'.cell? ⟨b,o,none⟩=some v
 zone:∀ b lo,z'=some (b,lo)->b<w'.heap.size∧(w.heap.size<=b∨∃ lo',z=some (b,lo')∧lo'<=lo)
theorem Jd.refl (w:World) (z:Option (Nat × Nat)) (c:∀ b lo,z=some (b,lo)->b<w.heap.size):Jd w w z z:=
 ⟨rfl,rfl,rfl,d3 _,fun _ _ _=>rfl,fun _ _ _ h _=>h,fun b lo h=>⟨c b lo h,.inr ⟨lo,h,d3 _⟩⟩⟩
section
variable {P:Program} {w:World}
theorem TI (t ty e r:TypeId) (i:TypeInfo) (x:P.underlying t=some (.slice e)) (hi:P.info? e=some i)
  (g f h:Nat) (k:Array Value) (y:w.heap[g]?=some (.cells k r (0,0)))
  (a:Addr) (m c:Nat) (b:List Value) (z:b.length=m*i.size) (l:∀ (j:Nat) (u:Value),b[j]?=some u->w.cell? (a.add j)=some u) (A:∀ u∈b,u.oneCell'=true)
  (n:f+m<=h) (p:f*i.size+b.length<=k.size) :
  (Builtin.append_ #[t,t] ty #[.slice (some ⟨g,0,none⟩) f h,.slice (some a) m c]).run P w =
   .ok (.slice (some ⟨g,0,none⟩) (f+m) h) (w.setRow g (k.toList.take (f*i.size)++b++k.toList.drop (f*i.size+b.length)).toArray):=by
 have B:=run_firstCells_some (P:=P) w i.size m a m c b z l;have q:=run_storeCells_at P g (f*i.size) r b 0 k w y (by simpa using p) A;simp only [Nat.add_zero] at q;simp [Builtin.append_,run_underlying x,sizeOf,typeInfo,hi,Builtin.lenOf,n,B,Addr.add_lit,q]
theorem Q5 (t ty e:TypeId) (i:TypeInfo) (z:Value) (n:Nat) (X:P.underlying t=some (.slice e)) (hi:P.info? e=some i) (hz:i.zero=some z)
  (l:i.size=n) (hby:i.bytes<=4096) (hzs:z.cells.size=n) (hn:0<n)
  (v:Value) (len:Nat) (xs:List Value) (V:Option (Nat × Nat)) (p:ID w n v len xs V)
  (W:Option Addr) (m c:Nat) (f:List Value) (L:f.length=m*n) (had:W=none->m=0) (hmc:m<=c) (M:∀ a,W=some a->∀ (j:Nat) (u:Value),f[j]?=some u->w.cell? (a.add j)=some u) (h1:∀ u∈f,u.oneCell'=true)
  (D:len+m<=BM) :
  ∃ v' w' z',(Builtin.append_ #[t,t] ty #[v,.slice W m c]).run P w=.ok v' w'∧ID w' n v' (len+m) (xs++f) z'∧Jd w w' V z':=by
 have A:(xs++f).length=(len+m)*n:=by rw [d4,p.1,L,Nat.add_mul]
 have B:(len+m)*i.bytes<=140737488355328:=by
  calc (len+m)*i.bytes<=BM*4096:=Nat.mul_le_mul D hby
   _<=140737488355328:=by decide
 have hml:len+m<=maxLen:=by simp only [maxLen,BM] at *; omega
 have H:∀ b lo,V=some (b,lo)->b<w.heap.size:=by
  intro b lo x;rcases p.2 with ⟨_,_,h⟩ | ⟨g,cap,r,J,_,T,_,_,_,_,h⟩
  ·rw [h] at x; cases x
  ·rw [h] at x;simp only [zzY,Prod.mk.injEq] at x;rw [←x.1]; exact (Array.getElem?_eq_some_iff.1 T).1
 by_cases hm:m=0
 ·subst hm;have hnn:f=[]:=List.eq_nil_of_length_eq_zero (by simpa using L);subst hnn;refine ⟨v,w,V,?_,by simpa using p,Jd.refl w V H⟩;have Y:(Builtin.firstCells n 0 (.slice W 0 c)).run P w=.ok #[] w:=by
   cases W <;> simp [Builtin.firstCells,loadCells,loadCellsFrom]
  rcases p.2 with ⟨rfl,rfl,_⟩ | ⟨g,cap,r,J,rfl,T,F,_,_,_,_⟩
  ·simp [Builtin.append_,run_underlying X,sizeOf,typeInfo,hi,l,Builtin.lenOf,Y]
  ·simp [Builtin.append_,run_underlying X,sizeOf,typeInfo,hi,l,Builtin.lenOf,F,Y,storeCells]
 ·cases W with
  | none=>exact absurd (had rfl) hm
  | some a=>
   have q:=M a rfl;have E:∀ (old:Nat),old<len+m ->
     ID (w.drew.alloc (.cells (xs.toArray++f.toArray++Builtin.zeroCells z.cells (grownCap w (len+m) old e - (len+m))) e)) n
      (.slice (some ⟨w.heap.size,0,none⟩) (len+m) (grownCap w (len+m) old e)) (len+m) (xs++f) (some (w.heap.size,(len+m)*n)) ∧
     Jd w (w.drew.alloc (.cells (xs.toArray++f.toArray++Builtin.zeroCells z.cells (grownCap w (len+m) old e - (len+m))) e)) V (some (w.heap.size,(len+m)*n)):=by
    intro old ho;have hge:=grownCap_ge w (len+m) old e;have N:grownCap w (len+m) old e<=maxLen:=grownCap_le_maxLen w (len+m) old e hml;refine ⟨⟨A,.inr ⟨w.heap.size,_,_,e,rfl,heap_alloc_new w.drew _,hge,N,?_,?_,rfl⟩⟩,⟨rfl,rfl,rfl,by simp,fun k hk _=>Below.heap_alloc w.drew _ k hk,fun b o v F _=>?_,fun b lo x=>?_⟩⟩
    ·simp only [Array.size_append,List.size_toArray,size_zeroCells,hzs,p.1,L,←Nat.add_mul];congr 1;omega
    ·simp only [Array.toList_append,ea];rw [←ea,←A];exact List.take_left
    ·have x:b<w.heap.size:=World.block_lt_of_cell? w ⟨b,o,none⟩ F;rw [World.cell?_alloc_lt _ _ (a:=⟨b,o,none⟩) (by simpa using x)];simpa using F
    ·simp only [zzY,Prod.mk.injEq] at x;rw [←x.1];exact ⟨by simp,.inl (d3 _)⟩
   rcases p.2 with ⟨rfl,rfl,rfl⟩ | ⟨g,cap,r,J,rfl,T,hnc,N,hcs,U,rfl⟩
   ·have hx:xs=[]:=List.eq_nil_of_length_eq_zero (by simpa using p.1);subst hx;have Q:=run_append_nil (P:=P) w t ty e i z X hi hz a m c f (by rw [l]; exact L) q (by omega) (by simp only [BM] at D; omega) (by have x:=B; simp only [Nat.zero_add] at x; omega);have C:=E 0 (by omega);simp only [Nat.zero_add,List.nil_append,Array.empty_append] at C Q ⊢;exact ⟨_,_,_,Q,C.1,C.2⟩
   ·by_cases y:len+m<=cap
    ·have I:len*i.size+f.length<=r.size:=by rw [L,hcs,l,←Nat.add_mul]; exact Nat.mul_le_mul_right _ y
     have Q:=TI (P:=P) t ty e J i X hi g len cap r T a m c f (by rw [l]; exact L) q h1 y I;rw [l] at Q I;refine ⟨_,_,some (g,(len+m)*n),Q,⟨A,.inr ⟨g,cap,_,J,rfl,setRow_heap w g r _ J _ T,y,N,?_,?_,rfl⟩⟩,⟨rfl,rfl,rfl,by simp,fun k _ hk=>setRow_other w g k _ (fun e=>hk (len*n) (by rw [e])),fun b o u F hlo=>?_,fun b lo x=>?_⟩⟩
     ·simp only [List.size_toArray,d4,d5,List.length_drop,Array.length_toList];omega
     ·rw [U,←A];exact List.take_left
     ·by_cases Z:b=g
      ·subst Z;have ho:=hlo (len*n) rfl;rw [cell_of_row _ b o _ J (0,0) (setRow_heap w b r _ J _ T)];rw [cell_of_row w b o r J (0,0) T] at F;have hoc:o<r.size:=by omega
       rw [List.getElem?_toArray,ea,List.getElem?_append_left (by simp; omega),List.getElem?_take_of_lt ho];simpa using F
      ·rw [World.cell?_of_block (w:=w) (a:=⟨b,o,none⟩) (setRow_other w g b _ (fun e=>Z e))];exact F
     ·simp only [zzY,Prod.mk.injEq] at x;obtain ⟨rfl,rfl⟩:=x;refine ⟨by simpa using H g (len*n) rfl,.inr ⟨len*n,rfl,Nat.mul_le_mul_right _ (by omega)⟩⟩
    ·have R:∀ (j:Nat) (u:Value),xs[j]?=some u->w.cell? ((⟨g,0,none⟩:Addr).add j)=some u:=fun j u hu=>by
      rw [Addr.add_lit,Nat.zero_add]; exact p.cell rfl j u hu
     have Q:=run_append_grow (P:=P) w t ty e i z X hi hz ⟨g,0,none⟩ len cap xs (by rw [l]; exact p.1) R a m c f (by rw [l]; exact L) q (by omega) (by simp only [BM] at D; omega) (growslice_fits (by omega) B);have C:=E cap (by omega);exact ⟨_,_,_,Q,C.1,C.2⟩
end
end Go.Sf
namespace Go.Sf
open Go.RowKit (Below)
section
variable {P:Program} {S:FuncId->QQ->CS->Prop} {F0:Nat->Nat->Prop} {w0:W0} {O:AD} {a:Act} {w:World} {G:DT} {d:Nat} {o:Oper} {K:EV->AD->Prop}
variable {s:Nat} {t:TV} {v:Value}
theorem AY.app (h:AY F0 w0 O a w G) {w':World} {z':Option (Nat × Nat)} (y:Jd w w' (G s none) z') (Y:d<a.tmps.size) (Z:t.WF)
  (J:∀ R,D0 w w' (A2 w0.heap.size F0 G) R->(∀ b o,R b o->(b<w0.heap.size∧F0 b o)∨(∃ q i lo,G q i=some (b,lo)∧lo<=o)∨∃ lo,z'=some (b,lo)∧lo<=o)->C3 w' R z' t v) :
  ∃ B,AY F0 w0 ((d,.ow t)::Go.Sf.strip O s) (a.put (some d) v) w' B∧D0 w w' (A2 w0.heap.size F0 G) (A2 w0.heap.size F0 B):=by
 let B:DT:=G0 (G0 G s (fun _=>none)) d (fun i=>if i=none then z' else none)
 have A:∀ q i b lo,B q i=some (b,lo)->(q=d∧i=none∧z'=some (b,lo))∨(q≠d∧q≠s∧G q i=some (b,lo)):=by
  intro q i b lo x;by_cases l:q=d
  ·subst l;simp only [B,CD] at x;split at x
   ·rename_i hi; exact .inl ⟨rfl,hi,x⟩
   ·cases x
  ·simp only [B,B2 _ _ _ _ l] at x;by_cases n:q=s
   ·subst n; rw [CD] at x; cases x
   ·rw [B2 _ _ _ _ n] at x;exact .inr ⟨l,n,x⟩
 have N:∀ q i b lo,q≠s->G q i=some (b,lo)->∀ c,G s none≠some (b,c):=fun q i b lo n m c z=>n (h.uniq _ _ _ _ _ _ _ m z).1;have H:D0 w w' (A2 w0.heap.size F0 G) (A2 w0.heap.size F0 B):=by
  intro b o u W L;have f:∀ lo,G s none=some (b,lo)->o<lo:=fun lo f=>by
   rcases Nat.lt_or_ge o lo with h | h
   ·exact h
   ·exact absurd (.inr ⟨s,none,lo,f,h⟩) L
  refine ⟨y.cell b o u W f,?_⟩;rintro (m | ⟨q,i,lo,m,z⟩)
  ·exact L (.inl m)
  ·rcases A _ _ _ _ m with ⟨_,_,g⟩ | ⟨_,_,g⟩
   ·have E:=World.block_lt_of_cell? w ⟨b,o,none⟩ W;rcases (y.zone b lo g).2 with D | ⟨c,D,X⟩
    ·simp only at E; omega
    ·have:=f c D; omega
   ·exact L (.inr ⟨q,i,lo,g,z⟩)
 have C:Jt F0 w0 w':=h.below.trans y.os y.tape y.output y.size (fun k hk T=>y.other k (Nat.lt_of_lt_of_le hk h.below.size) (fun lo f=>(h.lt _ _ _ _ f).2.elim (fun e=>by omega) (fun e=>T lo (e lo (d3 _))))) (fun b o u E T hu=>y.cell b o u hu (fun lo f=>(h.lt _ _ _ _ f).2.elim (fun e=>by omega) (fun e=>Nat.lt_of_not_le fun U=>T (e o U))));refine ⟨B,⟨?_,?_,C,by rw [LT]; exact h.defers,?_,?_,?_⟩,H⟩
 ·intro q i q' i' b lo c m z;have Q:∀ q i lo c,z'=some (b,lo)->q≠s->G q i=some (b,c)->False:=by
   intro q i lo c g n F;rcases (y.zone b lo g).2 with D | ⟨V,D,_⟩
   ·have:=(h.lt _ _ _ _ F).1; omega
   ·exact N q i b c n F V D
  rcases A _ _ _ _ m with ⟨rfl,rfl,g⟩ | ⟨n1,n2,g⟩ <;> rcases A _ _ _ _ z with ⟨rfl,rfl,F⟩ | ⟨m1,m2,F⟩
  ·exact ⟨rfl,rfl⟩
  ·exact (Q _ _ _ _ g m2 F).elim
  ·exact (Q _ _ _ _ F n2 g).elim
  ·exact h.uniq _ _ _ _ _ _ _ g F
 ·intro q i b lo m;rcases A _ _ _ _ m with ⟨_,_,g⟩ | ⟨_,_,g⟩
  ·have:=y.zone b lo g;refine ⟨this.1,?_⟩;rcases this.2 with D | ⟨c,D,X⟩
   ·exact .inl (Nat.le_trans h.below.size D)
   ·exact (h.lt _ _ _ _ D).2.imp id (fun e o ho=>e o (Nat.le_trans X ho))
  ·have:=h.lt _ _ _ _ g;exact ⟨Nat.lt_of_lt_of_le this.1 y.size,this.2⟩
 ·intro q x;rw [F1] at x;rw [AD.get_cons,d2 (by omega)];exact (h.strip s).dom q x
 ·intro q x;rw [F1] at x;rw [AD.get_cons];by_cases l:d=q
  ·subst l;rw [d1 rfl,IY _ _ _ Y];simp only [AX,B,CD,if_true];refine J _ H fun b o L=>?_;rcases L with m | ⟨q,i,lo,m,z⟩
   ·exact .inl m
   ·rcases A _ _ _ _ m with ⟨_,_,g⟩ | ⟨_,_,g⟩
    ·exact .inr (.inr ⟨lo,g,z⟩)
    ·exact .inr (.inl ⟨q,i,lo,g,z⟩)
  ·rw [d2 l,BN _ _ _ _ l];simp only [Go.Sf.strip,AD.get_cons];split
   ·trivial
   ·rename_i M;refine AX.kept H (fun i=>?_) (fun i b lo E=>y.other b (h.lt _ _ _ _ E).1 (N q i b lo (fun e=>M e.symm) E)) (fun r off hr ⟨cs,j⟩=>?_) (fun r i hr ⟨p,hp⟩=>?_) (h.slots q x)
    ·simp only [B];rw [B2 _ _ _ _ (fun e=>l e.symm),B2 _ _ _ _ (fun e=>M e.symm)]
    ·rw [AD.get_cons] at j;by_cases I:d=r
     ·rw [d1 I] at j; cases j
     ·rw [d2 I] at j;simp only [AD.get_cons] at j;split at j
      ·cases j
      ·exact ⟨⟨cs,j⟩,BN _ _ _ _ I⟩
    ·have m:=AD.xat_drop (by simp) (by simp) hp;have z:=AD.xat_drop (by simp) (by simp) m.2;exact ⟨⟨p,z.2⟩,h.xv ⟨p,z.2⟩ (BN _ _ _ _ m.1) (fun b E=>y.other b (h.lt _ _ _ _ E).1 (fun lo f=>z.1 (h.uniq _ _ _ _ _ _ _ f E).1))⟩
 ·intro q;rw [AD.get_cons];split
  ·exact Z
  ·exact (h.strip s).wf q
theorem AY.app' (h:AY F0 w0 O a w G) {j:TV} (p:O.get s=.ow j) {w':World} {z':Option (Nat × Nat)} (z:Jd w w' (G s none) z') (A:d<a.tmps.size) (r:t.WF)
  (c:∀ k,D0 w w' (A2 w0.heap.size F0 G) k->(∀ b o,k b o->(b<w0.heap.size∧F0 b o)∨(∃ q i lo,G q i=some (b,lo)∧lo<=o)∨∃ lo,z'=some (b,lo)∧lo<=o)->C3 w' k z' t v) :
  DJ F0 w0 ((d,.ow t)::(s,.tv j)::O) (a.put (some d) v) w':=by
 obtain ⟨u,l,m⟩:=h.app z A r c;have hv:=BU h (x:=.tmp s) (y:=.s s) (by simp [AR]) (t:=j) (by simp [AL.val,AL.ev,p,EV.val]);have f:=G9 h p (by simp);by_cases g:d=s
 ·subst g;refine ⟨u,l.rem d (t:=t) (by rw [F1]; exact f) ?_ r fun n=>?_⟩
  ·exact (BU l (x:=.tmp d) (y:=.s d) (by simp [AR]) (t:=t) (by simp [AL.val,AL.ev,AD.get_cons,EV.val])).1
  ·simp only [Go.Sf.strip,AD.get_cons];split
   ·exact .inl rfl
   ·exact .inl rfl
 ·refine ⟨u,l.rem s (t:=j) (by rw [F1]; exact f) ?_ hv.2 fun n=>?_⟩
  ·rw [BN _ _ _ _ g];exact DH m _ _ hv.1
  ·simp only [Go.Sf.strip,AD.get_cons];split
   ·exact .inl rfl
   ·split
    ·rename_i e; exact .inr ⟨e.symm,rfl⟩
    ·exact .inl rfl
theorem Lg {l m:QQ}:TV.WFs (l++m)↔TV.WFs l∧TV.WFs m:=by
 simp only [CW,List.mem_append];exact ⟨fun h=>⟨fun t b=>h t (.inl b),fun t b=>h t (.inr b)⟩,fun h t b=>b.elim (h.1 t) (h.2 t)⟩
theorem dL (N:AY F0 w0 O a w G) (hd:d<a.tmps.size) {x:Operand} {y:AL} {t e:TypeId} {i:TypeInfo} {z:Value} {n:Nat} (R:o.op=.call { callee:=.builtin .append,args:=#[.tmp s,x],argTypes:=#[t,t] })
  (ht:P.underlying t=some (.slice e)) (hi:P.info? e=some i) (hz:i.zero=some z) (q:i.size=n) (T:i.bytes<=4096) (U:z.cells.size=n) (hn:0<n)
  (V:AR x y=true) (h:(AJ.app n (.s s) y).wp S O (some d) K):B3 P F0 w0 a w o d K:=by
 simp only [AJ.wp,AL.ev] at h;split at h
 ·rename_i m es m' r W hy;obtain ⟨Y,Z,J,hK⟩:=h;subst Z;subst Y;have p:=A9 N W (by simp);have A:=N.wf s;rw [W] at A;simp only [AX,C3] at p;obtain ⟨xs,h1,h2,h3,h4⟩:=p;have hv:=BU N V hy;simp only [A7] at hv;obtain ⟨⟨ad,cap,h5,h6,h7,h8⟩,h9⟩:=hv;have B:∃ c:List Value,AS w (A2 w0.heap.size F0 G) (r.flatMap TV.cells) c∧(∀ x∈c,x.oneCell'=true)∧(∀ f∈r,f.cells.length=m)∧∀ b,ad=some b->∀ (j:Nat) (u:Value),c[j]?=some u->w.cell? (b.add j)=some u:=by
   cases ad with
   | none=>
    have:=h7 rfl;subst this;exact ⟨[],rfl,by simp,by simp,by simp⟩
   | some b=>
    obtain ⟨k,L⟩:=h8 b rfl;obtain ⟨bb,g,sp⟩:=b;simp only at k L;by_cases H:r=[]
    ·subst H;exact ⟨[],rfl,by simp,by simp,by simp⟩
    have k:sp=none:=k.resolve_left H;subst k;have I:∀ (l:QQ) (g:Nat),IN w (A2 w0.heap.size F0 G) m l bb g->EN w (A2 w0.heap.size F0 G) (l.flatMap TV.cells) bb g∧∀ f∈l,f.cells.length=m:=by
     intro l
     induction l with
     | nil=>intro g _; exact ⟨trivial,by simp⟩
     | cons f l ih=>
      intro g D;rw [OZ] at D;obtain ⟨i1,i2⟩:=ih _ D.2.2;refine ⟨?_,by simp only [List.mem_cons,forall_eq_or_imp]; exact ⟨D.2.1,i2⟩⟩;rw [List.flatMap_cons,GU];intro j u Q;rw [List.getElem?_append] at Q;split at Q
      ·exact (GU _ _ _).1 D.1 j u Q
      ·rename_i hge;have:=(GU _ _ _).1 i1 _ u Q;have hfl:=D.2.1
       rwa [show g+m+(j - f.cells.length)=g+j from by omega] at this
    obtain ⟨r1,r2⟩:=I r g L;obtain ⟨vs,q1,q2,q3⟩:=Qp r1;exact ⟨vs,q1,q2,r2,fun b hb=>by simp only [zzY] at hb; subst hb; exact q3⟩
  obtain ⟨c,n1,n2,n3,n4⟩:=B;have X:c.length=r.length*m:=by rw [CN n1,Nn m r n3]
  obtain ⟨v',w',z',M,r1,r2⟩:=Q5 (P:=P) t o.type e i z m ht hi hz q T U hn (slot a s) es.length xs (G s none) h1 ad r.length cap c X (fun e=>by rw [h7 e]; rfl) h6 n4 n2 J;refine ⟨v',w',?_,_,_,hK,N.app' W r2 hd ?_ fun F' C hF'=>?_⟩
  ·simp [execOp,R,resolve,invoke,builtin,show a.eval (.tmp s)=slot a s from rfl,h5,M]
  ·simp only [EV.WF,TV.WF] at A h9 ⊢;exact ⟨by rw [d4]; exact Tx (by omega),Lg.2 ⟨A.2,h9.2⟩⟩
  ·simp only [C3];refine ⟨xs++c,by rw [d4]; exact r1,?_,?_,?_⟩
   ·rw [List.flatMap_append];exact Kf (BS C _ _ h2) (BS C _ _ n1)
   ·intro e E;rcases List.mem_append.1 E with E | E
    ·exact h3 e E
    ·exact n3 e E
   ·intro x F;rcases List.mem_append.1 F with F | F
    ·exact h4 x F
    ·exact n2 x F
 ·exact h.elim
end
end Go.Sf
