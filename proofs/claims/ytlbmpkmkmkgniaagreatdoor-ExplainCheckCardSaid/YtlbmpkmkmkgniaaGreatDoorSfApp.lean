/- Appending to a list that a slot owns. -/
import Derived.Test.YtlbmpkmkmkgniaaGreatDoorSfOps1
set_option linter.all false
namespace Go.Sf
open Go.RowKit (Below)
structure Jh (w w':World) (z z':Option (Nat × Nat)):Prop where
 os:w'.os=w.os
 tape:w'.tape=w.tape
 output:w'.output=w.output
 size:w.heap.size<=w'.heap.size
 other:∀ k,k<w.heap.size->(∀ lo,z≠some (k,lo))->w'.heap[k]?=w.heap[k]?
 cell:∀ b o v,w.cell? ⟨b,o,none⟩=some v->(∀ lo,z=some (b,lo)->o<lo)->w'.cell? ⟨b,o,none⟩=some v
 zone:∀ b lo,z'=some (b,lo)->b<w'.heap.size∧(w.heap.size<=b∨∃ lo',z=some (b,lo')∧lo'<=lo)
theorem Jh.refl (w:World) (z:Option (Nat × Nat)) (c:∀ b lo,z=some (b,lo)->b<w.heap.size):Jh w w z z:=
 ⟨rfl,rfl,rfl,d3 _,fun _ _ _=>rfl,fun _ _ _ h _=>h,fun b lo h=>⟨c b lo h,.inr ⟨lo,h,d3 _⟩⟩⟩
section
variable {P:Program} {w:World}
theorem TP (t ty e r:TypeId) (i:TypeInfo) (s:P.underlying t=some (.slice e)) (hi:P.info? e=some i)
  (g f h:Nat) (k:Array Value) (v:w.heap[g]?=some (.cells k r (0,0)))
  (a:Addr) (m c:Nat) (b:List Value) (x:b.length=m*i.size) (l:∀ (j:Nat) (u:Value),b[j]?=some u->w.cell? (a.add j)=some u) (y:∀ u∈b,u.oneCell'=true)
  (n:f+m<=h) (p:f*i.size+b.length<=k.size) :
  (Builtin.append_ #[t,t] ty #[.slice (some ⟨g,0,none⟩) f h,.slice (some a) m c]).run P w =
   .ok (.slice (some ⟨g,0,none⟩) (f+m) h) (w.setRow g (k.toList.take (f*i.size)++b++k.toList.drop (f*i.size+b.length)).toArray):=by
 have z:=run_firstCells_some (P:=P) w i.size m a m c b x l;have q:=run_storeCells_at P g (f*i.size) r b 0 k w v (by simpa using p) y;simp only [Nat.add_zero] at q;simp [Builtin.append_,run_underlying s,sizeOf,typeInfo,hi,Builtin.lenOf,n,z,Addr.add_lit,q]
theorem RA (t ty e:TypeId) (i:TypeInfo) (z:Value) (n:Nat) (W:P.underlying t=some (.slice e)) (hi:P.info? e=some i) (hz:i.zero=some z)
  (l:i.size=n) (Z:i.bytes<=4096) (hzs:z.cells.size=n) (hn:0<n)
  (v:Value) (len:Nat) (xs:List Value) (U:Option (Nat × Nat)) (p:IB w n v len xs U)
  (V:Option Addr) (m c:Nat) (f:List Value) (J:f.length=m*n) (had:V=none->m=0) (hmc:m<=c) (L:∀ a,V=some a->∀ (j:Nat) (u:Value),f[j]?=some u->w.cell? (a.add j)=some u) (h1:∀ u∈f,u.oneCell'=true)
  (C:len+m<=BN) :
  ∃ v' w' z',(Builtin.append_ #[t,t] ty #[v,.slice V m c]).run P w=.ok v' w'∧IB w' n v' (len+m) (xs++f) z'∧Jh w w' U z':=by
 have y:(xs++f).length=(len+m)*n:=by rw [d4,p.1,J,Nat.add_mul]
 have A:(len+m)*i.bytes<=140737488355328:=by
  calc (len+m)*i.bytes<=BN*4096:=Nat.mul_le_mul C Z
   _<=140737488355328:=by decide
 have hml:len+m<=maxLen:=by simp only [maxLen,BN] at *; omega
 have F:∀ b lo,U=some (b,lo)->b<w.heap.size:=by
  intro b lo s;rcases p.2 with ⟨_,_,h⟩ | ⟨g,cap,r,I,_,R,_,_,_,_,h⟩
  ·rw [h] at s; cases s
  ·rw [h] at s;simp only [zzY,Prod.mk.injEq] at s;rw [←s.1]; exact (Array.getElem?_eq_some_iff.1 R).1
 by_cases hm:m=0
 ·subst hm;have hnn:f=[]:=List.eq_nil_of_length_eq_zero (by simpa using J);subst hnn;refine ⟨v,w,U,?_,by simpa using p,Jh.refl w U F⟩;have X:(Builtin.firstCells n 0 (.slice V 0 c)).run P w=.ok #[] w:=by
   cases V <;> simp [Builtin.firstCells,loadCells,loadCellsFrom]
  rcases p.2 with ⟨rfl,rfl,_⟩ | ⟨g,cap,r,I,rfl,R,E,_,_,_,_⟩
  ·simp [Builtin.append_,run_underlying W,sizeOf,typeInfo,hi,l,Builtin.lenOf,X]
  ·simp [Builtin.append_,run_underlying W,sizeOf,typeInfo,hi,l,Builtin.lenOf,E,X,storeCells]
 ·cases V with
  | none=>exact absurd (had rfl) hm
  | some a=>
   have q:=L a rfl;have D:∀ (old:Nat),old<len+m ->
     IB (w.drew.alloc (.cells (xs.toArray++f.toArray++Builtin.zeroCells z.cells (grownCap w (len+m) old e - (len+m))) e)) n
      (.slice (some ⟨w.heap.size,0,none⟩) (len+m) (grownCap w (len+m) old e)) (len+m) (xs++f) (some (w.heap.size,(len+m)*n)) ∧
     Jh w (w.drew.alloc (.cells (xs.toArray++f.toArray++Builtin.zeroCells z.cells (grownCap w (len+m) old e - (len+m))) e)) U (some (w.heap.size,(len+m)*n)):=by
    intro old ho;have hge:=grownCap_ge w (len+m) old e;have M:grownCap w (len+m) old e<=maxLen:=grownCap_le_maxLen w (len+m) old e hml;refine ⟨⟨y,.inr ⟨w.heap.size,_,_,e,rfl,heap_alloc_new w.drew _,hge,M,?_,?_,rfl⟩⟩,⟨rfl,rfl,rfl,by simp,fun k hk _=>Below.heap_alloc w.drew _ k hk,fun b o v E _=>?_,fun b lo s=>?_⟩⟩
    ·simp only [Array.size_append,List.size_toArray,size_zeroCells,hzs,p.1,J,←Nat.add_mul];congr 1;omega
    ·simp only [Array.toList_append,ea];rw [←ea,←y];exact List.take_left
    ·have s:b<w.heap.size:=World.block_lt_of_cell? w ⟨b,o,none⟩ E;rw [World.cell?_alloc_lt _ _ (a:=⟨b,o,none⟩) (by simpa using s)];simpa using E
    ·simp only [zzY,Prod.mk.injEq] at s;rw [←s.1];exact ⟨by simp,.inl (d3 _)⟩
   rcases p.2 with ⟨rfl,rfl,rfl⟩ | ⟨g,cap,r,I,rfl,R,hnc,M,hcs,T,rfl⟩
   ·have hx:xs=[]:=List.eq_nil_of_length_eq_zero (by simpa using p.1);subst hx;have N:=run_append_nil (P:=P) w t ty e i z W hi hz a m c f (by rw [l]; exact J) q (by omega) (by simp only [BN] at C; omega) (by have s:=A; simp only [Nat.zero_add] at s; omega);have B:=D 0 (by omega);simp only [Nat.zero_add,List.nil_append,Array.empty_append] at B N ⊢;exact ⟨_,_,_,N,B.1,B.2⟩
   ·by_cases x:len+m<=cap
    ·have H:len*i.size+f.length<=r.size:=by rw [J,hcs,l,←Nat.add_mul]; exact Nat.mul_le_mul_right _ x
     have N:=TP (P:=P) t ty e I i W hi g len cap r R a m c f (by rw [l]; exact J) q h1 x H;rw [l] at N H;refine ⟨_,_,some (g,(len+m)*n),N,⟨y,.inr ⟨g,cap,_,I,rfl,setRow_heap w g r _ I _ R,x,M,?_,?_,rfl⟩⟩,⟨rfl,rfl,rfl,by simp,fun k _ hk=>setRow_other w g k _ (fun e=>hk (len*n) (by rw [e])),fun b o u E hlo=>?_,fun b lo s=>?_⟩⟩
     ·simp only [List.size_toArray,d4,d5,List.length_drop,Array.length_toList];omega
     ·rw [T,←y];exact List.take_left
     ·by_cases Y:b=g
      ·subst Y;have ho:=hlo (len*n) rfl;rw [cell_of_row _ b o _ I (0,0) (setRow_heap w b r _ I _ R)];rw [cell_of_row w b o r I (0,0) R] at E;have hoc:o<r.size:=by omega
       rw [List.getElem?_toArray,ea,List.getElem?_append_left (by simp; omega),List.getElem?_take_of_lt ho];simpa using E
      ·rw [World.cell?_of_block (w:=w) (a:=⟨b,o,none⟩) (setRow_other w g b _ (fun e=>Y e))];exact E
     ·simp only [zzY,Prod.mk.injEq] at s;obtain ⟨rfl,rfl⟩:=s;refine ⟨by simpa using F g (len*n) rfl,.inr ⟨len*n,rfl,Nat.mul_le_mul_right _ (by omega)⟩⟩
    ·have Q:∀ (j:Nat) (u:Value),xs[j]?=some u->w.cell? ((⟨g,0,none⟩:Addr).add j)=some u:=fun j u hu=>by
      rw [Addr.add_lit,Nat.zero_add]; exact p.cell rfl j u hu
     have N:=run_append_grow (P:=P) w t ty e i z W hi hz ⟨g,0,none⟩ len cap xs (by rw [l]; exact p.1) Q a m c f (by rw [l]; exact J) q (by omega) (by simp only [BN] at C; omega) (growslice_fits (by omega) A);have B:=D cap (by omega);exact ⟨_,_,_,N,B.1,B.2⟩
end
end Go.Sf
namespace Go.Sf
open Go.RowKit (Below)
section
variable {P:Program} {S:FuncId->QQ->CS->Prop} {F0:Nat->Nat->Prop} {w0:W0} {O:AD} {a:Act} {w:World} {G:DP} {d:Nat} {o:Oper} {K:EV->AD->Prop}
theorem AZ.app (h:AZ F0 w0 O a w G) {s:Nat} {w':World} {z':Option (Nat × Nat)} (y:Jh w w' (G s none) z') (Y:d<a.tmps.size) {t:TV} {v:Value} (Z:t.WF)
  (J:∀ R,DW w w' (A3 w0.heap.size F0 G) R->(∀ b o,R b o->(b<w0.heap.size∧F0 b o)∨(∃ q i lo,G q i=some (b,lo)∧lo<=o)∨∃ lo,z'=some (b,lo)∧lo<=o)->C1 w' R z' t v) :
  ∃ B,AZ F0 w0 ((d,.ow t)::Go.Sf.strip O s) (a.put (some d) v) w' B∧DW w w' (A3 w0.heap.size F0 G) (A3 w0.heap.size F0 B):=by
 let B:DP:=GX (GX G s (fun _=>none)) d (fun i=>if i=none then z' else none)
 have A:∀ q i b lo,B q i=some (b,lo)->(q=d∧i=none∧z'=some (b,lo))∨(q≠d∧q≠s∧G q i=some (b,lo)):=by
  intro q i b lo x;by_cases l:q=d
  ·subst l;simp only [B,CB] at x;split at x
   ·rename_i hi; exact .inl ⟨rfl,hi,x⟩
   ·cases x
  ·simp only [B,B1 _ _ _ _ l] at x;by_cases n:q=s
   ·subst n; rw [CB] at x; cases x
   ·rw [B1 _ _ _ _ n] at x;exact .inr ⟨l,n,x⟩
 have N:∀ q i b lo,q≠s->G q i=some (b,lo)->∀ c,G s none≠some (b,c):=fun q i b lo n m c z=>n (h.uniq _ _ _ _ _ _ _ m z).1;have H:DW w w' (A3 w0.heap.size F0 G) (A3 w0.heap.size F0 B):=by
  intro b o u W L;have f:∀ lo,G s none=some (b,lo)->o<lo:=fun lo f=>by
   rcases Nat.lt_or_ge o lo with h | h
   ·exact h
   ·exact absurd (.inr ⟨s,none,lo,f,h⟩) L
  refine ⟨y.cell b o u W f,?_⟩;rintro (m | ⟨q,i,lo,m,z⟩)
  ·exact L (.inl m)
  ·rcases A _ _ _ _ m with ⟨_,_,g⟩ | ⟨_,_,g⟩
   ·have E:=World.block_lt_of_cell? w ⟨b,o,none⟩ W;rcases (y.zone b lo g).2 with D | ⟨c,D,X⟩
    ·simp only at E; omega
    ·have:=f c D; omega
   ·exact L (.inr ⟨q,i,lo,g,z⟩)
 have C:Jw F0 w0 w':=h.below.trans y.os y.tape y.output y.size (fun k hk T=>y.other k (Nat.lt_of_lt_of_le hk h.below.size) (fun lo f=>(h.lt _ _ _ _ f).2.elim (fun e=>by omega) (fun e=>T lo (e lo (d3 _))))) (fun b o u E T hu=>y.cell b o u hu (fun lo f=>(h.lt _ _ _ _ f).2.elim (fun e=>by omega) (fun e=>Nat.lt_of_not_le fun U=>T (e o U))));refine ⟨B,⟨?_,?_,C,by rw [LS]; exact h.defers,?_,?_,?_⟩,H⟩
 ·intro q i q' i' b lo c m z;have Q:∀ q i lo c,z'=some (b,lo)->q≠s->G q i=some (b,c)->False:=by
   intro q i lo c g n F;rcases (y.zone b lo g).2 with D | ⟨V,D,_⟩
   ·have:=(h.lt _ _ _ _ F).1; omega
   ·exact N q i b c n F V D
  rcases A _ _ _ _ m with ⟨rfl,rfl,g⟩ | ⟨n1,n2,g⟩ <;> rcases A _ _ _ _ z with ⟨rfl,rfl,F⟩ | ⟨m1,m2,F⟩
  ·exact ⟨rfl,rfl⟩
  ·exact (Q _ _ _ _ g m2 F).elim
  ·exact (Q _ _ _ _ F n2 g).elim
  ·exact h.uniq _ _ _ _ _ _ _ g F
 ·intro q i b lo m;rcases A _ _ _ _ m with ⟨_,_,g⟩ | ⟨_,_,g⟩
  ·have:=y.zone b lo g;refine ⟨this.1,?_⟩;rcases this.2 with D | ⟨c,D,X⟩
   ·exact .inl (Nat.le_trans h.below.size D)
   ·exact (h.lt _ _ _ _ D).2.imp id (fun e o ho=>e o (Nat.le_trans X ho))
  ·have:=h.lt _ _ _ _ g;exact ⟨Nat.lt_of_lt_of_le this.1 y.size,this.2⟩
 ·intro q x;rw [FW] at x;rw [AD.get_cons,d2 (by omega)];exact (h.strip s).dom q x
 ·intro q x;rw [FW] at x;rw [AD.get_cons];by_cases l:d=q
  ·subst l;rw [d1 rfl,Ia _ _ _ Y];simp only [AY,B,CB,if_true];refine J _ H fun b o L=>?_;rcases L with m | ⟨q,i,lo,m,z⟩
   ·exact .inl m
   ·rcases A _ _ _ _ m with ⟨_,_,g⟩ | ⟨_,_,g⟩
    ·exact .inr (.inr ⟨lo,g,z⟩)
    ·exact .inr (.inl ⟨q,i,lo,g,z⟩)
  ·rw [d2 l,BJ _ _ _ _ l];simp only [Go.Sf.strip,AD.get_cons];split
   ·trivial
   ·rename_i M;refine AY.kept H (fun i=>?_) (fun i b lo E=>y.other b (h.lt _ _ _ _ E).1 (N q i b lo (fun e=>M e.symm) E)) (fun r off hr ⟨cs,j⟩=>?_) (fun r i hr ⟨p,hp⟩=>?_) (h.slots q x)
    ·simp only [B];rw [B1 _ _ _ _ (fun e=>l e.symm),B1 _ _ _ _ (fun e=>M e.symm)]
    ·rw [AD.get_cons] at j;by_cases I:d=r
     ·rw [d1 I] at j; cases j
     ·rw [d2 I] at j;simp only [AD.get_cons] at j;split at j
      ·cases j
      ·exact ⟨⟨cs,j⟩,BJ _ _ _ _ I⟩
    ·have m:=AD.xat_drop (by simp) (by simp) hp;have z:=AD.xat_drop (by simp) (by simp) m.2;exact ⟨⟨p,z.2⟩,h.xv ⟨p,z.2⟩ (BJ _ _ _ _ m.1) (fun b E=>y.other b (h.lt _ _ _ _ E).1 (fun lo f=>z.1 (h.uniq _ _ _ _ _ _ _ f E).1))⟩
 ·intro q;rw [AD.get_cons];split
  ·exact Z
  ·exact (h.strip s).wf q
theorem AZ.app' (h:AZ F0 w0 O a w G) {s:Nat} {j:TV} (p:O.get s=.ow j) {w':World} {z':Option (Nat × Nat)} (z:Jh w w' (G s none) z') (A:d<a.tmps.size) {t:TV} {v:Value} (r:t.WF)
  (c:∀ k,DW w w' (A3 w0.heap.size F0 G) k->(∀ b o,k b o->(b<w0.heap.size∧F0 b o)∨(∃ q i lo,G q i=some (b,lo)∧lo<=o)∨∃ lo,z'=some (b,lo)∧lo<=o)->C1 w' k z' t v) :
  DI F0 w0 ((d,.ow t)::(s,.tv j)::O) (a.put (some d) v) w':=by
 obtain ⟨u,l,m⟩:=h.app z A r c;have hv:=BR h (x:=.tmp s) (y:=.s s) (by simp [AP]) (t:=j) (by simp [AL.val,AL.ev,p,EV.val]);have f:=G7 h p (by simp);by_cases g:d=s
 ·subst g;refine ⟨u,l.rem d (t:=t) (by rw [FW]; exact f) ?_ r fun n=>?_⟩
  ·exact (BR l (x:=.tmp d) (y:=.s d) (by simp [AP]) (t:=t) (by simp [AL.val,AL.ev,AD.get_cons,EV.val])).1
  ·simp only [Go.Sf.strip,AD.get_cons];split
   ·exact .inl rfl
   ·exact .inl rfl
 ·refine ⟨u,l.rem s (t:=j) (by rw [FW]; exact f) ?_ hv.2 fun n=>?_⟩
  ·rw [BJ _ _ _ _ g];exact DG m _ _ hv.1
  ·simp only [Go.Sf.strip,AD.get_cons];split
   ·exact .inl rfl
   ·split
    ·rename_i e; exact .inr ⟨e.symm,rfl⟩
    ·exact .inl rfl
theorem Lf {l m:QQ}:TV.WFs (l++m)↔TV.WFs l∧TV.WFs m:=by
 simp only [CU,List.mem_append];exact ⟨fun h=>⟨fun t b=>h t (.inl b),fun t b=>h t (.inr b)⟩,fun h t b=>b.elim (h.1 t) (h.2 t)⟩
theorem dR (M:AZ F0 w0 O a w G) (hd:d<a.tmps.size) {s:Nat} {x:Operand} {y:AL} {t e:TypeId} {i:TypeInfo} {z:Value} {n:Nat} (Q:o.op=.call { callee:=.builtin .append,args:=#[.tmp s,x],argTypes:=#[t,t] })
  (ht:P.underlying t=some (.slice e)) (hi:P.info? e=some i) (hz:i.zero=some z) (q:i.size=n) (R:i.bytes<=4096) (T:z.cells.size=n) (hn:0<n)
  (U:AP x y=true) (h:(AJ.app n (.s s) y).wp S O (some d) K):B2 P F0 w0 a w o d K:=by
 simp only [AJ.wp,AL.ev] at h;split at h
 ·rename_i m es m' r V hy;obtain ⟨X,Y,I,hK⟩:=h;subst Y;subst X;have p:=A9 M V (by simp);have v:=M.wf s;rw [V] at v;simp only [AY,C1] at p;obtain ⟨xs,h1,h2,h3,h4⟩:=p;have hv:=BR M U hy;simp only [A7] at hv;obtain ⟨⟨Z,cap,h5,h6,h7,h8⟩,h9⟩:=hv;have A:∃ c:List Value,AS w (A3 w0.heap.size F0 G) (r.flatMap TV.cells) c∧(∀ x∈c,x.oneCell'=true)∧(∀ f∈r,f.cells.length=m)∧∀ b,Z=some b->∀ (j:Nat) (u:Value),c[j]?=some u->w.cell? (b.add j)=some u:=by
   cases Z with
   | none=>
    have:=h7 rfl;subst this;exact ⟨[],rfl,by simp,by simp,by simp⟩
   | some b=>
    obtain ⟨k,J⟩:=h8 b rfl;obtain ⟨bb,g,sp⟩:=b;simp only at k J;by_cases F:r=[]
    ·subst F;exact ⟨[],rfl,by simp,by simp,by simp⟩
    have k:sp=none:=k.resolve_left F;subst k;have H:∀ (l:QQ) (g:Nat),IN w (A3 w0.heap.size F0 G) m l bb g->EN w (A3 w0.heap.size F0 G) (l.flatMap TV.cells) bb g∧∀ f∈l,f.cells.length=m:=by
     intro l
     induction l with
     | nil=>intro g _; exact ⟨trivial,by simp⟩
     | cons f l ih=>
      intro g C;rw [Oa] at C;obtain ⟨i1,i2⟩:=ih _ C.2.2;refine ⟨?_,by simp only [List.mem_cons,forall_eq_or_imp]; exact ⟨C.2.1,i2⟩⟩;rw [List.flatMap_cons,GQ];intro j u N;rw [List.getElem?_append] at N;split at N
      ·exact (GQ _ _ _).1 C.1 j u N
      ·rename_i hge;have:=(GQ _ _ _).1 i1 _ u N;have hfl:=C.2.1
       rwa [show g+m+(j - f.cells.length)=g+j from by omega] at this
    obtain ⟨r1,r2⟩:=H r g J;obtain ⟨vs,q1,q2,q3⟩:=Qw r1;exact ⟨vs,q1,q2,r2,fun b hb=>by simp only [zzY] at hb; subst hb; exact q3⟩
  obtain ⟨c,n1,n2,n3,n4⟩:=A;have W:c.length=r.length*m:=by rw [CN n1,Nr m r n3]
  obtain ⟨v',w',z',L,r1,r2⟩:=RA (P:=P) t o.type e i z m ht hi hz q R T hn (slot a s) es.length xs (G s none) h1 Z r.length cap c W (fun e=>by rw [h7 e]; rfl) h6 n4 n2 I;refine ⟨v',w',?_,_,_,hK,M.app' V r2 hd ?_ fun F' B hF'=>?_⟩
  ·simp [execOp,Q,resolve,invoke,builtin,show a.eval (.tmp s)=slot a s from rfl,h5,L]
  ·simp only [EV.WF,TV.WF] at v h9 ⊢;exact ⟨by rw [d4]; exact T7 (by omega),Lf.2 ⟨v.2,h9.2⟩⟩
  ·simp only [C1];refine ⟨xs++c,by rw [d4]; exact r1,?_,?_,?_⟩
   ·rw [List.flatMap_append];exact Kg (BP B _ _ h2) (BP B _ _ n1)
   ·intro e D;rcases List.mem_append.1 D with D | D
    ·exact h3 e D
    ·exact n3 e D
   ·intro x E;rcases List.mem_append.1 E with E | E
    ·exact h4 x E
    ·exact n2 x E
 ·exact h.elim
end
end Go.Sf
