/- Operations on lists of lists that nobody else reads. -/
import Derived.Test.YtfcfkigfmofniaaGreatSfX
import Derived.Maps.RangeRun
set_option linter.all false
namespace Go.Sf
open Go.RowKit (Below)
section
variable{P:Program}{S:FuncId->Fq->Al->Prop}{F0:Nat->Nat->Prop}{w0:W0}{O:AB}{a:Act}{w:World}{G:BH}{d:Nat}{o:Oper}{K:EV->AB->Prop}
theorem Bg.congr'{F0:Nat->Nat->Prop}{w0:W0}{O env2:AB}{a:Act}{w:World}(h:Bg F0 w0 O a w)(he:∀n,O.get n=env2.get n):Bg F0 w0 env2 a w:=by
 obtain ⟨G,h⟩:=h;refine⟨G,h.ns,h.lt,h.below,h.defers,fun q c=>?_,fun q c=>?_,fun q=>?_⟩
 .rw[<-he];exact h.dom q c
 .rw[<-he];refine AL.kept (P1 _ _) (fun _=>rfl) (fun _ _ _ _=>rfl) rfl BA.rfl' (fun r i k l⟨p,g⟩=>⟨⟨p,(AB.y4 (he r)).trans g⟩,fun _ hv=>hv⟩) (fun r off l⟨cs,j⟩=>⟨⟨cs,by rw[he];exact j⟩,rfl⟩) (fun r i l⟨p,g⟩=>⟨⟨p,(AB.yx (he r)).trans g⟩,fun _ hv=>hv⟩) (h.slots q c)
 .rw[<-he];exact h.wf q
variable{s off:Nat}
theorem UG(h:AN F0 w0 O a w G){es:Fq}(A:O.nat s off=some es):
  ∃b c T x,slot a s=.pointer (some ⟨b,0,none⟩)/\w.heap[b]?=some (.cells c T (0,0))/\c[off]?=some x/\G s none=some (b,0)/\Ey w (AW w0.heap.size F0 G) (x8 a G) (G s (some off)) es x/\(TV.list 1 es).WF:=by
 obtain ⟨cs,l,r⟩:=AB.x3 A;have g:=AZ h l (by simp);simp only[AL]at g;obtain⟨b,c,T,B,C,J,D,E⟩:=g;obtain⟨x,H,I⟩:=E off _ r;have j:=h.wf s;rw[l]at j;exact⟨b,c,T,x,B,C,H,D,I,j _ (List.mem_of_getElem? r)⟩
variable{F:Nat->Nat->Prop}{z:Option (Nat×Nat)}
theorem Us{ρ:Hk}{es:Fq}{x:Value}(h:Ey w F ρ z es x)(r:es≠[]):
  ∃g cap c e xs,x=.slice (some ⟨g,0,none⟩) es.length cap/\w.heap[g]?=some (.cells c e (0,0))/\es.length<=cap/\c.size=cap/\z=some (g,0)/\(∀(j:Nat)(e:TV),es[j]?=some e->∃y n fs,c[j]?=some y/\e=.list n fs/\QT w F (ρ g j) n fs y)/\c.toList.take es.length=xs/\(∀y∈xs,y.oneCell'=true):=by
 obtain ⟨xs,⟨V,H,B⟩,I,J⟩:=h;rcases H.2 with⟨_,N,_⟩|⟨g,cap,c,e,R,T,U,X,Y,C,D⟩
 .exact absurd (List.eq_nil_of_length_eq_zero N) r
 .refine⟨g,cap,c,e,xs,R,T,U,by omega,by rw[B,D];rfl,fun j el E=>?_,by rw[<-C,Nat.mul_one],I⟩;obtain⟨W,y,n,fs,A,l,L,M⟩:=J j el E;rw[B,D]at A;simp only[Option.map_some,tn,Prod.mk.injEq,and_true]at A;subst A;refine⟨y,n,fs,?_,L,M⟩;rw[<-C,List.getElem?_take]at l;split at l
  .simpa using l
  .cases l
variable{x:Operand}{y:AE}{b:Nat}
theorem uE(j:AN F0 w0 O a w G)(g:AK x y=true)(h:y.ev O=.bp s off){cs:List AR}(l:O.get s=.bx cs)(r:slot a s=.pointer (some ⟨b,0,none⟩)):a.eval x=.pointer (some ⟨b,off,none⟩):=by
 cases y with
 |c t=>simp[AE.ev]at h|s m=>
  rw [Jg g];simp only[AE.ev]at h;have:=AZ j h (by simp);simp only[AL]at this;obtain⟨A,B,C⟩:=this ⟨cs,l⟩
  grind
theorem Wd(j:AN F0 w0 O a w G)(g:AK x y=true){k:NK}(h:y.ev O=.nh s off k){es:Fq}(l:O.nat s off=some es):NH a w s off k (a.eval x):=by
 cases y with
 |c t=>simp[AE.ev]at h|s m=>
  rw [Jg g];simp only[AE.ev]at h;have:=AZ j h (by simp)
  grind [AL]
variable{v:Value}
theorem AN.AaI(g:AN F0 w0 O a w G)(hd:d<a.tmps.size){k:NK}(hv:∀es,O.nat s off=some es->NH a w s off k v):Bg F0 w0 ((d,.nh s off k)::O) (a.put (some d) v) w:=by
 refine ⟨_,g.quiet (Below.refl _ _) d hd (.nh s off k) v (fun _=>none) (by simp) (by simp) (by simp) ?_ trivial⟩;simp only[AL];rintro⟨es,h⟩;have c:=AB.yg (by simp) h;exact g.nh ⟨_,c.2⟩ (AY _ _ _ _ c.1) (fun _ _ _ _=>rfl) _ (hv es c.2)
variable{t:TypeId}
theorem mP(r:AN F0 w0 O a w G)(hd:d<a.tmps.size)(A:o.op=.load t x)(B:AK x y=true)(H:Br P t=some false)(h:(AD.lan y).wp S O (some d) K):At P F0 w0 a w o d K:=by
 simp only[AD.wp]at h;split at h
 .rename_i s off I;cases l:O.nat s off with
  |none=>rw[l]at h;exact h.elim|some es=>
   rw [l]at h;simp only[Ad]at h;obtain⟨cs,J,L⟩:=AB.x3 l;obtain⟨b,c,T,v,C,D,E,M,N,_⟩:=UG r l;have j:=uE r B I J C;have g:w.cell? ⟨b,off,none⟩=some v:=by
    rw [cell_of_row w b off c T (0,0) D];exact E
   refine ⟨v,w,?_,_,_,h,r.AaI hd fun es' _=>?_⟩
   .simp[execOp,A,j,Instr.loadAt,Instr.sureAddr,loadVar,CO H,g]
   .exact⟨b,c,T,v,C,D,E,rfl⟩
 .exact h.elim
theorem mc(B:AN F0 w0 O a w G)(hd:d<a.tmps.size){x i:Operand}{y j:AE}(M:o.op=.indexAddr t x i)(N:AK x y=true)(C:AK i j=true)(R:It P t=some 1)(h:(AD.nia y j).wp S O (some d) K):At P F0 w0 a w o d K:=by
 unfold It at R;split at R
 .rename_i el hu;simp only[AD.wp]at h;split at h
  .rename_i s off k D hy hj;cases A:O.nat s off with
   |none=>rw[A]at h;exact h.elim|some es=>
    rw [A]at h;simp only[Ad]at h;obtain⟨h0,U,hK⟩:=h;have l:=(Ar B C hj).1;simp only[Af]at l;obtain⟨b,c,T,x0,V,W,X,L⟩:=Wd B N hy A;simp only[NK.at]at L;obtain⟨b',c',T',v,H,Y,I,f4,f5,_⟩:=UG B A;rw[V]at H;simp only[Value.pointer.injEq,tn,Addr.mk.injEq,and_true,and_self]at H;subst H;rw[W]at Y;cases Y;rw[X]at I;simp only[tn]at I;subst I;obtain⟨g,cap,J,e,xs,rfl,g2,g3,_⟩:=Us f5 (by rintro rfl;simp at U;omega);have E:0<=D/\D<(es.length:Int):=⟨h0,U⟩;refine⟨.pointer (some ⟨g,D.toNat,none⟩),w,?_,_,_,hK,B.AaI hd fun es' _=>?_⟩
    .simp[execOp,M,L,l,Instr.indexAt,asIntOf,run_underlying hu,E,Bv R,Addr.add_lit]
    .exact⟨b,c,T,_,V,W,X,g,_,_,rfl,rfl⟩
  .rename_i s off r k D hy hj;cases A:O.nat s off with
   |none=>rw[A]at h;exact h.elim|some es=>
    rw [A]at h;simp only[Ad]at h;obtain⟨h0,fs,hr,U,hK⟩:=h;have l:=(Ar B C hj).1;simp only[Af]at l;obtain⟨b,c,T,x0,V,W,X,g,len,cap,e0,L⟩:=Wd B N hy A;subst e0;obtain⟨b',c',T',v,H,Y,I,f4,f5,_⟩:=UG B A;rw[V]at H;simp only[Value.pointer.injEq,tn,Addr.mk.injEq,and_true,and_self]at H;subst H;rw[W]at Y;cases Y;rw[X]at I;simp only[tn]at I;subst I;obtain⟨g',cap',J,e,xs,g1,g2,g3,_,_,g4,_⟩:=Us f5 (by rintro rfl;simp at hr);simp only[Value.slice.injEq,tn,Addr.mk.injEq,and_true]at g1;obtain⟨rfl,rfl,rfl⟩:=g1;obtain⟨u,n,fs',k1,k2,k3⟩:=g4 r _ hr;simp only[TV.list.injEq]at k2;obtain⟨rfl,rfl⟩:=k2;rw[cell_of_row w g r J e (0,0) g2,k1]at L;simp only[tn]at L;subst L;obtain⟨ys,⟨z0,m1,m2⟩,m3,m4,m5⟩:=k3;rcases m1.2 with⟨_,hn,_⟩|⟨Z,cap2,cur2,e2',q1,q2,q3,_⟩
    .simp only[hn]at U;omega
    .have E:0<=D/\D<(fs.length:Int):=⟨h0,U⟩;refine⟨.pointer (some ⟨Z,D.toNat,none⟩),w,?_,_,_,hK,B.AaI hd fun es' _=>?_⟩
     .simp[execOp,M,q1,l,Instr.indexAt,asIntOf,run_underlying hu,E,Bv R,Addr.add_lit]
     .refine⟨b,c,T,_,V,W,X,g,_,_,rfl,Z,fs.length,cap2,?_,rfl⟩;rw[cell_of_row w g r J e (0,0) g2,k1,q1]
  .exact h.elim
 .cases R
theorem md(B:AN F0 w0 O a w G)(hd:d<a.tmps.size)(C:o.op=.load t x)(D:AK x y=true)(V:Br P t=some false)(h:(AD.nld y).wp S O (some d) K):At P F0 w0 a w o d K:=by
 simp only[AD.wp]at h;split at h
 .rename_i s off r W;cases A:O.nat s off with
  |none=>rw[A]at h;exact h.elim|some es=>
   rw [A]at h;simp only[Ad]at h;obtain⟨l,X⟩:=h;obtain⟨b,c,T,x0,J,L,M,g,len,cap,Y,Z⟩:=Wd B D W A;subst Y;obtain⟨b',c',T',v,E,N,H,f4,f5,_⟩:=UG B A;rw[J]at E;simp only[Value.pointer.injEq,tn,Addr.mk.injEq,and_true,and_self]at E;subst E;rw[L]at N;cases N;rw[M]at H;simp only[tn]at H;subst H;obtain⟨g',R,I,e,xs,U,g2,g3,_,_,g4,_⟩:=Us f5 (by rintro rfl;simp at l);simp only[Value.slice.injEq,tn,Addr.mk.injEq,and_true]at U;obtain⟨rfl,rfl,rfl⟩:=U;obtain⟨u,n,fs',k1,k2,k3⟩:=g4 r _ (List.getElem?_eq_getElem l);have j:w.cell? ⟨g,r,none⟩=some u:=by
    rw [cell_of_row w g r I e (0,0) g2];exact k1
   refine ⟨u,w,?_,_,_,X,B.AaI hd fun es' _=>?_⟩
   .simp[execOp,C,Z,Instr.loadAt,Instr.sureAddr,loadVar,CO V,j]
   .exact⟨b,c,T,_,J,L,M,g,_,_,rfl,j⟩
 .exact h.elim
variable{q:Nat}
theorem ja(r:AN F0 w0 O a w G)(hd:d<a.tmps.size)(T:o.op=.box t x)(U:AK x (.s q)=true)(h:(AD.Aay q).wp S O (some d) K):At P F0 w0 a w o d K:=by
 simp only[AD.wp]at h;split at h
 .rename_i d' cs H X;simp only[tn]at H;subst H;obtain⟨⟨hno,hdq⟩,hK⟩:=h;have hev:=Jg (a:=a) U;have A:q<a.tmps.size:=BU r X (by simp);have hr:=AZ r X (by simp);have J:=r.wf q;rw[X]at J;simp only[AL]at hr;obtain⟨vs,h1,h2,h3⟩:=hr;have B:Below w.heap.size w (w.alloc (.cells vs t)):=(Below.refl _ _).alloc (b6 _) _;have hone:∀(i:Nat)(y:Value),vs[i]?=some y->y.oneCell'=true:=by
   intro i y hy;have hlt:i<cs.length:=by have:=(Array.getElem?_eq_some_iff.1 hy).1;omega
   obtain ⟨x,hx,D⟩:=h3 i _ (List.getElem?_eq_getElem hlt)
   grind [GT]
  let Z:DB:=fun p i=>if p=0/\i=none then some (w.heap.size,0)else Be a G q p i
  have N:∀p i b lo,Z p i=some (b,lo)->(p=0/\i=none/\b=w.heap.size/\lo=0)\/Be a G q p i=some (b,lo):=by
   grind
  have hzl:∀p i b lo,Be a G q p i=some (b,lo)->b<w.heap.size:=fun p i b lo C=>by
   obtain ⟨Y,j,l,_⟩:=B2 C;exact(r.lt _ _ _ _ l).1
  refine ⟨.pointer (some ⟨w.heap.size,0,none⟩),w.alloc (.cells vs t),?_,_,_,hK,?_⟩
  .simp[execOp,T,Instr.box,newVar,newRow,hev,h1,Value.cells]
  .have hg:=fun p=>AB.d6 d (.bx cs) ((q,EV.undef)::O) p;refine⟨_,(r.zg (s:=q) (d:=d) (Z:=Z) (w':=w.alloc (.cells vs t)) (env':=(d,.bx cs)::(q,.undef)::O) (a':=a.put (some d) (.pointer (some ⟨w.heap.size,0,none⟩))) A hd ⟨rfl,rfl,rfl,B.size,fun k hk _=>B.block k hk,fun b o u _ hu=>by
     rw [B.cell (p:=⟨b,o,none⟩) (World.block_lt_of_cell? w ⟨b,o,none⟩ hu)];exact hu⟩ (BT _ _ _) (EO _ _ _) ?_ ?_ ?_ ?_ ?_ ?_ ?_ (.inl hno) ?_).1⟩
   .intro p i Y i' b lo lo' I e2;rcases N _ _ _ _ I with⟨rfl,rfl,l,_⟩|l<;>rcases N _ _ _ _ e2 with⟨rfl,rfl,R,_⟩|R
    .exact⟨rfl,rfl⟩
    .grind
    .grind
    .exact JW r A _ _ _ _ _ _ _ l R
   .intro p i b lo I;rcases N _ _ _ _ I with⟨rfl,rfl,l,_⟩|l
    .exact⟨by rw[l];simp,.inl (by omega)⟩
    .exact⟨Nat.lt_of_lt_of_le (hzl _ _ _ _ l) B.size,.inr ⟨p,i,lo,l,b6 _⟩⟩
   .intro p E;rw[AB.d6,az (by omega),AB.d6,az (by omega)];exact r.dom p E
   .intro p;rw[AB.d6];split
    .exact J
    .rw[AB.d6];split
     .trivial
     .exact r.wf p
   .exact fun p E _=>AY _ _ _ _ (fun e=>E e.symm)
   .exact fun p E V=>by rw[AB.d6,az (fun e=>E e.symm),AB.d6,az (fun e=>V e.symm)]
   .exact fun _=>by rw[AB.d6,az hdq,AB.d6,ae rfl]
   .intro F' hF';rw[AB.d6,ae rfl,CS _ _ _ hd];have L:B9 a G q d Z d=Z 0:=by simp[B9]
    simp only[AL];refine⟨w.heap.size,vs,t,rfl,heap_alloc_new w _,h2,by rw[L];simp[Z],fun i c D=>?_⟩;obtain⟨x,I,e2⟩:=h3 i c D;have M:Z 0 (some i)=G q (some i):=by simp[Z,Cy]
    refine ⟨x,I,?_⟩;rw[L,M];refine A8.x8 (e2.kept (fun b o u D hf=>⟨?_,fun W=>?_⟩) (fun b lo C=>B.block b (r.lt _ _ _ _ C).1) (r.zU B)) (fun g lo j C=>?_)
    .rw[B.cell (p:=⟨b,o,none⟩) (World.block_lt_of_cell? w ⟨b,o,none⟩ D)];exact D
    .rcases hF' b o W with⟨_,h6,_⟩|⟨p,i,lo,h6,h7⟩
     .exact hf h6
     .rcases N _ _ _ _ h6 with⟨_,_,l,_⟩|l
      .have:=World.block_lt_of_cell? w ⟨b,o,none⟩ D;simp only at this;omega
      .obtain⟨Y,j,R,_⟩:=B2 l;exact hf (.inr ⟨Y,j,lo,R,h7⟩)
    .have hz':Z 0 (some i)=some (g,lo):=by rw[M];exact C
     rw [QF (BT _ _ _) hd A hz' j];simp only[DB.x8,Z];rw[az (by omega)];exact Oo C j
 .exact h.elim
def aL(P:Program)(t:TypeId):Bool:=
 match P.underlying t with
 |some (.slice e)=>(match P.info? e with
  |some ie=>ie.size==1&&(match ie.zero with|some z=>z.cells.size==1|none=>false)
  |none=>false)
 |_=>false
variable{n:Nat}{fs:Fq}
theorem lv{x:Value}(h:QT w F z n fs x):x.oneCell'=true:=by
 obtain ⟨ys,⟨l,c,_⟩,_⟩:=h;rcases c.2 with⟨rfl,_⟩|⟨g,cap,j,e,rfl,_⟩<;>rfl
theorem ji(r:AN F0 w0 O a w G)(hd:d<a.tmps.size)(I:o.op=.buildSlice t 1 #[(0,x)])(c:aL P t=true)(W:AK x (.s q)=true)(h:(AD.Aan q).wp S O (some d) K):At P F0 w0 a w o d K:=by
 simp only[AD.wp]at h;split at h
 .rename_i d' n fs B L;simp only[tn]at B;subst B;obtain⟨⟨hno,R⟩,hK⟩:=h;have N:=Jg (a:=a) W;have U:=AZ r L (by simp);have C:=r.wf q;rw[L]at C;simp only[AL]at U;have g:QT w (AW w0.heap.size F0 G) (G q none) n fs (slot a q):=U;have j:=lv g;unfold aL at c;split at c
  .rename_i e hu;split at c
   .rename_i ie M;simp only[sr,beq_iff_eq]at c;obtain⟨T,E⟩:=c;split at E
    .rename_i z A;have l:=PV j;have D:(execOp a.eval o).run P w=.ok (.value (.slice (some ⟨w.heap.size,0,none⟩) 1 1)) (w.alloc (.cells #[slot a q] e)):=by
      simp [execOp,I,Instr.buildSlice,run_underlying hu,sizeOf,typeInfo,M,T,zeroValue,A,Instr.fill,newRow,N,l]
      grind
     have H:Below w.heap.size w (w.alloc (.cells #[slot a q] e)):=(Below.refl _ _).alloc (b6 _) _;refine⟨_,_,D,_,_,hK,r.xgo L hd R (z':=G q none) rfl rfl rfl H.size (fun k X _=>H.block k X) (fun b lo A=>⟨Nat.lt_of_lt_of_le (r.lt _ _ _ _ A).1 H.size,.inr ⟨lo,A⟩⟩) (by simp) (by simp) (fun F' G' env' a' J Y Z=>?_) C⟩;simp only[AL];refine⟨w.heap.size,1,slot a q,rfl,b6 _,?_,fun hf=>?_,j,?_⟩
     .rw[cell_of_row _ w.heap.size 0 #[slot a q] e (0,0) (heap_alloc_new w _)];rfl
     .rcases Z _ _ hf with V|⟨lo,V⟩
      .omega
      .have:=(r.lt _ _ _ _ V).1;omega
     .rw[Y];exact g.kept J (fun b lo A=>H.block b (r.lt _ _ _ _ A).1)
    .cases E
   .cases c
  .cases c
 .exact h.elim
theorem AN.give(h:AN F0 w0 O a w G){es fs:Fq}(M:O.get s=.xn es)(N:O.get q=.x1 n fs):
  AN F0 w0 ((q,.undef)::O) a w (fun p i=>if p=s/\i=some 0 then G q none else if p=q then none else G p i):=by
 have Z:s≠q:=by rintro rfl;rw[M]at N;cases N
 have hsz:s<a.tmps.size:=BU h M (by simp);have hqz:q<a.tmps.size:=BU h N (by simp);have J:∀p i b lo,(if p=s/\i=some 0 then G q none else if p=q then none else G p i)=some (b,lo)->(p=s/\i=some 0/\G q none=some (b,lo))\/(¬(p=s/\i=some 0)/\p≠q/\G p i=some (b,lo)):=by
  grind
 have E:BS w w (AW w0.heap.size F0 G) (AW w0.heap.size F0 (fun p i=>if p=s/\i=some 0 then G q none else if p=q then none else G p i)):=by
  refine fun b o u W hf=>⟨W,?_⟩;rintro(B|⟨p,j,lo,B,V⟩)
  .exact hf (.inl B)
  .rcases J _ _ _ _ B with⟨_,_,U⟩|⟨_,_,U⟩
   .exact hf (.inr ⟨_,_,lo,U,V⟩)
   .exact hf (.inr ⟨_,_,lo,U,V⟩)
 have g:x8 a (fun p i=>if p=s/\i=some 0 then G q none else if p=q then none else G p i)=x8 a G:=by
  grind [x8]
 refine ⟨fun p i p' i' b lo X R Y=>?_,fun p i b lo R=>?_,h.below,h.defers,fun p I=>?_,fun p I=>?_,fun p=>?_⟩
 .rcases J _ _ _ _ R with⟨rfl,rfl,l⟩|⟨n1,n2,l⟩<;>rcases J _ _ _ _ Y with⟨rfl,rfl,L⟩|⟨m1,m2,L⟩
  .exact⟨rfl,rfl⟩
  .exact absurd (h.ns _ _ _ _ _ _ _ l L).1.symm m2
  .exact absurd (h.ns _ _ _ _ _ _ _ l L).1 n2
  .exact h.ns _ _ _ _ _ _ _ l L
 .rcases J _ _ _ _ R with⟨_,_,l⟩|⟨_,_,l⟩
  .exact h.lt _ _ _ _ l
  .exact h.lt _ _ _ _ l
 .rw[AB.d6,az (by omega)];exact h.dom p I
 .rw[AB.d6];split
  .trivial
  .rename_i D;by_cases H:p=s
   .subst H;have C:=h.slots p I;rw[M]at C|-;simp only[AL]at C|-;rw[az (by simp),az (fun e=>D e.symm),g];exact C.kept E (fun _ _ _=>rfl) BA.rfl'
   .refine AL.kept E (fun i=>by rw[az (fun e=>H e.1),az (fun e=>D e.symm)]) (fun _ _ _ _=>rfl) g BA.rfl' (fun r i k C⟨T,A⟩=>?_) (fun r off C⟨cs',c⟩=>?_) (fun r i C⟨T,A⟩=>?_) (h.slots p I)
    .have B:=AB.yg (by simp) A;exact⟨⟨T,B.2⟩,fun _ hv=>hv⟩
    .rw[AB.d6]at c;split at c
     .cases c
     .exact⟨⟨cs',c⟩,rfl⟩
    .have B:=AB.t5 (by simp) (by simp) A;exact⟨⟨T,B.2⟩,fun _ hv=>hv⟩
 .rw[AB.d6];split
  .trivial
  .exact h.wf p
def Se(zo:Option (Nat×Nat))(rowz:Nat->Option (Nat×Nat)):DB:=fun p i=>if p=0 then(if i=none then zo else none)else if zo.map (fun z=>z.1+1)=some p then(match i with|some j=>rowz j|none=>none)else none
variable{rowz:Nat->Option (Nat×Nat)}{p:Nat}{i:Option Nat}
theorem Sg{c:Option (Nat×Nat)}{b lo:Nat}(h:Se c rowz p i=some (b,lo)):(p=0/\i=none/\c=some (b,lo))\/∃g l j,c=some (g,l)/\p=g+1/\i=some j/\rowz j=some (b,lo):=by
 simp only[Se]at h;split at h
 .grind
 .split at h
  .rename_i A r;cases i with
   |none=>cases h
   |some j=>
    cases c with
    |none=>cases r
    |some z=>
     grind
  .cases h
theorem iC{g l:Nat}(j:Nat):(Se (some (g,l)) rowz).x8 g j=rowz j:=by
 simp [DB.x8,Se]
variable{e:TypeId}
theorem AN.zu(B:AN F0 w0 O a w G){ty:TypeId}{i:TypeInfo}{z:Value}{es:Fq}(hs:O.get s=.xn es)(hq:O.get q=.x1 n fs)
  (ht:P.underlying t=some (.slice e))(hi:P.info? e=some i)(hz:i.zero=some z)(hsize:i.size=1)(hby:i.bytes<=4096)(hzs:z.cells.size=1)(W:es.length+1<=AU):
  ∃v' w',(Builtin.append_ #[t,t] ty #[slot a s,slot a q]).run P w=.ok v' w'/\Bg F0 w0 ((s,.xn (es++[.list n fs]))::(q,.undef)::O) (a.put (some s) v') w':=by
  have hsq:s≠q:=by rintro rfl;rw[hs]at hq;cases hq
  have U:s<a.tmps.size:=BU B hs (by simp);have hqz:q<a.tmps.size:=BU B hq (by simp);have hrs:=AZ B hs (by simp);have hws:=B.wf s;rw[hs]at hws;have hrq:=AZ B hq (by simp);have hwq:=B.wf q;rw[hq]at hwq;simp only[AL]at hrs hrq;obtain⟨xs,⟨z0,h1,hz0⟩,h2,h3⟩:=hrs;obtain⟨g1,cap1,x,k1,k2,k3,k4,k5,k6⟩:=hrq;obtain⟨v',w',z',hrun,r1,L⟩:=Ps (P:=P) t ty e i z 1 ht hi hz hsize hby hzs (by omega) (slot a s) es.length xs z0 h1 (some ⟨g1,0,none⟩) 1 cap1 [x] rfl (by simp) k2 (fun b X j u hu=>by
   simp only[tn]at X;subst X;cases j with
   |zero=>simp only[List.getElem?_cons_zero,tn]at hu;subst hu;rw[Addr.add_lit];exact k3|succ j=>simp at hu) (by simpa using k5) W
  obtain ⟨C,N,R,e',m1,m2,m3⟩:∃C N R e',v'=.slice (some ⟨C,0,none⟩) (es.length+1) N/\w'.heap[C]?=some (.cells R e' (0,0))/\z'=some (C,(es.length+1)*1):=by
   rcases r1.2 with⟨_,hn,_⟩|⟨C,N,R,e',c,r,_,_,_,_,e7⟩
   .omega
   grind
  let M:BH:=fun p i=>if p=s/\i=some 0 then G q none else if p=q then none else G p i
  have hI1:AN F0 w0 ((q,.undef)::O) a w M:=B.give hs hq;have D:M s none=G s none:=by simp only[M];rw[az (by simp),az hsq]
  have hG10:M s (some 0)=G q none:=by simp[M]
  have hG1r:∀g j,M (a.tmps.size+g) (some j)=G (a.tmps.size+g) (some j):=fun g j=>by simp only[M];rw[az (by omega),az (by omega)]
  let rowz:Nat->Option (Nat×Nat):=fun j=>if j=es.length then G q none else z0.bind fun p=>G (a.tmps.size+p.1) (some j)
  let Z:DB:=Se (some (C,0)) rowz
  have A:∀b lo,z0=some (b,lo)->G s none=some (b,0):=fun b lo e=>by rw[hz0,e];rfl
  have hrz:∀j b lo,rowz j=some (b,lo)->(j=es.length/\G q none=some (b,lo))\/(j≠es.length/\∃g l,z0=some (g,l)/\G (a.tmps.size+g) (some j)=some (b,lo)):=by
   grind [Option.bind_eq_some_iff]
  have V:∀j b lo,rowz j=some (b,lo)->∃p i,G p i=some (b,lo)/\p≠s/\(p=q/\i=none/\j=es.length\/a.tmps.size<=p/\i=some j/\j≠es.length):=by
   intro j b lo Y;rcases hrz _ _ _ Y with⟨c,r⟩|⟨c,g,l,r,J⟩
   .exact⟨_,_,r,fun e=>hsq e.symm,.inl ⟨rfl,rfl,c⟩⟩
   .exact⟨_,_,J,by omega,.inr ⟨by omega,rfl,c⟩⟩
  have E:∀l,z'=some (C,l)->w.heap.size<=C\/G s none=some (C,0):=fun l hl=>by
   rcases (L.AaG _ _ hl).2 with e|⟨I,e,_⟩
   .exact .inl e
   .exact .inr (A _ _ e)
  have E:=E _ m3;have h:∀p i b lo,G p i=some (b,lo)->b<w.heap.size:=fun p i b lo e=>(B.lt _ _ _ _ e).1;have hout:∀p i b lo,G p i=some (b,lo)->p≠s->b≠C:=by
   intro p i b lo c r J;subst J;rcases E with e|e
   .have:=h _ _ _ _ c;omega
   .exact r (B.ns _ _ _ _ _ _ _ c e).1
  have hzz:∀p j b lo,Z p j=some (b,lo)->b<w'.heap.size/\(w.heap.size<=b\/∃p j I,Be a M s p j=some (b,I)/\I<=lo):=by
   intro p j b lo hp;rcases Sg hp with⟨_,_,e⟩|⟨g,l,j,c,_,_,r⟩
   .simp only[tn,Prod.mk.injEq]at e;obtain⟨rfl,rfl⟩:=e;refine⟨(L.AaG _ _ m3).1,E.imp id fun e=>⟨0,none,0,by rw[Cy,D];exact e,b6 _⟩⟩
   .rcases hrz _ _ _ r with⟨_,J⟩|⟨_,g0,l0,J,e4⟩
    .exact⟨Nat.lt_of_lt_of_le (h _ _ _ _ J) L.size,.inr ⟨0,some 0,lo,by rw[Cy,hG10];exact J,b6 _⟩⟩
    .refine⟨Nat.lt_of_lt_of_le (h _ _ _ _ e4) L.size,.inr ⟨g0+1,some j,lo,?_,b6 _⟩⟩;simp only[Be];rw[az (by omega),ae ⟨none,0,by rw[Nat.add_sub_cancel,D];exact A _ _ J⟩];simp only[Nat.add_sub_cancel];rw[hG1r];exact e4
  have H:∀b o,AW w0.heap.size F0 M b o->AW w0.heap.size F0 G b o:=by
   rintro b o (e|⟨p,j,lo,c,r⟩)
   .exact .inl e
   .simp only[M]at c;split at c
    .exact .inr ⟨_,_,lo,c,r⟩
    .split at c
     .cases c
     .exact .inr ⟨_,_,lo,c,r⟩
  have hd:=U;refine⟨v',w',?_,_,(hI1.zg (s:=s) (d:=s) (Z:=Z) (w':=w') (env':=(s,.xn (es++[.list n fs]))::(q,.undef)::O) (a':=a.put (some s) v') U U ⟨L.os,L.tape,L.output,L.size,fun k hk hz=>?_,fun b o u hz hu=>?_⟩ (BT _ _ _) (EO _ _ _) ?_ hzz ?_ ?_ ?_ ?_ ?_ (.inr (.inr ⟨?_,?_⟩)) ?_).1⟩
  .rw[k1];exact hrun
  .refine L.other k hk fun lo e=>hz 0 none 0 ?_;rw[Cy,D];exact A _ _ e
  .refine L.cell b o u hu fun lo e=>absurd ⟨0,none,0,?_,Nat.zero_le _⟩ hz;rw[Cy,D];exact A _ _ e
  .intro p j p' j' b lo I c r;rcases Sg c with⟨rfl,rfl,f1⟩|⟨g,l,i1,f1,rfl,rfl,f2⟩<;>rcases Sg r with⟨rfl,rfl,f3⟩|⟨g2,l2,i2,f3,rfl,rfl,f4⟩
   .exact⟨rfl,rfl⟩
   .simp only[tn,Prod.mk.injEq]at f1;obtain⟨p1,p2,q1,q2,_⟩:=V _ _ _ f4;exact absurd f1.1.symm (hout _ _ _ _ q1 q2)
   .simp only[tn,Prod.mk.injEq]at f3;obtain⟨p1,p2,q1,q2,_⟩:=V _ _ _ f2;exact absurd f3.1.symm (hout _ _ _ _ q1 q2)
   .simp only[tn,Prod.mk.injEq]at f1 f3;obtain⟨p1,p2,q1,q2,q3⟩:=V _ _ _ f2;obtain⟨p3,p4,q4,q5,q6⟩:=V _ _ _ f4;have:=B.ns _ _ _ _ _ _ _ q1 q4;refine⟨by omega,?_⟩;rcases q3 with⟨u1,u2,u3⟩|⟨u1,u2,u3⟩<;>rcases q6 with⟨u4,u5,u6⟩|⟨u4,u5,u6⟩
    .rw[u3,u6]
    .omega
    .omega
    .rw[u2,u5]at this;exact this.2
  .intro p hp;rw[AB.d6,az (by omega),AB.d6,az (by omega)];exact B.dom p hp
  .intro p;rw[AB.d6];split
   .simp only[EV.WF,TV.WF]at hws hwq|-;exact⟨by rw[bk];exact UF (by simpa using W),Jx.2 ⟨hws.2,⟨hwq,trivial⟩⟩⟩
   .rw[AB.d6];split
    .trivial
    .exact B.wf p
  .exact fun p hp _=>AY _ _ _ _ (fun e=>hp e.symm)
  .exact fun p hp _=>by rw[AB.d6,az (fun e=>hp e.symm)]
  .exact fun e=>absurd rfl e
  .intro cs;rw[AB.d6,ae rfl];simp
  .intro m es';rw[AB.d6,ae rfl];simp
  .intro F' hF';rw[AB.d6,ae rfl,CS _ _ _ hd];have hag:BS w w' (AW w0.heap.size F0 G) F':=by
    intro b o u hc hf;have hlt:b<w.heap.size:=World.block_lt_of_cell? w ⟨b,o,none⟩ hc;refine⟨L.cell b o u hc fun lo e=>absurd (.inr ⟨s,none,0,A _ _ e,Nat.zero_le _⟩) hf,fun hf'=>?_⟩;rcases hF' b o hf' with⟨_,e,_⟩|⟨p,j,lo,c,r⟩
    .exact hf (H b o e)
    .rcases(hzz _ _ _ _ c).2 with J|⟨p2,j2,lo2,J,e4⟩
     .omega
     .obtain⟨p3,j3,e5,_⟩:=B2 J;exact hf (H b o (.inr ⟨p3,j3,lo2,e5,Nat.le_trans e4 r⟩))
   have hzd:B9 a M s s Z s none=some (C,0):=by simp[B9,Z,Se]
   have hrow:∀j,x8 (a.put (some s) v') (B9 a M s s Z) C j=rowz j:=fun j=>by
    rw [QF (k:=none) (lo:=0) (BT _ _ _) hd U (by simp[Z,Se]) j];exact iC j
   simp only[AL];rw[hzd];refine⟨xs++[x],⟨z',by rw[bk];exact r1,by rw[m3];rfl⟩,?_,?_⟩
   .intro y hy;rcases List.mem_append.1 hy with hy|hy
    .exact h2 y hy
    .simp only[List.mem_singleton]at hy;subst hy;exact k5
   .have hxl:xs.length=es.length:=by have:=h1.1;omega
    intro j el Y;by_cases hjl:j<es.length
    .rw[List.getElem?_append_left hjl]at Y;obtain⟨g,y,m,fs',c,r,J,e4⟩:=h3 j el Y;refine⟨C,y,m,fs',rfl,by rw[List.getElem?_append_left (by omega)];exact r,J,?_⟩;rw[hrow];have T:∃l,z0=some (g,l):=by
      rw [hz0]at c;cases z0 with
      |none=>cases c
      |some p=>simp only[Option.map_some,tn,Prod.mk.injEq,and_true]at c;exact⟨p.2,by rw[<-c]⟩
     obtain ⟨l,T⟩:=T;have hrj:rowz j=x8 a G g j:=by
      simp only[rowz,T];rw[az (by omega)];rfl
     rw [hrj];exact e4.kept hag fun b lo X=>L.other b (h _ _ _ _ X) fun I e=>by
      have:=(B.ns _ _ _ _ _ _ _ (A _ _ e) X).1;omega
    .have hje:j=es.length:=by
      have:=(List.getElem?_eq_some_iff.1 Y).1;simp only[bk,List.length_singleton]at this;omega
     subst hje;rw[List.getElem?_append_right (b6 _),Nat.sub_self]at Y;simp only[List.getElem?_cons_zero,tn]at Y;subst Y;refine⟨C,x,n,fs,rfl,by rw[<-hxl,List.getElem?_append_right (b6 _),Nat.sub_self];rfl,rfl,?_⟩;rw[hrow];have hrj:rowz es.length=G q none:=by simp[rowz]
     rw [hrj];exact k6.kept hag fun b lo X=>L.other b (h _ _ _ _ X) fun I e=>hsq (B.ns _ _ _ _ _ _ _ (A _ _ e) X).1
theorem jW(hI:AN F0 w0 O a w G)(hd:d<a.tmps.size){m q:Nat}{i:TypeInfo}{z:Value}(L:o.op=.call {callee:=.builtin .append,args:=#[.tmp m,.tmp q],argTypes:=#[t,t]})
  (ht:P.underlying t=some (.slice e))(hi:P.info? e=some i)(hz:i.zero=some z)(j:i.size=1)(M:i.bytes<=4096)(N:z.cells.size=1)
  (h:(AD.zu m q).wp S O (some d) K):At P F0 w0 a w o d K:=by
 simp only[AD.wp]at h;split at h
 .rename_i d' s off n fs r hm hq;simp only[tn]at r;subst r;split at h
  .rename_i cs R;cases c:O.nat s off with
   |none=>rw[c]at h;exact h.elim|some es=>
    rw [c]at h;simp only[Ad]at h;obtain⟨B,⟨C,hdm,Y,hmq⟩,hK⟩:=h;obtain⟨cs',D,hk⟩:=AB.x3 c;rw[R]at D;cases D;have hds:d≠s:=fun e=>AB.yh d O C m (by rw[hm,e];rfl);obtain⟨b,c0,T,x0,e1,e2,e3,e4⟩:=Wd hI (x:=.tmp m) (y:=.s m) (by simp[AK]) hm c;simp only[NK.at]at e4;have l:w.cell? ⟨b,off,none⟩=some x0:=by rw[cell_of_row w b off c0 T (0,0) e2];exact e3
    obtain ⟨G1,h1⟩:=hI.zQ R hk hd e1 l (.inr (.inr ⟨es,rfl,rfl,rfl,C⟩));have h2:=h1.strip m;have U:(strip ((d,EV.xn es)::(s,.bx (cs.set off ⟨false,.undef⟩))::O) m).get d=.xn es:=by
     grind [strip,AB.d6]
    have V:s≠q:=by rintro rfl;rw[R]at hq;cases hq
    have W:(strip ((d,EV.xn es)::(s,.bx (cs.set off ⟨false,.undef⟩))::O) m).get q=.x1 n fs:=by
     grind [strip,AB.d6]
    obtain ⟨Z,w',g,E⟩:=h2.zu (ty:=o.type) U W ht hi hz j M N B;rw[CS _ _ _ hd,AY _ _ _ _ Y]at g;refine⟨Z,w',?_,_,_,hK,?_⟩
    .have X:a.eval (.tmp m)=x0:=e4;simp[execOp,L,resolve,invoke,builtin,X,show a.eval (.tmp q)=slot a q from rfl,g]
    .have A:(a.put (some d) x0).put (some d) Z=a.put (some d) Z:=by simp[Act.put]
     rw [A]at E;refine E.congr' fun p=>?_;simp only[strip,AB.d6];by_cases H:d=p
     .simp[H]
     .by_cases I:q=p
      .have J:¬s=p:=fun e=>V (e.trans I.symm);simp[H,I,J]
      .by_cases J:m=p
       .have k4:¬s=p:=fun e=>by
         grind
        simp [H,I,J,k4]
       .simp[H,I,J]
  .exact h.elim
 .exact h.elim
theorem AN.renest(h:AN F0 w0 O a w G){s off g r n:Nat}{es fs fs':Fq}(hx:O.nat s off=some es)(hg:G s (some off)=some (g,0))(hr:es[r]?=some (.list n fs)){w':World}(hb:QR (x8 a G g r) w w')(hz0:∀b lo,x8 a G g r=some (b,lo)->lo=0)
  (hrow:∀y,w.cell? ⟨g,r,none⟩=some y->BS w w' (AW w0.heap.size F0 G) (AW w0.heap.size F0 G)->QT w' (AW w0.heap.size F0 G) (x8 a G g r) n fs' y)(hw:(TV.list n fs').WF):
  AN F0 w0 (O.AaL s off (es.set r (.list n fs'))) a w' G:=by
 obtain ⟨b1,b2,b3,b4,b5⟩:=hb;obtain⟨cs,hs,hk⟩:=AB.x3 hx;have hsz:s<a.tmps.size:=BU h hs (by simp);have W:=h.wf s;rw[hs]at W;have hzG:∀lo b,x8 a G g r=some (b,lo)->G (a.tmps.size+g) (some r)=some (b,lo):=fun _ _ e=>e;have A:∀p i b lo,p<a.tmps.size->G p i=some (b,lo)->w'.heap[b]?=w.heap[b]?:=by
  intro p i b lo E e;refine b5 b (h.lt _ _ _ _ e).1 fun D e'=>?_;have:=(h.ns _ _ _ _ _ _ _ e (hzG _ _ e')).1;omega
 have B:∀C j b lo,¬(C=g/\j=r)->x8 a G C j=some (b,lo)->w'.heap[b]?=w.heap[b]?:=by
  intro C j b lo hne e;refine b5 b (h.lt _ _ _ _ e).1 fun D e'=>hne ?_;have:=h.ns _ _ _ _ _ _ _ e e'
  grind
 have J:BS w w' (AW w0.heap.size F0 G) (AW w0.heap.size F0 G):=by
  intro b o u hc hF;refine⟨?_,hF⟩;have hlt:b<w.heap.size:=World.block_lt_of_cell? w ⟨b,o,none⟩ hc;rw[World.cell?_of_block (w:=w) (a:=⟨b,o,none⟩) (b5 b hlt (fun lo l=>hF (.inr ⟨_,some r,lo,l,by rw[hz0 b lo l];exact Nat.zero_le _⟩)))];exact hc
 have L:GX F0 w0 w':=h.below.but b1 b2 b3 b4 (Z:=fun k=>∃lo,x8 a G g r=some (k,lo)) (fun b⟨lo,l⟩=>(h.lt _ _ _ _ l).2.imp id (fun e o=>e o (by rw[hz0 b lo l];exact Nat.zero_le _))) (fun k hk l=>b5 k (Nat.lt_of_lt_of_le hk h.below.size) (fun lo e=>l ⟨lo,e⟩));have H:∀q i,(∃p,AB.nat ((s,.bx (cs.set off ⟨true,.xn (es.set r (.list n fs'))⟩))::O) q i=some p)->∃p,O.nat q i=some p:=by
  grind [AB.x3,AB.d6,List.getElem?_set_ne,AB.nat,AB.yv]
 have I:∀q i,(∃p,AB.x4 ((s,.bx (cs.set off ⟨true,.xn (es.set r (.list n fs'))⟩))::O) q i=some p)->∃p,O.x4 q i=some p:=by
  rintro q i ⟨⟨n1,es1⟩,E⟩;by_cases hsq:s=q
  .subst hsq;cases i with
   |none=>have:=AB.x6 E;rw[AB.d6,ae rfl]at this;cases this
   |some i=>
    grind [AB.tl,AB.d6,List.getElem?_set_ne,AB.x4]
  grind [AB.yq]
 simp only[AB.AaL,hs];refine⟨h.ns,fun p i b lo e=>⟨Nat.lt_of_lt_of_le (h.lt _ _ _ _ e).1 b4,(h.lt _ _ _ _ e).2⟩,L,h.defers,fun p E=>?_,fun p E=>?_,fun p=>?_⟩
 .rw[AB.d6,az (by omega)];exact h.dom p E
 .rw[AB.d6];by_cases X:s=p
  .subst X;rw[ae rfl];have Y:=h.slots s E;rw[hs]at Y;simp only[AL]at Y|-;obtain⟨b,c,T,e1,e2,e3,e4,e5⟩:=Y;refine⟨b,c,T,e1,by rw[A _ _ _ _ E e4];exact e2,by simpa using e3,e4,fun i d hd=>?_⟩;by_cases hio:off=i
   .subst hio;rw[List.getElem?_set_self (by rcases Nat.lt_or_ge off cs.length with h|h;exact h;rw[List.getElem?_eq_none h]at hk;cases hk)]at hd;simp only[tn]at hd;subst hd;obtain⟨x,f1,f2⟩:=e5 off _ hk;refine⟨x,f1,?_⟩;obtain⟨xs,⟨z0,k1,k2⟩,k3,k4⟩:=(f2:Ey _ _ _ _ _ _);refine⟨xs,⟨z0,?_,k2⟩,k3,fun j e N=>?_⟩
    .rw[List.length_set];exact k1.kept (fun R lo l=>A s (some off) R 0 E (by rw[k2,l];rfl))
    .rw[List.getElem?_set]at N;by_cases hrj:r=j
     .subst hrj;rw[ae rfl]at N;split at N
      .simp only[tn]at N;subst N;obtain⟨C,y,n2,fs2,m1,m2,m3,m4⟩:=k4 r _ hr;have hgg:C=g:=by rw[hg]at m1;simpa using m1.symm
       subst hgg;refine⟨C,y,n,fs',m1,m2,rfl,hrow y ?_ J⟩;rcases k1.2 with⟨_,hn,_⟩|⟨g3,cap,cur,e',q1,q2,q3,q4,q5,q6,q7⟩
       .have:es=[]:=List.eq_nil_of_length_eq_zero hn;subst this;simp at hr
       .rw[k2,q7]at m1;simp only[Option.map_some,tn,Prod.mk.injEq,and_true]at m1;subst m1;exact k1.cell q1 r y m2
      .cases N
     .rw[az hrj]at N;obtain⟨C,y,n2,fs2,m1,m2,m3,m4⟩:=k4 j _ N;exact⟨C,y,n2,fs2,m1,m2,m3,m4.kept J fun R lo l=>B C j R lo (fun e=>hrj e.2.symm) l⟩
   .rw[List.getElem?_set_ne hio]at hd;obtain⟨x,f1,f2⟩:=e5 i d hd;refine⟨x,f1,f2.Aap J (fun R lo l=>A _ _ _ _ E l) fun C lo j R D l hρ=>B C j R D (fun e=>?_) hρ⟩;rw[e.1]at l;have:=(h.ns _ _ _ _ _ _ _ l hg).2;simp only[tn]at this;exact hio this.symm
  .rw[az X];refine AL.kept' J (fun _=>rfl) (fun i b lo l=>A _ _ _ _ E l) (fun _ _ _ _ _=>rfl) (fun i C lo j R D l hρ=>B C j R D (fun e=>?_) hρ) (fun q i k _ U=>⟨H q i U,h.nh (H q i U) rfl fun j b _ l=>?_⟩) (fun q off' _⟨cs',V⟩=>⟨?_,rfl⟩) (fun q i _ U=>⟨I q i U,h.xv (I q i U) rfl fun b l=>?_⟩) (h.slots p E)
   .rw[e.1]at l;exact X (h.ns _ _ _ _ _ _ _ l hg).1.symm
   .obtain⟨pp,M⟩:=H q i U;obtain⟨cs',h2,_⟩:=AB.x3 M;exact A _ _ _ _ (BU h h2 (by simp)) l
   .rw[AB.d6]at V;split at V
    .rename_i e;subst e;exact⟨cs,hs⟩
    .exact⟨cs',V⟩
   .obtain⟨⟨n1,es1⟩,M⟩:=I q i U;refine A q none b 0 ?_ l;cases i with
    |none=>exact BU h (AB.x6 M) (by simp)|some i=>obtain⟨cs',h2,_⟩:=AB.tl M;exact BU h h2 (by simp)
 .rw[AB.d6];split
  .intro y hy;rcases List.mem_or_eq_of_mem_set hy with hy|rfl
   .exact W y hy
   .have h1:(TV.list 1 es).WF:=W _ (List.mem_of_getElem? hk);simp only[TV.WF]at h1|-;refine⟨by simpa using h1.1,?_⟩;rw[Bc]at h1|-;intro t ht;rcases List.mem_or_eq_of_mem_set ht with ht|rfl
    .exact h1.2 t ht
    .exact hw
  .exact h.wf p
variable{u:TV}
theorem YA(j:u.cells=[u]):∀(fs:Fq)(c:Nat),(∀e∈fs,e.cells.length=1)->(fs.set c u).flatMap TV.cells=(fs.flatMap TV.cells).set c u
 |[],c,_=>by simp|f::fs,c,h=>by
  obtain ⟨l,g⟩:=List.length_eq_one_iff.1 (h f (by simp));cases c with
  |zero=>simp[List.flatMap_cons,g,j]|succ c=>
   simp only[List.set_cons_succ,List.flatMap_cons,g,List.singleton_append];rw[YA j fs c (fun e he=>h e (by simp[he]))]
theorem mf(hI:AN F0 w0 O a w G){x v:Operand}{x' v':AE}(hop:o.op=.store t x v)(L:AK x x'=true)(hv:AK v v'=true)(hn:Ce P t=some 1)(h:(AD.nst x' v').wp S O none K):G7 P F0 w0 a w o K:=by
 simp only[AD.wp]at h;split at h
 .rename_i s off r c u hy hu;cases B:O.nat s off with
  |none=>rw[B]at h;exact h.elim|some es=>
   rw [B]at h;simp only[Ad]at h;obtain⟨fs,hr,hc,I,hfl,hK⟩:=h;obtain⟨b,c0,T,x0,e1,e2,e3,g,len,cap,e0,J,len',Y,e4,e5⟩:=Wd hI L hy B;subst e0;obtain⟨b',c',T',v0,f1,f2,f3,f4,f5,Z⟩:=UG hI B;rw[e1]at f1;simp only[Value.pointer.injEq,tn,Addr.mk.injEq,and_true,and_self]at f1;subst f1;rw[e2]at f2;cases f2;rw[e3]at f3;simp only[tn]at f3;subst f3;obtain⟨g',cap1,cur,e,xs,g1,g2,g3,_,gz,g4,_⟩:=Us f5 (by rintro rfl;simp at hr);simp only[Value.slice.injEq,tn,Addr.mk.injEq,and_true]at g1;obtain⟨rfl,rfl,rfl⟩:=g1;obtain⟨y,n,fs',k1,k2,k3⟩:=g4 r _ hr;simp only[TV.list.injEq]at k2;obtain⟨rfl,rfl⟩:=k2;have hcy:=e4;rw[cell_of_row w g r cur e (0,0) g2,k1]at e4;simp only[tn]at e4;subst e4;obtain⟨ys,⟨z0,m1,m2⟩,m3,m4,m5⟩:=k3;rcases m1.2 with⟨e9,_,_⟩|⟨gr,capr,l,er,q1,q2,q3,q4,q5,q6,q7⟩
   .cases e9
   .simp only[Value.slice.injEq,tn,Addr.mk.injEq,and_true]at q1;obtain⟨rfl,rfl,rfl⟩:=q1;have M:=Ar hI hv (t:=u) (by simp[AE.val,hu,EV.val]);have N:=GD M.1;rw[I]at N;have R:∃y,(a.eval v).cells.toList=[y]/\Af w (AW w0.heap.size F0 G) u y/\y.oneCell'=true:=by
     obtain ⟨k1,k2⟩:=N;simp only[AP]at k1;obtain⟨y,r,k3,k4,rfl⟩:=k1;exact⟨y,k3,k4,k2 y (by rw[k3];simp)⟩
    obtain ⟨y,k1',k2',k3'⟩:=R;have U:c<l.size:=by omega
    have C:=run_storeCells_at P J c er [y] 0 l w q2 (by simp only[List.length_singleton];omega) (by simpa using k3');simp only[Nat.add_zero]at C;have hsz:(a.eval v).cells.size=1:=by rw[<-Array.length_toList,k1'];rfl
    have hst:(execOp a.eval o).run P w=.ok .skip (w.setRow J (l.toList.take c++[y]++l.toList.drop (c+1)).toArray):=by
     simp only[List.length_singleton]at C;simp[execOp,hop,e5,Instr.storeAt,Instr.sureAddr,storeVar,Bv hn,hsz,k1',C]
    have H:x8 a G g r=some (J,0):=by rw[m2,q7];rfl
    have D:(TV.list 1 fs).WF:=Bc.1 Z.2 _ (List.mem_of_getElem? hr);have hyl:ys.length=fs.length:=by have:=m1.1;omega
    refine ⟨_,hst,_,hK,G,hI.renest B gz hr (fs':=fs.set c u) ?_ ?_ (fun y' E hag=>?_) ?_⟩
    .exact⟨rfl,rfl,rfl,by simp,fun k _ hk=>setRow_other w J k _ (fun e=>hk 0 (by rw[e];exact H))⟩
    .intro b lo hb;rw[H]at hb;simp only[tn,Prod.mk.injEq]at hb;exact hb.2.symm
    .rw[hcy]at E;simp only[tn]at E;subst E;refine⟨ys.set c y,⟨some (J,fs.length*1),⟨by rw[List.length_set,List.length_set];omega,.inr ⟨J,Y,_,er,by rw[List.length_set],setRow_heap w J l _ er _ q2,by rw[List.length_set];exact q3,q4,?_,?_,by rw[List.length_set]⟩⟩,by rw[H];rfl⟩,?_,?_,?_⟩
     .simp only[List.size_toArray,bk,cE,List.length_drop,Array.length_toList,List.length_singleton];omega
     .rw[List.length_set,<-q6];apply List.ext_getElem?;intro i;have hs2:l.toList.take c++[y]++l.toList.drop (c+1)=l.toList.set c y:=by
       rw [List.set_eq_take_append_cons_drop,ae (by simpa using U),c9];rfl
      rw [hs2];simp only[List.getElem?_take,List.getElem?_set,cE,Array.length_toList];by_cases hi:i<fs.length*1
      .simp only[ae hi];by_cases V:c=i
       .subst V;simp only[if_true];rw[ae U,ae (by omega)]
       .simp only[az V]
      .simp only[az hi];rw[az (by omega)]
     .rw[BQ];have W:=(BQ _ _).1 (Aj hag _ _ m3);rw[YA I fs c m4];refine⟨by rw[List.length_set,List.length_set];exact W.1,fun i t' v'' A j=>?_⟩;rw[List.getElem?_set]at A j;by_cases X:c=i
      .subst X;rw[ae rfl]at A j;split at A
       .split at j
        .simp only[tn]at A j;subst A j;exact Ss u hfl _ k2'
        .cases j
       .cases A
      .rw[az X]at A j;exact W.2 i t' v'' A j
     .intro e he;rcases List.mem_or_eq_of_mem_set he with he|rfl
      .exact m4 e he
      .rw[I];rfl
     .intro x L;rcases List.mem_or_eq_of_mem_set L with L|rfl
      .exact m5 x L
      .exact k3'
    .simp only[TV.WF]at D|-;refine⟨by simpa using D.1,?_⟩;rw[Bc];intro t ht;rcases List.mem_or_eq_of_mem_set ht with ht|rfl
     .exact Bc.1 D.2 t ht
     .exact M.2
 .exact h.elim
theorem Xu(A:AN F0 w0 O a w G)(C:u.WF):∀{i:Nat}{xs:List Operand}{ys:List AE},BO xs ys=true->∀{j:Fq},H6 O i ys=some j->(∀x,xs[i]?=some x->Af w (AW w0.heap.size F0 G) u (a.eval x))->AP w (AW w0.heap.size F0 G) (j.set i u) (xs.map a.eval)/\TV.tg (j.set i u)
 |_,[],[],_,j,h,_=>by simp[H6]at h;subst h;exact⟨rfl,trivial⟩|_,[],_::_,h,_,_,_=>by simp[BO]at h|_,_::_,[],h,_,_,_=>by simp[BO]at h|0,x::xs,y::ys,c,j,h,ho=>by
  simp only[BO,sr]at c;simp only[H6]at h;split at h
  .rename_i B g;simp only[tn]at h;subst h;have l:=ho x (by simp);obtain⟨r,H⟩:=FM A c.2 g;exact⟨⟨_,_,rfl,l,r⟩,C,H⟩
  .cases h
 |i+1,x::xs,y::ys,c,j,h,ho=>by
  simp only[BO,sr]at c;simp only[H6]at h;split at h
  .rename_i t B E g;simp only[tn]at h;subst h;have l:=Ar A c.1 E;have r:=Xu A C c.2 g (fun x D=>ho x (by simpa using D));exact⟨⟨_,_,rfl,l.1,r.1⟩,l.2,r.2⟩
  .cases h
variable{f:FuncId}{ats:Array TypeId}{Q:Exit->Act->World->Prop}
theorem fZ(B:AN F0 w0 O a w G)(hd:d<a.tmps.size)(X:o.dst=some d){xs:Array Operand}{ys:List AE}{i:Nat}(hop:o.op=.call {callee:=.value (.func f),args:=xs,argTypes:=ats})(Y:BO xs.toList ys=true)(h:(AD.zv f ys i).wp (AX P) O (some d) K)
  {next:Act->World->Prop}(hn:∀e env' a' w',K e env'->QS a d a'->Bg F0 w0 ((d,e)::env') a' w'->next a' w'):o.wp P a w next Q:=by
 simp only[AD.wp]at h;split at h
 .rename_i d' q hdd hy;simp only[tn]at hdd;subst hdd;split at h
  .rename_i cs hq;obtain⟨hdq,h⟩:=h;cases N:H6 O i ys with
   |none=>rw[N]at h;exact h.elim|some ts=>
    rw [N]at h;simp only[Ad]at h;obtain⟨r,hS,hK⟩:=h;have R:q<a.tmps.size:=BU B hq (by simp);have hxi:∀(xs:List Operand)(ys:List AE)(i:Nat)(y:AE),BO xs ys=true->ys[i]?=some y->∃x,xs[i]?=some x/\AK x y=true:=by
     intro xs
     induction xs with
     |nil=>intro ys i y I M;cases ys<;>simp[BO]at I M
     |cons x xs ih=>
      intro ys i y I M;cases ys with
      |nil=>simp[BO]at I|cons z ys=>
       simp only[BO,sr]at I
       grind
    obtain ⟨x,hx,hxy⟩:=hxi _ _ _ _ Y hy;have hev:=Jg (a:=a) hxy;have hr:=AZ B hq (by simp);have hwc:=B.wf q;rw[hq]at hwc;simp only[AL]at hr;obtain⟨vs,I,M,h3⟩:=hr;have hone:∀y∈vs.toList,y.oneCell'=true:=by
     intro y hy;obtain⟨i,hi⟩:=List.getElem?_of_mem hy;have hlt:i<cs.length:=by have:=(List.getElem?_eq_some_iff.1 hi).1;simpa[M]using this
     obtain ⟨x,hx,H⟩:=h3 i _ (List.getElem?_eq_getElem hlt)
     grind [tn,GT]
    have D:Af w (AW w0.heap.size F0 G) (.agg (cs.map fun _=>TV.undef)) (a.eval x):=by
     grind [Af,List.all_eq_true,BQ,Option.map_eq_some_iff,List.mem_of_getElem?]
    have hwu:(TV.agg (cs.map fun _=>TV.undef)).WF:=by
     grind [TV.WF,Bc]
    have hv:=Xu B hwu Y N (fun x' hx'=>by rw[hx]at hx';cases hx';exact D);have E:∀b o,AW w0.heap.size F0 G b o↔((AW w0.heap.size F0 G b o/\¬ZF (Be a G q) b o)\/ZF (Be a G q) b o):=by
     intro b o;constructor
     .intro hf;by_cases W:ZF (Be a G q) b o
      .exact .inr W
      .exact .inl ⟨hf,W⟩
     .rintro(hf|⟨p,i,lo,I,M⟩)
      .exact hf.1
      .obtain⟨p,j,U,_⟩:=B2 I;exact .inr ⟨p,j,lo,U,M⟩
    have hF:(fun b o=>(AW w0.heap.size F0 G b o/\¬ZF (Be a G q) b o)\/ZF (Be a G q) b o)=AW w0.heap.size F0 G:=by
     funext b o;exact propext (E b o).symm
    obtain ⟨k0,k3⟩:=hS hv.2 hwc;have hbr:Vv w (fun b o=>(AW w0.heap.size F0 G b o/\¬ZF (Be a G q) b o)\/ZF (Be a G q) b o) (Be a G q) cs (slot a q):=by
     rw [hF];refine⟨vs,I,M,fun j c H=>?_⟩;obtain⟨x,J,V⟩:=h3 j c H;refine⟨x,J,by rw[Cy];exact V.x8 (fun g lo j hg=>Oo hg j),GT V⟩
    obtain ⟨k1,k4⟩:=k3 (fun b o=>AW w0.heap.size F0 G b o/\¬ZF (Be a G q) b o) w (xs.map a.eval) (slot a q) (Be a G q) (by rw[hF];simpa using hv.1)
     (by rw[Array.getElem?_map];rw[<-Array.getElem?_toList,hx];simp only[Option.map_some];rw[hev]) hbr (JW B R) (fun p i b lo e=>by obtain⟨p,j,U,_⟩:=B2 e;exact(B.lt _ _ _ _ U).1)
     (by
      rintro b o o' ⟨p,i,lo,J,V⟩ ⟨hf,hnz⟩;by_cases hlo:lo<=o'
      .exact hnz ⟨p,i,lo,J,hlo⟩
      .obtain⟨p,j,U,_⟩:=B2 J;exact Ob B b lo o' U (by omega) hf)
     ⟨B.below.now,fun b o⟨_,_,_,e,_⟩=>by obtain⟨_,_,U,_⟩:=B2 e;exact B.low U⟩
    have hrun:(execOp a.eval o).run P w=(callFunc f (xs.map a.eval)).run P w:=by simp[execOp,hop,resolve,Act.eval,Deferred.ofValue,invoke]
    unfold Oper.wp;rw[hrun,EL k0 _,Oper.upon_enter];refine k4.mono ?_;rintro e w' ⟨v',rfl,r1,r2⟩;simp only[X];refine hn _ _ _ _ (hK k1) ⟨_,rfl⟩ ?_;have T:∀Z:DB,Ir Z->(∀p i b lo,Z p i=some (b,lo)->b<w'.heap.size/\(w.heap.size<=b\/∃p' j lo',Be a G q p' j=some (b,lo')/\lo'<=lo))->(∀cs,r.aev≠.bx cs)->(∀n es,r.aev≠.xo n es)->r.aev.WF ->
      (∀A,(∀b o,A b o->(b<w.heap.size/\AW w0.heap.size F0 G b o/\¬ZF (Be a G q) b o)\/ZF Z b o)->AL (a.put (some d) v') w' A (B9 a G q d Z) ((d,r.aev)::(q,.undef)::O) d r.aev v')->Bg F0 w0 ((d,r.aev)::(q,.undef)::O) (a.put (some d) v') w':=by
     intro Z hzu W hb1 hb2 hwf hrep;refine⟨_,(B.zg (s:=q) (d:=d) (Z:=Z) (w':=w') (env':=(d,r.aev)::(q,.undef)::O) (a':=a.put (some d) v') R hd r1 (BT _ _ _) (EO _ _ _) hzu W ?_ ?_ ?_ ?_ ?_ (.inr (.inr ⟨fun cs=>by rw[AB.d6,ae rfl];exact hb1 cs,fun n es=>by rw[AB.d6,ae rfl];exact hb2 n es⟩)) ?_).1⟩
     .intro p hp;rw[AB.d6,az (by omega),AB.d6,az (by omega)];exact B.dom p hp
     .intro p;rw[AB.d6];split
      .exact hwf
      .rw[AB.d6];split
       .trivial
       .exact B.wf p
     .exact fun p hp _=>AY _ _ _ _ (fun e=>hp e.symm)
     .exact fun p hp hpq=>by rw[AB.d6,az (fun e=>hp e.symm),AB.d6,az (fun e=>hpq e.symm)]
     .exact fun _=>by rw[AB.d6,az hdq,AB.d6,ae rfl]
     .intro A l;rw[AB.d6,ae rfl,CS _ _ _ hd];exact hrep A l
    have C:∀(Z:DB)(A:Nat->Nat->Prop),(∀p i b lo,Z p i≠some (b,lo))->(∀b o,A b o->(b<w.heap.size/\AW w0.heap.size F0 G b o/\¬ZF (Be a G q) b o)\/ZF Z b o)->BS w' w' (fun b o=>b<w.heap.size/\AW w0.heap.size F0 G b o/\¬ZF (Be a G q) b o) A:=by
     intro Z A hZ l b o u H hf;refine⟨H,fun L=>?_⟩;rcases l b o L with e|⟨p,i,lo,e,_⟩
     .exact hf e
     .exact hZ _ _ _ _ e
    cases r with
    |sh t=>
     refine T (fun _ _=>none) (fun _ _ _ _ _ _ _ e=>by cases e) (fun _ _ _ _ e=>by cases e) (by simp[Al.aev,Al.ev]) (by simp[Al.aev,Al.ev]) k1 fun A l=>?_;simp only[Al.aev,Al.ev,AL];exact By (C _ A (by simp) l) _ _ r2
    |tp ts=>
     refine T (fun _ _=>none) (fun _ _ _ _ _ _ _ e=>by cases e) (fun _ _ _ _ e=>by cases e) (by simp[Al.aev,Al.ev]) (by simp[Al.aev,Al.ev]) k1 fun A l=>?_;simp only[Al.aev,Al.ev,AL];obtain⟨us,J,V⟩:=r2;exact⟨us,J,Aj (C _ A (by simp) l) _ _ V⟩
    |yr ds=>
     obtain ⟨Z,⟨us,J,V,e3⟩,e4,e5,e6⟩:=r2;refine T Z e4 e6 (by simp[Al.aev]) (by simp[Al.aev]) k1 fun A l=>?_;simp only[Al.aev,AL];refine⟨us,J,V,fun j c H=>?_⟩;obtain⟨y,g1,g2,g3⟩:=e3 j c H;refine⟨y,g1,?_⟩;have hzz:B9 a G q d Z d=Z 0:=by simp[B9]
     rw [hzz];refine A8.x8 (g2.kept (fun b o u H hf=>⟨H,fun L=>hf ?_⟩) (fun _ _ _=>rfl) BA.rfl') (fun g lo j W=>QF (BT _ _ _) hd R W j);exact l b o L
    |_=>exact r2.elim
  .exact h.elim
 .exact h.elim
theorem mj(C:AN F0 w0 O a w G){x v:Operand}{x' v':AE}{ps:List (Option AR)}(hop:o.op=.store t x v)(hx:AK x x'=true)(hv:AK v v'=true)(hn:Ce P t=some n)(h:(AD.stq n ps x' v').wp S O none K):G7 P F0 w0 a w o K:=by
 simp only[AD.wp]at h;split at h
 .rename_i s off u hp hve;split at h
  .rename_i cs hs;obtain⟨b,W,X⟩:=Gm C hx hp hs;have hr:=AZ C hs (by simp);simp only[AL]at hr;obtain⟨N,c,T,h1,h2,h3,h4,h5⟩:=hr;rw[W]at h1;simp only[Value.pointer.injEq,tn,Addr.mk.injEq,and_true,and_self]at h1;subst h1;have hw:=C.wf s;rw[hs]at hw;have hst:∀(vs:List Value),vs.length=n->(a.eval v).cells.toList=vs->off+n<=c.size->(∀y∈vs,y.oneCell'=true)->(execOp a.eval o).run P w=.ok .skip (w.setRow b (c.toList.take off++vs++c.toList.drop (off+n)).toArray):=by
    intro vs hl I hle ho;have B:=run_storeCells_at P b off T vs 0 c w h2 (by omega) ho;simp only[Nat.add_zero]at B;have hsz:(a.eval v).cells.size=n:=by rw[<-Array.length_toList,I,hl]
    rw [hl]at B;simp[execOp,hop,X,Instr.storeAt,Instr.sureAddr,storeVar,Bv hn,hsz,I,B]
   cases hb:D2 ps u.cells with
   |none=>rw[hb]at h;exact h.elim|some ds=>
    rw [hb]at h;simp only[Ad]at h;obtain⟨hl,Y⟩:=Ma hb;obtain⟨hun,hoff,hnx,hK⟩:=h;have U:=Ar C hv hve;have I:=GD U.1;have D:=A9 I.1;refine⟨_,hst _ (by omega) rfl (by omega) I.2,_,hK,?_⟩
    let zs:Option Nat->Option (Nat×Nat):=fun i=>match i with|none=>some (b,0)|some j=>if off<=j/\j<off+n then none else G s (some j)
    refine C.rebox_n hs W h2 (zs:=zs) rfl ?_ ?_ ?_ ?_ ?_ ?_
    .intro i N lo hi hz;cases i with
     |none=>exact absurd rfl hi|some j=>
      simp only[zs]at hz;split at hz
      .cases hz
      .exact hz
    .intro i i' N lo H r A;have zn:∀j N lo H,zs (some j)=some (N,lo)->zs none=some (N,H)->False:=by
      intro j N lo H r A;simp only[zs,tn,Prod.mk.injEq]at A;obtain⟨rfl,_⟩:=A;simp only[zs]at r;split at r
      .cases r
      .have:=(C.ns _ _ _ _ _ _ _ r h4).2;cases this
     cases i with
     |none=>cases i' with
      |none=>rfl|some j=>exact(zn j _ _ _ A r).elim
     |some j=>cases i' with
      |none=>exact(zn j _ _ _ r A).elim|some j'=>
       simp only[zs]at r A;split at r<;>split at A
       .cases r
       .cases r
       .cases A
       .exact(C.ns _ _ _ _ _ _ _ r A).2
    .simp only[List.size_toArray,bk,cE,List.length_drop,Array.length_toList]at D|-;omega
    .intro F' w' J E R i y l;rw[List.getElem?_toArray];rcases Nat.lt_or_ge i off with M|hge
     .rw[c9,List.getElem?_append_left (by simp;omega),List.getElem?_take_of_lt M]at l;obtain⟨vv,r,A⟩:=h5 i y l;refine⟨vv,?_,?_⟩
      .rw[c9,List.getElem?_append_left (by simp;omega),List.getElem?_take_of_lt M];simpa using r
      .simp only[zs];rw[az (by omega)];exact A.kept J (fun k lo Z=>E k (fun e=>by have:=(C.ns _ _ _ _ _ _ _ (e▸Z) h4).2;cases this)) R
     .rcases Nat.lt_or_ge i (off+n)with M|hge2
      .rw[c9,List.getElem?_append_right (by simp;omega),List.getElem?_append_left (by simp;omega)]at l;simp only[cE]at l;rw[Nat.min_eq_left (by omega)]at l;obtain⟨tt,htt,L⟩:=Y _ _ l;have V:(a.eval v).cells.toList[i-off]?=some ((a.eval v).cells.toList[i-off]'(by omega)):=List.getElem?_eq_getElem (by omega);refine⟨(a.eval v).cells.toList[i-off]'(by omega),?_,?_⟩
       .rw[c9,List.getElem?_append_right (by simp;omega),List.getElem?_append_left (by simp only[cE,Array.length_toList]at D|-;omega)];simp only[cE,Array.length_toList];rw[Nat.min_eq_left (by omega)];exact V
       .have hzi:zs (some i)=none:=by simp only[zs];rw[ae ⟨by omega,by omega⟩]
        have g:=((BQ _ _).1 I.1).2 _ tt _ htt V;rw[hzi];rcases L with rfl|⟨rfl,n',rfl|rfl|rfl⟩
        .exact⟨By J _ _ g,I.2 _ (List.getElem_mem _)⟩
        .simp only[Af]at g;simp only[A8,D1,Bl];exact⟨[],⟨by simp,.inl ⟨g,rfl,rfl⟩⟩,rfl,by simp,by simp⟩
        .simp only[Af]at g;simp only[A8,D1];exact⟨[],⟨none,⟨by simp,.inl ⟨g,rfl,rfl⟩⟩,rfl⟩,rfl,by simp,by simp⟩
        .simp only[Af]at g;simp only[A8,D1];exact⟨[],⟨none,⟨by simp,.inl ⟨g,rfl,rfl⟩⟩,rfl⟩,by simp,by simp⟩
      .rw[List.getElem?_append_right (by simp;omega)]at l;simp only[bk,cE,List.getElem?_drop]at l;rw[Nat.min_eq_left (by omega),show off+n+(i-(off+ds.length))=i from by omega]at l;obtain⟨vv,r,A⟩:=h5 i y l;refine⟨vv,?_,?_⟩
       .rw[List.getElem?_append_right (by simp only[bk,cE,Array.length_toList]at D|-;omega)];simp only[bk,cE,Array.length_toList,List.getElem?_drop]at D|-;rw[Nat.min_eq_left (by omega),show off+n+(i-(off+(a.eval v).cells.size))=i from by omega];simpa using r
       .simp only[zs];rw[az (by omega)];exact A.kept J (fun k lo Z=>E k (fun e=>by have:=(C.ns _ _ _ _ _ _ _ (e▸Z) h4).2;cases this)) R
    .intro y l;rcases List.mem_append.1 l with l|l
     .rcases List.mem_append.1 l with l|l
      .exact hw y (List.mem_of_mem_take l)
      .obtain⟨i,hi⟩:=List.getElem?_of_mem l;obtain⟨tt,ht,L⟩:=Y i y hi;rcases L with rfl|⟨rfl,n',rfl|rfl|rfl⟩
       .exact Bc.1 (Hd U.2) tt (List.mem_of_getElem? ht)
       .simp[TV.WF,TV.tg]
       .simp[TV.WF,TV.tg]
       .simp[TV.WF,TV.tg]
     .exact hw y (List.mem_of_mem_drop l)
    .intro k tx htx Z;exact .inl (AB.noX_all hnx)
  .exact h.elim
 .exact h.elim
theorem AN.takeAll(h:AN F0 w0 O a w G){cs:List AR}(hs:O.get s=.bx cs)(hd:d<a.tmps.size)(hds:d≠s){c:Array Value}{T:TypeId}(Z:slot a s=.pointer (some ⟨b,0,none⟩))(h2:w.heap[b]?=some (.cells c T (0,0))):
  Bg F0 w0 ((d,.yr cs)::(s,.bx (cs.map fun _=>⟨false,.undef⟩))::O) (a.put (some d) (.agg c)) w:=by
 have hsz:s<a.tmps.size:=BU h hs (by simp);have hr:=AZ h hs (by simp);have hw:=h.wf s;rw[hs]at hw;simp only[AL]at hr;obtain⟨J,c',T',l,h2',h3,h4,h5⟩:=hr;rw[Z]at l;simp only[Value.pointer.injEq,tn,Addr.mk.injEq,and_true,and_self]at l;subst l;rw[h2]at h2';cases h2'
 let H:BH:=fun p i=>if p=d then(if i=none then none else G s i)else if p=s/\i≠none then none else G p i
 have M:∀p i J lo,H p i=some (J,lo)->(p=d/\i≠none/\G s i=some (J,lo))\/(p≠d/\¬(p=s/\i≠none)/\G p i=some (J,lo)):=by
  grind
 have hag:BS w w (AW w0.heap.size F0 G) (AW w0.heap.size F0 H):=fun J o v hc hF=>⟨hc,fun hF'=>hF (AW.mono (fun p i b'' lo X=>by
  grind) hF')⟩
 have I:x8 (a.put (some d) (.agg c)) H=x8 a G:=MW (BT _ _ _) fun q hq=>by
  grind
 refine ⟨H,?_,?_,h.below,by rw[EO];exact h.defers,?_,?_,?_⟩
 .intro p i p' i' J lo lo' C Y;rcases M _ _ _ _ C with⟨rfl,n0,f1⟩|⟨n1,n2,f1⟩<;>rcases M _ _ _ _ Y with⟨rfl,m0,f2⟩|⟨m1,m2,f2⟩
  .exact⟨rfl,(h.ns _ _ _ _ _ _ _ f1 f2).2⟩
  .have:=h.ns _ _ _ _ _ _ _ f1 f2;exact absurd ⟨this.1.symm,this.2▸n0⟩ m2
  .have:=h.ns _ _ _ _ _ _ _ f1 f2;exact absurd ⟨this.1,this.2▸m0⟩ n2
  .exact h.ns _ _ _ _ _ _ _ f1 f2
 .intro p i J lo C;rcases M _ _ _ _ C with⟨_,_,C⟩|⟨_,_,C⟩<;>exact h.lt _ _ _ _ C
 .intro p X;rw[BT]at X;rw[AB.d6,az (by omega),AB.d6,az (by omega)];exact h.dom p X
 .intro p X;rw[BT]at X;rw[AB.d6];by_cases A:d=p
  .subst A;rw[ae rfl,CS _ _ _ hd];simp only[AL];refine⟨c,rfl,h3,fun i y D=>?_⟩;obtain⟨v,C,Y⟩:=h5 i y D;refine⟨v,C,?_⟩;have:H d (some i)=G s (some i):=by simp[H]
   rw [this,I];exact Y.kept hag (fun _ _ _=>rfl) BA.rfl'
  .rw[az A,AY _ _ _ _ A,AB.d6];by_cases N:s=p
   .subst N;rw[ae rfl];simp only[AL];refine⟨b,c,T,Z,h2,by simpa using h3,by simp only[H];rw[az (fun e=>A e.symm),az (by simp)];exact h4,fun i y D=>?_⟩;rw[List.getElem?_map]at D;simp only[Option.map_eq_some_iff]at D;obtain⟨y0,hy0,rfl⟩:=D;obtain⟨v,C,Y⟩:=h5 i y0 hy0;exact⟨v,C,GT Y,GT Y⟩
   .rw[az N];refine AL.kept hag (fun i=>by simp only[H];rw[az (fun e=>A e.symm),az (fun e=>N e.1.symm)]) (fun _ _ _ _=>rfl) I BA.rfl' (fun r i k hr⟨E,L⟩=>?_) (fun r off' hr⟨cs',g⟩=>?_) (fun r i hr⟨E,L⟩=>?_) (h.slots p X)
    .have l:=AB.yg (by simp) L;by_cases j:s=r
     .subst j;obtain⟨cs'',V,W⟩:=AB.x3 l.2;rw[AB.d6,ae rfl]at V;simp only[EV.bx.injEq]at V;subst V;rw[List.getElem?_map]at W;cases R:cs[i]? <;>rw[R]at W<;>simp at W
     .have B:O.nat r i=some E:=by rw[<-l.2];exact(AB.yv j).symm
      exact ⟨⟨E,B⟩,h.nh ⟨E,B⟩ (AY _ _ _ _ l.1) (fun _ _ _ _=>rfl)⟩
    .rw[AB.d6]at g;by_cases U:d=r
     .rw[ae U]at g;cases g
     .rw[az U,AB.d6]at g;refine⟨?_,AY _ _ _ _ U⟩;split at g
      .rename_i j;subst j;exact⟨cs,hs⟩
      .exact⟨_,g⟩
    .have l:=AB.t5 (by simp) (by simp) L;by_cases j:s=r
     .subst j;obtain⟨n,es⟩:=E;cases i with
      |none=>have:=AB.x6 l.2;rw[AB.d6,ae rfl]at this;cases this
      |some k=>
       obtain ⟨cs'',V,W⟩:=AB.tl l.2;rw[AB.d6,ae rfl]at V;simp only[EV.bx.injEq]at V;subst V;rw[List.getElem?_map]at W;cases R:cs[k]? <;>rw[R]at W<;>simp at W
     .have B:O.x4 r i=some E:=by rw[<-l.2];exact(AB.yq j).symm
      exact ⟨⟨E,B⟩,h.xv ⟨E,B⟩ (AY _ _ _ _ l.1) (fun _ _=>rfl)⟩
 .intro p;rw[AB.d6];split
  .exact hw
  .rw[AB.d6];split
   .intro y D;simp only[List.mem_map]at D;obtain⟨_,_,rfl⟩:=D;trivial
   .exact h.wf p
theorem mQ(B:AN F0 w0 O a w G)(hd:d<a.tmps.size)(r:o.op=.load t (.tmp s))(I:Br P t=some true)(J:Ce P t=some n)(h:(AD.ldg s n).wp S O (some d) K):At P F0 w0 a w o d K:=by
 simp only[AD.wp]at h;split at h
 .rename_i R cs l C;simp only[tn]at l;subst l;obtain⟨L,A,M⟩:=h;have D:=AZ B C (by simp);simp only[AL]at D;obtain⟨b,c,T,E,H,N,_⟩:=D;have g:=run_loadCells_list (P:=P) w ⟨b,0,none⟩ c.toList (fun j v hv=>by
   have:=cell_of_row w b j c T (0,0) H;rw[show((⟨b,0,none⟩:Addr).add j)=⟨b,j,none⟩by rw[Addr.add_lit,Nat.zero_add],this];simpa using hv)
  rw [Array.length_toList,N,L]at g;refine⟨.agg c,w,?_,_,_,M,B.takeAll C hd A E H⟩;simp[execOp,r,show a.eval (.tmp s)=slot a s from rfl,E,Instr.loadAt,Instr.sureAddr,loadVar,CO I,Bv J,g]
 .exact h.elim
end
end Go.Sf
namespace Go.Sf
open Go.RowKit (Below)
open Go.ChangeMaps (setBlock)
section
variable{P:Program}{S:FuncId->Fq->Al->Prop}{F0:Nat->Nat->Prop}{w0:W0}{O:AB}{a:Act}{w:World}{G:BH}{d:Nat}{o:Oper}{K:EV->AB->Prop}
variable{v:Value}
theorem AN.mxgo(h:AN F0 w0 O a w G){s d:Nat}{m m':MX}(hs:O.get s=.mx m)(hd:d<a.tmps.size){w':World}{z z2:Option (Nat×Nat)}(V:GI (Be a G s) w w')
  (hz:∀b lo,z=some (b,lo)->b<w'.heap.size/\(w.heap.size<=b\/∃p j c,Be a G s p j=some (b,c)/\c<=lo))(hz2:∀b lo,z2=some (b,lo)->b<w'.heap.size/\(w.heap.size<=b\/∃p j c,Be a G s p j=some (b,c)/\c<=lo))
  (C:∀b lo c,z=some (b,lo)->z2≠some (b,c))(hw:m'.WF)
  (D:∀g,BS w w' (AW w0.heap.size F0 G) g->Uk w' g z z2 m' v):
  ∃W,AN F0 w0 ((d,.mx m')::(s,.undef)::O) (a.put (some d) v) w' W/\BS w w' (AW w0.heap.size F0 G) (AW w0.heap.size F0 W):=by
 have R:s<a.tmps.size:=BU h hs (by simp)
 let Z:DB:=fun p i=>if p=0 then(if i=none then z else if i=some 0 then z2 else none)else none
 have Y:∀p i b lo,Z p i=some (b,lo)->p=0/\((i=none/\z=some (b,lo))\/(i=some 0/\z2=some (b,lo))):=by
  grind
 have l:∀p i b lo,Z p i=some (b,lo)->b<w'.heap.size/\(w.heap.size<=b\/∃p j c,Be a G s p j=some (b,c)/\c<=lo):=by
  grind
 have r:∀g:Nat->Nat->Prop,(∀b o,g b o->(b<w.heap.size/\AW w0.heap.size F0 G b o/\¬ZF (Be a G s) b o)\/ZF Z b o)->BS w w' (AW w0.heap.size F0 G) g:=by
  intro g A b o u X hf;have hlt:b<w.heap.size:=World.block_lt_of_cell? w ⟨b,o,none⟩ X;have H:¬ZF (Be a G s) b o:=fun⟨q,i,lo,h1,h2⟩=>by
   obtain ⟨p,j,B,_⟩:=B2 h1;exact hf (.inr ⟨p,j,lo,B,h2⟩)
  refine ⟨V.cell b o u H X,fun J=>?_⟩;rcases A b o J with⟨_,e,_⟩|⟨p,j,lo,e3,e4⟩
  .exact hf e
  .rcases(l _ _ _ _ e3).2 with e5|⟨p2,j2,U,e5,e6⟩
   .omega
   .exact H ⟨p2,j2,U,e5,Nat.le_trans e6 e4⟩
 have key:=h.zg (s:=s) (d:=d) (Z:=Z) (w':=w') (env':=(d,.mx m')::(s,.undef)::O) (a':=a.put (some d) v) R hd V (BT _ _ _) (EO _ _ _) ?_ l ?_ ?_ ?_ ?_ ?_ (.inr (.inr ⟨fun cs=>by rw[AB.d6,ae rfl];simp,fun n es=>by rw[AB.d6,ae rfl];simp⟩)) ?_
 .exact⟨_,key.1,r _ key.2⟩
 .intro p i p' i' b lo c M N;obtain⟨rfl,B⟩:=Y _ _ _ _ M;obtain⟨rfl,I⟩:=Y _ _ _ _ N;refine⟨rfl,?_⟩;rcases B with⟨rfl,B⟩|⟨rfl,B⟩<;>rcases I with⟨rfl,I⟩|⟨rfl,I⟩
  .rfl
  .exact absurd I (C _ _ _ B)
  .exact absurd B (C _ _ _ I)
  .rfl
 .intro p E;rw[AB.d6,az (by omega),AB.d6,az (by omega)];exact h.dom p E
 .intro p;rw[AB.d6];split
  .exact hw
  .rw[AB.d6];split
   .trivial
   .exact h.wf p
 .exact fun p E _=>AY _ _ _ _ (fun e=>E e.symm)
 .exact fun p E L=>by rw[AB.d6,az (fun e=>E e.symm),AB.d6,az (fun e=>L e.symm)]
 .exact fun e=>by rw[AB.d6,az (fun e'=>e e'.symm),AB.d6,ae rfl]
 .intro g A;rw[AB.d6,ae rfl,CS _ _ _ hd];have T:B9 a G s d Z d=Z 0:=by simp[B9]
  simp [AL];rw[T];have M:Z 0 none=z:=by simp[Z]
  have N:Z 0 (some 0)=z2:=by simp[Z]
  rw [M,N];exact D g (r g A)
variable{b:Nat}
theorem SX{g o:Obj}(h:w.heap[b]?=some g):(setBlock w b o).heap[b]?=some o/\∀k,k≠b->(setBlock w b o).heap[k]?=w.heap[k]?:=by
 have c:b<w.heap.size:=(Array.getElem?_eq_some_iff.1 h).1;refine⟨by simp[setBlock,c],fun k j=>?_⟩;simp[setBlock]
 grind
variable{p:Nat}{i:Option Nat}
theorem Tn{Z:DB}{c:World}(g:c.heap=w.heap/\c.os=w.os/\c.tape=w.tape/\c.output=w.output)(l:Z p i=some (b,0)){o r:Obj}(h:w.heap[b]?=some r):GI Z w (setBlock c b o):=by
 obtain ⟨j,C,D,E⟩:=g;have hh:=SX (w:=c) (o:=o) (by rw[j];exact h);refine⟨C,D,E,by simp[setBlock,j],fun k _ H=>?_,fun k q u A I=>?_⟩
 .grind
 .have B:k≠b:=fun e=>A ⟨p,i,0,by rw[e];exact l,Nat.zero_le _⟩
  grind [World.cell?_of_block]
variable{t:TypeId}
theorem mV(g:AN F0 w0 O a w G)(hd:d<a.tmps.size)(c:o.op=.makeMap t none)(h:AD.mkm.wp S O (some d) K):At P F0 w0 a w o d K:=by
 simp [AD.wp]at h;replace h:=h w.heap.size;have r:Below w.heap.size w (w.alloc (.map #[] 0)):=(Below.refl _ _).alloc (b6 _) _;refine⟨.map (some w.heap.size),w.alloc (.map #[] 0),?_,_,_,h,_,g.quiet r d hd (.mx (.mp w.heap.size [])) _ (fun i=>if i=none then some (w.heap.size,0)else none) (fun i b lo hi=>?_) (fun i A b lo j B C=>?_) (by simp) ?_ (by intro p l;cases l)⟩
 .simp[execOp,c,Instr.makeMap,newObj,Sem.run]
 .split at hi
  .simp at hi;rw[<-hi.1];exact⟨b6 _,by simp⟩
  .cases hi
 .grind
 .simp[AL,Bs];exact⟨rfl,rfl,#[],0,heap_alloc_new w _,rfl,by simp,by simp⟩
variable{s:Nat}
theorem bP(r:AN F0 w0 O a w G)(hd:d<a.tmps.size)(c:o.op=.move (.tmp s)\/o.op=.assign (.tmp s))(h:(AD.mvm s).wp S O (some d) K):At P F0 w0 a w o d K:=by
 have j:(execOp a.eval o).run P w=.ok (.value (slot a s)) w:=by rcases c with c|c<;>simp[execOp,c,show a.eval (.tmp s)=slot a s from rfl]
 have C:∀g:Fq,(∃vs,slot a s=.tuple vs/\AP w (AW w0.heap.size F0 G) g vs.toList)->TV.tg g->K (.tp g) O->At P F0 w0 a w o d K:=by
  rintro g ⟨vs,E,H⟩ B J;refine⟨_,w,j,_,_,J,⟨_,r.quiet (Below.refl _ _) d hd (.tp g) _ (fun _=>none) (by simp) (by simp) (by simp) ?_ B⟩⟩;simp[AL];exact⟨vs,E,Aj (KD (Below.refl _ _) d _ (by simp)) _ _ H⟩
 simp [AD.wp]at h;split at h
 .rename_i b D A;have l:=AZ r A (by simp);simp[AL]at l;exact CL r hd (t:=.zE b) j (by simp[Af];exact l.1) trivial h
 .rename_i b D g A;have l:=AZ r A (by simp);have B:=r.wf s;rw[A]at B;simp[AL]at l;obtain⟨vs,E,H,L,I⟩:=l;exact C (.zE b::g) ⟨_,E,⟨_,_,rfl,by simp[Af],I⟩⟩ ⟨trivial,B.2⟩ h
 .rename_i g A;have l:=AZ r A (by simp);have B:=r.wf s;rw[A]at B;simp[AL]at l;exact C _ l B h
 .exact h.elim
variable{f:FuncId}{ats:Array TypeId}{Q:Exit->Act->World->Prop}
theorem fi(r:AN F0 w0 O a w G)(hd:d<a.tmps.size)(g:o.dst=some d){xs:Array Operand}{ys:List AE}(C:o.op=.call {callee:=.value (.func f),args:=xs,argTypes:=ats})(D:BO xs.toList ys=true)(h:(AD.zm f ys).wp (AX P) O (some d) K)
  {next:Act->World->Prop}(N:∀e env' a' w',K e env'->QS a d a'->Bg F0 w0 ((d,e)::env') a' w'->next a' w'):o.wp P a w next Q:=by
 simp only[AD.wp]at h;cases l:vals O ys with
 |none=>rw[l]at h;exact h.elim|some ts=>
  rw [l]at h;simp only[Ad]at h;have hv:=FM r D l;have j:(execOp a.eval o).run P w=(callFunc f (xs.map a.eval)).run P w:=by simp[execOp,C,resolve,Act.eval,Deferred.ofValue,invoke]
  rcases h with⟨L,E,M⟩|⟨A,L,E,M⟩
  .exact XM r hd g (vs:=xs.map a.eval) j ⟨E,rfl⟩ hv.2 (by simpa using hv.1) M N
  .obtain⟨Z,I⟩:=(E:V6 P f ts (.mpr A L)) hv.2;obtain⟨W,I⟩:=I _ w (xs.map a.eval) (by simpa using hv.1) r.below.now;unfold Oper.wp;rw[j,EL Z _,Oper.upon_enter];refine I.mono ?_;rintro e w' ⟨v,rfl,hb,b,vs,k1,k2,k3,X,k5⟩;simp[g];refine N _ _ _ _ (M W b) ⟨_,rfl⟩ ⟨_,r.quiet hb d hd (.mx (.tm b A L)) v (fun i=>if i=none then some (b,0)else none) (fun i R lo hi=>?_) (fun i i' R lo Y B T=>?_) (by simp) ?_ W⟩
   .split at hi
    .simp at hi;rw[<-hi.1];exact⟨k2,k3⟩
    .cases hi
   .split at B
    .split at T
     .simp_all
     .cases T
    .cases B
   .simp[AL,Bs];refine⟨vs,k1,rfl,X,Aj (fun R o u U hf=>⟨U,fun H=>?_⟩) _ _ k5⟩;rcases H with c|⟨p,i,lo,c,h7⟩
    .exact hf ⟨Nat.lt_of_lt_of_le c.1 r.below.size,.inl c⟩
    .by_cases V:p=d
     .subst V;rw[Bs]at c;split at c
      .simp at c;obtain⟨rfl,_⟩:=c;obtain⟨es,J,B,_⟩:=X;simp[World.cell?,B]at U
      .cases c
     .rw[BC _ _ _ _ V]at c;exact hf ⟨(r.lt _ _ _ _ c).1,.inr ⟨p,i,lo,c,h7⟩⟩
def PU(P:Program)(t:TypeId):Bool:=
 match P.underlying t with
 |some (.map k e)=>Np P (.a [0,0]) k&&(match P.underlying k with
  |some (.struct fs)=>(match fs.toList with
   |[f,g]=>Br P f.type==some false&&Br P g.type==some false&&f.offset==0&&g.offset==1&&(match P.underlying f.type with|some (.int _)=>true|_=>false)&&(match P.underlying g.type with|some (.int _)=>true|_=>false)
   |_=>false)
  |_=>false)&&(match P.info? e with|some i=>(match i.zero with|some (.int .i64 0)=>true|_=>false)|none=>false)
 |_=>false
variable{F:Nat->Nat->Prop}
theorem Sa(k:Int×Int):Af w F (RT k) (EJ k):=by
 simp only[RT,Af,EJ];refine⟨_,rfl,?_,rfl⟩;simp only[AP];exact⟨_,_,rfl,rfl,_,_,rfl,rfl,rfl⟩
variable{k:Int×Int}
theorem bA(h:Af w F (RT k) v):v=EJ k:=by
 simp [RT,Af]at h;obtain⟨vs,rfl,h,_⟩:=h;simp only[AP]at h;obtain⟨x,r,A,c,y,B,j,g,l⟩:=h;simp[Af]at c g;subst c g;subst l;subst j;unfold EJ;congr 1
 grind
theorem cu{t:TV}(h:t.AaJ?=some k):t=RT k:=by
 unfold TV.AaJ? at h;split at h
 .cases h;rfl
 .cases h
theorem Yp(g:Np P (.a [0,0]) t=true)(x y:Int×Int):(Op.equal t (EJ x) (EJ y)).run P w=.ok (decide (x=y)) w:=by
 obtain ⟨xs,ys,h,j,_,c⟩:=Vm (P:=P) (w:=w) (op:=.eql) (x:=.tmp 0) (y:=.tmp 0) (F:=fun _ _=>False) (cs:=[.int .i64 x.1,.int .i64 x.2]) (ds:=[.int .i64 y.1,.int .i64 y.2]) (q:=decide (x=y)) rfl g (Sa x) (Sa y) (by
  simp [B1]
  grind)
 rw [<-h,<-j]at c;exact c
theorem R1(B:Np P (.a [0,0]) t=true)(k:Int×Int):∀(L:List MapEntry)(c:BM)(i:Nat),L.map (fun e=>(e.key,e.val))=c.map (fun p=>(EJ p.1,Value.int .i64 p.2)) ->
  (c.look k=none/\(Instr.findAsking t (EJ k) L i).run P w=.ok none w/\∀n,c.set k n=c++[(k,n)])\/
  ∃j n e,c.look k=some n/\(Instr.findAsking t (EJ k) L i).run P w=.ok (some (i+j,.int .i64 n)) w/\L[j]?=some e/\e.key=EJ k/\∀m,c.set k m=List.set c j (k,m)
 |[],c,i,h=>by
  have:c=[]:=by simpa using h.symm
  subst this;exact .inl ⟨rfl,by simp[Instr.findAsking],fun n=>rfl⟩
 |e::L,[],i,h=>by simp at h|e::L,p::c,i,h=>by
  simp at h;obtain⟨⟨C,D⟩,E⟩:=h;by_cases g:p.1=k
  .refine .inr ⟨0,p.2,e,by simp[BM.look,g],?_,rfl,by rw[C,g],fun m=>by simp[BM.set,g]⟩;have:(Op.equal t (EJ k) e.key).run P w=.ok true w:=by rw[C,Yp B];simp[g]
   simp [Instr.findAsking,this,D]
  .have he:(Op.equal t (EJ k) e.key).run P w=.ok false w:=by
    grind [Yp]
   rcases R1 B k L c (i+1) E with⟨l,r,A⟩|⟨j,n,H,l,r,A,I,J⟩
   .exact .inl ⟨by simp[BM.look,g,l],by simp[Instr.findAsking,he,r],fun n=>by simp[BM.set,g,A]⟩
   .refine .inr ⟨j+1,n,H,by simp[BM.look,g,l],?_,by simpa using A,I,fun m=>by simp[BM.set,g,J]⟩;simp[Instr.findAsking,he,r];omega
theorem VN(r:Np P (.a [0,0]) t=true)(A:∃fs,P.underlying t=some (.struct fs))(k:Int×Int)(L:List MapEntry)(c:BM)(h:L.map (fun e=>(e.key,e.val))=c.map (fun p=>(EJ p.1,Value.int .i64 p.2))):
  (c.look k=none/\(Instr.findKey t (EJ k) L).run P w=.ok none w/\∀n,c.set k n=c++[(k,n)])\/
  ∃j n e,c.look k=some n/\(Instr.findKey t (EJ k) L).run P w=.ok (some (j,.int .i64 n)) w/\L[j]?=some e/\e.key=EJ k/\∀m,c.set k m=List.set c j (k,m):=by
 obtain ⟨fs,l⟩:=A;cases L with
 |nil=>
  have:c=[]:=by simpa using h.symm
  subst this;exact .inl ⟨rfl,by simp[Instr.findKey,run_underlying l,Instr.findNow],fun n=>rfl⟩
 |cons e L=>
  have B:(Instr.findKey t (EJ k) (e::L)).run P w=(Instr.findAsking t (EJ k) (e::L) 0).run P w:=by
   simp [Instr.findKey,run_underlying l,Instr.findNow,Instr.sameNow]
  rw [B];rcases R1 (w:=w) r k (e::L) c 0 h with g|⟨j,n,C,D,E,H⟩
  .exact .inl g
  .exact .inr ⟨j,n,C,D,by rw[E,Nat.zero_add],H⟩
theorem UX{t k e:TypeId}(hok:PU P t=true)(ht:P.underlying t=some (.map k e))(x:Int×Int)(b:Bool):(Instr.checkKey b 10000 k (EJ x)).run P w=.ok () w:=by
 unfold PU at hok;rw[ht]at hok;simp at hok;obtain⟨⟨_,h2⟩,_⟩:=hok;split at h2
 .rename_i fs hu;split at h2
  .rename_i f g hfs;simp at h2;obtain⟨⟨⟨⟨⟨h3,h4⟩,h5⟩,h6⟩,h7⟩,h8⟩:=h2;have hi1:∃q,P.underlying f.type=some (.int q):=by
    grind
   have hi2:∃q,P.underlying g.type=some (.int q):=by
    grind
   obtain ⟨q1,hi1⟩:=hi1;obtain⟨q2,hi2⟩:=hi2;have hfs':fs=#[f,g]:=by apply Array.ext';simpa using hfs
   subst hfs';have p1:(part f.type #[.int .i64 x.1,.int .i64 x.2] f.offset).run P w=.ok (.int .i64 x.1) w:=by
    simp [part,CO h3,h5]
   have p2:(part g.type #[.int .i64 x.1,.int .i64 x.2] g.offset).run P w=.ok (.int .i64 x.2) w:=by
    simp [part,CO h4,h6]
   have c1:∀n y,(Instr.checkKey b (n+1) f.type (.int .i64 y)).run P w=.ok () w:=fun n y=>by
    simp [Instr.checkKey,run_underlying hi1]
   have c2:∀n y,(Instr.checkKey b (n+1) g.type (.int .i64 y)).run P w=.ok () w:=fun n y=>by
    simp [Instr.checkKey,run_underlying hi2]
   show (Instr.checkKey b (9999+1) k (.agg #[.int .i64 x.1,.int .i64 x.2])).run P w=.ok () w;have d1:=c1 9998 x.1;have d2:=c2 9998 x.2;rw[Instr.checkKey];by_cases n1:f.name= "_" <;>by_cases n2:g.name= "_" <;>simp[run_underlying hu,n1,n2,p1,p2,d1,d2]
  .cases h2
 .cases h2
variable{m x:Operand}
theorem mX(B:AN F0 w0 O a w G)(hd:d<a.tmps.size){m' y:AE}(N:o.op=.lookup t m x true)(c:PU P t=true)(hm:AK m m'=true)(hx:AK x y=true)(h:(AD.mlk s m' y).wp S O (some d) K):At P F0 w0 a w o d K:=by
 simp [AD.wp]at h;split at h
 .rename_i b r b' u Y g hu;obtain⟨rfl,h⟩:=h;have g:=(Ar B hm g).1;simp[Af]at g;cases U:u.AaJ? with
  |none=>rw[U]at h;exact h.elim|some k=>
   rw [U]at h;simp[Ad]at h;have hv:=(Ar B hx hu).1;rw[cu U]at hv;have hv:=bA hv;have Z:=AZ B Y (by simp);have C:=B.wf s;rw[Y]at C;simp[AL]at Z;obtain⟨_,e2,es,W,e3,e4,_⟩:=Z;have e1:=g;have E:=c;unfold PU at c;split at c
   .rename_i kt et R;simp at c;obtain⟨⟨h1,h2⟩,L⟩:=c;have H:∃fs,P.underlying kt=some (.struct fs):=by
     grind
    have A:(zeroValue et).run P w=.ok (.int .i64 0) w:=by
     split at L
     .rename_i i hi;split at L
      .rename_i hz;simp[zeroValue,typeInfo,hi,hz]
      .cases L
     .cases L
    have I:=UX (P:=P) (w:=w) E R k es.isEmpty;have V:∀n,r.look k=some n->(TV.int .i64 n).WF:=by
     intro n T;have:∀l:BM,BM.WF l->l.look k=some n->(TV.int .i64 n).WF:=by
      intro l
      induction l with
      |nil=>intro _ h;cases h
      |cons p l ih=>
       intro C h;simp[BM.look]at h;split at h
       .cases h;exact(C p (by simp)).2.2
       .exact ih (fun q hq=>C q (by simp[hq])) h
     exact this r C T
    have J:∀(n:Int)(q:Bool),(TV.int .i64 n).WF->(Instr.lookup t (a.eval m) (EJ k) true).run P w=.ok (.tuple #[.int .i64 n,.bool q]) w->K (.tp [.int .i64 n,.bool q]) O->At P F0 w0 a w o d K:=by
     intro n q T D hK;refine⟨.tuple #[.int .i64 n,.bool q],w,?_,_,_,hK,_,B.quiet (Below.refl _ _) d hd (.tp [.int .i64 n,.bool q]) _ (fun _=>none) (by simp) (by simp) (by simp) ?_ ⟨T,trivial,trivial⟩⟩
     .simp[execOp,N,hv,D]
     .simp only[AL];exact⟨_,rfl,_,_,rfl,rfl,_,_,rfl,rfl,rfl⟩
    rcases VN (w:=w) h1 H k es.toList r e4 with⟨M,X,_⟩|⟨j,n,e,M,X,_⟩
    .rw[M]at h;refine J 0 false ⟨by decide,by decide⟩ ?_ h;simp[Instr.lookup,run_underlying R,e1,MapKept.run_getObj_map e3,I,X,A]
    .rw[M]at h;refine J n true (V n M) ?_ h;simp[Instr.lookup,run_underlying R,e1,MapKept.run_getObj_map e3,I,X]
   .cases c
 .exact h.elim
theorem BM.set_wf{g:BM}{n:Int}(h:BM.WF g)(A:(TV.int .i64 k.1).WF/\(TV.int .i64 k.2).WF)(B:(TV.int .i64 n).WF):BM.WF (g.set k n):=by
 induction g with
 |nil=>
  intro p c
  grind [BM.set,List.mem_singleton]
 |cons q l r=>
  intro p c;simp[BM.set]at c;split at c
  .rcases List.mem_cons.1 c with rfl|c
   .grind
   .exact h p (by simp[c])
  .rcases List.mem_cons.1 c with rfl|c
   .exact h p (by simp)
   .exact r (fun x j=>h x (by simp[j])) p c
theorem Y5(k:Int×Int):Instr.sameBits 10000 (EJ k) (EJ k)=true:=by
 show Instr.sameBits (9999+1) (.agg #[.int .i64 k.1,.int .i64 k.2]) (.agg #[.int .i64 k.1,.int .i64 k.2])=true;simp[Instr.sameBits]
theorem ma(C:AN F0 w0 O a w G){m x v:Operand}{m' y u:AE}(T:o.op=.mapUpdate t m x v)(A:PU P t=true)(hm:AK m m'=true)(D:AK x y=true)(hv:AK v u=true)(h:(AD.mup s m' y u).wp S O none K):G7 P F0 w0 a w o K:=by
 simp [AD.wp]at h;split at h
 .rename_i b E b' tx hs H hu;split at h
  rotate_left
  .exact h.elim
  rename_i n hn;obtain⟨rfl,h⟩:=h;have H:=(Ar C hm H).1;simp[Af]at H;cases hk:tx.AaJ? with
  |none=>rw[hk]at h;exact h.elim|some k=>
   rw [hk]at h;simp[Ad]at h;have l:=Ar C D hu;rw[cu hk]at l;have hkw:(TV.int .i64 k.1).WF/\(TV.int .i64 k.2).WF:=⟨l.2.1,l.2.2.1⟩;have l:=bA l.1;have B:=Ar C hv hn;have hnw:=B.2;have B:=B.1;simp[Af]at B;have L:s<a.tmps.size:=BU C hs (by simp);have hr:=AZ C hs (by simp);have hw:=C.wf s;rw[hs]at hw;simp[AL]at hr;obtain⟨e0,e2,es,r,e3,e4,e5,e6⟩:=hr;have e1:=H;have U:=A;unfold PU at A;split at A
   .rename_i kt et ht;simp at A;obtain⟨⟨h1,h2⟩,h3⟩:=A;have V:∃fs,P.underlying kt=some (.struct fs):=by
     grind
    have W:=UX (P:=P) (w:=w) U ht k false;have X:∀J:Obj,(execOp a.eval o).run P w=.ok .skip (setBlock w b J)->(∃es' c,J=.map es' c/\es'.toList.map (fun e=>(e.key,e.val))=(E.set k n).map (fun p=>(EJ p.1,Value.int .i64 p.2))/\es'.toList.Pairwise (fun x y=>x.born<y.born)/\∀e∈es'.toList,e.born<c)->G7 P F0 w0 a w o K:=by
     rintro J hrun ⟨es',c,rfl,f1,f2,f3⟩;have hb:GI (Be a G s) w (setBlock w b (.map es' c)):=Tn ⟨rfl,rfl,rfl,rfl⟩ (p:=0) (i:=none) (by rw[Cy];exact e2) e3;have M:AB.get ((s,EV.mx (.mp b (E.set k n)))::O) s=.mx (.mp b (E.set k n)):=by rw[AB.d6,ae rfl]
     have hi2:=C.zg (s:=s) (d:=s) (Z:=Be a G s) (w':=setBlock w b (.map es' c)) (env':=(s,.mx (.mp b (E.set k n)))::O) (a':=a) L L hb rfl rfl (JW C L) (fun q i b lo hq=>⟨?_,.inr ⟨q,i,lo,hq,b6 _⟩⟩) (fun p hp=>by rw[AB.d6,az (by omega)];exact C.dom p hp) (fun p=>?_) (fun _ _ _=>rfl) (fun p hp _=>by rw[AB.d6,az (fun e=>hp e.symm)]) (fun e=>absurd rfl e) (.inr (.inr ⟨fun cs=>by rw[M];simp,fun n es=>by rw[M];simp⟩)) (fun F' hF'=>?_)
     .exact⟨_,hrun,_,h,_,hi2.1⟩
     .obtain⟨p,j,g1,_⟩:=B2 hq;exact Nat.lt_of_lt_of_le (C.lt _ _ _ _ g1).1 hb.size
     .rw[AB.d6];split
      .exact BM.set_wf hw hkw hnw
      .exact C.wf p
     .rw[M];have hzd:B9 a G s s (Be a G s) s=G s:=by simp[B9,Cy]
      simp [AL,hzd];exact⟨e0,e2,es',c,(SX e3).1,f1,f2,f3⟩
    have I:∀J,(setObj b J).run P w=.ok () (setBlock w b J):=fun J=>by simp[setObj,Sem.run,e3,setBlock]
    rcases VN (w:=w) h1 V k es.toList E e4 with⟨g1,g2,g3⟩|⟨j,m,e,g1,g2,g3,g4,g5⟩
    .refine X (.map (es.push {key:=EJ k,val:=.int .i64 n,born:=r}) (r+1)) ?_ ⟨_,_,rfl,?_,?_,?_⟩
     .simp[execOp,T,l,B,Instr.mapUpdate,run_underlying ht,e1,MapKept.run_getObj_map e3,W,g2,I]
     .rw[g3];simp[e4]
     .simp;rw[List.pairwise_append];refine⟨e5,by simp,fun x D y hy=>?_⟩;simp at hy;subst hy;exact e6 x D
     .intro x D;simp only[Array.toList_push,List.mem_append,List.mem_singleton]at D;rcases D with D|rfl
      .have:=e6 x D;omega
      .simp
    .have hjl:j<es.size:=by have:=(List.getElem?_eq_some_iff.1 g3).1;simpa using this
     have Y:es[j]?=some e:=by rw[<-Array.getElem?_toList];exact g3
     refine X (.map (es.modify j fun e=>{e with key:=EJ k,val:=.int .i64 n}) r) ?_ ⟨_,_,rfl,?_,?_,?_⟩
     .simp[execOp,T,l,B,Instr.mapUpdate,run_underlying ht,e1,MapKept.run_getObj_map e3,W,g2,I,Y,g4,Instr.keyThatStays,Y5]
     .rw[g5,List.map_set,<-e4];rw[Array.toList_modify];apply List.ext_getElem?;intro i;simp only[List.getElem?_map,List.getElem?_modify,List.getElem?_set,c8,Array.length_toList];by_cases g:j=i
      .subst g;rw[ae rfl,ae hjl];simp[Y]
      .rw[az g];simp[g]
     .rw[Array.toList_modify];rw[<-List.pairwise_map (f:=fun e:MapEntry=>e.born) (R:=fun x y=>x<y)]at e5|-;have:(es.toList.modify j fun e=>{e with key:=EJ k,val:=.int .i64 n}).map (fun e:MapEntry=>e.born)=es.toList.map (fun e:MapEntry=>e.born):=by
       apply List.ext_getElem?;intro i;simp only[List.getElem?_map,List.getElem?_modify];cases es.toList[i]? with
       |none=>rfl|some e=>by_cases g:j=i<;>simp[g]
      rw [this];exact e5
     .intro x D;rw[Array.toList_modify]at D;obtain⟨i,hi⟩:=List.getElem?_of_mem D;rw[List.getElem?_modify]at hi;cases N:es.toList[i]? with
      |none=>rw[N]at hi;cases hi
      |some e0=>
       rw [N]at hi;have:=e6 e0 (List.mem_of_getElem? N);by_cases g:j=i
       .simp[g]at hi;rw[<-hi];exact this
       .simp[g]at hi;rw[<-hi];exact this
   .cases A
 .exact h.elim
theorem mZ(g:AN F0 w0 O a w G)(hd:d<a.tmps.size){m':AE}{t k e:TypeId}(B:o.op=.range t m)(U:AK m m'=true)(V:P.underlying t=some (.map k e))(h:(AD.x7 s m').wp S O (some d) K):At P F0 w0 a w o d K:=by
 simp [AD.wp]at h;split at h
 .rename_i d' b j us D l E H;simp at l;subst l;obtain⟨⟨hds,rfl⟩,hK⟩:=h;have L:=(Ar g U H).1;simp[Af]at L;have M:=AZ g E (by simp);have N:=g.wf s;rw[E]at N;simp[AL]at M;obtain⟨vs,e0,R,⟨es,c,T,e4,e5,e6⟩,_⟩:=M;have r:Below w.heap.size w (w.alloc (.mapIter (some b) c #[] c)):=(Below.refl _ _).alloc (b6 _) _;have A:=(g.lt _ _ _ _ R).1;have key:∀{C:Nat->Nat->Prop},Uk (w.alloc (.mapIter (some b) c #[] c)) C (some (w.heap.size,0)) (some (b,0)) (.mi none j) (.pointer (some ⟨w.heap.size,0,none⟩)):=by
   intro C;refine⟨_,b,rfl,rfl,rfl,es,c,c,c,#[],by rw[r.block b A];exact T,heap_alloc_new w _,e5,e6,b6 _,b6 _,by simp,?_⟩;have:(es.toList.filter fun e=>!(#[]:Array Nat).contains e.born)=es.toList:=by simp
   rw [this,e4]
  obtain ⟨G',I,_⟩:=g.mxgo (m':=.mi none j) (v:=.pointer (some ⟨w.heap.size,0,none⟩)) (w':=w.alloc (.mapIter (some b) c #[] c)) E hd (z:=some (w.heap.size,0)) (z2:=some (b,0)) ⟨rfl,rfl,rfl,r.size,fun k W _=>r.block k W,fun b o u _ J=>by
     rw [r.cell (p:=⟨b,o,none⟩) (World.block_lt_of_cell? w ⟨b,o,none⟩ J)];exact J⟩ (fun D lo e=>by
     simp at e;rw[<-e.1];exact⟨by simp,.inl (b6 _)⟩) (fun D lo e=>by
     simp at e;obtain⟨rfl,rfl⟩:=e;exact⟨Nat.lt_of_lt_of_le A r.size,.inr ⟨0,none,0,by rw[Cy];exact R,b6 _⟩⟩) (fun D lo X f1 f2=>by
     grind) ⟨by intro p Z;simp at Z,N.1⟩ fun C Y=>key
  exact ⟨_,_,by simp[execOp,B,L,run_range_map w t k e b es c V T],_,_,hK,G',I⟩
 .exact h.elim
theorem bl{L:List MapEntry}(c:L.Pairwise (fun x y=>x.born<y.born)){e:MapEntry}(he:e∈L):L.Perm (e::L.filter fun x=>!(x.born==e.born)):=by
 induction L with
 |nil=>cases he
 |cons x L h=>
  rw [List.pairwise_cons]at c;rcases List.mem_cons.1 he with rfl|he
  .have:L.filter (fun x=>!(x.born==e.born))=L:=by
    grind [List.filter_eq_self]
   rw [List.filter_cons_of_neg (by simp),this]
  .have g:¬x.born=e.born:=by have:=c.1 e he;omega
   rw [List.filter_cons_of_pos (by simp[g])];exact((h c.2 he).cons x).trans (List.Perm.swap _ _ _)
theorem mY(D:AN F0 w0 O a w G)(hd:d<a.tmps.size)(V:o.op=.next (.tmp s) false)(h:(AD.mnx s).wp S O (some d) K):At P F0 w0 a w o d K:=by
 simp only[AD.wp]at h;split at h
 .rename_i d' last A W hs;simp at W;subst W;obtain⟨hds,hK0,hK1⟩:=h;have L:s<a.tmps.size:=BU D hs (by simp);have hr:=AZ D hs (by simp);have hw:=D.wf s;rw[hs]at hw;simp[AL]at hr;obtain⟨r,b,e1,e2,e3,es,g,l,c0,c,f1,f2,f3,f4,f5,f6,f7,f8⟩:=hr;have M:(leftOf es c).toList=es.toList.filter fun e=>!c.contains e.born:=by
   simp [leftOf]
  rcases run_next_at (P:=P) w o.type r b l c0 c es g f2 f1 f4 f5 with⟨h0,C⟩|⟨e,he,T,hal,C⟩
  .have:A=[]:=by
    have h1:(es.toList.filter fun e=>!c.contains e.born)=[]:=by
     grind
    rw [h1]at f8;have:=f8.length_eq
    grind
   refine ⟨.tuple #[.bool false],w,?_,_,_,hK0 this,_,D.quiet (Below.refl _ _) d hd (.tp [.bool false]) _ (fun _=>none) (by simp) (by simp) (by simp) ?_ ⟨trivial,trivial⟩⟩
   .simp[execOp,V,show a.eval (.tmp s)=slot a s from rfl,e1,C]
   .simp only[AL];exact⟨_,rfl,_,_,rfl,rfl,rfl⟩
  .rw[M]at he;have hes:e∈es.toList:=(List.mem_filter.1 he).1;have hns:c.contains e.born=false:=by simpa using(List.mem_filter.1 he).2
   have hpw:(es.toList.filter fun e=>!c.contains e.born).Pairwise (fun x y=>x.born<y.born):=f3.sublist List.filter_sublist;have X:=bl hpw he;have hff:(es.toList.filter fun e=>!c.contains e.born).filter (fun x=>!(x.born==e.born))=es.toList.filter fun x=>!(c.push e.born).contains x.born:=by
    rw [List.filter_filter];congr 1;funext x;rw[contains_push];cases c.contains x.born<;>cases(x.born==e.born)<;>rfl
   rw [hff]at X;have I:=(X.map (fun e:MapEntry=>(e.key,e.val))).symm.trans f8;have Y:(e.key,e.val)∈A.map (fun p=>(EJ p.1,Value.int .i64 p.2)):=I.mem_iff.1 (by simp);obtain⟨p,U,B⟩:=List.mem_map.1 Y;simp at B;have hpt:=List.perm_cons_erase U;have hpm3:((es.toList.filter fun x=>!(c.push e.born).contains x.born).map (fun e=>(e.key,e.val))).Perm ((A.erase p).map (fun p=>(EJ p.1,Value.int .i64 p.2))):=by
    have h5:=I.trans (hpt.map (fun p=>(EJ p.1,Value.int .i64 p.2)));simp only[List.map_cons,B]at h5;exact h5.cons_inv
   have N:T.heap=w.heap/\T.os=w.os/\T.tape=w.tape/\T.output=w.output:=by
    rcases hal with rfl|rfl<;>exact⟨rfl,rfl,rfl,rfl⟩
   have hr1:T.heap[r]?=some (.mapIter (some b) l c c0):=by rw[N.1];exact f2
   have hbz:GI (Be a G s) w (setBlock T r (.mapIter (some b) l (c.push e.born) g)):=Tn N (p:=0) (i:=none) (by rw[Cy];exact e2) f2;have R:AB.get ((s,EV.mx (.mi (some p) (A.erase p)))::O) s=.mx (.mi (some p) (A.erase p)):=by rw[AB.d6,ae rfl]
   have hrb:b≠r:=fun e=>by
    have:=(D.ns _ _ _ _ _ _ _ e2 (e▸e3)).2;cases this
   have J:BM.WF A:=hw.2;have H:=J p U;have hi2:=D.zg (s:=s) (d:=s) (Z:=Be a G s) (w':=setBlock T r (.mapIter (some b) l (c.push e.born) g)) (env':=(s,.mx (.mi (some p) (A.erase p)))::O) (a':=a) L L hbz rfl rfl (JW D L) (fun q i b lo E=>⟨?_,.inr ⟨q,i,lo,E,b6 _⟩⟩) (fun p U=>by rw[AB.d6,az (by omega)];exact D.dom p U) (fun q=>?_) (fun _ _ _=>rfl) (fun p U _=>by rw[AB.d6,az (fun e=>U e.symm)]) (fun e=>absurd rfl e) (.inr (.inr ⟨fun cs=>by rw[R];simp,fun n es=>by rw[R];simp⟩)) (fun F' hF'=>?_)
   .refine⟨.tuple #[.bool true,e.key,e.val],_,?_,_,_,hK1 p (A.erase p) hpt,_,hi2.1.quiet (Below.refl _ _) d hd (.tp [.bool true,RT p.1,.int .i64 p.2]) _ (fun _=>none) (by simp) (by simp) (by simp) ?_ ⟨trivial,⟨H.1,H.2.1,trivial⟩,H.2.2,trivial⟩⟩
    .simp[execOp,V,show a.eval (.tmp s)=slot a s from rfl,e1,C]
    .simp only[AL];refine⟨_,rfl,_,_,rfl,rfl,_,_,rfl,?_,_,_,rfl,?_,rfl⟩
     .rw[<-B.1];exact Sa p.1
     .simp[Af];exact B.2.symm
   .obtain⟨p',j,g1,_⟩:=B2 E;exact Nat.lt_of_lt_of_le (D.lt _ _ _ _ g1).1 hbz.size
   .rw[AB.d6];split
    .refine⟨?_,fun q E=>J q (List.mem_of_mem_erase E)⟩;intro q E;simp at E;subst E;exact H
    .exact D.wf q
   .rw[R];have hzd:B9 a G s s (Be a G s) s=G s:=by simp[B9,Cy]
    simp [AL,hzd];have hh:=SX (o:=.mapIter (some b) l (c.push e.born) g) hr1;refine⟨r,b,e1,e2,e3,es,g,l,g,c.push e.born,by rw[hh.2 b hrb,N.1];exact f1,hh.1,f3,f4,f6,f6,fun q E=>?_,hpm3⟩;simp at E;subst E;exact⟨c,e,rfl,hes,rfl,B.1.symm,B.2.symm⟩
 .exact h.elim
theorem mU(A:AN F0 w0 O a w G)(hd:d<a.tmps.size)(B:o.op=.entry (.tmp s))(h:(AD.men s).wp S O (some d) K):At P F0 w0 a w o d K:=by
 simp [AD.wp]at h;split at h
 .rename_i p D E;have H:=AZ A E (by simp);have I:=A.wf s;rw[E]at I;simp[AL]at H;obtain⟨r,b,M,Y,Z,es,C,g,N,J,R,T,f3,f4,f5,f6,U,f8⟩:=H;obtain⟨j,e,V,W,X,g4,g5⟩:=U p rfl;subst V X;have L:(es.toList.map (·.born)).Nodup:=by
   grind
  have l:=run_entry_at (P:=P) w r b g j es N e T R W L;have c:=I.1 p (by simp);refine⟨.tuple #[e.key,e.val],w,?_,_,_,h,_,A.quiet (Below.refl _ _) d hd (.tp [RT p.1,.int .i64 p.2]) _ (fun _=>none) (by simp) (by simp) (by simp) ?_ ⟨⟨c.1,c.2.1,trivial⟩,c.2.2,trivial⟩⟩
  .simp[execOp,B,show a.eval (.tmp s)=slot a s from rfl,M,l]
  .simp only[AL];refine⟨_,rfl,_,_,rfl,?_,_,_,rfl,?_,rfl⟩
   .grind[Sa]
   grind [Af]
 .exact h.elim
end
end Go.Sf
