/- Operations on lists of lists that nobody else reads. -/
import Derived.Test.YtagcclhejecceaaGreatSfX
import Derived.Maps.RangeRun
set_option linter.all false
namespace Go.Sf
open Go.RowKit (Below)
section
variable{P:Program}{S:FuncId->Fq->Am->Prop}{F0:Nat->Nat->Prop}{w0:W0}{U:AB}{a:Act}{w:World}{G:BP}{d:Nat}{o:Oper}{K:EV->AB->Prop}
theorem Bm.congr'{F0:Nat->Nat->Prop}{w0:W0}{U env2:AB}{a:Act}{w:World}(h:Bm F0 w0 U a w)(he:∀n,U.get n=env2.get n):Bm F0 w0 env2 a w:=by
 obtain ⟨G,h⟩:=h;refine⟨G,h.ne,h.lt,h.below,h.defers,fun q c=>?_,fun q c=>?_,fun q=>?_⟩
 .rw[<-he];exact h.dom q c
 .rw[<-he];refine AK.kept (Oy _ _) (fun _=>rfl) (fun _ _ _ _=>rfl) rfl BD.rfl' (fun r i k l⟨p,g⟩=>⟨⟨p,(AB.w7 (he r)).trans g⟩,fun _ hv=>hv⟩) (fun r off l⟨cs,j⟩=>⟨⟨cs,by rw[he];exact j⟩,rfl⟩) (fun r i l⟨p,g⟩=>⟨⟨p,(AB.wR (he r)).trans g⟩,fun _ hv=>hv⟩) (h.slots q c)
 .rw[<-he];exact h.wf q
variable{s off:Nat}
theorem Sl(h:AO F0 w0 U a w G){es:Fq}(A:U.nat s off=some es):
  ∃b c T x,slot a s=.pointer (some ⟨b,0,none⟩)/\w.heap[b]?=some (.cells c T (0,0))/\c[off]?=some x/\G s none=some (b,0)/\E1 w (AS w0.heap.size F0 G) (wk a G) (G s (some off)) es x/\(TV.list 1 es).WF:=by
 obtain ⟨cs,l,r⟩:=AB.wd A;have g:=AW h l (by simp);simp only[AK]at g;obtain⟨b,c,T,B,C,J,D,E⟩:=g;obtain⟨x,H,I⟩:=E off _ r;have j:=h.wf s;rw[l]at j;exact⟨b,c,T,x,B,C,H,D,I,j _ (List.mem_of_getElem? r)⟩
variable{F:Nat->Nat->Prop}{z:Option (Nat×Nat)}
theorem UF{ρ:G6}{es:Fq}{x:Value}(h:E1 w F ρ z es x)(r:es≠[]):
  ∃g cap c e xs,x=.slice (some ⟨g,0,none⟩) es.length cap/\w.heap[g]?=some (.cells c e (0,0))/\es.length<=cap/\c.size=cap/\z=some (g,0)/\(∀(j:Nat)(e:TV),es[j]?=some e->∃y n fs,c[j]?=some y/\e=.list n fs/\PW w F (ρ g j) n fs y)/\c.toList.take es.length=xs/\(∀y∈xs,y.oneCell'=true):=by
 obtain ⟨xs,⟨V,H,B⟩,I,J⟩:=h;rcases H.2 with⟨_,N,_⟩|⟨g,cap,c,e,O,R,T,X,Y,C,D⟩
 .exact absurd (List.eq_nil_of_length_eq_zero N) r
 .refine⟨g,cap,c,e,xs,O,R,T,by omega,by rw[B,D];rfl,fun j el E=>?_,by rw[<-C,Nat.mul_one],I⟩;obtain⟨W,y,n,fs,A,l,L,M⟩:=J j el E;rw[B,D]at A;simp only[Option.map_some,tg,Prod.mk.injEq,and_true]at A;subst A;refine⟨y,n,fs,?_,L,M⟩;rw[<-C,List.getElem?_take]at l;split at l
  .simpa using l
  .cases l
variable{x:Operand}{y:AF}{b:Nat}
theorem rX(j:AO F0 w0 U a w G)(g:AI x y=true)(h:y.ev U=.bp s off){cs:List AN}(l:U.get s=.bx cs)(r:slot a s=.pointer (some ⟨b,0,none⟩)):a.eval x=.pointer (some ⟨b,off,none⟩):=by
 cases y with
 |c t=>simp[AF.ev]at h|s m=>
  rw [JB g];simp only[AF.ev]at h;have:=AW j h (by simp);simp only[AK]at this;obtain⟨A,B,C⟩:=this ⟨cs,l⟩
  grind
theorem V8(j:AO F0 w0 U a w G)(g:AI x y=true){k:NK}(h:y.ev U=.nh s off k){es:Fq}(l:U.nat s off=some es):NH a w s off k (a.eval x):=by
 cases y with
 |c t=>simp[AF.ev]at h|s m=>
  rw [JB g];simp only[AF.ev]at h;have:=AW j h (by simp)
  grind [AK]
variable{v:Value}
theorem AO.yZ(g:AO F0 w0 U a w G)(hd:d<a.tmps.size){k:NK}(hv:∀es,U.nat s off=some es->NH a w s off k v):Bm F0 w0 ((d,.nh s off k)::U) (a.put (some d) v) w:=by
 refine ⟨_,g.quiet (Below.refl _ _) d hd (.nh s off k) v (fun _=>none) (by simp) (by simp) (by simp) ?_ trivial⟩;simp only[AK];rintro⟨es,h⟩;have c:=AB.ws (by simp) h;exact g.nh ⟨_,c.2⟩ (AV _ _ _ _ c.1) (fun _ _ _ _=>rfl) _ (hv es c.2)
variable{t:TypeId}
theorem jz(r:AO F0 w0 U a w G)(hd:d<a.tmps.size)(A:o.op=.load t x)(B:AI x y=true)(H:Bv P t=some false)(h:(AE.zu y).wp S U (some d) K):Ax P F0 w0 a w o d K:=by
 simp only[AE.wp]at h;split at h
 .rename_i s off I;cases l:U.nat s off with
  |none=>rw[l]at h;exact h.elim|some es=>
   rw [l]at h;simp only[AX]at h;obtain⟨cs,J,L⟩:=AB.wd l;obtain⟨b,c,T,v,C,D,E,M,N,_⟩:=Sl r l;have j:=rX r B I J C;have g:w.cell? ⟨b,off,none⟩=some v:=by
    rw [cell_of_row w b off c T (0,0) D];exact E
   refine ⟨v,w,?_,_,_,h,r.yZ hd fun es' _=>?_⟩
   .simp[execOp,A,j,Instr.loadAt,Instr.sureAddr,loadVar,Cc H,g]
   .exact⟨b,c,T,v,C,D,E,rfl⟩
 .exact h.elim
theorem kI(B:AO F0 w0 U a w G)(hd:d<a.tmps.size){x i:Operand}{y j:AF}(M:o.op=.indexAddr t x i)(N:AI x y=true)(C:AI i j=true)(O:H4 P t=some 1)(h:(AE.yO y j).wp S U (some d) K):Ax P F0 w0 a w o d K:=by
 unfold H4 at O;split at O
 .rename_i el hu;simp only[AE.wp]at h;split at h
  .rename_i s off k D hy hj;cases A:U.nat s off with
   |none=>rw[A]at h;exact h.elim|some es=>
    rw [A]at h;simp only[AX]at h;obtain⟨h0,R,hK⟩:=h;have l:=(Au B C hj).1;simp only[Ah]at l;obtain⟨b,c,T,x0,V,W,X,L⟩:=V8 B N hy A;simp only[NK.at]at L;obtain⟨b',c',T',v,H,Y,I,f4,f5,_⟩:=Sl B A;rw[V]at H;simp only[Value.pointer.injEq,tg,Addr.mk.injEq,and_true,and_self]at H;subst H;rw[W]at Y;cases Y;rw[X]at I;simp only[tg]at I;subst I;obtain⟨g,cap,J,e,xs,rfl,g2,g3,_⟩:=UF f5 (by rintro rfl;simp at R;omega);have E:0<=D/\D<(es.length:Int):=⟨h0,R⟩;refine⟨.pointer (some ⟨g,D.toNat,none⟩),w,?_,_,_,hK,B.yZ hd fun es' _=>?_⟩
    .simp[execOp,M,L,l,Instr.indexAt,asIntOf,run_underlying hu,E,B2 O,Addr.add_lit]
    .exact⟨b,c,T,_,V,W,X,g,_,_,rfl,rfl⟩
  .rename_i s off r k D hy hj;cases A:U.nat s off with
   |none=>rw[A]at h;exact h.elim|some es=>
    rw [A]at h;simp only[AX]at h;obtain⟨h0,fs,hr,R,hK⟩:=h;have l:=(Au B C hj).1;simp only[Ah]at l;obtain⟨b,c,T,x0,V,W,X,g,len,cap,e0,L⟩:=V8 B N hy A;subst e0;obtain⟨b',c',T',v,H,Y,I,f4,f5,_⟩:=Sl B A;rw[V]at H;simp only[Value.pointer.injEq,tg,Addr.mk.injEq,and_true,and_self]at H;subst H;rw[W]at Y;cases Y;rw[X]at I;simp only[tg]at I;subst I;obtain⟨g',cap',J,e,xs,g1,g2,g3,_,_,g4,_⟩:=UF f5 (by rintro rfl;simp at hr);simp only[Value.slice.injEq,tg,Addr.mk.injEq,and_true]at g1;obtain⟨rfl,rfl,rfl⟩:=g1;obtain⟨u,n,fs',k1,k2,k3⟩:=g4 r _ hr;simp only[TV.list.injEq]at k2;obtain⟨rfl,rfl⟩:=k2;rw[cell_of_row w g r J e (0,0) g2,k1]at L;simp only[tg]at L;subst L;obtain⟨ys,⟨z0,m1,m2⟩,m3,m4,m5⟩:=k3;rcases m1.2 with⟨_,hn,_⟩|⟨Z,cap2,cur2,e2',q1,q2,q3,_⟩
    .simp only[hn]at R;omega
    .have E:0<=D/\D<(fs.length:Int):=⟨h0,R⟩;refine⟨.pointer (some ⟨Z,D.toNat,none⟩),w,?_,_,_,hK,B.yZ hd fun es' _=>?_⟩
     .simp[execOp,M,q1,l,Instr.indexAt,asIntOf,run_underlying hu,E,B2 O,Addr.add_lit]
     .refine⟨b,c,T,_,V,W,X,g,_,_,rfl,Z,fs.length,cap2,?_,rfl⟩;rw[cell_of_row w g r J e (0,0) g2,k1,q1]
  .exact h.elim
 .cases O
theorem kJ(B:AO F0 w0 U a w G)(hd:d<a.tmps.size)(C:o.op=.load t x)(D:AI x y=true)(V:Bv P t=some false)(h:(AE.zj y).wp S U (some d) K):Ax P F0 w0 a w o d K:=by
 simp only[AE.wp]at h;split at h
 .rename_i s off r W;cases A:U.nat s off with
  |none=>rw[A]at h;exact h.elim|some es=>
   rw [A]at h;simp only[AX]at h;obtain⟨l,X⟩:=h;obtain⟨b,c,T,x0,J,L,M,g,len,cap,Y,Z⟩:=V8 B D W A;subst Y;obtain⟨b',c',T',v,E,N,H,f4,f5,_⟩:=Sl B A;rw[J]at E;simp only[Value.pointer.injEq,tg,Addr.mk.injEq,and_true,and_self]at E;subst E;rw[L]at N;cases N;rw[M]at H;simp only[tg]at H;subst H;obtain⟨g',O,I,e,xs,R,g2,g3,_,_,g4,_⟩:=UF f5 (by rintro rfl;simp at l);simp only[Value.slice.injEq,tg,Addr.mk.injEq,and_true]at R;obtain⟨rfl,rfl,rfl⟩:=R;obtain⟨u,n,fs',k1,k2,k3⟩:=g4 r _ (List.getElem?_eq_getElem l);have j:w.cell? ⟨g,r,none⟩=some u:=by
    rw [cell_of_row w g r I e (0,0) g2];exact k1
   refine ⟨u,w,?_,_,_,X,B.yZ hd fun es' _=>?_⟩
   .simp[execOp,C,Z,Instr.loadAt,Instr.sureAddr,loadVar,Cc V,j]
   .exact⟨b,c,T,_,J,L,M,g,_,_,rfl,j⟩
 .exact h.elim
variable{q:Nat}
theorem gN(r:AO F0 w0 U a w G)(hd:d<a.tmps.size)(R:o.op=.box t x)(T:AI x (.s q)=true)(h:(AE.yH q).wp S U (some d) K):Ax P F0 w0 a w o d K:=by
 simp only[AE.wp]at h;split at h
 .rename_i d' cs H X;simp only[tg]at H;subst H;obtain⟨⟨hno,hdq⟩,hK⟩:=h;have hev:=JB (a:=a) T;have A:q<a.tmps.size:=Ba r X (by simp);have hr:=AW r X (by simp);have J:=r.wf q;rw[X]at J;simp only[AK]at hr;obtain⟨vs,h1,h2,h3⟩:=hr;have B:Below w.heap.size w (w.alloc (.cells vs t)):=(Below.refl _ _).alloc (az _) _;have hone:∀(i:Nat)(y:Value),vs[i]?=some y->y.oneCell'=true:=by
   intro i y hy;have hlt:i<cs.length:=by have:=(Array.getElem?_eq_some_iff.1 hy).1;omega
   obtain ⟨x,hx,D⟩:=h3 i _ (List.getElem?_eq_getElem hlt)
   grind [GU]
  let Z:DM:=fun p i=>if p=0/\i=none then some (w.heap.size,0)else Bk a G q p i
  have N:∀p i b lo,Z p i=some (b,lo)->(p=0/\i=none/\b=w.heap.size/\lo=0)\/Bk a G q p i=some (b,lo):=by
   grind
  have hzl:∀p i b lo,Bk a G q p i=some (b,lo)->b<w.heap.size:=fun p i b lo C=>by
   obtain ⟨Y,j,l,_⟩:=CB C;exact(r.lt _ _ _ _ l).1
  refine ⟨.pointer (some ⟨w.heap.size,0,none⟩),w.alloc (.cells vs t),?_,_,_,hK,?_⟩
  .simp[execOp,R,Instr.box,newVar,newRow,hev,h1,Value.cells]
  .have hg:=fun p=>AB.d4 d (.bx cs) ((q,EV.undef)::U) p;refine⟨_,(r.xg (s:=q) (d:=d) (Z:=Z) (w':=w.alloc (.cells vs t)) (env':=(d,.bx cs)::(q,.undef)::U) (a':=a.put (some d) (.pointer (some ⟨w.heap.size,0,none⟩))) A hd ⟨rfl,rfl,rfl,B.size,fun k hk _=>B.block k hk,fun b o u _ hu=>by
     rw [B.cell (p:=⟨b,o,none⟩) (World.block_lt_of_cell? w ⟨b,o,none⟩ hu)];exact hu⟩ (Bc _ _ _) (EY _ _ _) ?_ ?_ ?_ ?_ ?_ ?_ ?_ (.inl hno) ?_).1⟩
   .intro p i Y i' b lo lo' I e2;rcases N _ _ _ _ I with⟨rfl,rfl,l,_⟩|l<;>rcases N _ _ _ _ e2 with⟨rfl,rfl,O,_⟩|O
    .exact⟨rfl,rfl⟩
    .grind
    .grind
    .exact I5 r A _ _ _ _ _ _ _ l O
   .intro p i b lo I;rcases N _ _ _ _ I with⟨rfl,rfl,l,_⟩|l
    .exact⟨by rw[l];simp,.inl (by omega)⟩
    .exact⟨Nat.lt_of_lt_of_le (hzl _ _ _ _ l) B.size,.inr ⟨p,i,lo,l,az _⟩⟩
   .intro p E;rw[AB.d4,ae (by omega),AB.d4,ae (by omega)];exact r.dom p E
   .intro p;rw[AB.d4];split
    .exact J
    .rw[AB.d4];split
     .trivial
     .exact r.wf p
   .exact fun p E _=>AV _ _ _ _ (fun e=>E e.symm)
   .exact fun p E V=>by rw[AB.d4,ae (fun e=>E e.symm),AB.d4,ae (fun e=>V e.symm)]
   .exact fun _=>by rw[AB.d4,ae hdq,AB.d4,a6 rfl]
   .intro F' hF';rw[AB.d4,a6 rfl,Ce _ _ _ hd];have L:CJ a G q d Z d=Z 0:=by simp[CJ]
    simp only[AK];refine⟨w.heap.size,vs,t,rfl,heap_alloc_new w _,h2,by rw[L];simp[Z],fun i c D=>?_⟩;obtain⟨x,I,e2⟩:=h3 i c D;have M:Z 0 (some i)=G q (some i):=by simp[Z,C5]
    refine ⟨x,I,?_⟩;rw[L,M];refine BA.wk (e2.kept (fun b o u D hf=>⟨?_,fun W=>?_⟩) (fun b lo C=>B.block b (r.lt _ _ _ _ C).1) (r.xW B)) (fun g lo j C=>?_)
    .rw[B.cell (p:=⟨b,o,none⟩) (World.block_lt_of_cell? w ⟨b,o,none⟩ D)];exact D
    .rcases hF' b o W with⟨_,h6,_⟩|⟨p,i,lo,h6,h7⟩
     .exact hf h6
     .rcases N _ _ _ _ h6 with⟨_,_,l,_⟩|l
      .have:=World.block_lt_of_cell? w ⟨b,o,none⟩ D;simp only at this;omega
      .obtain⟨Y,j,O,_⟩:=CB l;exact hf (.inr ⟨Y,j,lo,O,h7⟩)
    .have hz':Z 0 (some i)=some (g,lo):=by rw[M];exact C
     rw [O9 (Bc _ _ _) hd A hz' j];simp only[DM.wk,Z];rw[ae (by omega)];exact Nz C j
 .exact h.elim
def Zd(P:Program)(t:TypeId):Bool:=
 match P.underlying t with
 |some (.slice e)=>(match P.info? e with
  |some ie=>ie.size==1&&(match ie.zero with|some z=>z.cells.size==1|none=>false)
  |none=>false)
 |_=>false
variable{n:Nat}{fs:Fq}
theorem jW{x:Value}(h:PW w F z n fs x):x.oneCell'=true:=by
 obtain ⟨ys,⟨l,c,_⟩,_⟩:=h;rcases c.2 with⟨rfl,_⟩|⟨g,cap,j,e,rfl,_⟩<;>rfl
theorem gT(r:AO F0 w0 U a w G)(hd:d<a.tmps.size)(I:o.op=.buildSlice t 1 #[(0,x)])(c:Zd P t=true)(W:AI x (.s q)=true)(h:(AE.yv q).wp S U (some d) K):Ax P F0 w0 a w o d K:=by
 simp only[AE.wp]at h;split at h
 .rename_i d' n fs B L;simp only[tg]at B;subst B;obtain⟨⟨hno,O⟩,hK⟩:=h;have N:=JB (a:=a) W;have T:=AW r L (by simp);have C:=r.wf q;rw[L]at C;simp only[AK]at T;have g:PW w (AS w0.heap.size F0 G) (G q none) n fs (slot a q):=T;have j:=jW g;unfold Zd at c;split at c
  .rename_i e hu;split at c
   .rename_i ie M;simp only[pr,beq_iff_eq]at c;obtain⟨R,E⟩:=c;split at E
    .rename_i z A;have l:=OX j;have D:(execOp a.eval o).run P w=.ok (.value (.slice (some ⟨w.heap.size,0,none⟩) 1 1)) (w.alloc (.cells #[slot a q] e)):=by
      simp [execOp,I,Instr.buildSlice,run_underlying hu,sizeOf,typeInfo,M,R,zeroValue,A,Instr.fill,newRow,N,l]
      grind
     have H:Below w.heap.size w (w.alloc (.cells #[slot a q] e)):=(Below.refl _ _).alloc (az _) _;refine⟨_,_,D,_,_,hK,r.xgo L hd O (z':=G q none) rfl rfl rfl H.size (fun k X _=>H.block k X) (fun b lo A=>⟨Nat.lt_of_lt_of_le (r.lt _ _ _ _ A).1 H.size,.inr ⟨lo,A⟩⟩) (by simp) (by simp) (fun F' G' env' a' J Y Z=>?_) C⟩;simp only[AK];refine⟨w.heap.size,1,slot a q,rfl,az _,?_,fun hf=>?_,j,?_⟩
     .rw[cell_of_row _ w.heap.size 0 #[slot a q] e (0,0) (heap_alloc_new w _)];rfl
     .rcases Z _ _ hf with V|⟨lo,V⟩
      .omega
      .have:=(r.lt _ _ _ _ V).1;omega
     .rw[Y];exact g.kept J (fun b lo A=>H.block b (r.lt _ _ _ _ A).1)
    .cases E
   .cases c
  .cases c
 .exact h.elim
theorem AO.give(h:AO F0 w0 U a w G){es fs:Fq}(M:U.get s=.xn es)(N:U.get q=.x1 n fs):
  AO F0 w0 ((q,.undef)::U) a w (fun p i=>if p=s/\i=some 0 then G q none else if p=q then none else G p i):=by
 have Z:s≠q:=by rintro rfl;rw[M]at N;cases N
 have hsz:s<a.tmps.size:=Ba h M (by simp);have hqz:q<a.tmps.size:=Ba h N (by simp);have J:∀p i b lo,(if p=s/\i=some 0 then G q none else if p=q then none else G p i)=some (b,lo)->(p=s/\i=some 0/\G q none=some (b,lo))\/(¬(p=s/\i=some 0)/\p≠q/\G p i=some (b,lo)):=by
  grind
 have E:BY w w (AS w0.heap.size F0 G) (AS w0.heap.size F0 (fun p i=>if p=s/\i=some 0 then G q none else if p=q then none else G p i)):=by
  refine fun b o u W hf=>⟨W,?_⟩;rintro(B|⟨p,j,lo,B,V⟩)
  .exact hf (.inl B)
  .rcases J _ _ _ _ B with⟨_,_,T⟩|⟨_,_,T⟩
   .exact hf (.inr ⟨_,_,lo,T,V⟩)
   .exact hf (.inr ⟨_,_,lo,T,V⟩)
 have g:wk a (fun p i=>if p=s/\i=some 0 then G q none else if p=q then none else G p i)=wk a G:=by
  grind [wk]
 refine ⟨fun p i p' i' b lo X O Y=>?_,fun p i b lo O=>?_,h.below,h.defers,fun p I=>?_,fun p I=>?_,fun p=>?_⟩
 .rcases J _ _ _ _ O with⟨rfl,rfl,l⟩|⟨n1,n2,l⟩<;>rcases J _ _ _ _ Y with⟨rfl,rfl,L⟩|⟨m1,m2,L⟩
  .exact⟨rfl,rfl⟩
  .exact absurd (h.ne _ _ _ _ _ _ _ l L).1.symm m2
  .exact absurd (h.ne _ _ _ _ _ _ _ l L).1 n2
  .exact h.ne _ _ _ _ _ _ _ l L
 .rcases J _ _ _ _ O with⟨_,_,l⟩|⟨_,_,l⟩
  .exact h.lt _ _ _ _ l
  .exact h.lt _ _ _ _ l
 .rw[AB.d4,ae (by omega)];exact h.dom p I
 .rw[AB.d4];split
  .trivial
  .rename_i D;by_cases H:p=s
   .subst H;have C:=h.slots p I;rw[M]at C|-;simp only[AK]at C|-;rw[ae (by simp),ae (fun e=>D e.symm),g];exact C.kept E (fun _ _ _=>rfl) BD.rfl'
   .refine AK.kept E (fun i=>by rw[ae (fun e=>H e.1),ae (fun e=>D e.symm)]) (fun _ _ _ _=>rfl) g BD.rfl' (fun r i k C⟨R,A⟩=>?_) (fun r off C⟨cs',c⟩=>?_) (fun r i C⟨R,A⟩=>?_) (h.slots p I)
    .have B:=AB.ws (by simp) A;exact⟨⟨R,B.2⟩,fun _ hv=>hv⟩
    .rw[AB.d4]at c;split at c
     .cases c
     .exact⟨⟨cs',c⟩,rfl⟩
    .have B:=AB.t5 (by simp) (by simp) A;exact⟨⟨R,B.2⟩,fun _ hv=>hv⟩
 .rw[AB.d4];split
  .trivial
  .exact h.wf p
def RN(zo:Option (Nat×Nat))(rowz:Nat->Option (Nat×Nat)):DM:=fun p i=>if p=0 then(if i=none then zo else none)else if zo.map (fun z=>z.1+1)=some p then(match i with|some j=>rowz j|none=>none)else none
variable{rowz:Nat->Option (Nat×Nat)}{p:Nat}{i:Option Nat}
theorem RO{c:Option (Nat×Nat)}{b lo:Nat}(h:RN c rowz p i=some (b,lo)):(p=0/\i=none/\c=some (b,lo))\/∃g l j,c=some (g,l)/\p=g+1/\i=some j/\rowz j=some (b,lo):=by
 simp only[RN]at h;split at h
 .grind
 .split at h
  .rename_i A r;cases i with
   |none=>cases h
   |some j=>
    cases c with
    |none=>cases r
    |some z=>
     grind
  .cases h
theorem fI{g l:Nat}(j:Nat):(RN (some (g,l)) rowz).wk g j=rowz j:=by
 simp [DM.wk,RN]
variable{e:TypeId}
theorem AO.xC(B:AO F0 w0 U a w G){ty:TypeId}{i:TypeInfo}{z:Value}{es:Fq}(hs:U.get s=.xn es)(hq:U.get q=.x1 n fs)
  (ht:P.underlying t=some (.slice e))(hi:P.info? e=some i)(hz:i.zero=some z)(hsize:i.size=1)(hby:i.bytes<=4096)(hzs:z.cells.size=1)(W:es.length+1<=Aj):
  ∃v' w',(Builtin.append_ #[t,t] ty #[slot a s,slot a q]).run P w=.ok v' w'/\Bm F0 w0 ((s,.xn (es++[.list n fs]))::(q,.undef)::U) (a.put (some s) v') w':=by
  have hsq:s≠q:=by rintro rfl;rw[hs]at hq;cases hq
  have T:s<a.tmps.size:=Ba B hs (by simp);have hqz:q<a.tmps.size:=Ba B hq (by simp);have hrs:=AW B hs (by simp);have hws:=B.wf s;rw[hs]at hws;have hrq:=AW B hq (by simp);have hwq:=B.wf q;rw[hq]at hwq;simp only[AK]at hrs hrq;obtain⟨xs,⟨z0,h1,hz0⟩,h2,h3⟩:=hrs;obtain⟨g1,cap1,x,k1,k2,k3,k4,k5,k6⟩:=hrq;obtain⟨v',w',z',hrun,r1,L⟩:=Oo (P:=P) t ty e i z 1 ht hi hz hsize hby hzs (by omega) (slot a s) es.length xs z0 h1 (some ⟨g1,0,none⟩) 1 cap1 [x] rfl (by simp) k2 (fun b X j u hu=>by
   simp only[tg]at X;subst X;cases j with
   |zero=>simp only[List.getElem?_cons_zero,tg]at hu;subst hu;rw[Addr.add_lit];exact k3|succ j=>simp at hu) (by simpa using k5) W
  obtain ⟨C,N,O,e',m1,m2,m3⟩:∃C N O e',v'=.slice (some ⟨C,0,none⟩) (es.length+1) N/\w'.heap[C]?=some (.cells O e' (0,0))/\z'=some (C,(es.length+1)*1):=by
   rcases r1.2 with⟨_,hn,_⟩|⟨C,N,O,e',c,r,_,_,_,_,e7⟩
   .omega
   grind
  let M:BP:=fun p i=>if p=s/\i=some 0 then G q none else if p=q then none else G p i
  have hI1:AO F0 w0 ((q,.undef)::U) a w M:=B.give hs hq;have D:M s none=G s none:=by simp only[M];rw[ae (by simp),ae hsq]
  have hG10:M s (some 0)=G q none:=by simp[M]
  have hG1r:∀g j,M (a.tmps.size+g) (some j)=G (a.tmps.size+g) (some j):=fun g j=>by simp only[M];rw[ae (by omega),ae (by omega)]
  let rowz:Nat->Option (Nat×Nat):=fun j=>if j=es.length then G q none else z0.bind fun p=>G (a.tmps.size+p.1) (some j)
  let Z:DM:=RN (some (C,0)) rowz
  have A:∀b lo,z0=some (b,lo)->G s none=some (b,0):=fun b lo e=>by rw[hz0,e];rfl
  have hrz:∀j b lo,rowz j=some (b,lo)->(j=es.length/\G q none=some (b,lo))\/(j≠es.length/\∃g l,z0=some (g,l)/\G (a.tmps.size+g) (some j)=some (b,lo)):=by
   grind [Option.bind_eq_some_iff]
  have V:∀j b lo,rowz j=some (b,lo)->∃p i,G p i=some (b,lo)/\p≠s/\(p=q/\i=none/\j=es.length\/a.tmps.size<=p/\i=some j/\j≠es.length):=by
   intro j b lo Y;rcases hrz _ _ _ Y with⟨c,r⟩|⟨c,g,l,r,J⟩
   .exact⟨_,_,r,fun e=>hsq e.symm,.inl ⟨rfl,rfl,c⟩⟩
   .exact⟨_,_,J,by omega,.inr ⟨by omega,rfl,c⟩⟩
  have E:∀l,z'=some (C,l)->w.heap.size<=C\/G s none=some (C,0):=fun l hl=>by
   rcases (L.yV _ _ hl).2 with e|⟨I,e,_⟩
   .exact .inl e
   .exact .inr (A _ _ e)
  have E:=E _ m3;have h:∀p i b lo,G p i=some (b,lo)->b<w.heap.size:=fun p i b lo e=>(B.lt _ _ _ _ e).1;have hout:∀p i b lo,G p i=some (b,lo)->p≠s->b≠C:=by
   intro p i b lo c r J;subst J;rcases E with e|e
   .have:=h _ _ _ _ c;omega
   .exact r (B.ne _ _ _ _ _ _ _ c e).1
  have hzz:∀p j b lo,Z p j=some (b,lo)->b<w'.heap.size/\(w.heap.size<=b\/∃p j I,Bk a M s p j=some (b,I)/\I<=lo):=by
   intro p j b lo hp;rcases RO hp with⟨_,_,e⟩|⟨g,l,j,c,_,_,r⟩
   .simp only[tg,Prod.mk.injEq]at e;obtain⟨rfl,rfl⟩:=e;refine⟨(L.yV _ _ m3).1,E.imp id fun e=>⟨0,none,0,by rw[C5,D];exact e,az _⟩⟩
   .rcases hrz _ _ _ r with⟨_,J⟩|⟨_,g0,l0,J,e4⟩
    .exact⟨Nat.lt_of_lt_of_le (h _ _ _ _ J) L.size,.inr ⟨0,some 0,lo,by rw[C5,hG10];exact J,az _⟩⟩
    .refine⟨Nat.lt_of_lt_of_le (h _ _ _ _ e4) L.size,.inr ⟨g0+1,some j,lo,?_,az _⟩⟩;simp only[Bk];rw[ae (by omega),a6 ⟨none,0,by rw[Nat.add_sub_cancel,D];exact A _ _ J⟩];simp only[Nat.add_sub_cancel];rw[hG1r];exact e4
  have H:∀b o,AS w0.heap.size F0 M b o->AS w0.heap.size F0 G b o:=by
   rintro b o (e|⟨p,j,lo,c,r⟩)
   .exact .inl e
   .simp only[M]at c;split at c
    .exact .inr ⟨_,_,lo,c,r⟩
    .split at c
     .cases c
     .exact .inr ⟨_,_,lo,c,r⟩
  have hd:=T;refine⟨v',w',?_,_,(hI1.xg (s:=s) (d:=s) (Z:=Z) (w':=w') (env':=(s,.xn (es++[.list n fs]))::(q,.undef)::U) (a':=a.put (some s) v') T T ⟨L.os,L.tape,L.output,L.size,fun k hk hz=>?_,fun b o u hz hu=>?_⟩ (Bc _ _ _) (EY _ _ _) ?_ hzz ?_ ?_ ?_ ?_ ?_ (.inr (.inr ⟨?_,?_⟩)) ?_).1⟩
  .rw[k1];exact hrun
  .refine L.other k hk fun lo e=>hz 0 none 0 ?_;rw[C5,D];exact A _ _ e
  .refine L.cell b o u hu fun lo e=>absurd ⟨0,none,0,?_,Nat.zero_le _⟩ hz;rw[C5,D];exact A _ _ e
  .intro p j p' j' b lo I c r;rcases RO c with⟨rfl,rfl,f1⟩|⟨g,l,i1,f1,rfl,rfl,f2⟩<;>rcases RO r with⟨rfl,rfl,f3⟩|⟨g2,l2,i2,f3,rfl,rfl,f4⟩
   .exact⟨rfl,rfl⟩
   .simp only[tg,Prod.mk.injEq]at f1;obtain⟨p1,p2,q1,q2,_⟩:=V _ _ _ f4;exact absurd f1.1.symm (hout _ _ _ _ q1 q2)
   .simp only[tg,Prod.mk.injEq]at f3;obtain⟨p1,p2,q1,q2,_⟩:=V _ _ _ f2;exact absurd f3.1.symm (hout _ _ _ _ q1 q2)
   .simp only[tg,Prod.mk.injEq]at f1 f3;obtain⟨p1,p2,q1,q2,q3⟩:=V _ _ _ f2;obtain⟨p3,p4,q4,q5,q6⟩:=V _ _ _ f4;have:=B.ne _ _ _ _ _ _ _ q1 q4;refine⟨by omega,?_⟩;rcases q3 with⟨u1,u2,u3⟩|⟨u1,u2,u3⟩<;>rcases q6 with⟨u4,u5,u6⟩|⟨u4,u5,u6⟩
    .rw[u3,u6]
    .omega
    .omega
    .rw[u2,u5]at this;exact this.2
  .intro p hp;rw[AB.d4,ae (by omega),AB.d4,ae (by omega)];exact B.dom p hp
  .intro p;rw[AB.d4];split
   .simp only[EV.WF,TV.WF]at hws hwq|-;exact⟨by rw[bk];exact Sj (by simpa using W),JV.2 ⟨hws.2,⟨hwq,trivial⟩⟩⟩
   .rw[AB.d4];split
    .trivial
    .exact B.wf p
  .exact fun p hp _=>AV _ _ _ _ (fun e=>hp e.symm)
  .exact fun p hp _=>by rw[AB.d4,ae (fun e=>hp e.symm)]
  .exact fun e=>absurd rfl e
  .intro cs;rw[AB.d4,a6 rfl];simp
  .intro m es';rw[AB.d4,a6 rfl];simp
  .intro F' hF';rw[AB.d4,a6 rfl,Ce _ _ _ hd];have hag:BY w w' (AS w0.heap.size F0 G) F':=by
    intro b o u hc hf;have hlt:b<w.heap.size:=World.block_lt_of_cell? w ⟨b,o,none⟩ hc;refine⟨L.cell b o u hc fun lo e=>absurd (.inr ⟨s,none,0,A _ _ e,Nat.zero_le _⟩) hf,fun hf'=>?_⟩;rcases hF' b o hf' with⟨_,e,_⟩|⟨p,j,lo,c,r⟩
    .exact hf (H b o e)
    .rcases(hzz _ _ _ _ c).2 with J|⟨p2,j2,lo2,J,e4⟩
     .omega
     .obtain⟨p3,j3,e5,_⟩:=CB J;exact hf (H b o (.inr ⟨p3,j3,lo2,e5,Nat.le_trans e4 r⟩))
   have hzd:CJ a M s s Z s none=some (C,0):=by simp[CJ,Z,RN]
   have hrow:∀j,wk (a.put (some s) v') (CJ a M s s Z) C j=rowz j:=fun j=>by
    rw [O9 (k:=none) (lo:=0) (Bc _ _ _) hd T (by simp[Z,RN]) j];exact fI j
   simp only[AK];rw[hzd];refine⟨xs++[x],⟨z',by rw[bk];exact r1,by rw[m3];rfl⟩,?_,?_⟩
   .intro y hy;rcases List.mem_append.1 hy with hy|hy
    .exact h2 y hy
    .simp only[List.mem_singleton]at hy;subst hy;exact k5
   .have hxl:xs.length=es.length:=by have:=h1.1;omega
    intro j el Y;by_cases hjl:j<es.length
    .rw[List.getElem?_append_left hjl]at Y;obtain⟨g,y,m,fs',c,r,J,e4⟩:=h3 j el Y;refine⟨C,y,m,fs',rfl,by rw[List.getElem?_append_left (by omega)];exact r,J,?_⟩;rw[hrow];have R:∃l,z0=some (g,l):=by
      rw [hz0]at c;cases z0 with
      |none=>cases c
      |some p=>simp only[Option.map_some,tg,Prod.mk.injEq,and_true]at c;exact⟨p.2,by rw[<-c]⟩
     obtain ⟨l,R⟩:=R;have hrj:rowz j=wk a G g j:=by
      simp only[rowz,R];rw[ae (by omega)];rfl
     rw [hrj];exact e4.kept hag fun b lo X=>L.other b (h _ _ _ _ X) fun I e=>by
      have:=(B.ne _ _ _ _ _ _ _ (A _ _ e) X).1;omega
    .have hje:j=es.length:=by
      have:=(List.getElem?_eq_some_iff.1 Y).1;simp only[bk,List.length_singleton]at this;omega
     subst hje;rw[List.getElem?_append_right (az _),Nat.sub_self]at Y;simp only[List.getElem?_cons_zero,tg]at Y;subst Y;refine⟨C,x,n,fs,rfl,by rw[<-hxl,List.getElem?_append_right (az _),Nat.sub_self];rfl,rfl,?_⟩;rw[hrow];have hrj:rowz es.length=G q none:=by simp[rowz]
     rw [hrj];exact k6.kept hag fun b lo X=>L.other b (h _ _ _ _ X) fun I e=>hsq (B.ne _ _ _ _ _ _ _ (A _ _ e) X).1
theorem gJ(hI:AO F0 w0 U a w G)(hd:d<a.tmps.size){m q:Nat}{i:TypeInfo}{z:Value}(L:o.op=.call {callee:=.builtin .append,args:=#[.tmp m,.tmp q],argTypes:=#[t,t]})
  (ht:P.underlying t=some (.slice e))(hi:P.info? e=some i)(hz:i.zero=some z)(j:i.size=1)(M:i.bytes<=4096)(N:z.cells.size=1)
  (h:(AE.xC m q).wp S U (some d) K):Ax P F0 w0 a w o d K:=by
 simp only[AE.wp]at h;split at h
 .rename_i d' s off n fs r hm hq;simp only[tg]at r;subst r;split at h
  .rename_i cs O;cases c:U.nat s off with
   |none=>rw[c]at h;exact h.elim|some es=>
    rw [c]at h;simp only[AX]at h;obtain⟨B,⟨C,hdm,Y,hmq⟩,hK⟩:=h;obtain⟨cs',D,hk⟩:=AB.wd c;rw[O]at D;cases D;have hds:d≠s:=fun e=>AB.wg d U C m (by rw[hm,e];rfl);obtain⟨b,c0,T,Z,e1,e2,e3,e4⟩:=V8 hI (x:=.tmp m) (y:=.s m) (by simp[AI]) hm c;simp only[NK.at]at e4;have l:w.cell? ⟨b,off,none⟩=some Z:=by rw[cell_of_row w b off c0 T (0,0) e2];exact e3
    obtain ⟨G1,h1⟩:=hI.xL O hk hd e1 l (.inr (.inr ⟨es,rfl,rfl,rfl,C⟩));have h2:=h1.strip m;have R:(strip ((d,EV.xn es)::(s,.bx (cs.set off ⟨false,.undef⟩))::U) m).get d=.xn es:=by
     grind [strip,AB.d4]
    have V:s≠q:=by rintro rfl;rw[O]at hq;cases hq
    have W:(strip ((d,EV.xn es)::(s,.bx (cs.set off ⟨false,.undef⟩))::U) m).get q=.x1 n fs:=by
     grind [strip,AB.d4]
    obtain ⟨v',w',g,E⟩:=h2.xC (ty:=o.type) R W ht hi hz j M N B;rw[Ce _ _ _ hd,AV _ _ _ _ Y]at g;refine⟨v',w',?_,_,_,hK,?_⟩
    .have X:a.eval (.tmp m)=Z:=e4;simp[execOp,L,resolve,invoke,builtin,X,show a.eval (.tmp q)=slot a q from rfl,g]
    .have A:(a.put (some d) Z).put (some d) v'=a.put (some d) v':=by simp[Act.put]
     rw [A]at E;refine E.congr' fun p=>?_;simp only[strip,AB.d4];by_cases H:d=p
     .simp[H]
     .by_cases I:q=p
      .have J:¬s=p:=fun e=>V (e.trans I.symm);simp[H,I,J]
      .by_cases J:m=p
       .have k4:¬s=p:=fun e=>by
         grind
        simp [H,I,J,k4]
       .simp[H,I,J]
  .exact h.elim
 .exact h.elim
theorem AO.renest(h:AO F0 w0 U a w G){s off g r n:Nat}{es fs fs':Fq}(hx:U.nat s off=some es)(hg:G s (some off)=some (g,0))(hr:es[r]?=some (.list n fs)){w':World}(hb:PT (wk a G g r) w w')(hz0:∀b lo,wk a G g r=some (b,lo)->lo=0)
  (hrow:∀y,w.cell? ⟨g,r,none⟩=some y->BY w w' (AS w0.heap.size F0 G) (AS w0.heap.size F0 G)->PW w' (AS w0.heap.size F0 G) (wk a G g r) n fs' y)(hw:(TV.list n fs').WF):
  AO F0 w0 (U.za s off (es.set r (.list n fs'))) a w' G:=by
 obtain ⟨b1,b2,b3,b4,b5⟩:=hb;obtain⟨cs,hs,hk⟩:=AB.wd hx;have hsz:s<a.tmps.size:=Ba h hs (by simp);have W:=h.wf s;rw[hs]at W;have hzG:∀lo b,wk a G g r=some (b,lo)->G (a.tmps.size+g) (some r)=some (b,lo):=fun _ _ e=>e;have A:∀p i b lo,p<a.tmps.size->G p i=some (b,lo)->w'.heap[b]?=w.heap[b]?:=by
  intro p i b lo E e;refine b5 b (h.lt _ _ _ _ e).1 fun D e'=>?_;have:=(h.ne _ _ _ _ _ _ _ e (hzG _ _ e')).1;omega
 have B:∀C j b lo,¬(C=g/\j=r)->wk a G C j=some (b,lo)->w'.heap[b]?=w.heap[b]?:=by
  intro C j b lo hne e;refine b5 b (h.lt _ _ _ _ e).1 fun D e'=>hne ?_;have:=h.ne _ _ _ _ _ _ _ e e'
  grind
 have J:BY w w' (AS w0.heap.size F0 G) (AS w0.heap.size F0 G):=by
  intro b o u hc hF;refine⟨?_,hF⟩;have hlt:b<w.heap.size:=World.block_lt_of_cell? w ⟨b,o,none⟩ hc;rw[World.cell?_of_block (w:=w) (a:=⟨b,o,none⟩) (b5 b hlt (fun lo l=>hF (.inr ⟨_,some r,lo,l,by rw[hz0 b lo l];exact Nat.zero_le _⟩)))];exact hc
 have L:GZ F0 w0 w':=h.below.but b1 b2 b3 b4 (Z:=fun k=>∃lo,wk a G g r=some (k,lo)) (fun b⟨lo,l⟩=>(h.lt _ _ _ _ l).2.imp id (fun e o=>e o (by rw[hz0 b lo l];exact Nat.zero_le _))) (fun k hk l=>b5 k (Nat.lt_of_lt_of_le hk h.below.size) (fun lo e=>l ⟨lo,e⟩));have H:∀q i,(∃p,AB.nat ((s,.bx (cs.set off ⟨true,.xn (es.set r (.list n fs'))⟩))::U) q i=some p)->∃p,U.nat q i=some p:=by
  grind [AB.wd,AB.d4,List.getElem?_set_ne,AB.nat,AB.wO]
 have I:∀q i,(∃p,AB.tl ((s,.bx (cs.set off ⟨true,.xn (es.set r (.list n fs'))⟩))::U) q i=some p)->∃p,U.tl q i=some p:=by
  rintro q i ⟨⟨n1,es1⟩,E⟩;by_cases hsq:s=q
  .subst hsq;cases i with
   |none=>have:=AB.wj E;rw[AB.d4,a6 rfl]at this;cases this
   |some i=>
    grind [AB.wa,AB.d4,List.getElem?_set_ne,AB.tl]
  grind [AB.wJ]
 simp only[AB.za,hs];refine⟨h.ne,fun p i b lo e=>⟨Nat.lt_of_lt_of_le (h.lt _ _ _ _ e).1 b4,(h.lt _ _ _ _ e).2⟩,L,h.defers,fun p E=>?_,fun p E=>?_,fun p=>?_⟩
 .rw[AB.d4,ae (by omega)];exact h.dom p E
 .rw[AB.d4];by_cases X:s=p
  .subst X;rw[a6 rfl];have Y:=h.slots s E;rw[hs]at Y;simp only[AK]at Y|-;obtain⟨b,c,T,e1,e2,e3,e4,e5⟩:=Y;refine⟨b,c,T,e1,by rw[A _ _ _ _ E e4];exact e2,by simpa using e3,e4,fun i d hd=>?_⟩;by_cases hio:off=i
   .subst hio;rw[List.getElem?_set_self (by rcases Nat.lt_or_ge off cs.length with h|h;exact h;rw[List.getElem?_eq_none h]at hk;cases hk)]at hd;simp only[tg]at hd;subst hd;obtain⟨x,f1,f2⟩:=e5 off _ hk;refine⟨x,f1,?_⟩;obtain⟨xs,⟨z0,k1,k2⟩,k3,k4⟩:=(f2:E1 _ _ _ _ _ _);refine⟨xs,⟨z0,?_,k2⟩,k3,fun j e N=>?_⟩
    .rw[List.length_set];exact k1.kept (fun O lo l=>A s (some off) O 0 E (by rw[k2,l];rfl))
    .rw[List.getElem?_set]at N;by_cases hrj:r=j
     .subst hrj;rw[a6 rfl]at N;split at N
      .simp only[tg]at N;subst N;obtain⟨C,y,n2,fs2,m1,m2,m3,m4⟩:=k4 r _ hr;have hgg:C=g:=by rw[hg]at m1;simpa using m1.symm
       subst hgg;refine⟨C,y,n,fs',m1,m2,rfl,hrow y ?_ J⟩;rcases k1.2 with⟨_,hn,_⟩|⟨g3,cap,cur,e',q1,q2,q3,q4,q5,q6,q7⟩
       .have:es=[]:=List.eq_nil_of_length_eq_zero hn;subst this;simp at hr
       .rw[k2,q7]at m1;simp only[Option.map_some,tg,Prod.mk.injEq,and_true]at m1;subst m1;exact k1.cell q1 r y m2
      .cases N
     .rw[ae hrj]at N;obtain⟨C,y,n2,fs2,m1,m2,m3,m4⟩:=k4 j _ N;exact⟨C,y,n2,fs2,m1,m2,m3,m4.kept J fun O lo l=>B C j O lo (fun e=>hrj e.2.symm) l⟩
   .rw[List.getElem?_set_ne hio]at hd;obtain⟨x,f1,f2⟩:=e5 i d hd;refine⟨x,f1,f2.yz J (fun O lo l=>A _ _ _ _ E l) fun C lo j O D l hρ=>B C j O D (fun e=>?_) hρ⟩;rw[e.1]at l;have:=(h.ne _ _ _ _ _ _ _ l hg).2;simp only[tg]at this;exact hio this.symm
  .rw[ae X];refine AK.kept' J (fun _=>rfl) (fun i b lo l=>A _ _ _ _ E l) (fun _ _ _ _ _=>rfl) (fun i C lo j O D l hρ=>B C j O D (fun e=>?_) hρ) (fun q i k _ R=>⟨H q i R,h.nh (H q i R) rfl fun j b _ l=>?_⟩) (fun q off' _⟨cs',V⟩=>⟨?_,rfl⟩) (fun q i _ R=>⟨I q i R,h.xv (I q i R) rfl fun b l=>?_⟩) (h.slots p E)
   .rw[e.1]at l;exact X (h.ne _ _ _ _ _ _ _ l hg).1.symm
   .obtain⟨pp,M⟩:=H q i R;obtain⟨cs',h2,_⟩:=AB.wd M;exact A _ _ _ _ (Ba h h2 (by simp)) l
   .rw[AB.d4]at V;split at V
    .rename_i e;subst e;exact⟨cs,hs⟩
    .exact⟨cs',V⟩
   .obtain⟨⟨n1,es1⟩,M⟩:=I q i R;refine A q none b 0 ?_ l;cases i with
    |none=>exact Ba h (AB.wj M) (by simp)|some i=>obtain⟨cs',h2,_⟩:=AB.wa M;exact Ba h h2 (by simp)
 .rw[AB.d4];split
  .intro y hy;rcases List.mem_or_eq_of_mem_set hy with hy|rfl
   .exact W y hy
   .have h1:(TV.list 1 es).WF:=W _ (List.mem_of_getElem? hk);simp only[TV.WF]at h1|-;refine⟨by simpa using h1.1,?_⟩;rw[Bj]at h1|-;intro t ht;rcases List.mem_or_eq_of_mem_set ht with ht|rfl
    .exact h1.2 t ht
    .exact hw
  .exact h.wf p
variable{u:TV}
theorem XU(j:u.cells=[u]):∀(fs:Fq)(c:Nat),(∀e∈fs,e.cells.length=1)->(fs.set c u).flatMap TV.cells=(fs.flatMap TV.cells).set c u
 |[],c,_=>by simp|f::fs,c,h=>by
  obtain ⟨l,g⟩:=List.length_eq_one_iff.1 (h f (by simp));cases c with
  |zero=>simp[List.flatMap_cons,g,j]|succ c=>
   simp only[List.set_cons_succ,List.flatMap_cons,g,List.singleton_append];rw[XU j fs c (fun e he=>h e (by simp[he]))]
theorem kL(hI:AO F0 w0 U a w G){x v:Operand}{x' v':AF}(hop:o.op=.store t x v)(L:AI x x'=true)(hv:AI v v'=true)(hn:Cn P t=some 1)(h:(AE.yP x' v').wp S U none K):G7 P F0 w0 a w o K:=by
 simp only[AE.wp]at h;split at h
 .rename_i s off r c u hy hu;cases B:U.nat s off with
  |none=>rw[B]at h;exact h.elim|some es=>
   rw [B]at h;simp only[AX]at h;obtain⟨fs,hr,hc,I,hfl,hK⟩:=h;obtain⟨b,c0,T,x0,e1,e2,e3,g,len,cap,e0,J,len',Y,e4,e5⟩:=V8 hI L hy B;subst e0;obtain⟨b',c',T',v0,f1,f2,f3,f4,f5,Z⟩:=Sl hI B;rw[e1]at f1;simp only[Value.pointer.injEq,tg,Addr.mk.injEq,and_true,and_self]at f1;subst f1;rw[e2]at f2;cases f2;rw[e3]at f3;simp only[tg]at f3;subst f3;obtain⟨g',cap1,cur,e,xs,g1,g2,g3,_,gz,g4,_⟩:=UF f5 (by rintro rfl;simp at hr);simp only[Value.slice.injEq,tg,Addr.mk.injEq,and_true]at g1;obtain⟨rfl,rfl,rfl⟩:=g1;obtain⟨y,n,fs',k1,k2,k3⟩:=g4 r _ hr;simp only[TV.list.injEq]at k2;obtain⟨rfl,rfl⟩:=k2;have hcy:=e4;rw[cell_of_row w g r cur e (0,0) g2,k1]at e4;simp only[tg]at e4;subst e4;obtain⟨ys,⟨z0,m1,m2⟩,m3,m4,m5⟩:=k3;rcases m1.2 with⟨e9,_,_⟩|⟨gr,capr,l,er,q1,q2,q3,q4,q5,q6,q7⟩
   .cases e9
   .simp only[Value.slice.injEq,tg,Addr.mk.injEq,and_true]at q1;obtain⟨rfl,rfl,rfl⟩:=q1;have M:=Au hI hv (t:=u) (by simp[AF.val,hu,EV.val]);have N:=GA M.1;rw[I]at N;have O:∃y,(a.eval v).cells.toList=[y]/\Ah w (AS w0.heap.size F0 G) u y/\y.oneCell'=true:=by
     obtain ⟨k1,k2⟩:=N;simp only[AQ]at k1;obtain⟨y,r,k3,k4,rfl⟩:=k1;exact⟨y,k3,k4,k2 y (by rw[k3];simp)⟩
    obtain ⟨y,k1',k2',k3'⟩:=O;have R:c<l.size:=by omega
    have C:=run_storeCells_at P J c er [y] 0 l w q2 (by simp only[List.length_singleton];omega) (by simpa using k3');simp only[Nat.add_zero]at C;have hsz:(a.eval v).cells.size=1:=by rw[<-Array.length_toList,k1'];rfl
    have hst:(execOp a.eval o).run P w=.ok .skip (w.setRow J (l.toList.take c++[y]++l.toList.drop (c+1)).toArray):=by
     simp only[List.length_singleton]at C;simp[execOp,hop,e5,Instr.storeAt,Instr.sureAddr,storeVar,B2 hn,hsz,k1',C]
    have H:wk a G g r=some (J,0):=by rw[m2,q7];rfl
    have D:(TV.list 1 fs).WF:=Bj.1 Z.2 _ (List.mem_of_getElem? hr);have hyl:ys.length=fs.length:=by have:=m1.1;omega
    refine ⟨_,hst,_,hK,G,hI.renest B gz hr (fs':=fs.set c u) ?_ ?_ (fun y' E hag=>?_) ?_⟩
    .exact⟨rfl,rfl,rfl,by simp,fun k _ hk=>setRow_other w J k _ (fun e=>hk 0 (by rw[e];exact H))⟩
    .intro b lo hb;rw[H]at hb;simp only[tg,Prod.mk.injEq]at hb;exact hb.2.symm
    .rw[hcy]at E;simp only[tg]at E;subst E;refine⟨ys.set c y,⟨some (J,fs.length*1),⟨by rw[List.length_set,List.length_set];omega,.inr ⟨J,Y,_,er,by rw[List.length_set],setRow_heap w J l _ er _ q2,by rw[List.length_set];exact q3,q4,?_,?_,by rw[List.length_set]⟩⟩,by rw[H];rfl⟩,?_,?_,?_⟩
     .simp only[List.size_toArray,bk,bq,List.length_drop,Array.length_toList,List.length_singleton];omega
     .rw[List.length_set,<-q6];apply List.ext_getElem?;intro i;have hs2:l.toList.take c++[y]++l.toList.drop (c+1)=l.toList.set c y:=by
       rw [List.set_eq_take_append_cons_drop,a6 (by simpa using R),c8];rfl
      rw [hs2];simp only[List.getElem?_take,List.getElem?_set,bq,Array.length_toList];by_cases hi:i<fs.length*1
      .simp only[a6 hi];by_cases V:c=i
       .subst V;simp only[if_true];rw[a6 R,a6 (by omega)]
       .simp only[ae V]
      .simp only[ae hi];rw[ae (by omega)]
     .rw[BZ];have W:=(BZ _ _).1 (Ak hag _ _ m3);rw[XU I fs c m4];refine⟨by rw[List.length_set,List.length_set];exact W.1,fun i t' v'' A j=>?_⟩;rw[List.getElem?_set]at A j;by_cases X:c=i
      .subst X;rw[a6 rfl]at A j;split at A
       .split at j
        .simp only[tg]at A j;subst A j;exact Pm u hfl _ k2'
        .cases j
       .cases A
      .rw[ae X]at A j;exact W.2 i t' v'' A j
     .intro e he;rcases List.mem_or_eq_of_mem_set he with he|rfl
      .exact m4 e he
      .rw[I];rfl
     .intro x L;rcases List.mem_or_eq_of_mem_set L with L|rfl
      .exact m5 x L
      .exact k3'
    .simp only[TV.WF]at D|-;refine⟨by simpa using D.1,?_⟩;rw[Bj];intro t ht;rcases List.mem_or_eq_of_mem_set ht with ht|rfl
     .exact Bj.1 D.2 t ht
     .exact M.2
 .exact h.elim
theorem XF(A:AO F0 w0 U a w G)(C:u.WF):∀{i:Nat}{xs:List Operand}{ys:List AF},BX xs ys=true->∀{j:Fq},Hx U i ys=some j->(∀x,xs[i]?=some x->Ah w (AS w0.heap.size F0 G) u (a.eval x))->AQ w (AS w0.heap.size F0 G) (j.set i u) (xs.map a.eval)/\TV.tn (j.set i u)
 |_,[],[],_,j,h,_=>by simp[Hx]at h;subst h;exact⟨rfl,trivial⟩|_,[],_::_,h,_,_,_=>by simp[BX]at h|_,_::_,[],h,_,_,_=>by simp[BX]at h|0,x::xs,y::ys,c,j,h,ho=>by
  simp only[BX,pr]at c;simp only[Hx]at h;split at h
  .rename_i B g;simp only[tg]at h;subst h;have l:=ho x (by simp);obtain⟨r,H⟩:=FO A c.2 g;exact⟨⟨_,_,rfl,l,r⟩,C,H⟩
  .cases h
 |i+1,x::xs,y::ys,c,j,h,ho=>by
  simp only[BX,pr]at c;simp only[Hx]at h;split at h
  .rename_i t B E g;simp only[tg]at h;subst h;have l:=Au A c.1 E;have r:=XF A C c.2 g (fun x D=>ho x (by simpa using D));exact⟨⟨_,_,rfl,l.1,r.1⟩,l.2,r.2⟩
  .cases h
variable{f:FuncId}{ys:List AF}{ats:Array TypeId}{Q:Exit->Act->World->Prop}
theorem dz(B:AO F0 w0 U a w G)(hd:d<a.tmps.size)(X:o.dst=some d){xs:Array Operand}{i:Nat}(hop:o.op=.call {callee:=.value (.func f),args:=xs,argTypes:=ats})(Y:BX xs.toList ys=true)(h:(AE.xF f ys i).wp (AR P) U (some d) K)
  {next:Act->World->Prop}(hn:∀e env' a' w',K e env'->PU a d a'->Bm F0 w0 ((d,e)::env') a' w'->next a' w'):o.wp P a w next Q:=by
 simp only[AE.wp]at h;split at h
 .rename_i d' q hdd hy;simp only[tg]at hdd;subst hdd;split at h
  .rename_i cs hq;obtain⟨hdq,h⟩:=h;cases N:Hx U i ys with
   |none=>rw[N]at h;exact h.elim|some ts=>
    rw [N]at h;simp only[AX]at h;obtain⟨r,hS,hK⟩:=h;have O:q<a.tmps.size:=Ba B hq (by simp);have hxi:∀(xs:List Operand)(ys:List AF)(i:Nat)(y:AF),BX xs ys=true->ys[i]?=some y->∃x,xs[i]?=some x/\AI x y=true:=by
     intro xs
     induction xs with
     |nil=>intro ys i y I M;cases ys<;>simp[BX]at I M
     |cons x xs ih=>
      intro ys i y I M;cases ys with
      |nil=>simp[BX]at I|cons z ys=>
       simp only[BX,pr]at I
       grind
    obtain ⟨x,hx,hxy⟩:=hxi _ _ _ _ Y hy;have hev:=JB (a:=a) hxy;have hr:=AW B hq (by simp);have hwc:=B.wf q;rw[hq]at hwc;simp only[AK]at hr;obtain⟨vs,I,M,h3⟩:=hr;have hone:∀y∈vs.toList,y.oneCell'=true:=by
     intro y hy;obtain⟨i,hi⟩:=List.getElem?_of_mem hy;have hlt:i<cs.length:=by have:=(List.getElem?_eq_some_iff.1 hi).1;simpa[M]using this
     obtain ⟨x,hx,H⟩:=h3 i _ (List.getElem?_eq_getElem hlt)
     grind [tg,GU]
    have D:Ah w (AS w0.heap.size F0 G) (.agg (cs.map fun _=>TV.undef)) (a.eval x):=by
     grind [Ah,List.all_eq_true,BZ,Option.map_eq_some_iff,List.mem_of_getElem?]
    have hwu:(TV.agg (cs.map fun _=>TV.undef)).WF:=by
     grind [TV.WF,Bj]
    have hv:=XF B hwu Y N (fun x' hx'=>by rw[hx]at hx';cases hx';exact D);have E:∀b o,AS w0.heap.size F0 G b o↔((AS w0.heap.size F0 G b o/\¬ZF (Bk a G q) b o)\/ZF (Bk a G q) b o):=by
     intro b o;constructor
     .intro hf;by_cases W:ZF (Bk a G q) b o
      .exact .inr W
      .exact .inl ⟨hf,W⟩
     .rintro(hf|⟨p,i,lo,I,M⟩)
      .exact hf.1
      .obtain⟨p,j,T,_⟩:=CB I;exact .inr ⟨p,j,lo,T,M⟩
    have hF:(fun b o=>(AS w0.heap.size F0 G b o/\¬ZF (Bk a G q) b o)\/ZF (Bk a G q) b o)=AS w0.heap.size F0 G:=by
     funext b o;exact propext (E b o).symm
    obtain ⟨k0,k3⟩:=hS hv.2 hwc;have hbr:VX w (fun b o=>(AS w0.heap.size F0 G b o/\¬ZF (Bk a G q) b o)\/ZF (Bk a G q) b o) (Bk a G q) cs (slot a q):=by
     rw [hF];refine⟨vs,I,M,fun j c H=>?_⟩;obtain⟨x,J,V⟩:=h3 j c H;refine⟨x,J,by rw[C5];exact V.wk (fun g lo j hg=>Nz hg j),GU V⟩
    obtain ⟨k1,k4⟩:=k3 (fun b o=>AS w0.heap.size F0 G b o/\¬ZF (Bk a G q) b o) w (xs.map a.eval) (slot a q) (Bk a G q) (by rw[hF];simpa using hv.1)
     (by rw[Array.getElem?_map];rw[<-Array.getElem?_toList,hx];simp only[Option.map_some];rw[hev]) hbr (I5 B O) (fun p i b lo e=>by obtain⟨p,j,T,_⟩:=CB e;exact(B.lt _ _ _ _ T).1)
     (by
      rintro b o o' ⟨p,i,lo,J,V⟩ ⟨hf,hnz⟩;by_cases hlo:lo<=o'
      .exact hnz ⟨p,i,lo,J,hlo⟩
      .obtain⟨p,j,T,_⟩:=CB J;exact Nn B b lo o' T (by omega) hf)
     ⟨B.below.now,fun b o⟨_,_,_,e,_⟩=>by obtain⟨_,_,T,_⟩:=CB e;exact B.low T⟩
    have hrun:(execOp a.eval o).run P w=(callFunc f (xs.map a.eval)).run P w:=by simp[execOp,hop,resolve,Act.eval,Deferred.ofValue,invoke]
    unfold Oper.wp;rw[hrun,EU k0 _,Oper.upon_enter];refine k4.mono ?_;rintro e w' ⟨v',rfl,r1,r2⟩;simp only[X];refine hn _ _ _ _ (hK k1) ⟨_,rfl⟩ ?_;have R:∀Z:DM,IW Z->(∀p i b lo,Z p i=some (b,lo)->b<w'.heap.size/\(w.heap.size<=b\/∃p' j lo',Bk a G q p' j=some (b,lo')/\lo'<=lo))->(∀cs,r.yF≠.bx cs)->(∀n es,r.yF≠.xo n es)->r.yF.WF ->
      (∀A,(∀b o,A b o->(b<w.heap.size/\AS w0.heap.size F0 G b o/\¬ZF (Bk a G q) b o)\/ZF Z b o)->AK (a.put (some d) v') w' A (CJ a G q d Z) ((d,r.yF)::(q,.undef)::U) d r.yF v')->Bm F0 w0 ((d,r.yF)::(q,.undef)::U) (a.put (some d) v') w':=by
     intro Z hzu W hb1 hb2 hwf hrep;refine⟨_,(B.xg (s:=q) (d:=d) (Z:=Z) (w':=w') (env':=(d,r.yF)::(q,.undef)::U) (a':=a.put (some d) v') O hd r1 (Bc _ _ _) (EY _ _ _) hzu W ?_ ?_ ?_ ?_ ?_ (.inr (.inr ⟨fun cs=>by rw[AB.d4,a6 rfl];exact hb1 cs,fun n es=>by rw[AB.d4,a6 rfl];exact hb2 n es⟩)) ?_).1⟩
     .intro p hp;rw[AB.d4,ae (by omega),AB.d4,ae (by omega)];exact B.dom p hp
     .intro p;rw[AB.d4];split
      .exact hwf
      .rw[AB.d4];split
       .trivial
       .exact B.wf p
     .exact fun p hp _=>AV _ _ _ _ (fun e=>hp e.symm)
     .exact fun p hp hpq=>by rw[AB.d4,ae (fun e=>hp e.symm),AB.d4,ae (fun e=>hpq e.symm)]
     .exact fun _=>by rw[AB.d4,ae hdq,AB.d4,a6 rfl]
     .intro A l;rw[AB.d4,a6 rfl,Ce _ _ _ hd];exact hrep A l
    have C:∀(Z:DM)(A:Nat->Nat->Prop),(∀p i b lo,Z p i≠some (b,lo))->(∀b o,A b o->(b<w.heap.size/\AS w0.heap.size F0 G b o/\¬ZF (Bk a G q) b o)\/ZF Z b o)->BY w' w' (fun b o=>b<w.heap.size/\AS w0.heap.size F0 G b o/\¬ZF (Bk a G q) b o) A:=by
     intro Z A hZ l b o u H hf;refine⟨H,fun L=>?_⟩;rcases l b o L with e|⟨p,i,lo,e,_⟩
     .exact hf e
     .exact hZ _ _ _ _ e
    cases r with
    |sh t=>
     refine R (fun _ _=>none) (fun _ _ _ _ _ _ _ e=>by cases e) (fun _ _ _ _ e=>by cases e) (by simp[Am.yF,Am.ev]) (by simp[Am.yF,Am.ev]) k1 fun A l=>?_;simp only[Am.yF,Am.ev,AK];exact B5 (C _ A (by simp) l) _ _ r2
    |tp ts=>
     refine R (fun _ _=>none) (fun _ _ _ _ _ _ _ e=>by cases e) (fun _ _ _ _ e=>by cases e) (by simp[Am.yF,Am.ev]) (by simp[Am.yF,Am.ev]) k1 fun A l=>?_;simp only[Am.yF,Am.ev,AK];obtain⟨us,J,V⟩:=r2;exact⟨us,J,Ak (C _ A (by simp) l) _ _ V⟩
    |wQ ds=>
     obtain ⟨Z,⟨us,J,V,e3⟩,e4,e5,e6⟩:=r2;refine R Z e4 e6 (by simp[Am.yF]) (by simp[Am.yF]) k1 fun A l=>?_;simp only[Am.yF,AK];refine⟨us,J,V,fun j c H=>?_⟩;obtain⟨y,g1,g2,g3⟩:=e3 j c H;refine⟨y,g1,?_⟩;have hzz:CJ a G q d Z d=Z 0:=by simp[CJ]
     rw [hzz];refine BA.wk (g2.kept (fun b o u H hf=>⟨H,fun L=>hf ?_⟩) (fun _ _ _=>rfl) BD.rfl') (fun g lo j W=>O9 (Bc _ _ _) hd O W j);exact l b o L
    |_=>exact r2.elim
  .exact h.elim
 .exact h.elim
theorem kN(C:AO F0 w0 U a w G){x v:Operand}{x' v':AF}{ps:List (Option AN)}(hop:o.op=.store t x v)(hx:AI x x'=true)(hv:AI v v'=true)(hn:Cn P t=some n)(h:(AE.zh n ps x' v').wp S U none K):G7 P F0 w0 a w o K:=by
 simp only[AE.wp]at h;split at h
 .rename_i s off u hp hve;split at h
  .rename_i cs hs;obtain⟨b,W,X⟩:=Gn C hx hp hs;have hr:=AW C hs (by simp);simp only[AK]at hr;obtain⟨N,c,T,h1,h2,h3,h4,h5⟩:=hr;rw[W]at h1;simp only[Value.pointer.injEq,tg,Addr.mk.injEq,and_true,and_self]at h1;subst h1;have hw:=C.wf s;rw[hs]at hw;have hst:∀(vs:List Value),vs.length=n->(a.eval v).cells.toList=vs->off+n<=c.size->(∀y∈vs,y.oneCell'=true)->(execOp a.eval o).run P w=.ok .skip (w.setRow b (c.toList.take off++vs++c.toList.drop (off+n)).toArray):=by
    intro vs hl I hle ho;have B:=run_storeCells_at P b off T vs 0 c w h2 (by omega) ho;simp only[Nat.add_zero]at B;have hsz:(a.eval v).cells.size=n:=by rw[<-Array.length_toList,I,hl]
    rw [hl]at B;simp[execOp,hop,X,Instr.storeAt,Instr.sureAddr,storeVar,B2 hn,hsz,I,B]
   cases hb:EA ps u.cells with
   |none=>rw[hb]at h;exact h.elim|some ds=>
    rw [hb]at h;simp only[AX]at h;obtain⟨hl,Y⟩:=Lq hb;obtain⟨hun,hoff,hnx,hK⟩:=h;have R:=Au C hv hve;have I:=GA R.1;have D:=BE I.1;refine⟨_,hst _ (by omega) rfl (by omega) I.2,_,hK,?_⟩
    let zs:Option Nat->Option (Nat×Nat):=fun i=>match i with|none=>some (b,0)|some j=>if off<=j/\j<off+n then none else G s (some j)
    refine C.rebox_n hs W h2 (zs:=zs) rfl ?_ ?_ ?_ ?_ ?_ ?_
    .intro i N lo hi hz;cases i with
     |none=>exact absurd rfl hi|some j=>
      simp only[zs]at hz;split at hz
      .cases hz
      .exact hz
    .intro i i' N lo H r A;have zn:∀j N lo H,zs (some j)=some (N,lo)->zs none=some (N,H)->False:=by
      intro j N lo H r A;simp only[zs,tg,Prod.mk.injEq]at A;obtain⟨rfl,_⟩:=A;simp only[zs]at r;split at r
      .cases r
      .have:=(C.ne _ _ _ _ _ _ _ r h4).2;cases this
     cases i with
     |none=>cases i' with
      |none=>rfl|some j=>exact(zn j _ _ _ A r).elim
     |some j=>cases i' with
      |none=>exact(zn j _ _ _ r A).elim|some j'=>
       simp only[zs]at r A;split at r<;>split at A
       .cases r
       .cases r
       .cases A
       .exact(C.ne _ _ _ _ _ _ _ r A).2
    .simp only[List.size_toArray,bk,bq,List.length_drop,Array.length_toList]at D|-;omega
    .intro F' w' J E O i y l;rw[List.getElem?_toArray];rcases Nat.lt_or_ge i off with M|hge
     .rw[c8,List.getElem?_append_left (by simp;omega),List.getElem?_take_of_lt M]at l;obtain⟨vv,r,A⟩:=h5 i y l;refine⟨vv,?_,?_⟩
      .rw[c8,List.getElem?_append_left (by simp;omega),List.getElem?_take_of_lt M];simpa using r
      .simp only[zs];rw[ae (by omega)];exact A.kept J (fun k lo Z=>E k (fun e=>by have:=(C.ne _ _ _ _ _ _ _ (e▸Z) h4).2;cases this)) O
     .rcases Nat.lt_or_ge i (off+n)with M|hge2
      .rw[c8,List.getElem?_append_right (by simp;omega),List.getElem?_append_left (by simp;omega)]at l;simp only[bq]at l;rw[Nat.min_eq_left (by omega)]at l;obtain⟨tt,htt,L⟩:=Y _ _ l;have V:(a.eval v).cells.toList[i-off]?=some ((a.eval v).cells.toList[i-off]'(by omega)):=List.getElem?_eq_getElem (by omega);refine⟨(a.eval v).cells.toList[i-off]'(by omega),?_,?_⟩
       .rw[c8,List.getElem?_append_right (by simp;omega),List.getElem?_append_left (by simp only[bq,Array.length_toList]at D|-;omega)];simp only[bq,Array.length_toList];rw[Nat.min_eq_left (by omega)];exact V
       .have hzi:zs (some i)=none:=by simp only[zs];rw[a6 ⟨by omega,by omega⟩]
        have g:=((BZ _ _).1 I.1).2 _ tt _ htt V;rw[hzi];rcases L with rfl|⟨rfl,n',rfl|rfl|rfl⟩
        .exact⟨B5 J _ _ g,I.2 _ (List.getElem_mem _)⟩
        .simp only[Ah]at g;simp only[BA,D0,Bi];exact⟨[],⟨by simp,.inl ⟨g,rfl,rfl⟩⟩,rfl,by simp,by simp⟩
        .simp only[Ah]at g;simp only[BA,D0];exact⟨[],⟨none,⟨by simp,.inl ⟨g,rfl,rfl⟩⟩,rfl⟩,rfl,by simp,by simp⟩
        .simp only[Ah]at g;simp only[BA,D0];exact⟨[],⟨none,⟨by simp,.inl ⟨g,rfl,rfl⟩⟩,rfl⟩,by simp,by simp⟩
      .rw[List.getElem?_append_right (by simp;omega)]at l;simp only[bk,bq,List.getElem?_drop]at l;rw[Nat.min_eq_left (by omega),show off+n+(i-(off+ds.length))=i from by omega]at l;obtain⟨vv,r,A⟩:=h5 i y l;refine⟨vv,?_,?_⟩
       .rw[List.getElem?_append_right (by simp only[bk,bq,Array.length_toList]at D|-;omega)];simp only[bk,bq,Array.length_toList,List.getElem?_drop]at D|-;rw[Nat.min_eq_left (by omega),show off+n+(i-(off+(a.eval v).cells.size))=i from by omega];simpa using r
       .simp only[zs];rw[ae (by omega)];exact A.kept J (fun k lo Z=>E k (fun e=>by have:=(C.ne _ _ _ _ _ _ _ (e▸Z) h4).2;cases this)) O
    .intro y l;rcases List.mem_append.1 l with l|l
     .rcases List.mem_append.1 l with l|l
      .exact hw y (List.mem_of_mem_take l)
      .obtain⟨i,hi⟩:=List.getElem?_of_mem l;obtain⟨tt,ht,L⟩:=Y i y hi;rcases L with rfl|⟨rfl,n',rfl|rfl|rfl⟩
       .exact Bj.1 (Hc R.2) tt (List.mem_of_getElem? ht)
       .simp[TV.WF,TV.tn]
       .simp[TV.WF,TV.tn]
       .simp[TV.WF,TV.tn]
     .exact hw y (List.mem_of_mem_drop l)
    .intro k tx htx Z;exact .inl (AB.noX_all hnx)
  .exact h.elim
 .exact h.elim
theorem AO.takeAll(h:AO F0 w0 U a w G){cs:List AN}(hs:U.get s=.bx cs)(hd:d<a.tmps.size)(hds:d≠s){c:Array Value}{T:TypeId}(Z:slot a s=.pointer (some ⟨b,0,none⟩))(h2:w.heap[b]?=some (.cells c T (0,0))):
  Bm F0 w0 ((d,.wQ cs)::(s,.bx (cs.map fun _=>⟨false,.undef⟩))::U) (a.put (some d) (.agg c)) w:=by
 have hsz:s<a.tmps.size:=Ba h hs (by simp);have hr:=AW h hs (by simp);have hw:=h.wf s;rw[hs]at hw;simp only[AK]at hr;obtain⟨J,c',T',l,h2',h3,h4,h5⟩:=hr;rw[Z]at l;simp only[Value.pointer.injEq,tg,Addr.mk.injEq,and_true,and_self]at l;subst l;rw[h2]at h2';cases h2'
 let H:BP:=fun p i=>if p=d then(if i=none then none else G s i)else if p=s/\i≠none then none else G p i
 have M:∀p i J lo,H p i=some (J,lo)->(p=d/\i≠none/\G s i=some (J,lo))\/(p≠d/\¬(p=s/\i≠none)/\G p i=some (J,lo)):=by
  grind
 have hag:BY w w (AS w0.heap.size F0 G) (AS w0.heap.size F0 H):=fun J o v hc hF=>⟨hc,fun hF'=>hF (AS.mono (fun p i b'' lo X=>by
  grind) hF')⟩
 have I:wk (a.put (some d) (.agg c)) H=wk a G:=Kd (Bc _ _ _) fun q hq=>by
  grind
 refine ⟨H,?_,?_,h.below,by rw[EY];exact h.defers,?_,?_,?_⟩
 .intro p i p' i' J lo lo' C Y;rcases M _ _ _ _ C with⟨rfl,n0,f1⟩|⟨n1,n2,f1⟩<;>rcases M _ _ _ _ Y with⟨rfl,m0,f2⟩|⟨m1,m2,f2⟩
  .exact⟨rfl,(h.ne _ _ _ _ _ _ _ f1 f2).2⟩
  .have:=h.ne _ _ _ _ _ _ _ f1 f2;exact absurd ⟨this.1.symm,this.2▸n0⟩ m2
  .have:=h.ne _ _ _ _ _ _ _ f1 f2;exact absurd ⟨this.1,this.2▸m0⟩ n2
  .exact h.ne _ _ _ _ _ _ _ f1 f2
 .intro p i J lo C;rcases M _ _ _ _ C with⟨_,_,C⟩|⟨_,_,C⟩<;>exact h.lt _ _ _ _ C
 .intro p X;rw[Bc]at X;rw[AB.d4,ae (by omega),AB.d4,ae (by omega)];exact h.dom p X
 .intro p X;rw[Bc]at X;rw[AB.d4];by_cases A:d=p
  .subst A;rw[a6 rfl,Ce _ _ _ hd];simp only[AK];refine⟨c,rfl,h3,fun i y D=>?_⟩;obtain⟨v,C,Y⟩:=h5 i y D;refine⟨v,C,?_⟩;have:H d (some i)=G s (some i):=by simp[H]
   rw [this,I];exact Y.kept hag (fun _ _ _=>rfl) BD.rfl'
  .rw[ae A,AV _ _ _ _ A,AB.d4];by_cases N:s=p
   .subst N;rw[a6 rfl];simp only[AK];refine⟨b,c,T,Z,h2,by simpa using h3,by simp only[H];rw[ae (fun e=>A e.symm),ae (by simp)];exact h4,fun i y D=>?_⟩;rw[List.getElem?_map]at D;simp only[Option.map_eq_some_iff]at D;obtain⟨y0,hy0,rfl⟩:=D;obtain⟨v,C,Y⟩:=h5 i y0 hy0;exact⟨v,C,GU Y,GU Y⟩
   .rw[ae N];refine AK.kept hag (fun i=>by simp only[H];rw[ae (fun e=>A e.symm),ae (fun e=>N e.1.symm)]) (fun _ _ _ _=>rfl) I BD.rfl' (fun r i k hr⟨E,L⟩=>?_) (fun r off' hr⟨cs',g⟩=>?_) (fun r i hr⟨E,L⟩=>?_) (h.slots p X)
    .have l:=AB.ws (by simp) L;by_cases j:s=r
     .subst j;obtain⟨cs'',V,W⟩:=AB.wd l.2;rw[AB.d4,a6 rfl]at V;simp only[EV.bx.injEq]at V;subst V;rw[List.getElem?_map]at W;cases O:cs[i]? <;>rw[O]at W<;>simp at W
     .have B:U.nat r i=some E:=by rw[<-l.2];exact(AB.wO j).symm
      exact ⟨⟨E,B⟩,h.nh ⟨E,B⟩ (AV _ _ _ _ l.1) (fun _ _ _ _=>rfl)⟩
    .rw[AB.d4]at g;by_cases R:d=r
     .rw[a6 R]at g;cases g
     .rw[ae R,AB.d4]at g;refine⟨?_,AV _ _ _ _ R⟩;split at g
      .rename_i j;subst j;exact⟨cs,hs⟩
      .exact⟨_,g⟩
    .have l:=AB.t5 (by simp) (by simp) L;by_cases j:s=r
     .subst j;obtain⟨n,es⟩:=E;cases i with
      |none=>have:=AB.wj l.2;rw[AB.d4,a6 rfl]at this;cases this
      |some k=>
       obtain ⟨cs'',V,W⟩:=AB.wa l.2;rw[AB.d4,a6 rfl]at V;simp only[EV.bx.injEq]at V;subst V;rw[List.getElem?_map]at W;cases O:cs[k]? <;>rw[O]at W<;>simp at W
     .have B:U.tl r i=some E:=by rw[<-l.2];exact(AB.wJ j).symm
      exact ⟨⟨E,B⟩,h.xv ⟨E,B⟩ (AV _ _ _ _ l.1) (fun _ _=>rfl)⟩
 .intro p;rw[AB.d4];split
  .exact hw
  .rw[AB.d4];split
   .intro y D;simp only[List.mem_map]at D;obtain⟨_,_,rfl⟩:=D;trivial
   .exact h.wf p
theorem j5(B:AO F0 w0 U a w G)(hd:d<a.tmps.size)(r:o.op=.load t (.tmp s))(I:Bv P t=some true)(J:Cn P t=some n)(h:(AE.ldg s n).wp S U (some d) K):Ax P F0 w0 a w o d K:=by
 simp only[AE.wp]at h;split at h
 .rename_i O cs l C;simp only[tg]at l;subst l;obtain⟨L,A,M⟩:=h;have D:=AW B C (by simp);simp only[AK]at D;obtain⟨b,c,T,E,H,N,_⟩:=D;have g:=run_loadCells_list (P:=P) w ⟨b,0,none⟩ c.toList (fun j v hv=>by
   have:=cell_of_row w b j c T (0,0) H;rw[show((⟨b,0,none⟩:Addr).add j)=⟨b,j,none⟩by rw[Addr.add_lit,Nat.zero_add],this];simpa using hv)
  rw [Array.length_toList,N,L]at g;refine⟨.agg c,w,?_,_,_,M,B.takeAll C hd A E H⟩;simp[execOp,r,show a.eval (.tmp s)=slot a s from rfl,E,Instr.loadAt,Instr.sureAddr,loadVar,Cc I,B2 J,g]
 .exact h.elim
end
end Go.Sf
namespace Go.Sf
open Go.RowKit (Below)
open Go.ChangeMaps (setBlock)
section
variable{P:Program}{S:FuncId->Fq->Am->Prop}{F0:Nat->Nat->Prop}{w0:W0}{U:AB}{a:Act}{w:World}{G:BP}{d:Nat}{o:Oper}{K:EV->AB->Prop}
variable{v:Value}
theorem AO.mxgo(h:AO F0 w0 U a w G){s d:Nat}{m m':MX}(hs:U.get s=.mx m)(hd:d<a.tmps.size){w':World}{z z2:Option (Nat×Nat)}(V:GI (Bk a G s) w w')
  (hz:∀b lo,z=some (b,lo)->b<w'.heap.size/\(w.heap.size<=b\/∃p j c,Bk a G s p j=some (b,c)/\c<=lo))(hz2:∀b lo,z2=some (b,lo)->b<w'.heap.size/\(w.heap.size<=b\/∃p j c,Bk a G s p j=some (b,c)/\c<=lo))
  (C:∀b lo c,z=some (b,lo)->z2≠some (b,c))(hw:m'.WF)
  (D:∀g,BY w w' (AS w0.heap.size F0 G) g->T9 w' g z z2 m' v):
  ∃W,AO F0 w0 ((d,.mx m')::(s,.undef)::U) (a.put (some d) v) w' W/\BY w w' (AS w0.heap.size F0 G) (AS w0.heap.size F0 W):=by
 have O:s<a.tmps.size:=Ba h hs (by simp)
 let Z:DM:=fun p i=>if p=0 then(if i=none then z else if i=some 0 then z2 else none)else none
 have Y:∀p i b lo,Z p i=some (b,lo)->p=0/\((i=none/\z=some (b,lo))\/(i=some 0/\z2=some (b,lo))):=by
  grind
 have l:∀p i b lo,Z p i=some (b,lo)->b<w'.heap.size/\(w.heap.size<=b\/∃p j c,Bk a G s p j=some (b,c)/\c<=lo):=by
  grind
 have r:∀g:Nat->Nat->Prop,(∀b o,g b o->(b<w.heap.size/\AS w0.heap.size F0 G b o/\¬ZF (Bk a G s) b o)\/ZF Z b o)->BY w w' (AS w0.heap.size F0 G) g:=by
  intro g A b o u X hf;have hlt:b<w.heap.size:=World.block_lt_of_cell? w ⟨b,o,none⟩ X;have H:¬ZF (Bk a G s) b o:=fun⟨q,i,lo,h1,h2⟩=>by
   obtain ⟨p,j,B,_⟩:=CB h1;exact hf (.inr ⟨p,j,lo,B,h2⟩)
  refine ⟨V.cell b o u H X,fun J=>?_⟩;rcases A b o J with⟨_,e,_⟩|⟨p,j,lo,e3,e4⟩
  .exact hf e
  .rcases(l _ _ _ _ e3).2 with e5|⟨p2,j2,T,e5,e6⟩
   .omega
   .exact H ⟨p2,j2,T,e5,Nat.le_trans e6 e4⟩
 have key:=h.xg (s:=s) (d:=d) (Z:=Z) (w':=w') (env':=(d,.mx m')::(s,.undef)::U) (a':=a.put (some d) v) O hd V (Bc _ _ _) (EY _ _ _) ?_ l ?_ ?_ ?_ ?_ ?_ (.inr (.inr ⟨fun cs=>by rw[AB.d4,a6 rfl];simp,fun n es=>by rw[AB.d4,a6 rfl];simp⟩)) ?_
 .exact⟨_,key.1,r _ key.2⟩
 .intro p i p' i' b lo c M N;obtain⟨rfl,B⟩:=Y _ _ _ _ M;obtain⟨rfl,I⟩:=Y _ _ _ _ N;refine⟨rfl,?_⟩;rcases B with⟨rfl,B⟩|⟨rfl,B⟩<;>rcases I with⟨rfl,I⟩|⟨rfl,I⟩
  .rfl
  .exact absurd I (C _ _ _ B)
  .exact absurd B (C _ _ _ I)
  .rfl
 .intro p E;rw[AB.d4,ae (by omega),AB.d4,ae (by omega)];exact h.dom p E
 .intro p;rw[AB.d4];split
  .exact hw
  .rw[AB.d4];split
   .trivial
   .exact h.wf p
 .exact fun p E _=>AV _ _ _ _ (fun e=>E e.symm)
 .exact fun p E L=>by rw[AB.d4,ae (fun e=>E e.symm),AB.d4,ae (fun e=>L e.symm)]
 .exact fun e=>by rw[AB.d4,ae (fun e'=>e e'.symm),AB.d4,a6 rfl]
 .intro g A;rw[AB.d4,a6 rfl,Ce _ _ _ hd];have R:CJ a G s d Z d=Z 0:=by simp[CJ]
  simp [AK];rw[R];have M:Z 0 none=z:=by simp[Z]
  have N:Z 0 (some 0)=z2:=by simp[Z]
  rw [M,N];exact D g (r g A)
variable{b:Nat}
theorem RK{g o:Obj}(h:w.heap[b]?=some g):(setBlock w b o).heap[b]?=some o/\∀k,k≠b->(setBlock w b o).heap[k]?=w.heap[k]?:=by
 have c:b<w.heap.size:=(Array.getElem?_eq_some_iff.1 h).1;refine⟨by simp[setBlock,c],fun k j=>?_⟩;simp[setBlock]
 grind
variable{p:Nat}{i:Option Nat}
theorem SL{Z:DM}{c:World}(g:c.heap=w.heap/\c.os=w.os/\c.tape=w.tape/\c.output=w.output)(l:Z p i=some (b,0)){o r:Obj}(h:w.heap[b]?=some r):GI Z w (setBlock c b o):=by
 obtain ⟨j,C,D,E⟩:=g;have hh:=RK (w:=c) (o:=o) (by rw[j];exact h);refine⟨C,D,E,by simp[setBlock,j],fun k _ H=>?_,fun k q u A I=>?_⟩
 .grind
 .have B:k≠b:=fun e=>A ⟨p,i,0,by rw[e];exact l,Nat.zero_le _⟩
  grind [World.cell?_of_block]
variable{t:TypeId}
theorem kA(g:AO F0 w0 U a w G)(hd:d<a.tmps.size)(c:o.op=.makeMap t none)(h:AE.yQ.wp S U (some d) K):Ax P F0 w0 a w o d K:=by
 simp [AE.wp]at h;replace h:=h w.heap.size;have r:Below w.heap.size w (w.alloc (.map #[] 0)):=(Below.refl _ _).alloc (az _) _;refine⟨.map (some w.heap.size),w.alloc (.map #[] 0),?_,_,_,h,_,g.quiet r d hd (.mx (.mp w.heap.size [])) _ (fun i=>if i=none then some (w.heap.size,0)else none) (fun i b lo hi=>?_) (fun i A b lo j B C=>?_) (by simp) ?_ (by intro p l;cases l)⟩
 .simp[execOp,c,Instr.makeMap,newObj,Sem.run]
 .split at hi
  .simp at hi;rw[<-hi.1];exact⟨az _,by simp⟩
  .cases hi
 .grind
 .simp[AK,Bq];exact⟨rfl,rfl,#[],0,heap_alloc_new w _,rfl,by simp,by simp⟩
variable{s:Nat}
theorem aC(r:AO F0 w0 U a w G)(hd:d<a.tmps.size)(c:o.op=.move (.tmp s)\/o.op=.assign (.tmp s))(h:(AE.zI s).wp S U (some d) K):Ax P F0 w0 a w o d K:=by
 have j:(execOp a.eval o).run P w=.ok (.value (slot a s)) w:=by rcases c with c|c<;>simp[execOp,c,show a.eval (.tmp s)=slot a s from rfl]
 have C:∀g:Fq,(∃vs,slot a s=.tuple vs/\AQ w (AS w0.heap.size F0 G) g vs.toList)->TV.tn g->K (.tp g) U->Ax P F0 w0 a w o d K:=by
  rintro g ⟨vs,E,H⟩ B J;refine⟨_,w,j,_,_,J,⟨_,r.quiet (Below.refl _ _) d hd (.tp g) _ (fun _=>none) (by simp) (by simp) (by simp) ?_ B⟩⟩;simp[AK];exact⟨vs,E,Ak (Jk (Below.refl _ _) d _ (by simp)) _ _ H⟩
 simp [AE.wp]at h;split at h
 .rename_i b D A;have l:=AW r A (by simp);simp[AK]at l;exact CY r hd (t:=.xJ b) j (by simp[Ah];exact l.1) trivial h
 .rename_i b D g A;have l:=AW r A (by simp);have B:=r.wf s;rw[A]at B;simp[AK]at l;obtain⟨vs,E,H,L,I⟩:=l;exact C (.xJ b::g) ⟨_,E,⟨_,_,rfl,by simp[Ah],I⟩⟩ ⟨trivial,B.2⟩ h
 .rename_i g A;have l:=AW r A (by simp);have B:=r.wf s;rw[A]at B;simp[AK]at l;exact C _ l B h
 .exact h.elim
variable{f:FuncId}{ys:List AF}{ats:Array TypeId}{Q:Exit->Act->World->Prop}
theorem eF(r:AO F0 w0 U a w G)(hd:d<a.tmps.size)(g:o.dst=some d){xs:Array Operand}(C:o.op=.call {callee:=.value (.func f),args:=xs,argTypes:=ats})(D:BX xs.toList ys=true)(h:(AE.xw f ys).wp (AR P) U (some d) K)
  {next:Act->World->Prop}(N:∀e env' a' w',K e env'->PU a d a'->Bm F0 w0 ((d,e)::env') a' w'->next a' w'):o.wp P a w next Q:=by
 simp only[AE.wp]at h;cases l:vals U ys with
 |none=>rw[l]at h;exact h.elim|some ts=>
  rw [l]at h;simp only[AX]at h;have hv:=FO r D l;have j:(execOp a.eval o).run P w=(callFunc f (xs.map a.eval)).run P w:=by simp[execOp,C,resolve,Act.eval,Deferred.ofValue,invoke]
  rcases h with⟨L,E,M⟩|⟨A,L,E,M⟩
  .exact Wj r hd g (vs:=xs.map a.eval) j ⟨E,rfl⟩ hv.2 (by simpa using hv.1) M N
  .obtain⟨Z,I⟩:=(E:Vf P f ts (.mpr A L)) hv.2;obtain⟨W,I⟩:=I _ w (xs.map a.eval) (by simpa using hv.1) r.below.now;unfold Oper.wp;rw[j,EU Z _,Oper.upon_enter];refine I.mono ?_;rintro e w' ⟨v,rfl,hb,b,vs,k1,k2,k3,X,k5⟩;simp[g];refine N _ _ _ _ (M W b) ⟨_,rfl⟩ ⟨_,r.quiet hb d hd (.mx (.tm b A L)) v (fun i=>if i=none then some (b,0)else none) (fun i O lo hi=>?_) (fun i i' O lo Y B R=>?_) (by simp) ?_ W⟩
   .split at hi
    .simp at hi;rw[<-hi.1];exact⟨k2,k3⟩
    .cases hi
   .split at B
    .split at R
     .simp_all
     .cases R
    .cases B
   .simp[AK,Bq];refine⟨vs,k1,rfl,X,Ak (fun O o u T hf=>⟨T,fun H=>?_⟩) _ _ k5⟩;rcases H with c|⟨p,i,lo,c,h7⟩
    .exact hf ⟨Nat.lt_of_lt_of_le c.1 r.below.size,.inl c⟩
    .by_cases V:p=d
     .subst V;rw[Bq]at c;split at c
      .simp at c;obtain⟨rfl,_⟩:=c;obtain⟨es,J,B,_⟩:=X;simp[World.cell?,B]at T
      .cases c
     .rw[A9 _ _ _ _ V]at c;exact hf ⟨(r.lt _ _ _ _ c).1,.inr ⟨p,i,lo,c,h7⟩⟩
def OW(P:Program)(t:TypeId):Bool:=
 match P.underlying t with
 |some (.map k e)=>Mx P (.a [0,0]) k&&(match P.underlying k with
  |some (.struct fs)=>(match fs.toList with
   |[f,g]=>Bv P f.type==some false&&Bv P g.type==some false&&f.offset==0&&g.offset==1&&(match P.underlying f.type with|some (.int _)=>true|_=>false)&&(match P.underlying g.type with|some (.int _)=>true|_=>false)
   |_=>false)
  |_=>false)&&(match P.info? e with|some i=>(match i.zero with|some (.int .i64 0)=>true|_=>false)|none=>false)
 |_=>false
variable{F:Nat->Nat->Prop}
theorem RM(k:Int×Int):Ah w F (QT k) (EQ k):=by
 simp only[QT,Ah,EQ];refine⟨_,rfl,?_,rfl⟩;simp only[AQ];exact⟨_,_,rfl,rfl,_,_,rfl,rfl,rfl⟩
variable{k:Int×Int}
theorem Z2(h:Ah w F (QT k) v):v=EQ k:=by
 simp [QT,Ah]at h;obtain⟨vs,rfl,h,_⟩:=h;simp only[AQ]at h;obtain⟨x,r,A,c,y,B,j,g,l⟩:=h;simp[Ah]at c g;subst c g;subst l;subst j;unfold EQ;congr 1
 grind
theorem bg{t:TV}(h:t.zc?=some k):t=QT k:=by
 unfold TV.zc? at h;split at h
 .cases h;rfl
 .cases h
theorem X5(g:Mx P (.a [0,0]) t=true)(x y:Int×Int):(Op.equal t (EQ x) (EQ y)).run P w=.ok (decide (x=y)) w:=by
 obtain ⟨xs,ys,h,j,_,c⟩:=VP (P:=P) (w:=w) (op:=.eql) (x:=.tmp 0) (y:=.tmp 0) (F:=fun _ _=>False) (cs:=[.int .i64 x.1,.int .i64 x.2]) (ds:=[.int .i64 y.1,.int .i64 y.2]) (q:=decide (x=y)) rfl g (RM x) (RM y) (by
  simp [CA]
  grind)
 rw [<-h,<-j]at c;exact c
theorem Qr(B:Mx P (.a [0,0]) t=true)(k:Int×Int):∀(L:List MapEntry)(c:BT)(i:Nat),L.map (fun e=>(e.key,e.val))=c.map (fun p=>(EQ p.1,Value.int .i64 p.2)) ->
  (c.look k=none/\(Instr.findAsking t (EQ k) L i).run P w=.ok none w/\∀n,c.set k n=c++[(k,n)])\/
  ∃j n e,c.look k=some n/\(Instr.findAsking t (EQ k) L i).run P w=.ok (some (i+j,.int .i64 n)) w/\L[j]?=some e/\e.key=EQ k/\∀m,c.set k m=List.set c j (k,m)
 |[],c,i,h=>by
  have:c=[]:=by simpa using h.symm
  subst this;exact .inl ⟨rfl,by simp[Instr.findAsking],fun n=>rfl⟩
 |e::L,[],i,h=>by simp at h|e::L,p::c,i,h=>by
  simp at h;obtain⟨⟨C,D⟩,E⟩:=h;by_cases g:p.1=k
  .refine .inr ⟨0,p.2,e,by simp[BT.look,g],?_,rfl,by rw[C,g],fun m=>by simp[BT.set,g]⟩;have:(Op.equal t (EQ k) e.key).run P w=.ok true w:=by rw[C,X5 B];simp[g]
   simp [Instr.findAsking,this,D]
  .have he:(Op.equal t (EQ k) e.key).run P w=.ok false w:=by
    grind [X5]
   rcases Qr B k L c (i+1) E with⟨l,r,A⟩|⟨j,n,H,l,r,A,I,J⟩
   .exact .inl ⟨by simp[BT.look,g,l],by simp[Instr.findAsking,he,r],fun n=>by simp[BT.set,g,A]⟩
   .refine .inr ⟨j+1,n,H,by simp[BT.look,g,l],?_,by simpa using A,I,fun m=>by simp[BT.set,g,J]⟩;simp[Instr.findAsking,he,r];omega
theorem Us(r:Mx P (.a [0,0]) t=true)(A:∃fs,P.underlying t=some (.struct fs))(k:Int×Int)(L:List MapEntry)(c:BT)(h:L.map (fun e=>(e.key,e.val))=c.map (fun p=>(EQ p.1,Value.int .i64 p.2))):
  (c.look k=none/\(Instr.findKey t (EQ k) L).run P w=.ok none w/\∀n,c.set k n=c++[(k,n)])\/
  ∃j n e,c.look k=some n/\(Instr.findKey t (EQ k) L).run P w=.ok (some (j,.int .i64 n)) w/\L[j]?=some e/\e.key=EQ k/\∀m,c.set k m=List.set c j (k,m):=by
 obtain ⟨fs,l⟩:=A;cases L with
 |nil=>
  have:c=[]:=by simpa using h.symm
  subst this;exact .inl ⟨rfl,by simp[Instr.findKey,run_underlying l,Instr.findNow],fun n=>rfl⟩
 |cons e L=>
  have B:(Instr.findKey t (EQ k) (e::L)).run P w=(Instr.findAsking t (EQ k) (e::L) 0).run P w:=by
   simp [Instr.findKey,run_underlying l,Instr.findNow,Instr.sameNow]
  rw [B];rcases Qr (w:=w) r k (e::L) c 0 h with g|⟨j,n,C,D,E,H⟩
  .exact .inl g
  .exact .inr ⟨j,n,C,D,by rw[E,Nat.zero_add],H⟩
theorem S4{t k e:TypeId}(hok:OW P t=true)(ht:P.underlying t=some (.map k e))(x:Int×Int)(b:Bool):(Instr.checkKey b 10000 k (EQ x)).run P w=.ok () w:=by
 unfold OW at hok;rw[ht]at hok;simp at hok;obtain⟨⟨_,h2⟩,_⟩:=hok;split at h2
 .rename_i fs hu;split at h2
  .rename_i f g hfs;simp at h2;obtain⟨⟨⟨⟨⟨h3,h4⟩,h5⟩,h6⟩,h7⟩,h8⟩:=h2;have hi1:∃q,P.underlying f.type=some (.int q):=by
    grind
   have hi2:∃q,P.underlying g.type=some (.int q):=by
    grind
   obtain ⟨q1,hi1⟩:=hi1;obtain⟨q2,hi2⟩:=hi2;have hfs':fs=#[f,g]:=by apply Array.ext';simpa using hfs
   subst hfs';have p1:(part f.type #[.int .i64 x.1,.int .i64 x.2] f.offset).run P w=.ok (.int .i64 x.1) w:=by
    simp [part,Cc h3,h5]
   have p2:(part g.type #[.int .i64 x.1,.int .i64 x.2] g.offset).run P w=.ok (.int .i64 x.2) w:=by
    simp [part,Cc h4,h6]
   have c1:∀n y,(Instr.checkKey b (n+1) f.type (.int .i64 y)).run P w=.ok () w:=fun n y=>by
    simp [Instr.checkKey,run_underlying hi1]
   have c2:∀n y,(Instr.checkKey b (n+1) g.type (.int .i64 y)).run P w=.ok () w:=fun n y=>by
    simp [Instr.checkKey,run_underlying hi2]
   show (Instr.checkKey b (9999+1) k (.agg #[.int .i64 x.1,.int .i64 x.2])).run P w=.ok () w;have d1:=c1 9998 x.1;have d2:=c2 9998 x.2;rw[Instr.checkKey];by_cases n1:f.name= "_" <;>by_cases n2:g.name= "_" <;>simp[run_underlying hu,n1,n2,p1,p2,d1,d2]
  .cases h2
 .cases h2
variable{m x:Operand}
theorem kD(B:AO F0 w0 U a w G)(hd:d<a.tmps.size){m' y:AF}(N:o.op=.lookup t m x true)(c:OW P t=true)(hm:AI m m'=true)(hx:AI x y=true)(h:(AE.zK s m' y).wp S U (some d) K):Ax P F0 w0 a w o d K:=by
 simp [AE.wp]at h;split at h
 .rename_i b r b' u Y g hu;obtain⟨rfl,h⟩:=h;have g:=(Au B hm g).1;simp[Ah]at g;cases T:u.zc? with
  |none=>rw[T]at h;exact h.elim|some k=>
   rw [T]at h;simp[AX]at h;have hv:=(Au B hx hu).1;rw[bg T]at hv;have hv:=Z2 hv;have Z:=AW B Y (by simp);have C:=B.wf s;rw[Y]at C;simp[AK]at Z;obtain⟨_,e2,es,W,e3,e4,_⟩:=Z;have e1:=g;have E:=c;unfold OW at c;split at c
   .rename_i kt et O;simp at c;obtain⟨⟨h1,h2⟩,L⟩:=c;have H:∃fs,P.underlying kt=some (.struct fs):=by
     grind
    have A:(zeroValue et).run P w=.ok (.int .i64 0) w:=by
     split at L
     .rename_i i hi;split at L
      .rename_i hz;simp[zeroValue,typeInfo,hi,hz]
      .cases L
     .cases L
    have I:=S4 (P:=P) (w:=w) E O k es.isEmpty;have V:∀n,r.look k=some n->(TV.int .i64 n).WF:=by
     intro n R;have:∀l:BT,BT.WF l->l.look k=some n->(TV.int .i64 n).WF:=by
      intro l
      induction l with
      |nil=>intro _ h;cases h
      |cons p l ih=>
       intro C h;simp[BT.look]at h;split at h
       .cases h;exact(C p (by simp)).2.2
       .exact ih (fun q hq=>C q (by simp[hq])) h
     exact this r C R
    have J:∀(n:Int)(q:Bool),(TV.int .i64 n).WF->(Instr.lookup t (a.eval m) (EQ k) true).run P w=.ok (.tuple #[.int .i64 n,.bool q]) w->K (.tp [.int .i64 n,.bool q]) U->Ax P F0 w0 a w o d K:=by
     intro n q R D hK;refine⟨.tuple #[.int .i64 n,.bool q],w,?_,_,_,hK,_,B.quiet (Below.refl _ _) d hd (.tp [.int .i64 n,.bool q]) _ (fun _=>none) (by simp) (by simp) (by simp) ?_ ⟨R,trivial,trivial⟩⟩
     .simp[execOp,N,hv,D]
     .simp only[AK];exact⟨_,rfl,_,_,rfl,rfl,_,_,rfl,rfl,rfl⟩
    rcases Us (w:=w) h1 H k es.toList r e4 with⟨M,X,_⟩|⟨j,n,e,M,X,_⟩
    .rw[M]at h;refine J 0 false ⟨by decide,by decide⟩ ?_ h;simp[Instr.lookup,run_underlying O,e1,MapKept.run_getObj_map e3,I,X,A]
    .rw[M]at h;refine J n true (V n M) ?_ h;simp[Instr.lookup,run_underlying O,e1,MapKept.run_getObj_map e3,I,X]
   .cases c
 .exact h.elim
theorem BT.set_wf{g:BT}{n:Int}(h:BT.WF g)(A:(TV.int .i64 k.1).WF/\(TV.int .i64 k.2).WF)(B:(TV.int .i64 n).WF):BT.WF (g.set k n):=by
 induction g with
 |nil=>
  intro p c
  grind [BT.set,List.mem_singleton]
 |cons q l r=>
  intro p c;simp[BT.set]at c;split at c
  .rcases List.mem_cons.1 c with rfl|c
   .grind
   .exact h p (by simp[c])
  .rcases List.mem_cons.1 c with rfl|c
   .exact h p (by simp)
   .exact r (fun x j=>h x (by simp[j])) p c
theorem YK(k:Int×Int):Instr.sameBits 10000 (EQ k) (EQ k)=true:=by
 show Instr.sameBits (9999+1) (.agg #[.int .i64 k.1,.int .i64 k.2]) (.agg #[.int .i64 k.1,.int .i64 k.2])=true;simp[Instr.sameBits]
theorem kG(C:AO F0 w0 U a w G){m x v:Operand}{m' y u:AF}(O:o.op=.mapUpdate t m x v)(A:OW P t=true)(hm:AI m m'=true)(D:AI x y=true)(hv:AI v u=true)(h:(AE.zi s m' y u).wp S U none K):G7 P F0 w0 a w o K:=by
 simp [AE.wp]at h;split at h
 .rename_i b E b' tx hs H hu;split at h
  rotate_left
  .exact h.elim
  rename_i n hn;obtain⟨rfl,h⟩:=h;have H:=(Au C hm H).1;simp[Ah]at H;cases hk:tx.zc? with
  |none=>rw[hk]at h;exact h.elim|some k=>
   rw [hk]at h;simp[AX]at h;have l:=Au C D hu;rw[bg hk]at l;have hkw:(TV.int .i64 k.1).WF/\(TV.int .i64 k.2).WF:=⟨l.2.1,l.2.2.1⟩;have l:=Z2 l.1;have B:=Au C hv hn;have hnw:=B.2;have B:=B.1;simp[Ah]at B;have L:s<a.tmps.size:=Ba C hs (by simp);have hr:=AW C hs (by simp);have hw:=C.wf s;rw[hs]at hw;simp[AK]at hr;obtain⟨e0,e2,es,r,e3,e4,e5,e6⟩:=hr;have e1:=H;have T:=A;unfold OW at A;split at A
   .rename_i kt et ht;simp at A;obtain⟨⟨h1,h2⟩,h3⟩:=A;have V:∃fs,P.underlying kt=some (.struct fs):=by
     grind
    have W:=S4 (P:=P) (w:=w) T ht k false;have X:∀J:Obj,(execOp a.eval o).run P w=.ok .skip (setBlock w b J)->(∃es' c,J=.map es' c/\es'.toList.map (fun e=>(e.key,e.val))=(E.set k n).map (fun p=>(EQ p.1,Value.int .i64 p.2))/\es'.toList.Pairwise (fun x y=>x.born<y.born)/\∀e∈es'.toList,e.born<c)->G7 P F0 w0 a w o K:=by
     rintro J hrun ⟨es',c,rfl,f1,f2,f3⟩;have hb:GI (Bk a G s) w (setBlock w b (.map es' c)):=SL ⟨rfl,rfl,rfl,rfl⟩ (p:=0) (i:=none) (by rw[C5];exact e2) e3;have M:AB.get ((s,EV.mx (.mp b (E.set k n)))::U) s=.mx (.mp b (E.set k n)):=by rw[AB.d4,a6 rfl]
     have hi2:=C.xg (s:=s) (d:=s) (Z:=Bk a G s) (w':=setBlock w b (.map es' c)) (env':=(s,.mx (.mp b (E.set k n)))::U) (a':=a) L L hb rfl rfl (I5 C L) (fun q i b lo hq=>⟨?_,.inr ⟨q,i,lo,hq,az _⟩⟩) (fun p hp=>by rw[AB.d4,ae (by omega)];exact C.dom p hp) (fun p=>?_) (fun _ _ _=>rfl) (fun p hp _=>by rw[AB.d4,ae (fun e=>hp e.symm)]) (fun e=>absurd rfl e) (.inr (.inr ⟨fun cs=>by rw[M];simp,fun n es=>by rw[M];simp⟩)) (fun F' hF'=>?_)
     .exact⟨_,hrun,_,h,_,hi2.1⟩
     .obtain⟨p,j,g1,_⟩:=CB hq;exact Nat.lt_of_lt_of_le (C.lt _ _ _ _ g1).1 hb.size
     .rw[AB.d4];split
      .exact BT.set_wf hw hkw hnw
      .exact C.wf p
     .rw[M];have hzd:CJ a G s s (Bk a G s) s=G s:=by simp[CJ,C5]
      simp [AK,hzd];exact⟨e0,e2,es',c,(RK e3).1,f1,f2,f3⟩
    have I:∀J,(setObj b J).run P w=.ok () (setBlock w b J):=fun J=>by simp[setObj,Sem.run,e3,setBlock]
    rcases Us (w:=w) h1 V k es.toList E e4 with⟨g1,g2,g3⟩|⟨j,m,e,g1,g2,g3,g4,g5⟩
    .refine X (.map (es.push {key:=EQ k,val:=.int .i64 n,born:=r}) (r+1)) ?_ ⟨_,_,rfl,?_,?_,?_⟩
     .simp[execOp,O,l,B,Instr.mapUpdate,run_underlying ht,e1,MapKept.run_getObj_map e3,W,g2,I]
     .rw[g3];simp[e4]
     .simp;rw[List.pairwise_append];refine⟨e5,by simp,fun x D y hy=>?_⟩;simp at hy;subst hy;exact e6 x D
     .intro x D;simp only[Array.toList_push,List.mem_append,List.mem_singleton]at D;rcases D with D|rfl
      .have:=e6 x D;omega
      .simp
    .have hjl:j<es.size:=by have:=(List.getElem?_eq_some_iff.1 g3).1;simpa using this
     have Y:es[j]?=some e:=by rw[<-Array.getElem?_toList];exact g3
     refine X (.map (es.modify j fun e=>{e with key:=EQ k,val:=.int .i64 n}) r) ?_ ⟨_,_,rfl,?_,?_,?_⟩
     .simp[execOp,O,l,B,Instr.mapUpdate,run_underlying ht,e1,MapKept.run_getObj_map e3,W,g2,I,Y,g4,Instr.keyThatStays,YK]
     .rw[g5,List.map_set,<-e4];rw[Array.toList_modify];apply List.ext_getElem?;intro i;simp only[List.getElem?_map,List.getElem?_modify,List.getElem?_set,c7,Array.length_toList];by_cases g:j=i
      .subst g;rw[a6 rfl,a6 hjl];simp[Y]
      .rw[ae g];simp[g]
     .rw[Array.toList_modify];rw[<-List.pairwise_map (f:=fun e:MapEntry=>e.born) (R:=fun x y=>x<y)]at e5|-;have:(es.toList.modify j fun e=>{e with key:=EQ k,val:=.int .i64 n}).map (fun e:MapEntry=>e.born)=es.toList.map (fun e:MapEntry=>e.born):=by
       apply List.ext_getElem?;intro i;simp only[List.getElem?_map,List.getElem?_modify];cases es.toList[i]? with
       |none=>rfl|some e=>by_cases g:j=i<;>simp[g]
      rw [this];exact e5
     .intro x D;rw[Array.toList_modify]at D;obtain⟨i,hi⟩:=List.getElem?_of_mem D;rw[List.getElem?_modify]at hi;cases N:es.toList[i]? with
      |none=>rw[N]at hi;cases hi
      |some e0=>
       rw [N]at hi;have:=e6 e0 (List.mem_of_getElem? N);by_cases g:j=i
       .simp[g]at hi;rw[<-hi];exact this
       .simp[g]at hi;rw[<-hi];exact this
   .cases A
 .exact h.elim
theorem kF(g:AO F0 w0 U a w G)(hd:d<a.tmps.size){m':AF}{t k e:TypeId}(B:o.op=.range t m)(T:AI m m'=true)(V:P.underlying t=some (.map k e))(h:(AE.wi s m').wp S U (some d) K):Ax P F0 w0 a w o d K:=by
 simp [AE.wp]at h;split at h
 .rename_i d' b j us D l E H;simp at l;subst l;obtain⟨⟨hds,rfl⟩,hK⟩:=h;have L:=(Au g T H).1;simp[Ah]at L;have M:=AW g E (by simp);have N:=g.wf s;rw[E]at N;simp[AK]at M;obtain⟨vs,e0,O,⟨es,c,R,e4,e5,e6⟩,_⟩:=M;have r:Below w.heap.size w (w.alloc (.mapIter (some b) c #[] c)):=(Below.refl _ _).alloc (az _) _;have A:=(g.lt _ _ _ _ O).1;have key:∀{C:Nat->Nat->Prop},T9 (w.alloc (.mapIter (some b) c #[] c)) C (some (w.heap.size,0)) (some (b,0)) (.mi none j) (.pointer (some ⟨w.heap.size,0,none⟩)):=by
   intro C;refine⟨_,b,rfl,rfl,rfl,es,c,c,c,#[],by rw[r.block b A];exact R,heap_alloc_new w _,e5,e6,az _,az _,by simp,?_⟩;have:(es.toList.filter fun e=>!(#[]:Array Nat).contains e.born)=es.toList:=by simp
   rw [this,e4]
  obtain ⟨G',I,_⟩:=g.mxgo (m':=.mi none j) (v:=.pointer (some ⟨w.heap.size,0,none⟩)) (w':=w.alloc (.mapIter (some b) c #[] c)) E hd (z:=some (w.heap.size,0)) (z2:=some (b,0)) ⟨rfl,rfl,rfl,r.size,fun k W _=>r.block k W,fun b o u _ J=>by
     rw [r.cell (p:=⟨b,o,none⟩) (World.block_lt_of_cell? w ⟨b,o,none⟩ J)];exact J⟩ (fun D lo e=>by
     simp at e;rw[<-e.1];exact⟨by simp,.inl (az _)⟩) (fun D lo e=>by
     simp at e;obtain⟨rfl,rfl⟩:=e;exact⟨Nat.lt_of_lt_of_le A r.size,.inr ⟨0,none,0,by rw[C5];exact O,az _⟩⟩) (fun D lo X f1 f2=>by
     grind) ⟨by intro p Z;simp at Z,N.1⟩ fun C Y=>key
  exact ⟨_,_,by simp[execOp,B,L,run_range_map w t k e b es c V R],_,_,hK,G',I⟩
 .exact h.elim
theorem aY{L:List MapEntry}(c:L.Pairwise (fun x y=>x.born<y.born)){e:MapEntry}(he:e∈L):L.Perm (e::L.filter fun x=>!(x.born==e.born)):=by
 induction L with
 |nil=>cases he
 |cons x L h=>
  rw [List.pairwise_cons]at c;rcases List.mem_cons.1 he with rfl|he
  .have:L.filter (fun x=>!(x.born==e.born))=L:=by
    grind [List.filter_eq_self]
   rw [List.filter_cons_of_neg (by simp),this]
  .have g:¬x.born=e.born:=by have:=c.1 e he;omega
   rw [List.filter_cons_of_pos (by simp[g])];exact((h c.2 he).cons x).trans (List.Perm.swap _ _ _)
theorem kE(D:AO F0 w0 U a w G)(hd:d<a.tmps.size)(V:o.op=.next (.tmp s) false)(h:(AE.zm s).wp S U (some d) K):Ax P F0 w0 a w o d K:=by
 simp only[AE.wp]at h;split at h
 .rename_i d' last A W hs;simp at W;subst W;obtain⟨hds,hK0,hK1⟩:=h;have L:s<a.tmps.size:=Ba D hs (by simp);have hr:=AW D hs (by simp);have hw:=D.wf s;rw[hs]at hw;simp[AK]at hr;obtain⟨r,b,e1,e2,e3,es,g,l,c0,c,f1,f2,f3,f4,f5,f6,f7,f8⟩:=hr;have M:(leftOf es c).toList=es.toList.filter fun e=>!c.contains e.born:=by
   simp [leftOf]
  rcases run_next_at (P:=P) w o.type r b l c0 c es g f2 f1 f4 f5 with⟨h0,C⟩|⟨e,he,R,hal,C⟩
  .have:A=[]:=by
    have h1:(es.toList.filter fun e=>!c.contains e.born)=[]:=by
     grind
    rw [h1]at f8;have:=f8.length_eq
    grind
   refine ⟨.tuple #[.bool false],w,?_,_,_,hK0 this,_,D.quiet (Below.refl _ _) d hd (.tp [.bool false]) _ (fun _=>none) (by simp) (by simp) (by simp) ?_ ⟨trivial,trivial⟩⟩
   .simp[execOp,V,show a.eval (.tmp s)=slot a s from rfl,e1,C]
   .simp only[AK];exact⟨_,rfl,_,_,rfl,rfl,rfl⟩
  .rw[M]at he;have hes:e∈es.toList:=(List.mem_filter.1 he).1;have hns:c.contains e.born=false:=by simpa using(List.mem_filter.1 he).2
   have hpw:(es.toList.filter fun e=>!c.contains e.born).Pairwise (fun x y=>x.born<y.born):=f3.sublist List.filter_sublist;have X:=aY hpw he;have hff:(es.toList.filter fun e=>!c.contains e.born).filter (fun x=>!(x.born==e.born))=es.toList.filter fun x=>!(c.push e.born).contains x.born:=by
    rw [List.filter_filter];congr 1;funext x;rw[contains_push];cases c.contains x.born<;>cases(x.born==e.born)<;>rfl
   rw [hff]at X;have I:=(X.map (fun e:MapEntry=>(e.key,e.val))).symm.trans f8;have Y:(e.key,e.val)∈A.map (fun p=>(EQ p.1,Value.int .i64 p.2)):=I.mem_iff.1 (by simp);obtain⟨p,T,B⟩:=List.mem_map.1 Y;simp at B;have hpt:=List.perm_cons_erase T;have hpm3:((es.toList.filter fun x=>!(c.push e.born).contains x.born).map (fun e=>(e.key,e.val))).Perm ((A.erase p).map (fun p=>(EQ p.1,Value.int .i64 p.2))):=by
    have h5:=I.trans (hpt.map (fun p=>(EQ p.1,Value.int .i64 p.2)));simp only[List.map_cons,B]at h5;exact h5.cons_inv
   have N:R.heap=w.heap/\R.os=w.os/\R.tape=w.tape/\R.output=w.output:=by
    rcases hal with rfl|rfl<;>exact⟨rfl,rfl,rfl,rfl⟩
   have hr1:R.heap[r]?=some (.mapIter (some b) l c c0):=by rw[N.1];exact f2
   have hbz:GI (Bk a G s) w (setBlock R r (.mapIter (some b) l (c.push e.born) g)):=SL N (p:=0) (i:=none) (by rw[C5];exact e2) f2;have O:AB.get ((s,EV.mx (.mi (some p) (A.erase p)))::U) s=.mx (.mi (some p) (A.erase p)):=by rw[AB.d4,a6 rfl]
   have hrb:b≠r:=fun e=>by
    have:=(D.ne _ _ _ _ _ _ _ e2 (e▸e3)).2;cases this
   have J:BT.WF A:=hw.2;have H:=J p T;have hi2:=D.xg (s:=s) (d:=s) (Z:=Bk a G s) (w':=setBlock R r (.mapIter (some b) l (c.push e.born) g)) (env':=(s,.mx (.mi (some p) (A.erase p)))::U) (a':=a) L L hbz rfl rfl (I5 D L) (fun q i b lo E=>⟨?_,.inr ⟨q,i,lo,E,az _⟩⟩) (fun p T=>by rw[AB.d4,ae (by omega)];exact D.dom p T) (fun q=>?_) (fun _ _ _=>rfl) (fun p T _=>by rw[AB.d4,ae (fun e=>T e.symm)]) (fun e=>absurd rfl e) (.inr (.inr ⟨fun cs=>by rw[O];simp,fun n es=>by rw[O];simp⟩)) (fun F' hF'=>?_)
   .refine⟨.tuple #[.bool true,e.key,e.val],_,?_,_,_,hK1 p (A.erase p) hpt,_,hi2.1.quiet (Below.refl _ _) d hd (.tp [.bool true,QT p.1,.int .i64 p.2]) _ (fun _=>none) (by simp) (by simp) (by simp) ?_ ⟨trivial,⟨H.1,H.2.1,trivial⟩,H.2.2,trivial⟩⟩
    .simp[execOp,V,show a.eval (.tmp s)=slot a s from rfl,e1,C]
    .simp only[AK];refine⟨_,rfl,_,_,rfl,rfl,_,_,rfl,?_,_,_,rfl,?_,rfl⟩
     .rw[<-B.1];exact RM p.1
     .simp[Ah];exact B.2.symm
   .obtain⟨p',j,g1,_⟩:=CB E;exact Nat.lt_of_lt_of_le (D.lt _ _ _ _ g1).1 hbz.size
   .rw[AB.d4];split
    .refine⟨?_,fun q E=>J q (List.mem_of_mem_erase E)⟩;intro q E;simp at E;subst E;exact H
    .exact D.wf q
   .rw[O];have hzd:CJ a G s s (Bk a G s) s=G s:=by simp[CJ,C5]
    simp [AK,hzd];have hh:=RK (o:=.mapIter (some b) l (c.push e.born) g) hr1;refine⟨r,b,e1,e2,e3,es,g,l,g,c.push e.born,by rw[hh.2 b hrb,N.1];exact f1,hh.1,f3,f4,f6,f6,fun q E=>?_,hpm3⟩;simp at E;subst E;exact⟨c,e,rfl,hes,rfl,B.1.symm,B.2.symm⟩
 .exact h.elim
theorem j9(A:AO F0 w0 U a w G)(hd:d<a.tmps.size)(B:o.op=.entry (.tmp s))(h:(AE.zr s).wp S U (some d) K):Ax P F0 w0 a w o d K:=by
 simp [AE.wp]at h;split at h
 .rename_i p D E;have H:=AW A E (by simp);have I:=A.wf s;rw[E]at I;simp[AK]at H;obtain⟨r,b,M,Y,Z,es,C,g,N,J,O,R,f3,f4,f5,f6,T,f8⟩:=H;obtain⟨j,e,V,W,X,g4,g5⟩:=T p rfl;subst V X;have L:(es.toList.map (·.born)).Nodup:=by
   grind
  have l:=run_entry_at (P:=P) w r b g j es N e R O W L;have c:=I.1 p (by simp);refine⟨.tuple #[e.key,e.val],w,?_,_,_,h,_,A.quiet (Below.refl _ _) d hd (.tp [QT p.1,.int .i64 p.2]) _ (fun _=>none) (by simp) (by simp) (by simp) ?_ ⟨⟨c.1,c.2.1,trivial⟩,c.2.2,trivial⟩⟩
  .simp[execOp,B,show a.eval (.tmp s)=slot a s from rfl,M,l]
  .simp only[AK];refine⟨_,rfl,_,_,rfl,?_,_,_,rfl,?_,rfl⟩
   .grind[RM]
   grind [Ah]
 .exact h.elim
end
end Go.Sf
