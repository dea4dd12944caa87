/- Operations on lists of lists that nobody else reads. -/
import Derived.Test.YtbmgmpeimdomoaaGreatSfX
import Derived.Maps.RangeRun
set_option linter.all false
open Option renaming some->Y,none->W
open Bool renaming true->X,false->T
open List renaming mem_of_getElem?->w!,eq_nil_of_length_eq_zero->w?,getElem?_take->x_,getElem?_eq_getElem->x!,getElem?_cons_zero->x?,mem_append->y_,mem_singleton->y!,getElem?_append_left->y?,getElem?_eq_some_iff->z_,length_singleton->z!,getElem?_append_right->z?,getElem?_set_ne->A_,length_set->A',getElem?_set->A!,mem_or_eq_of_mem_set->A?,flatMap_cons->B_,size_toArray->B',length_drop->B!,ext_getElem?->B?,getElem?_of_mem->C_,getElem?_take_of_lt->C',getElem?_drop->C!,getElem?_map->C?,mem_map->D_,mem_cons->D',getElem?_modify->D!,mem_filter->D?
open Option renaming map_some->E_,map_eq_some_iff->E'
open Array renaming getElem?_eq_some_iff->E!,length_toList->E?,getElem?_toList->F_,toList_modify->F!
open Nat renaming lt_of_lt_of_le->F?,add_sub_cancel->G_,zero_le->G!,le_trans->G?,sub_self->H_,lt_or_ge->H',add_zero->H!,min_eq_left->H?,zero_add->I_
namespace Go.Sf
open Go.RowKit (Below)
section
variable{P:Program}{S:FuncId->Fq->As->Prop}{F0:Nat->Nat->Prop}{w0:W0}{ε:AB}{a:Act}{w:World}{G:BR}{d:Nat}{o:Oper}{K:EV->AB->Prop}
theorem Bt.congr'{F0:Nat->Nat->Prop}{w0:W0}{ε env2:AB}{a:Act}{w:World}(h:Bt F0 w0 ε a w)(he:∀n,ε.get n=env2.get n):Bt F0 w0 env2 a w:=by
 obtain ⟨G,h⟩:=h;refine⟨G,h.gi,h.lt,h.below,h.defers,λq c=>?_,λq c=>?_,λq=>?_⟩
 .rw[<-he];exact h.dom q c
 .rw[<-he];refine AM.kept (Qe _ _) (λ_=>rfl) (λ_ _ _ _=>rfl) rfl BJ.rfl' (λr i k l⟨p,g⟩=>⟨⟨p,(AB.Aap (he r)).trans g⟩,λ_ hv=>hv⟩) (λr off l⟨cs,j⟩=>⟨⟨cs,by rw[he];exact j⟩,rfl⟩) (λr i l⟨p,g⟩=>⟨⟨p,(AB.Aae (he r)).trans g⟩,λ_ hv=>hv⟩) (h.slots q c)
 .rw[<-he];exact h.wf q
variable{s off:Nat}
theorem Uk(h:AP F0 w0 ε a w G){es:Fq}(A:ε.nat s off=Y es):
  ∃b c θ x,slot a s=.pointer (Y ⟨b,0,W⟩)/\w.heap[b]?=Y (.cells c θ (0,0))/\c[off]?=Y x/\G s W=Y (b,0)/\Fw w (AU w0.heap.size F0 G) (sr a G) (G s (Y off)) es x/\(TV.list 1 es).WF:=by
 obtain ⟨cs,l,r⟩:=AB.pN A;have g:=Ag h l V;simp only[AM]at g;obtain⟨b,c,θ,B,C,J,D,E⟩:=g;obtain⟨x,H,I⟩:=E off _ r;have j:=h.wf s;rw[l]at j;exact⟨b,c,θ,x,B,C,H,D,I,j _ (w! r)⟩
variable{F:Nat->Nat->Prop}{z:Option (Nat×Nat)}
theorem Vk{ρ:IA}{es:Fq}{x:Value}(h:Fw w F ρ z es x)(r:es≠[]):
  ∃g cap c e xs,x=.slice (Y ⟨g,0,W⟩) es.length cap/\w.heap[g]?=Y (.cells c e (0,0))/\es.length<=cap/\c.size=cap/\z=Y (g,0)/\(∀(j:Nat)(e:TV),es[j]?=Y e->∃y n fs,c[j]?=Y y/\e=.list n fs/\Q9 w F (ρ g j) n fs y)/\c.toList.take es.length=xs/\(∀y∈xs,y.oneCell'=X):=by
 obtain ⟨xs,⟨κ,H,B⟩,I,J⟩:=h;rcases H.2 with⟨_,N,_⟩|⟨g,cap,c,e,O,R,θ,ζ,δ,C,D⟩
 .exact absurd (w? N) r
 .refine⟨g,cap,c,e,xs,O,R,θ,U,by rw[B,D];rfl,λj el E=>?_,by rw[<-C,Nat.mul_one],I⟩;obtain⟨η,y,n,fs,A,l,L,M⟩:=J j el E;rw[B,D]at A;simp only[E_,nm,Prod.mk.injEq,and_true]at A;subst A;refine⟨y,n,fs,?_,L,M⟩;rw[<-C,x_]at l;split at l
  .simpa using l
  .cases l
variable{x:Operand}{y:AF}{b:Nat}
theorem xL(j:AP F0 w0 ε a w G)(g:AK x y=X)(h:y.ev ε=.bp s off){cs:List AO}(l:ε.get s=.bx cs)(r:slot a s=.pointer (Y ⟨b,0,W⟩)):a.eval x=.pointer (Y ⟨b,off,W⟩):=by
 cases y with
 |c t=>simp[AF.ev]at h|s m=>
  rw [KI g];simp only[AF.ev]at h;have:=Ag j h V;simp only[AM]at this;obtain⟨A,B,C⟩:=this ⟨cs,l⟩
  grind
theorem X2(j:AP F0 w0 ε a w G)(g:AK x y=X){k:NK}(h:y.ev ε=.nh s off k){es:Fq}(l:ε.nat s off=Y es):NH a w s off k (a.eval x):=by
 cases y with
 |c t=>simp[AF.ev]at h|s m=>
  rw [KI g];simp only[AF.ev]at h;have:=Ag j h V
  grind [AM]
variable{v:Value}
theorem AP.AbJ(g:AP F0 w0 ε a w G)(hd:d<a.tmps.size){k:NK}(hv:∀es,ε.nat s off=Y es->NH a w s off k v):Bt F0 w0 ((d,.nh s off k)::ε) (a.put (Y d) v) w:=by
 refine ⟨_,g.quiet (Below.refl _ _) d hd (.nh s off k) v (λ_=>W) V V V ?_ trivial⟩;simp only[AM];rintro⟨es,h⟩;have c:=AB.tn V h;exact g.nh ⟨_,c.2⟩ (AY _ _ _ _ c.1) (λ_ _ _ _=>rfl) _ (hv es c.2)
variable{t:TypeId}
theorem pW(r:AP F0 w0 ε a w G)(hd:d<a.tmps.size)(A:o.op=.load t x)(B:AK x y=X)(H:B9 P t=Y T)(h:(AE.lan y).wp S ε (Y d) K):A1 P F0 w0 a w o d K:=by
 simp only[AE.wp]at h;split at h
 .rename_i s off I;cases l:ε.nat s off with
  |none=>rw[l]at h;exact h.elim|some es=>
   rw [l]at h;simp only[Ai]at h;obtain⟨cs,J,L⟩:=AB.pN l;obtain⟨b,c,θ,v,C,D,E,M,N,_⟩:=Uk r l;have j:=xL r B I J C;have g:w.cell? ⟨b,off,W⟩=Y v:=by
    rw [cell_of_row w b off c θ (0,0) D];exact E
   refine ⟨v,w,?_,_,_,h,r.AbJ hd λes' _=>?_⟩
   .simp[execOp,A,j,Instr.loadAt,Instr.sureAddr,loadVar,Cs H,g]
   .exact⟨b,c,θ,v,C,D,E,rfl⟩
 .exact h.elim
theorem pz(B:AP F0 w0 ε a w G)(hd:d<a.tmps.size){x i:Operand}{y j:AF}(M:o.op=.indexAddr t x i)(N:AK x y=X)(C:AK i j=X)(O:I3 P t=Y 1)(h:(AE.nia y j).wp S ε (Y d) K):A1 P F0 w0 a w o d K:=by
 unfold I3 at O;split at O
 .rename_i el hu;simp only[AE.wp]at h;split at h
  .rename_i s off k D hy hj;cases A:ε.nat s off with
   |none=>rw[A]at h;exact h.elim|some es=>
    rw [A]at h;simp only[Ai]at h;obtain⟨h0,R,hK⟩:=h;have l:=(Ay B C hj).1;simp only[Aq]at l;obtain⟨b,c,θ,x0,κ,η,ζ,L⟩:=X2 B N hy A;simp only[NK.at]at L;obtain⟨b',c',T',v,H,δ,I,f4,f5,_⟩:=Uk B A;rw[κ]at H;simp only[Value.pointer.injEq,nm,Addr.mk.injEq,and_true,and_self]at H;subst H;rw[η]at δ;cases δ;rw[ζ]at I;simp only[nm]at I;subst I;obtain⟨g,cap,J,e,xs,rfl,g2,g3,_⟩:=Vk f5 (by rintro rfl;simp at R;omega);have E:0<=D/\D<(es.length:Int):=⟨h0,R⟩;refine⟨.pointer (Y ⟨g,D.toNat,W⟩),w,?_,_,_,hK,B.AbJ hd λes' _=>?_⟩
    .simp[execOp,M,L,l,Instr.indexAt,asIntOf,run_underlying hu,E,CG O,Addr.add_lit]
    .exact⟨b,c,θ,_,κ,η,ζ,g,_,_,rfl,rfl⟩
  .rename_i s off r k D hy hj;cases A:ε.nat s off with
   |none=>rw[A]at h;exact h.elim|some es=>
    rw [A]at h;simp only[Ai]at h;obtain⟨h0,fs,hr,R,hK⟩:=h;have l:=(Ay B C hj).1;simp only[Aq]at l;obtain⟨b,c,θ,x0,κ,η,ζ,g,len,cap,e0,L⟩:=X2 B N hy A;subst e0;obtain⟨b',c',T',v,H,δ,I,f4,f5,_⟩:=Uk B A;rw[κ]at H;simp only[Value.pointer.injEq,nm,Addr.mk.injEq,and_true,and_self]at H;subst H;rw[η]at δ;cases δ;rw[ζ]at I;simp only[nm]at I;subst I;obtain⟨g',cap',J,e,xs,g1,g2,g3,_,_,g4,_⟩:=Vk f5 (by rintro rfl;simp at hr);simp only[Value.slice.injEq,nm,Addr.mk.injEq,and_true]at g1;obtain⟨rfl,rfl,rfl⟩:=g1;obtain⟨u,n,fs',k1,k2,k3⟩:=g4 r _ hr;simp only[TV.list.injEq]at k2;obtain⟨rfl,rfl⟩:=k2;rw[cell_of_row w g r J e (0,0) g2,k1]at L;simp only[nm]at L;subst L;obtain⟨ys,⟨z0,m1,m2⟩,m3,m4,m5⟩:=k3;rcases m1.2 with⟨_,hn,_⟩|⟨Z,cap2,cur2,e2',q1,q2,q3,_⟩
    .simp only[hn]at R;omega
    .have E:0<=D/\D<(fs.length:Int):=⟨h0,R⟩;refine⟨.pointer (Y ⟨Z,D.toNat,W⟩),w,?_,_,_,hK,B.AbJ hd λes' _=>?_⟩
     .simp[execOp,M,q1,l,Instr.indexAt,asIntOf,run_underlying hu,E,CG O,Addr.add_lit]
     .refine⟨b,c,θ,_,κ,η,ζ,g,_,_,rfl,Z,fs.length,cap2,?_,rfl⟩;rw[cell_of_row w g r J e (0,0) g2,k1,q1]
  .exact h.elim
 .cases O
theorem p5(B:AP F0 w0 ε a w G)(hd:d<a.tmps.size)(C:o.op=.load t x)(D:AK x y=X)(κ:B9 P t=Y T)(h:(AE.nld y).wp S ε (Y d) K):A1 P F0 w0 a w o d K:=by
 simp only[AE.wp]at h;split at h
 .rename_i s off r η;cases A:ε.nat s off with
  |none=>rw[A]at h;exact h.elim|some es=>
   rw [A]at h;simp only[Ai]at h;obtain⟨l,ζ⟩:=h;obtain⟨b,c,θ,x0,J,L,M,g,len,cap,e0,δ⟩:=X2 B D η A;subst e0;obtain⟨b',c',T',v,E,N,H,f4,Z,_⟩:=Uk B A;rw[J]at E;simp only[Value.pointer.injEq,nm,Addr.mk.injEq,and_true,and_self]at E;subst E;rw[L]at N;cases N;rw[M]at H;simp only[nm]at H;subst H;obtain⟨g',O,I,e,xs,R,g2,g3,_,_,g4,_⟩:=Vk Z (by rintro rfl;simp at l);simp only[Value.slice.injEq,nm,Addr.mk.injEq,and_true]at R;obtain⟨rfl,rfl,rfl⟩:=R;obtain⟨u,n,fs',k1,k2,k3⟩:=g4 r _ (x! l);have j:w.cell? ⟨g,r,W⟩=Y u:=by
    rw [cell_of_row w g r I e (0,0) g2];exact k1
   refine ⟨u,w,?_,_,_,ζ,B.AbJ hd λes' _=>?_⟩
   .simp[execOp,C,δ,Instr.loadAt,Instr.sureAddr,loadVar,Cs κ,j]
   .exact⟨b,c,θ,_,J,L,M,g,_,_,rfl,j⟩
 .exact h.elim
variable{q:Nat}
theorem ma(r:AP F0 w0 ε a w G)(hd:d<a.tmps.size)(R:o.op=.box t x)(θ:AK x (.s q)=X)(h:(AE.Abx q).wp S ε (Y d) K):A1 P F0 w0 a w o d K:=by
 simp only[AE.wp]at h;split at h
 .rename_i d' cs H ζ;simp only[nm]at H;subst H;obtain⟨⟨hno,hdq⟩,hK⟩:=h;have hev:=KI (a:=a) θ;have A:q<a.tmps.size:=Bi r ζ V;have hr:=Ag r ζ V;have J:=r.wf q;rw[ζ]at J;simp only[AM]at hr;obtain⟨vs,h1,h2,h3⟩:=hr;have B:Below w.heap.size w (w.alloc (.cells vs t)):=(Below.refl _ _).alloc (R0 _) _;have hone:∀(i:Nat)(y:Value),vs[i]?=Y y->y.oneCell'=X:=by
   intro i y hy;have hlt:i<cs.length:=by have:=(E!.1 hy).1;omega
   obtain ⟨x,hx,D⟩:=h3 i _ (x! hlt)
   grind [HK]
  let Z:Dg:=λp i=>if p=0/\i=W then Y (w.heap.size,0)else Bs a G q p i
  have N:∀p i b lo,Z p i=Y (b,lo)->(p=0/\i=W/\b=w.heap.size/\lo=0)\/Bs a G q p i=Y (b,lo):=by
   grind
  have hzl:∀p i b lo,Bs a G q p i=Y (b,lo)->b<w.heap.size:=λp i b lo C=>by
   obtain ⟨δ,j,l,_⟩:=CM C;exact(r.lt _ _ _ _ l).1
  refine ⟨.pointer (Y ⟨w.heap.size,0,W⟩),w.alloc (.cells vs t),?_,_,_,hK,?_⟩
  .simp[execOp,R,Instr.box,newVar,newRow,hev,h1,Value.cells]
  .have hg:=λp=>AB.bn d (.bx cs) ((q,EV.undef)::ε) p;refine⟨_,(r.Aaw (s:=q) (d:=d) (Z:=Z) (w':=w.alloc (.cells vs t)) (env':=(d,.bx cs)::(q,.undef)::ε) (a':=a.put (Y d) (.pointer (Y ⟨w.heap.size,0,W⟩))) A hd ⟨rfl,rfl,rfl,B.size,λk hk _=>B.block k hk,λb o u _ hu=>by
     rw [B.cell (p:=⟨b,o,W⟩) (World.block_lt_of_cell? w ⟨b,o,W⟩ hu)];exact hu⟩ (Bj _ _ _) (FG _ _ _) ?_ ?_ ?_ ?_ ?_ ?_ ?_ (.inl hno) ?_).1⟩
   .intro p i δ i' b lo lo' I e2;rcases N _ _ _ _ I with⟨rfl,rfl,l,_⟩|l<;>rcases N _ _ _ _ e2 with⟨rfl,rfl,O,_⟩|O
    .exact⟨rfl,rfl⟩
    .grind
    .grind
    .exact KC r A _ _ _ _ _ _ _ l O
   .intro p i b lo I;rcases N _ _ _ _ I with⟨rfl,rfl,l,_⟩|l
    .exact⟨by rw[l];simp,.inl U⟩
    .exact⟨F? (hzl _ _ _ _ l) B.size,.inr ⟨p,i,lo,l,R0 _⟩⟩
   .intro p E;rw[AB.bn,QQ U,AB.bn,QQ U];exact r.dom p E
   .intro p;rw[AB.bn];split
    .exact J
    .rw[AB.bn];split
     .trivial
     .exact r.wf p
   .exact λp E _=>AY _ _ _ _ (λe=>E e.symm)
   .exact λp E κ=>by rw[AB.bn,QQ (λe=>E e.symm),AB.bn,QQ (λe=>κ e.symm)]
   .exact λ_=>by rw[AB.bn,QQ hdq,AB.bn,Ne rfl]
   .intro F' hF';rw[AB.bn,Ne rfl,Cx _ _ _ hd];have L:CY a G q d Z d=Z 0:=by simp[CY]
    simp only[AM];refine⟨w.heap.size,vs,t,rfl,heap_alloc_new w _,h2,by rw[L];simp[Z],λi c D=>?_⟩;obtain⟨x,I,e2⟩:=h3 i c D;have M:Z 0 (Y i)=G q (Y i):=by simp[Z,DO]
    refine ⟨x,I,?_⟩;rw[L,M];refine BF.sr (e2.kept (λb o u D hf=>⟨?_,λη=>?_⟩) (λb lo C=>B.block b (r.lt _ _ _ _ C).1) (r.AaY B)) (λg lo j C=>?_)
    .rw[B.cell (p:=⟨b,o,W⟩) (World.block_lt_of_cell? w ⟨b,o,W⟩ D)];exact D
    .rcases hF' b o η with⟨_,h6,_⟩|⟨p,i,lo,h6,h7⟩
     .exact hf h6
     .rcases N _ _ _ _ h6 with⟨_,_,l,_⟩|l
      .have:=World.block_lt_of_cell? w ⟨b,o,W⟩ D;simp only at this;omega
      .obtain⟨δ,j,O,_⟩:=CM l;exact hf (.inr ⟨δ,j,lo,O,h7⟩)
    .have hz':Z 0 (Y i)=Y (g,lo):=by rw[M];exact C
     rw [Qo (Bj _ _ _) hd A hz' j];simp only[Dg.sr,Z];rw[QQ U];exact Pb C j
 .exact h.elim
def cW(P:Program)(t:TypeId):Bool:=
 match P.underlying t with
 |some (.slice e)=>(match P.info? e with
  |some ie=>ie.size==1&&(match ie.zero with|some z=>z.cells.size==1|none=>T)
  |none=>T)
 |_=>T
variable{n:Nat}{fs:Fq}
theorem ox{x:Value}(h:Q9 w F z n fs x):x.oneCell'=X:=by
 obtain ⟨ys,⟨l,c,_⟩,_⟩:=h;rcases c.2 with⟨rfl,_⟩|⟨g,cap,j,e,rfl,_⟩<;>rfl
theorem mh(r:AP F0 w0 ε a w G)(hd:d<a.tmps.size)(I:o.op=.buildSlice t 1 #[(0,x)])(c:cW P t=X)(η:AK x (.s q)=X)(h:(AE.Abn q).wp S ε (Y d) K):A1 P F0 w0 a w o d K:=by
 simp only[AE.wp]at h;split at h
 .rename_i d' n fs B L;simp only[nm]at B;subst B;obtain⟨⟨hno,O⟩,hK⟩:=h;have N:=KI (a:=a) η;have θ:=Ag r L V;have C:=r.wf q;rw[L]at C;simp only[AM]at θ;have g:Q9 w (AU w0.heap.size F0 G) (G q W) n fs (slot a q):=θ;have j:=ox g;unfold cW at c;split at c
  .rename_i e hu;split at c
   .rename_i ie M;simp only[gN,beq_iff_eq]at c;obtain⟨R,E⟩:=c;split at E
    .rename_i z A;have l:=QB j;have D:(execOp a.eval o).run P w=.ok (.value (.slice (Y ⟨w.heap.size,0,W⟩) 1 1)) (w.alloc (.cells #[slot a q] e)):=by
      simp [execOp,I,Instr.buildSlice,run_underlying hu,sizeOf,typeInfo,M,R,zeroValue,A,Instr.fill,newRow,N,l]
      grind
     have H:Below w.heap.size w (w.alloc (.cells #[slot a q] e)):=(Below.refl _ _).alloc (R0 _) _;refine⟨_,_,D,_,_,hK,r.xgo L hd O (z':=G q W) rfl rfl rfl H.size (λk ζ _=>H.block k ζ) (λb lo A=>⟨F? (r.lt _ _ _ _ A).1 H.size,.inr ⟨lo,A⟩⟩) V V (λF' G' env' a' J δ Z=>?_) C⟩;simp only[AM];refine⟨w.heap.size,1,slot a q,rfl,R0 _,?_,λhf=>?_,j,?_⟩
     .rw[cell_of_row _ w.heap.size 0 #[slot a q] e (0,0) (heap_alloc_new w _)];rfl
     .rcases Z _ _ hf with κ|⟨lo,κ⟩
      .omega
      .have:=(r.lt _ _ _ _ κ).1;omega
     .rw[δ];exact g.kept J (λb lo A=>H.block b (r.lt _ _ _ _ A).1)
    .cases E
   .cases c
  .cases c
 .exact h.elim
theorem AP.give(h:AP F0 w0 ε a w G){es fs:Fq}(M:ε.get s=.xn es)(N:ε.get q=.x1 n fs):
  AP F0 w0 ((q,.undef)::ε) a w (λp i=>if p=s/\i=Y 0 then G q W else if p=q then W else G p i):=by
 have Z:s≠q:=by rintro rfl;rw[M]at N;cases N
 have hsz:s<a.tmps.size:=Bi h M V;have hqz:q<a.tmps.size:=Bi h N V;have J:∀p i b lo,(if p=s/\i=Y 0 then G q W else if p=q then W else G p i)=Y (b,lo)->(p=s/\i=Y 0/\G q W=Y (b,lo))\/(¬(p=s/\i=Y 0)/\p≠q/\G p i=Y (b,lo)):=by
  grind
 have E:Bf w w (AU w0.heap.size F0 G) (AU w0.heap.size F0 (λp i=>if p=s/\i=Y 0 then G q W else if p=q then W else G p i)):=by
  refine λb o u η hf=>⟨η,?_⟩;rintro(B|⟨p,j,lo,B,κ⟩)
  .exact hf (.inl B)
  .rcases J _ _ _ _ B with⟨_,_,θ⟩|⟨_,_,θ⟩
   .exact hf (.inr ⟨_,_,lo,θ,κ⟩)
   .exact hf (.inr ⟨_,_,lo,θ,κ⟩)
 have g:sr a (λp i=>if p=s/\i=Y 0 then G q W else if p=q then W else G p i)=sr a G:=by
  grind [sr]
 refine ⟨λp i p' i' b lo ζ O δ=>?_,λp i b lo O=>?_,h.below,h.defers,λp I=>?_,λp I=>?_,λp=>?_⟩
 .rcases J _ _ _ _ O with⟨rfl,rfl,l⟩|⟨n1,n2,l⟩<;>rcases J _ _ _ _ δ with⟨rfl,rfl,L⟩|⟨m1,m2,L⟩
  .exact⟨rfl,rfl⟩
  .exact absurd (h.gi _ _ _ _ _ _ _ l L).1.symm m2
  .exact absurd (h.gi _ _ _ _ _ _ _ l L).1 n2
  .exact h.gi _ _ _ _ _ _ _ l L
 .rcases J _ _ _ _ O with⟨_,_,l⟩|⟨_,_,l⟩
  .exact h.lt _ _ _ _ l
  .exact h.lt _ _ _ _ l
 .rw[AB.bn,QQ U];exact h.dom p I
 .rw[AB.bn];split
  .trivial
  .rename_i D;by_cases H:p=s
   .subst H;have C:=h.slots p I;rw[M]at C|-;simp only[AM]at C|-;rw[QQ V,QQ (λe=>D e.symm),g];exact C.kept E (λ_ _ _=>rfl) BJ.rfl'
   .refine AM.kept E (λi=>by rw[QQ (λe=>H e.1),QQ (λe=>D e.symm)]) (λ_ _ _ _=>rfl) g BJ.rfl' (λr i k C⟨R,A⟩=>?_) (λr off C⟨cs',c⟩=>?_) (λr i C⟨R,A⟩=>?_) (h.slots p I)
    .have B:=AB.tn V A;exact⟨⟨R,B.2⟩,λ_ hv=>hv⟩
    .rw[AB.bn]at c;split at c
     .cases c
     .exact⟨⟨cs',c⟩,rfl⟩
    .have B:=AB.o4 V V A;exact⟨⟨R,B.2⟩,λ_ hv=>hv⟩
 .rw[AB.bn];split
  .trivial
  .exact h.wf p
def TR(zo:Option (Nat×Nat))(rowz:Nat->Option (Nat×Nat)):Dg:=λp i=>if p=0 then(if i=W then zo else W)else if zo.map (λz=>z.1+1)=Y p then(match i with|some j=>rowz j|none=>W)else W
variable{rowz:Nat->Option (Nat×Nat)}{p:Nat}{i:Option Nat}
theorem TS{c:Option (Nat×Nat)}{b lo:Nat}(h:TR c rowz p i=Y (b,lo)):(p=0/\i=W/\c=Y (b,lo))\/∃g l j,c=Y (g,l)/\p=g+1/\i=Y j/\rowz j=Y (b,lo):=by
 simp only[TR]at h;split at h
 .grind
 .split at h
  .rename_i A r;cases i with
   |none=>cases h
   |some j=>
    cases c with
    |none=>cases r
    |some z=>
     grind
  .cases h
theorem lF{g l:Nat}(j:Nat):(TR (Y (g,l)) rowz).sr g j=rowz j:=by
 simp [Dg.sr,TR]
variable{e:TypeId}
theorem AP.AaG(B:AP F0 w0 ε a w G){ty:TypeId}{i:TypeInfo}{z:Value}{es:Fq}(hs:ε.get s=.xn es)(hq:ε.get q=.x1 n fs)
  (ht:P.underlying t=Y (.slice e))(hi:P.info? e=Y i)(hz:i.zero=Y z)(hsize:i.size=1)(hby:i.bytes<=4096)(hzs:z.cells.size=1)(η:es.length+1<=AX):
  ∃v' w',(Builtin.append_ #[t,t] ty #[slot a s,slot a q]).run P w=.ok v' w'/\Bt F0 w0 ((s,.xn (es++[.list n fs]))::(q,.undef)::ε) (a.put (Y s) v') w':=by
  have hsq:s≠q:=by rintro rfl;rw[hs]at hq;cases hq
  have θ:s<a.tmps.size:=Bi B hs V;have hqz:q<a.tmps.size:=Bi B hq V;have hrs:=Ag B hs V;have hws:=B.wf s;rw[hs]at hws;have hrq:=Ag B hq V;have hwq:=B.wf q;rw[hq]at hwq;simp only[AM]at hrs hrq;obtain⟨xs,⟨z0,h1,hz0⟩,h2,h3⟩:=hrs;obtain⟨g1,cap1,x,k1,k2,k3,k4,k5,k6⟩:=hrq;obtain⟨v',w',z',hrun,r1,L⟩:=QY (P:=P) t ty e i z 1 ht hi hz hsize hby hzs U (slot a s) es.length xs z0 h1 (Y ⟨g1,0,W⟩) 1 cap1 [x] rfl V k2 (λb ζ j u hu=>by
   simp only[nm]at ζ;subst ζ;cases j with
   |zero=>simp only[x?,nm]at hu;subst hu;rw[Addr.add_lit];exact k3|succ j=>simp at hu) (by simpa using k5) η
  obtain ⟨C,N,O,e',m1,m2,m3⟩:∃C N O e',v'=.slice (Y ⟨C,0,W⟩) (es.length+1) N/\w'.heap[C]?=Y (.cells O e' (0,0))/\z'=Y (C,(es.length+1)*1):=by
   rcases r1.2 with⟨_,hn,_⟩|⟨C,N,O,e',c,r,_,_,_,_,e7⟩
   .omega
   grind
  let M:BR:=λp i=>if p=s/\i=Y 0 then G q W else if p=q then W else G p i
  have hI1:AP F0 w0 ((q,.undef)::ε) a w M:=B.give hs hq;have D:M s W=G s W:=by simp only[M];rw[QQ V,QQ hsq]
  have hG10:M s (Y 0)=G q W:=by simp[M]
  have hG1r:∀g j,M (a.tmps.size+g) (Y j)=G (a.tmps.size+g) (Y j):=λg j=>by simp only[M];rw[QQ U,QQ U]
  let rowz:Nat->Option (Nat×Nat):=λj=>if j=es.length then G q W else z0.bind λp=>G (a.tmps.size+p.1) (Y j)
  let Z:Dg:=TR (Y (C,0)) rowz
  have A:∀b lo,z0=Y (b,lo)->G s W=Y (b,0):=λb lo e=>by rw[hz0,e];rfl
  have hrz:∀j b lo,rowz j=Y (b,lo)->(j=es.length/\G q W=Y (b,lo))\/(j≠es.length/\∃g l,z0=Y (g,l)/\G (a.tmps.size+g) (Y j)=Y (b,lo)):=by
   grind [Option.bind_eq_some_iff]
  have κ:∀j b lo,rowz j=Y (b,lo)->∃p i,G p i=Y (b,lo)/\p≠s/\(p=q/\i=W/\j=es.length\/a.tmps.size<=p/\i=Y j/\j≠es.length):=by
   intro j b lo δ;rcases hrz _ _ _ δ with⟨c,r⟩|⟨c,g,l,r,J⟩
   .exact⟨_,_,r,λe=>hsq e.symm,.inl ⟨rfl,rfl,c⟩⟩
   .exact⟨_,_,J,U,.inr ⟨U,rfl,c⟩⟩
  have E:∀l,z'=Y (C,l)->w.heap.size<=C\/G s W=Y (C,0):=λl hl=>by
   rcases (L.AbE _ _ hl).2 with e|⟨I,e,_⟩
   .exact .inl e
   .exact .inr (A _ _ e)
  have E:=E _ m3;have h:∀p i b lo,G p i=Y (b,lo)->b<w.heap.size:=λp i b lo e=>(B.lt _ _ _ _ e).1;have hout:∀p i b lo,G p i=Y (b,lo)->p≠s->b≠C:=by
   intro p i b lo c r J;subst J;rcases E with e|e
   .have:=h _ _ _ _ c;omega
   .exact r (B.gi _ _ _ _ _ _ _ c e).1
  have hzz:∀p j b lo,Z p j=Y (b,lo)->b<w'.heap.size/\(w.heap.size<=b\/∃p j I,Bs a M s p j=Y (b,I)/\I<=lo):=by
   intro p j b lo hp;rcases TS hp with⟨_,_,e⟩|⟨g,l,j,c,_,_,r⟩
   .simp only[nm,Prod.mk.injEq]at e;obtain⟨rfl,rfl⟩:=e;refine⟨(L.AbE _ _ m3).1,E.imp id λe=>⟨0,W,0,by rw[DO,D];exact e,R0 _⟩⟩
   .rcases hrz _ _ _ r with⟨_,J⟩|⟨_,g0,l0,J,e4⟩
    .exact⟨F? (h _ _ _ _ J) L.size,.inr ⟨0,Y 0,lo,by rw[DO,hG10];exact J,R0 _⟩⟩
    .refine⟨F? (h _ _ _ _ e4) L.size,.inr ⟨g0+1,Y j,lo,?_,R0 _⟩⟩;simp only[Bs];rw[QQ U,Ne ⟨W,0,by rw[G_,D];exact A _ _ J⟩];simp only[G_];rw[hG1r];exact e4
  have H:∀b o,AU w0.heap.size F0 M b o->AU w0.heap.size F0 G b o:=by
   rintro b o (e|⟨p,j,lo,c,r⟩)
   .exact .inl e
   .simp only[M]at c;split at c
    .exact .inr ⟨_,_,lo,c,r⟩
    .split at c
     .cases c
     .exact .inr ⟨_,_,lo,c,r⟩
  have hd:=θ;refine⟨v',w',?_,_,(hI1.Aaw (s:=s) (d:=s) (Z:=Z) (w':=w') (env':=(s,.xn (es++[.list n fs]))::(q,.undef)::ε) (a':=a.put (Y s) v') θ θ ⟨L.os,L.tape,L.output,L.size,λk hk hz=>?_,λb o u hz hu=>?_⟩ (Bj _ _ _) (FG _ _ _) ?_ hzz ?_ ?_ ?_ ?_ ?_ (.inr (.inr ⟨?_,?_⟩)) ?_).1⟩
  .rw[k1];exact hrun
  .refine L.other k hk λlo e=>hz 0 W 0 ?_;rw[DO,D];exact A _ _ e
  .refine L.cell b o u hu λlo e=>absurd ⟨0,W,0,?_,G! _⟩ hz;rw[DO,D];exact A _ _ e
  .intro p j p' j' b lo I c r;rcases TS c with⟨rfl,rfl,f1⟩|⟨g,l,i1,f1,rfl,rfl,f2⟩<;>rcases TS r with⟨rfl,rfl,f3⟩|⟨g2,l2,i2,f3,rfl,rfl,f4⟩
   .exact⟨rfl,rfl⟩
   .simp only[nm,Prod.mk.injEq]at f1;obtain⟨p1,p2,q1,q2,_⟩:=κ _ _ _ f4;exact absurd f1.1.symm (hout _ _ _ _ q1 q2)
   .simp only[nm,Prod.mk.injEq]at f3;obtain⟨p1,p2,q1,q2,_⟩:=κ _ _ _ f2;exact absurd f3.1.symm (hout _ _ _ _ q1 q2)
   .simp only[nm,Prod.mk.injEq]at f1 f3;obtain⟨p1,p2,q1,q2,q3⟩:=κ _ _ _ f2;obtain⟨p3,p4,q4,q5,q6⟩:=κ _ _ _ f4;have:=B.gi _ _ _ _ _ _ _ q1 q4;refine⟨U,?_⟩;rcases q3 with⟨u1,u2,u3⟩|⟨u1,u2,u3⟩<;>rcases q6 with⟨u4,u5,u6⟩|⟨u4,u5,u6⟩
    .rw[u3,u6]
    .omega
    .omega
    .rw[u2,u5]at this;exact this.2
  .intro p hp;rw[AB.bn,QQ U,AB.bn,QQ U];exact B.dom p hp
  .intro p;rw[AB.bn];split
   .simp only[EV.WF,TV.WF]at hws hwq|-;exact⟨by rw[aE];exact Uj (by simpa using η),Kf.2 ⟨hws.2,⟨hwq,trivial⟩⟩⟩
   .rw[AB.bn];split
    .trivial
    .exact B.wf p
  .exact λp hp _=>AY _ _ _ _ (λe=>hp e.symm)
  .exact λp hp _=>by rw[AB.bn,QQ (λe=>hp e.symm)]
  .exact λe=>absurd rfl e
  .intro cs;rw[AB.bn,Ne rfl];simp
  .intro m es';rw[AB.bn,Ne rfl];simp
  .intro F' hF';rw[AB.bn,Ne rfl,Cx _ _ _ hd];have hag:Bf w w' (AU w0.heap.size F0 G) F':=by
    intro b o u hc hf;have hlt:b<w.heap.size:=World.block_lt_of_cell? w ⟨b,o,W⟩ hc;refine⟨L.cell b o u hc λlo e=>absurd (.inr ⟨s,W,0,A _ _ e,G! _⟩) hf,λhf'=>?_⟩;rcases hF' b o hf' with⟨_,e,_⟩|⟨p,j,lo,c,r⟩
    .exact hf (H b o e)
    .rcases(hzz _ _ _ _ c).2 with J|⟨p2,j2,lo2,J,e4⟩
     .omega
     .obtain⟨p3,j3,e5,_⟩:=CM J;exact hf (H b o (.inr ⟨p3,j3,lo2,e5,G? e4 r⟩))
   have hzd:CY a M s s Z s W=Y (C,0):=by simp[CY,Z,TR]
   have hrow:∀j,sr (a.put (Y s) v') (CY a M s s Z) C j=rowz j:=λj=>by
    rw [Qo (k:=W) (lo:=0) (Bj _ _ _) hd θ (by simp[Z,TR]) j];exact lF j
   simp only[AM];rw[hzd];refine⟨xs++[x],⟨z',by rw[aE];exact r1,by rw[m3];rfl⟩,?_,?_⟩
   .intro y hy;rcases y_.1 hy with hy|hy
    .exact h2 y hy
    .simp only[y!]at hy;subst hy;exact k5
   .have hxl:xs.length=es.length:=by have:=h1.1;omega
    intro j el δ;by_cases hjl:j<es.length
    .rw[y? hjl]at δ;obtain⟨g,y,m,fs',c,r,J,e4⟩:=h3 j el δ;refine⟨C,y,m,fs',rfl,by rw[y? U];exact r,J,?_⟩;rw[hrow];have R:∃l,z0=Y (g,l):=by
      rw [hz0]at c;cases z0 with
      |none=>cases c
      |some p=>simp only[E_,nm,Prod.mk.injEq,and_true]at c;exact⟨p.2,by rw[<-c]⟩
     obtain ⟨l,R⟩:=R;have hrj:rowz j=sr a G g j:=by
      simp only[rowz,R];rw[QQ U];rfl
     rw [hrj];exact e4.kept hag λb lo ζ=>L.other b (h _ _ _ _ ζ) λI e=>by
      have:=(B.gi _ _ _ _ _ _ _ (A _ _ e) ζ).1;omega
    .have hje:j=es.length:=by
      have:=(z_.1 δ).1;simp only[aE,z!]at this;omega
     subst hje;rw[z? (R0 _),H_]at δ;simp only[x?,nm]at δ;subst δ;refine⟨C,x,n,fs,rfl,by rw[<-hxl,z? (R0 _),H_];rfl,rfl,?_⟩;rw[hrow];have hrj:rowz es.length=G q W:=by simp[rowz]
     rw [hrj];exact k6.kept hag λb lo ζ=>L.other b (h _ _ _ _ ζ) λI e=>hsq (B.gi _ _ _ _ _ _ _ (A _ _ e) ζ).1
theorem mW(hI:AP F0 w0 ε a w G)(hd:d<a.tmps.size){m q:Nat}{i:TypeInfo}{z:Value}(L:o.op=.call {callee:=.builtin .append,args:=#[.tmp m,.tmp q],argTypes:=#[t,t]})
  (ht:P.underlying t=Y (.slice e))(hi:P.info? e=Y i)(hz:i.zero=Y z)(j:i.size=1)(M:i.bytes<=4096)(N:z.cells.size=1)
  (h:(AE.AaG m q).wp S ε (Y d) K):A1 P F0 w0 a w o d K:=by
 simp only[AE.wp]at h;split at h
 .rename_i d' s off n fs r hm hq;simp only[nm]at r;subst r;split at h
  .rename_i cs O;cases c:ε.nat s off with
   |none=>rw[c]at h;exact h.elim|some es=>
    rw [c]at h;simp only[Ai]at h;obtain⟨B,⟨C,hdm,δ,hmq⟩,hK⟩:=h;obtain⟨cs',D,hk⟩:=AB.pN c;rw[O]at D;cases D;have hds:d≠s:=λe=>AB.po d ε C m (by rw[hm,e];rfl);obtain⟨b,c0,θ,Z,e1,e2,e3,e4⟩:=X2 hI (x:=.tmp m) (y:=.s m) r! hm c;simp only[NK.at]at e4;have l:w.cell? ⟨b,off,W⟩=Y Z:=by rw[cell_of_row w b off c0 θ (0,0) e2];exact e3
    obtain ⟨G1,h1⟩:=hI.AaL O hk hd e1 l (.inr (.inr ⟨es,rfl,rfl,rfl,C⟩));have h2:=h1.strip m;have R:(strip ((d,EV.xn es)::(s,.bx (cs.set off ⟨T,.undef⟩))::ε) m).get d=.xn es:=by
     grind [strip,AB.bn]
    have κ:s≠q:=by rintro rfl;rw[O]at hq;cases hq
    have η:(strip ((d,EV.xn es)::(s,.bx (cs.set off ⟨T,.undef⟩))::ε) m).get q=.x1 n fs:=by
     grind [strip,AB.bn]
    obtain ⟨v',w',g,E⟩:=h2.AaG (ty:=o.type) R η ht hi hz j M N B;rw[Cx _ _ _ hd,AY _ _ _ _ δ]at g;refine⟨v',w',?_,_,_,hK,?_⟩
    .have ζ:a.eval (.tmp m)=Z:=e4;simp[execOp,L,resolve,invoke,builtin,ζ,show a.eval (.tmp q)=slot a q from rfl,g]
    .have A:(a.put (Y d) Z).put (Y d) v'=a.put (Y d) v':=by simp[Act.put]
     rw [A]at E;refine E.congr' λp=>?_;simp only[strip,AB.bn];by_cases H:d=p
     .simp[H]
     .by_cases I:q=p
      .have J:¬s=p:=λe=>κ (e.trans I.symm);simp[H,I,J]
      .by_cases J:m=p
       .have k4:¬s=p:=λe=>by
         grind
        simp [H,I,J,k4]
       .simp[H,I,J]
  .exact h.elim
 .exact h.elim
theorem AP.renest(h:AP F0 w0 ε a w G){s off g r n:Nat}{es fs fs':Fq}(hx:ε.nat s off=Y es)(hg:G s (Y off)=Y (g,0))(hr:es[r]?=Y (.list n fs)){w':World}(hb:Q6 (sr a G g r) w w')(hz0:∀b lo,sr a G g r=Y (b,lo)->lo=0)
  (hrow:∀y,w.cell? ⟨g,r,W⟩=Y y->Bf w w' (AU w0.heap.size F0 G) (AU w0.heap.size F0 G)->Q9 w' (AU w0.heap.size F0 G) (sr a G g r) n fs' y)(hw:(TV.list n fs').WF):
  AP F0 w0 (ε.AbM s off (es.set r (.list n fs'))) a w' G:=by
 obtain ⟨b1,b2,b3,b4,b5⟩:=hb;obtain⟨cs,hs,hk⟩:=AB.pN hx;have hsz:s<a.tmps.size:=Bi h hs V;have η:=h.wf s;rw[hs]at η;have hzG:∀lo b,sr a G g r=Y (b,lo)->G (a.tmps.size+g) (Y r)=Y (b,lo):=λ_ _ e=>e;have A:∀p i b lo,p<a.tmps.size->G p i=Y (b,lo)->w'.heap[b]?=w.heap[b]?:=by
  intro p i b lo E e;refine b5 b (h.lt _ _ _ _ e).1 λD e'=>?_;have:=(h.gi _ _ _ _ _ _ _ e (hzG _ _ e')).1;omega
 have B:∀C j b lo,¬(C=g/\j=r)->sr a G C j=Y (b,lo)->w'.heap[b]?=w.heap[b]?:=by
  intro C j b lo hne e;refine b5 b (h.lt _ _ _ _ e).1 λD e'=>hne ?_;have:=h.gi _ _ _ _ _ _ _ e e'
  grind
 have J:Bf w w' (AU w0.heap.size F0 G) (AU w0.heap.size F0 G):=by
  intro b o u hc hF;refine⟨?_,hF⟩;have hlt:b<w.heap.size:=World.block_lt_of_cell? w ⟨b,o,W⟩ hc;rw[World.cell?_of_block (w:=w) (a:=⟨b,o,W⟩) (b5 b hlt (λlo l=>hF (.inr ⟨_,Y r,lo,l,by rw[hz0 b lo l];exact G! _⟩)))];exact hc
 have L:HQ F0 w0 w':=h.below.but b1 b2 b3 b4 (Z:=λk=>∃lo,sr a G g r=Y (k,lo)) (λb⟨lo,l⟩=>(h.lt _ _ _ _ l).2.imp id (λe o=>e o (by rw[hz0 b lo l];exact G! _))) (λk hk l=>b5 k (F? hk h.below.size) (λlo e=>l ⟨lo,e⟩));have H:∀q i,(∃p,AB.nat ((s,.bx (cs.set off ⟨X,.xn (es.set r (.list n fs'))⟩))::ε) q i=Y p)->∃p,ε.nat q i=Y p:=by
  grind [AB.pN,AB.bn,A_,AB.nat,AB.Aab]
 have I:∀q i,(∃p,AB.o3 ((s,.bx (cs.set off ⟨X,.xn (es.set r (.list n fs'))⟩))::ε) q i=Y p)->∃p,ε.o3 q i=Y p:=by
  rintro q i ⟨⟨n1,es1⟩,E⟩;by_cases hsq:s=q
  .subst hsq;cases i with
   |none=>have:=AB.q0 E;rw[AB.bn,Ne rfl]at this;cases this
   |some i=>
    grind [AB.pc,AB.bn,A_,AB.o3]
  grind [AB.x7]
 simp only[AB.AbM,hs];refine⟨h.gi,λp i b lo e=>⟨F? (h.lt _ _ _ _ e).1 b4,(h.lt _ _ _ _ e).2⟩,L,h.defers,λp E=>?_,λp E=>?_,λp=>?_⟩
 .rw[AB.bn,QQ U];exact h.dom p E
 .rw[AB.bn];by_cases ζ:s=p
  .subst ζ;rw[Ne rfl];have δ:=h.slots s E;rw[hs]at δ;simp only[AM]at δ|-;obtain⟨b,c,θ,e1,e2,e3,e4,e5⟩:=δ;refine⟨b,c,θ,e1,by rw[A _ _ _ _ E e4];exact e2,by simpa using e3,e4,λi d hd=>?_⟩;by_cases hio:off=i
   .subst hio;rw[List.getElem?_set_self (by rcases H' off cs.length with h|h;exact h;rw[List.getElem?_eq_none h]at hk;cases hk)]at hd;simp only[nm]at hd;subst hd;obtain⟨x,f1,f2⟩:=e5 off _ hk;refine⟨x,f1,?_⟩;obtain⟨xs,⟨z0,k1,k2⟩,k3,k4⟩:=(f2:Fw _ _ _ _ _ _);refine⟨xs,⟨z0,?_,k2⟩,k3,λj e N=>?_⟩
    .rw[A'];exact k1.kept (λO lo l=>A s (Y off) O 0 E (by rw[k2,l];rfl))
    .rw[A!]at N;by_cases hrj:r=j
     .subst hrj;rw[Ne rfl]at N;split at N
      .simp only[nm]at N;subst N;obtain⟨C,y,n2,fs2,m1,m2,m3,m4⟩:=k4 r _ hr;have hgg:C=g:=by rw[hg]at m1;simpa using m1.symm
       subst hgg;refine⟨C,y,n,fs',m1,m2,rfl,hrow y ?_ J⟩;rcases k1.2 with⟨_,hn,_⟩|⟨g3,cap,cur,e',q1,q2,q3,q4,q5,q6,q7⟩
       .have:es=[]:=w? hn;subst this;simp at hr
       .rw[k2,q7]at m1;simp only[E_,nm,Prod.mk.injEq,and_true]at m1;subst m1;exact k1.cell q1 r y m2
      .cases N
     .rw[QQ hrj]at N;obtain⟨C,y,n2,fs2,m1,m2,m3,m4⟩:=k4 j _ N;exact⟨C,y,n2,fs2,m1,m2,m3,m4.kept J λO lo l=>B C j O lo (λe=>hrj e.2.symm) l⟩
   .rw[A_ hio]at hd;obtain⟨x,f1,f2⟩:=e5 i d hd;refine⟨x,f1,f2.Abr J (λO lo l=>A _ _ _ _ E l) λC lo j O D l hρ=>B C j O D (λe=>?_) hρ⟩;rw[e.1]at l;have:=(h.gi _ _ _ _ _ _ _ l hg).2;simp only[nm]at this;exact hio this.symm
  .rw[QQ ζ];refine AM.kept' J (λ_=>rfl) (λi b lo l=>A _ _ _ _ E l) (λ_ _ _ _ _=>rfl) (λi C lo j O D l hρ=>B C j O D (λe=>?_) hρ) (λq i k _ R=>⟨H q i R,h.nh (H q i R) rfl λj b _ l=>?_⟩) (λq off' _⟨cs',κ⟩=>⟨?_,rfl⟩) (λq i _ R=>⟨I q i R,h.xv (I q i R) rfl λb l=>?_⟩) (h.slots p E)
   .rw[e.1]at l;exact ζ (h.gi _ _ _ _ _ _ _ l hg).1.symm
   .obtain⟨pp,M⟩:=H q i R;obtain⟨cs',h2,_⟩:=AB.pN M;exact A _ _ _ _ (Bi h h2 V) l
   .rw[AB.bn]at κ;split at κ
    next e=>subst e;exact⟨cs,hs⟩
    .exact⟨cs',κ⟩
   .obtain⟨⟨n1,es1⟩,M⟩:=I q i R;refine A q W b 0 ?_ l;cases i with
    |none=>exact Bi h (AB.q0 M) V|some i=>obtain⟨cs',h2,_⟩:=AB.pc M;exact Bi h h2 V
 .rw[AB.bn];split
  .intro y hy;rcases A? hy with hy|rfl
   .exact η y hy
   .have h1:(TV.list 1 es).WF:=η _ (w! hk);simp only[TV.WF]at h1|-;refine⟨by simpa using h1.1,?_⟩;rw[Bp]at h1|-;intro t ht;rcases A? ht with ht|rfl
    .exact h1.2 t ht
    .exact hw
  .exact h.wf p
variable{u:TV}
theorem ZP(j:u.cells=[u]):∀(fs:Fq)(c:Nat),(∀e∈fs,e.cells.length=1)->(fs.set c u).flatMap TV.cells=(fs.flatMap TV.cells).set c u
 |[],c,_=>by simp|f::fs,c,h=>by
  obtain ⟨l,g⟩:=List.length_eq_one_iff.1 (h f V);cases c with
  |zero=>simp[B_,g,j]|succ c=>
   simp only[List.set_cons_succ,B_,g,List.singleton_append];rw[ZP j fs c (λe he=>h e (by simp[he]))]
theorem p7(hI:AP F0 w0 ε a w G){x v:Operand}{x' v':AF}(hop:o.op=.store t x v)(L:AK x x'=X)(hv:AK v v'=X)(hn:C7 P t=Y 1)(h:(AE.nst x' v').wp S ε W K):IB P F0 w0 a w o K:=by
 simp only[AE.wp]at h;split at h
 .rename_i s off r c u hy hu;cases B:ε.nat s off with
  |none=>rw[B]at h;exact h.elim|some es=>
   rw [B]at h;simp only[Ai]at h;obtain⟨fs,hr,hc,I,hfl,hK⟩:=h;obtain⟨b,c0,θ,x0,e1,e2,e3,g,len,cap,e0,J,len',δ,e4,e5⟩:=X2 hI L hy B;subst e0;obtain⟨b',c',T',v0,f1,f2,f3,f4,f5,Z⟩:=Uk hI B;rw[e1]at f1;simp only[Value.pointer.injEq,nm,Addr.mk.injEq,and_true,and_self]at f1;subst f1;rw[e2]at f2;cases f2;rw[e3]at f3;simp only[nm]at f3;subst f3;obtain⟨g',cap1,cur,e,xs,g1,g2,g3,_,gz,g4,_⟩:=Vk f5 (by rintro rfl;simp at hr);simp only[Value.slice.injEq,nm,Addr.mk.injEq,and_true]at g1;obtain⟨rfl,rfl,rfl⟩:=g1;obtain⟨y,n,fs',k1,k2,k3⟩:=g4 r _ hr;simp only[TV.list.injEq]at k2;obtain⟨rfl,rfl⟩:=k2;have hcy:=e4;rw[cell_of_row w g r cur e (0,0) g2,k1]at e4;simp only[nm]at e4;subst e4;obtain⟨ys,⟨z0,m1,m2⟩,m3,m4,m5⟩:=k3;rcases m1.2 with⟨e9,_,_⟩|⟨gr,capr,l,er,q1,q2,q3,q4,q5,q6,q7⟩
   .cases e9
   .simp only[Value.slice.injEq,nm,Addr.mk.injEq,and_true]at q1;obtain⟨rfl,rfl,rfl⟩:=q1;have M:=Ay hI hv (t:=u) (by simp[AF.val,hu,EV.val]);have N:=G4 M.1;rw[I]at N;have O:∃y,(a.eval v).cells.toList=[y]/\Aq w (AU w0.heap.size F0 G) u y/\y.oneCell'=X:=by
     obtain ⟨k1,k2⟩:=N;simp only[AR]at k1;obtain⟨y,r,k3,k4,rfl⟩:=k1;exact⟨y,k3,k4,k2 y (by rw[k3];simp)⟩
    obtain ⟨y,k1',k2',k3'⟩:=O;have R:c<l.size:=U
    have C:=run_storeCells_at P J c er [y] 0 l w q2 (by simp only[z!];omega) (by simpa using k3');simp only[H!]at C;have hsz:(a.eval v).cells.size=1:=by rw[<-E?,k1'];rfl
    have hst:(execOp a.eval o).run P w=.ok .skip (w.setRow J (l.toList.take c++[y]++l.toList.drop (c+1)).toArray):=by
     simp only[z!]at C;simp[execOp,hop,e5,Instr.storeAt,Instr.sureAddr,storeVar,CG hn,hsz,k1',C]
    have H:sr a G g r=Y (J,0):=by rw[m2,q7];rfl
    have D:(TV.list 1 fs).WF:=Bp.1 Z.2 _ (w! hr);have hyl:ys.length=fs.length:=by have:=m1.1;omega
    refine ⟨_,hst,_,hK,G,hI.renest B gz hr (fs':=fs.set c u) ?_ ?_ (λy' E hag=>?_) ?_⟩
    .exact⟨rfl,rfl,rfl,V,λk _ hk=>setRow_other w J k _ (λe=>hk 0 (by rw[e];exact H))⟩
    .intro b lo hb;rw[H]at hb;simp only[nm,Prod.mk.injEq]at hb;exact hb.2.symm
    .rw[hcy]at E;simp only[nm]at E;subst E;refine⟨ys.set c y,⟨Y (J,fs.length*1),⟨by rw[A',A'];omega,.inr ⟨J,δ,_,er,by rw[A'],setRow_heap w J l _ er _ q2,by rw[A'];exact q3,q4,?_,?_,by rw[A']⟩⟩,by rw[H];rfl⟩,?_,?_,?_⟩
     .simp only[B',aE,aN,B!,E?,z!];omega
     .rw[A',<-q6];apply B?;intro i;have hs2:l.toList.take c++[y]++l.toList.drop (c+1)=l.toList.set c y:=by
       rw [List.set_eq_take_append_cons_drop,Ne (by simpa using R),ae];rfl
      rw [hs2];simp only[x_,A!,aN,E?];by_cases hi:i<fs.length*1
      .simp only[Ne hi];by_cases κ:c=i
       .subst κ;simp only[if_true];rw[Ne R,Ne U]
       .simp only[QQ κ]
      .simp only[QQ hi];rw[QQ U]
     .rw[Bh];have η:=(Bh _ _).1 (Ar hag _ _ m3);rw[ZP I fs c m4];refine⟨by rw[A',A'];exact η.1,λi t' v'' A j=>?_⟩;rw[A!]at A j;by_cases ζ:c=i
      .subst ζ;rw[Ne rfl]at A j;split at A
       .split at j
        .simp only[nm]at A j;subst A j;exact RR u hfl _ k2'
        .cases j
       .cases A
      .rw[QQ ζ]at A j;exact η.2 i t' v'' A j
     .intro e he;rcases A? he with he|rfl
      .exact m4 e he
      .rw[I];rfl
     .intro x L;rcases A? L with L|rfl
      .exact m5 x L
      .exact k3'
    .simp only[TV.WF]at D|-;refine⟨by simpa using D.1,?_⟩;rw[Bp];intro t ht;rcases A? ht with ht|rfl
     .exact Bp.1 D.2 t ht
     .exact M.2
 .exact h.elim
theorem Y8(A:AP F0 w0 ε a w G)(C:u.WF):∀{i:Nat}{xs:List Operand}{ys:List AF},Be xs ys=X->∀{j:Fq},Fg ε i ys=Y j->(∀x,xs[i]?=Y x->Aq w (AU w0.heap.size F0 G) u (a.eval x))->AR w (AU w0.heap.size F0 G) (j.set i u) (xs.map a.eval)/\TV.ns (j.set i u)
 |_,[],[],_,j,h,_=>by simp[Fg]at h;subst h;exact⟨rfl,trivial⟩|_,[],_::_,h,_,_,_=>by simp[Be]at h|_,_::_,[],h,_,_,_=>by simp[Be]at h|0,x::xs,y::ys,c,j,h,ho=>by
  simp only[Be,gN]at c;simp only[Fg]at h;split at h
  next B g=>simp only[nm]at h;subst h;have l:=ho x V;obtain⟨r,H⟩:=GM A c.2 g;exact⟨⟨_,_,rfl,l,r⟩,C,H⟩
  .cases h
 |i+1,x::xs,y::ys,c,j,h,ho=>by
  simp only[Be,gN]at c;simp only[Fg]at h;split at h
  next t B E g=>simp only[nm]at h;subst h;have l:=Ay A c.1 E;have r:=Y8 A C c.2 g (λx D=>ho x (by simpa using D));exact⟨⟨_,_,rfl,l.1,r.1⟩,l.2,r.2⟩
  .cases h
variable{f:FuncId}{ys:List AF}{ats:Array TypeId}{Q:Exit->Act->World->Prop}
theorem jk(B:AP F0 w0 ε a w G)(hd:d<a.tmps.size)(ζ:o.dst=Y d){xs:Array Operand}{i:Nat}(hop:o.op=.call {callee:=.value (.func f),args:=xs,argTypes:=ats})(δ:Be xs.toList ys=X)(h:(AE.AaI f ys i).wp (AS P) ε (Y d) K)
  {next:Act->World->Prop}(hn:∀e env' a' w',K e env'->Q7 a d a'->Bt F0 w0 ((d,e)::env') a' w'->next a' w'):o.wp P a w next Q:=by
 simp only[AE.wp]at h;split at h
 .rename_i d' q hdd hy;simp only[nm]at hdd;subst hdd;split at h
  .rename_i cs hq;obtain⟨hdq,h⟩:=h;cases N:Fg ε i ys with
   |none=>rw[N]at h;exact h.elim|some ts=>
    rw [N]at h;simp only[Ai]at h;obtain⟨r,hS,hK⟩:=h;have O:q<a.tmps.size:=Bi B hq V;have hxi:∀(xs:List Operand)(ys:List AF)(i:Nat)(y:AF),Be xs ys=X->ys[i]?=Y y->∃x,xs[i]?=Y x/\AK x y=X:=by
     intro xs
     induction xs with
     |nil=>intro ys i y I M;cases ys<;>simp[Be]at I M
     |cons x xs ih=>
      intro ys i y I M;cases ys with
      |nil=>simp[Be]at I|cons z ys=>
       simp only[Be,gN]at I
       grind
    obtain ⟨x,hx,hxy⟩:=hxi _ _ _ _ δ hy;have hev:=KI (a:=a) hxy;have hr:=Ag B hq V;have hwc:=B.wf q;rw[hq]at hwc;simp only[AM]at hr;obtain⟨vs,I,M,h3⟩:=hr;have hone:∀y∈vs.toList,y.oneCell'=X:=by
     intro y hy;obtain⟨i,hi⟩:=C_ hy;have hlt:i<cs.length:=by have:=(z_.1 hi).1;simpa[M]using this
     obtain ⟨x,hx,H⟩:=h3 i _ (x! hlt)
     grind [nm,HK]
    have D:Aq w (AU w0.heap.size F0 G) (.agg (cs.map λ_=>TV.undef)) (a.eval x):=by
     grind [Aq,List.all_eq_true,Bh,E',w!]
    have hwu:(TV.agg (cs.map λ_=>TV.undef)).WF:=by
     grind [TV.WF,Bp]
    have hv:=Y8 B hwu δ N (λx' hx'=>by rw[hx]at hx';cases hx';exact D);have E:∀b o,AU w0.heap.size F0 G b o↔((AU w0.heap.size F0 G b o/\¬ZF (Bs a G q) b o)\/ZF (Bs a G q) b o):=by
     intro b o;constructor
     .intro hf;by_cases η:ZF (Bs a G q) b o
      .exact .inr η
      .exact .inl ⟨hf,η⟩
     .rintro(hf|⟨p,i,lo,I,M⟩)
      .exact hf.1
      .obtain⟨p,j,θ,_⟩:=CM I;exact .inr ⟨p,j,lo,θ,M⟩
    have hF:(λb o=>(AU w0.heap.size F0 G b o/\¬ZF (Bs a G q) b o)\/ZF (Bs a G q) b o)=AU w0.heap.size F0 G:=by
     funext b o;exact propext (E b o).symm
    obtain ⟨k0,k3⟩:=hS hv.2 hwc;have hbr:XG w (λb o=>(AU w0.heap.size F0 G b o/\¬ZF (Bs a G q) b o)\/ZF (Bs a G q) b o) (Bs a G q) cs (slot a q):=by
     rw [hF];refine⟨vs,I,M,λj c H=>?_⟩;obtain⟨x,J,κ⟩:=h3 j c H;refine⟨x,J,by rw[DO];exact κ.sr (λg lo j hg=>Pb hg j),HK κ⟩
    obtain ⟨k1,k4⟩:=k3 (λb o=>AU w0.heap.size F0 G b o/\¬ZF (Bs a G q) b o) w (xs.map a.eval) (slot a q) (Bs a G q) (by rw[hF];simpa using hv.1)
     (by rw[Array.getElem?_map];rw[<-F_,hx];simp only[E_];rw[hev]) hbr (KC B O) (λp i b lo e=>by obtain⟨p,j,θ,_⟩:=CM e;exact(B.lt _ _ _ _ θ).1)
     (by
      rintro b o o' ⟨p,i,lo,J,κ⟩ ⟨hf,hnz⟩;by_cases hlo:lo<=o'
      .exact hnz ⟨p,i,lo,J,hlo⟩
      .obtain⟨p,j,θ,_⟩:=CM J;exact PM B b lo o' θ U hf)
     ⟨B.below.now,λb o⟨_,_,_,e,_⟩=>by obtain⟨_,_,θ,_⟩:=CM e;exact B.low θ⟩
    have hrun:(execOp a.eval o).run P w=(callFunc f (xs.map a.eval)).run P w:=by simp[execOp,hop,resolve,Act.eval,Deferred.ofValue,invoke]
    unfold Oper.wp;rw[hrun,FC k0 _,Oper.upon_enter];refine k4.mono ?_;rintro e w' ⟨v',rfl,r1,r2⟩;simp only[ζ];refine hn _ _ _ _ (hK k1) ⟨_,rfl⟩ ?_;have R:∀Z:Dg,Jf Z->(∀p i b lo,Z p i=Y (b,lo)->b<w'.heap.size/\(w.heap.size<=b\/∃p' j lo',Bs a G q p' j=Y (b,lo')/\lo'<=lo))->(∀cs,r.aev≠.bx cs)->(∀n es,r.aev≠.xo n es)->r.aev.WF ->
      (∀A,(∀b o,A b o->(b<w.heap.size/\AU w0.heap.size F0 G b o/\¬ZF (Bs a G q) b o)\/ZF Z b o)->AM (a.put (Y d) v') w' A (CY a G q d Z) ((d,r.aev)::(q,.undef)::ε) d r.aev v')->Bt F0 w0 ((d,r.aev)::(q,.undef)::ε) (a.put (Y d) v') w':=by
     intro Z hzu η hb1 hb2 hwf hrep;refine⟨_,(B.Aaw (s:=q) (d:=d) (Z:=Z) (w':=w') (env':=(d,r.aev)::(q,.undef)::ε) (a':=a.put (Y d) v') O hd r1 (Bj _ _ _) (FG _ _ _) hzu η ?_ ?_ ?_ ?_ ?_ (.inr (.inr ⟨λcs=>by rw[AB.bn,Ne rfl];exact hb1 cs,λn es=>by rw[AB.bn,Ne rfl];exact hb2 n es⟩)) ?_).1⟩
     .intro p hp;rw[AB.bn,QQ U,AB.bn,QQ U];exact B.dom p hp
     .intro p;rw[AB.bn];split
      .exact hwf
      .rw[AB.bn];split
       .trivial
       .exact B.wf p
     .exact λp hp _=>AY _ _ _ _ (λe=>hp e.symm)
     .exact λp hp hpq=>by rw[AB.bn,QQ (λe=>hp e.symm),AB.bn,QQ (λe=>hpq e.symm)]
     .exact λ_=>by rw[AB.bn,QQ hdq,AB.bn,Ne rfl]
     .intro A l;rw[AB.bn,Ne rfl,Cx _ _ _ hd];exact hrep A l
    have C:∀(Z:Dg)(A:Nat->Nat->Prop),(∀p i b lo,Z p i≠Y (b,lo))->(∀b o,A b o->(b<w.heap.size/\AU w0.heap.size F0 G b o/\¬ZF (Bs a G q) b o)\/ZF Z b o)->Bf w' w' (λb o=>b<w.heap.size/\AU w0.heap.size F0 G b o/\¬ZF (Bs a G q) b o) A:=by
     intro Z A hZ l b o u H hf;refine⟨H,λL=>?_⟩;rcases l b o L with e|⟨p,i,lo,e,_⟩
     .exact hf e
     .exact hZ _ _ _ _ e
    cases r with
    |sh t=>
     refine R (λ_ _=>W) (λ_ _ _ _ _ _ _ e=>m?) (λ_ _ _ _ e=>m?) u? u? k1 λA l=>?_;simp only[As.aev,As.ev,AM];exact CH (C _ A V l) _ _ r2
    |tp ts=>
     refine R (λ_ _=>W) (λ_ _ _ _ _ _ _ e=>m?) (λ_ _ _ _ e=>m?) u? u? k1 λA l=>?_;simp only[As.aev,As.ev,AM];obtain⟨us,J,κ⟩:=r2;exact⟨us,J,Ar (C _ A V l) _ _ κ⟩
    |oag ds=>
     obtain ⟨Z,⟨us,J,κ,e3⟩,e4,e5,e6⟩:=r2;refine R Z e4 e6 (by simp[As.aev]) (by simp[As.aev]) k1 λA l=>?_;simp only[As.aev,AM];refine⟨us,J,κ,λj c H=>?_⟩;obtain⟨y,g1,g2,g3⟩:=e3 j c H;refine⟨y,g1,?_⟩;have hzz:CY a G q d Z d=Z 0:=by simp[CY]
     rw [hzz];refine BF.sr (g2.kept (λb o u H hf=>⟨H,λL=>hf ?_⟩) (λ_ _ _=>rfl) BJ.rfl') (λg lo j η=>Qo (Bj _ _ _) hd O η j);exact l b o L
    |_=>exact r2.elim
  .exact h.elim
 .exact h.elim
theorem p9(C:AP F0 w0 ε a w G){x v:Operand}{x' v':AF}{ps:List (Option AO)}(hop:o.op=.store t x v)(hx:AK x x'=X)(hv:AK v v'=X)(hn:C7 P t=Y n)(h:(AE.stq n ps x' v').wp S ε W K):IB P F0 w0 a w o K:=by
 simp only[AE.wp]at h;split at h
 .rename_i s off u hp hve;split at h
  .rename_i cs hs;obtain⟨b,η,ζ⟩:=Hl C hx hp hs;have hr:=Ag C hs V;simp only[AM]at hr;obtain⟨N,c,θ,h1,h2,h3,h4,h5⟩:=hr;rw[η]at h1;simp only[Value.pointer.injEq,nm,Addr.mk.injEq,and_true,and_self]at h1;subst h1;have hw:=C.wf s;rw[hs]at hw;have hst:∀(vs:List Value),vs.length=n->(a.eval v).cells.toList=vs->off+n<=c.size->(∀y∈vs,y.oneCell'=X)->(execOp a.eval o).run P w=.ok .skip (w.setRow b (c.toList.take off++vs++c.toList.drop (off+n)).toArray):=by
    intro vs hl I hle ho;have B:=run_storeCells_at P b off θ vs 0 c w h2 U ho;simp only[H!]at B;have hsz:(a.eval v).cells.size=n:=by rw[<-E?,I,hl]
    rw [hl]at B;simp[execOp,hop,ζ,Instr.storeAt,Instr.sureAddr,storeVar,CG hn,hsz,I,B]
   cases hb:Eh ps u.cells with
   |none=>rw[hb]at h;exact h.elim|some ds=>
    rw [hb]at h;simp only[Ai]at h;obtain⟨hl,δ⟩:=NJ hb;obtain⟨hun,hoff,hnx,hK⟩:=h;have R:=Ay C hv hve;have I:=G4 R.1;have D:=BL I.1;refine⟨_,hst _ U rfl U I.2,_,hK,?_⟩
    let zs:Option Nat->Option (Nat×Nat):=λi=>match i with|none=>Y (b,0)|some j=>if off<=j/\j<off+n then W else G s (Y j)
    refine C.rebox_n hs η h2 (zs:=zs) rfl ?_ ?_ ?_ ?_ ?_ ?_
    .intro i N lo hi hz;cases i with
     |none=>exact absurd rfl hi|some j=>
      simp only[zs]at hz;split at hz
      .cases hz
      .exact hz
    .intro i i' N lo H r A;have zn:∀j N lo H,zs (Y j)=Y (N,lo)->zs W=Y (N,H)->False:=by
      intro j N lo H r A;simp only[zs,nm,Prod.mk.injEq]at A;obtain⟨rfl,_⟩:=A;simp only[zs]at r;split at r
      .cases r
      .have:=(C.gi _ _ _ _ _ _ _ r h4).2;cases this
     cases i with
     |none=>cases i' with
      |none=>rfl|some j=>exact(zn j _ _ _ A r).elim
     |some j=>cases i' with
      |none=>exact(zn j _ _ _ r A).elim|some j'=>
       simp only[zs]at r A;split at r<;>split at A
       .cases r
       .cases r
       .cases A
       .exact(C.gi _ _ _ _ _ _ _ r A).2
    .simp only[B',aE,aN,B!,E?]at D|-;omega
    .intro F' w' J E O i y l;rw[List.getElem?_toArray];rcases H' i off with M|hge
     .rw[ae,y? an,C' M]at l;obtain⟨vv,r,A⟩:=h5 i y l;refine⟨vv,?_,?_⟩
      .rw[ae,y? an,C' M];simpa using r
      .simp only[zs];rw[QQ U];exact A.kept J (λk lo Z=>E k (λe=>by have:=(C.gi _ _ _ _ _ _ _ (e▸Z) h4).2;cases this)) O
     .rcases H' i (off+n)with M|hge2
      .rw[ae,z? an,y? an]at l;simp only[aN]at l;rw[H? U]at l;obtain⟨tt,htt,L⟩:=δ _ _ l;have κ:(a.eval v).cells.toList[i-off]?=Y ((a.eval v).cells.toList[i-off]' U):=x! U;refine⟨(a.eval v).cells.toList[i-off]' U,?_,?_⟩
       .rw[ae,z? an,y? (by simp only[aN,E?]at D|-;omega)];simp only[aN,E?];rw[H? U];exact κ
       .have hzi:zs (Y i)=W:=by simp only[zs];rw[Ne ⟨U,U⟩]
        have g:=((Bh _ _).1 I.1).2 _ tt _ htt κ;rw[hzi];rcases L with rfl|⟨rfl,n',rfl|rfl|rfl⟩
        .exact⟨CH J _ _ g,I.2 _ (List.getElem_mem _)⟩
        .simp only[Aq]at g;simp only[BF,ER,Bq];exact⟨[],⟨V,.inl ⟨g,rfl,rfl⟩⟩,rfl,V,V⟩
        .simp only[Aq]at g;simp only[BF,ER];exact⟨[],⟨W,⟨V,.inl ⟨g,rfl,rfl⟩⟩,rfl⟩,rfl,V,V⟩
        .simp only[Aq]at g;simp only[BF,ER];exact⟨[],⟨W,⟨V,.inl ⟨g,rfl,rfl⟩⟩,rfl⟩,V,V⟩
      .rw[z? an]at l;simp only[aE,aN,C!]at l;rw[H? U,show off+n+(i-(off+ds.length))=i from U]at l;obtain⟨vv,r,A⟩:=h5 i y l;refine⟨vv,?_,?_⟩
       .rw[z? (by simp only[aE,aN,E?]at D|-;omega)];simp only[aE,aN,E?,C!]at D|-;rw[H? U,show off+n+(i-(off+(a.eval v).cells.size))=i from U];simpa using r
       .simp only[zs];rw[QQ U];exact A.kept J (λk lo Z=>E k (λe=>by have:=(C.gi _ _ _ _ _ _ _ (e▸Z) h4).2;cases this)) O
    .intro y l;rcases y_.1 l with l|l
     .rcases y_.1 l with l|l
      .exact hw y (List.mem_of_mem_take l)
      .obtain⟨i,hi⟩:=C_ l;obtain⟨tt,ht,L⟩:=δ i y hi;rcases L with rfl|⟨rfl,n',rfl|rfl|rfl⟩
       .exact Bp.1 (IV R.2) tt (w! ht)
       .simp[TV.WF,TV.ns]
       .simp[TV.WF,TV.ns]
       .simp[TV.WF,TV.ns]
     .exact hw y (List.mem_of_mem_drop l)
    .intro k tx htx Z;exact .inl (AB.noX_all hnx)
  .exact h.elim
 .exact h.elim
theorem AP.takeAll(h:AP F0 w0 ε a w G){cs:List AO}(hs:ε.get s=.bx cs)(hd:d<a.tmps.size)(hds:d≠s){c:Array Value}{θ:TypeId}(Z:slot a s=.pointer (Y ⟨b,0,W⟩))(h2:w.heap[b]?=Y (.cells c θ (0,0))):
  Bt F0 w0 ((d,.oag cs)::(s,.bx (cs.map λ_=>⟨T,.undef⟩))::ε) (a.put (Y d) (.agg c)) w:=by
 have hsz:s<a.tmps.size:=Bi h hs V;have hr:=Ag h hs V;have hw:=h.wf s;rw[hs]at hw;simp only[AM]at hr;obtain⟨J,c',T',l,h2',h3,h4,h5⟩:=hr;rw[Z]at l;simp only[Value.pointer.injEq,nm,Addr.mk.injEq,and_true,and_self]at l;subst l;rw[h2]at h2';cases h2'
 let H:BR:=λp i=>if p=d then(if i=W then W else G s i)else if p=s/\i≠W then W else G p i
 have M:∀p i J lo,H p i=Y (J,lo)->(p=d/\i≠W/\G s i=Y (J,lo))\/(p≠d/\¬(p=s/\i≠W)/\G p i=Y (J,lo)):=by
  grind
 have hag:Bf w w (AU w0.heap.size F0 G) (AU w0.heap.size F0 H):=λJ o v hc hF=>⟨hc,λhF'=>hF (AU.mono (λp i b'' lo ζ=>by
  grind) hF')⟩
 have I:sr (a.put (Y d) (.agg c)) H=sr a G:=Lz (Bj _ _ _) λq hq=>by
  grind
 refine ⟨H,?_,?_,h.below,i!,?_,?_,?_⟩
 .intro p i p' i' J lo lo' C δ;rcases M _ _ _ _ C with⟨rfl,n0,f1⟩|⟨n1,n2,f1⟩<;>rcases M _ _ _ _ δ with⟨rfl,m0,f2⟩|⟨m1,m2,f2⟩
  .exact⟨rfl,(h.gi _ _ _ _ _ _ _ f1 f2).2⟩
  .have:=h.gi _ _ _ _ _ _ _ f1 f2;exact absurd ⟨this.1.symm,this.2▸n0⟩ m2
  .have:=h.gi _ _ _ _ _ _ _ f1 f2;exact absurd ⟨this.1,this.2▸m0⟩ n2
  .exact h.gi _ _ _ _ _ _ _ f1 f2
 .intro p i J lo C;rcases M _ _ _ _ C with⟨_,_,C⟩|⟨_,_,C⟩<;>exact h.lt _ _ _ _ C
 .intro p ζ;rw[Bj]at ζ;rw[AB.bn,QQ U,AB.bn,QQ U];exact h.dom p ζ
 .intro p ζ;rw[Bj]at ζ;rw[AB.bn];by_cases A:d=p
  .subst A;rw[Ne rfl,Cx _ _ _ hd];simp only[AM];refine⟨c,rfl,h3,λi y D=>?_⟩;obtain⟨v,C,δ⟩:=h5 i y D;refine⟨v,C,?_⟩;have:H d (Y i)=G s (Y i):=by simp[H]
   rw [this,I];exact δ.kept hag (λ_ _ _=>rfl) BJ.rfl'
  .rw[QQ A,AY _ _ _ _ A,AB.bn];by_cases N:s=p
   .subst N;rw[Ne rfl];simp only[AM];refine⟨b,c,θ,Z,h2,by simpa using h3,by simp only[H];rw[QQ (λe=>A e.symm),QQ V];exact h4,λi y D=>?_⟩;rw[C?]at D;simp only[E']at D;obtain⟨y0,hy0,rfl⟩:=D;obtain⟨v,C,δ⟩:=h5 i y0 hy0;exact⟨v,C,HK δ,HK δ⟩
   .rw[QQ N];refine AM.kept hag (λi=>by simp only[H];rw[QQ (λe=>A e.symm),QQ (λe=>N e.1.symm)]) (λ_ _ _ _=>rfl) I BJ.rfl' (λr i k hr⟨E,L⟩=>?_) (λr off' hr⟨cs',g⟩=>?_) (λr i hr⟨E,L⟩=>?_) (h.slots p ζ)
    .have l:=AB.tn V L;by_cases j:s=r
     .subst j;obtain⟨cs'',κ,η⟩:=AB.pN l.2;rw[AB.bn,Ne rfl]at κ;simp only[EV.bx.injEq]at κ;subst κ;rw[C?]at η;cases O:cs[i]? <;>rw[O]at η<;>simp at η
     .have B:ε.nat r i=Y E:=by rw[<-l.2];exact(AB.Aab j).symm
      exact ⟨⟨E,B⟩,h.nh ⟨E,B⟩ (AY _ _ _ _ l.1) (λ_ _ _ _=>rfl)⟩
    .rw[AB.bn]at g;by_cases R:d=r
     .rw[Ne R]at g;cases g
     .rw[QQ R,AB.bn]at g;refine⟨?_,AY _ _ _ _ R⟩;split at g
      next j=>subst j;exact⟨cs,hs⟩
      .exact⟨_,g⟩
    .have l:=AB.o4 V V L;by_cases j:s=r
     .subst j;obtain⟨n,es⟩:=E;cases i with
      |none=>have:=AB.q0 l.2;rw[AB.bn,Ne rfl]at this;cases this
      |some k=>
       obtain ⟨cs'',κ,η⟩:=AB.pc l.2;rw[AB.bn,Ne rfl]at κ;simp only[EV.bx.injEq]at κ;subst κ;rw[C?]at η;cases O:cs[k]? <;>rw[O]at η<;>simp at η
     .have B:ε.o3 r i=Y E:=by rw[<-l.2];exact(AB.x7 j).symm
      exact ⟨⟨E,B⟩,h.xv ⟨E,B⟩ (AY _ _ _ _ l.1) (λ_ _=>rfl)⟩
 .intro p;rw[AB.bn];split
  .exact hw
  .rw[AB.bn];split
   .intro y D;simp only[D_]at D;obtain⟨_,_,rfl⟩:=D;trivial
   .exact h.wf p
theorem pX(B:AP F0 w0 ε a w G)(hd:d<a.tmps.size)(r:o.op=.load t (.tmp s))(I:B9 P t=Y X)(J:C7 P t=Y n)(h:(AE.ldg s n).wp S ε (Y d) K):A1 P F0 w0 a w o d K:=by
 simp only[AE.wp]at h;split at h
 .rename_i O cs l C;simp only[nm]at l;subst l;obtain⟨L,A,M⟩:=h;have D:=Ag B C V;simp only[AM]at D;obtain⟨b,c,θ,E,H,N,_⟩:=D;have g:=run_loadCells_list (P:=P) w ⟨b,0,W⟩ c.toList (λj v hv=>by
   have:=cell_of_row w b j c θ (0,0) H;rw[show((⟨b,0,W⟩:Addr).add j)=⟨b,j,W⟩by rw[Addr.add_lit,I_],this];simpa using hv)
  rw [E?,N,L]at g;refine⟨.agg c,w,?_,_,_,M,B.takeAll C hd A E H⟩;simp[execOp,r,show a.eval (.tmp s)=slot a s from rfl,E,Instr.loadAt,Instr.sureAddr,loadVar,Cs I,CG J,g]
 .exact h.elim
end
end Go.Sf
namespace Go.Sf
open Go.RowKit (Below)
open Go.ChangeMaps (setBlock)
section
variable{P:Program}{S:FuncId->Fq->As->Prop}{F0:Nat->Nat->Prop}{w0:W0}{ε:AB}{a:Act}{w:World}{G:BR}{d:Nat}{o:Oper}{K:EV->AB->Prop}
variable{v:Value}
theorem AP.mxgo(h:AP F0 w0 ε a w G){s d:Nat}{m m':MX}(hs:ε.get s=.mx m)(hd:d<a.tmps.size){w':World}{z z2:Option (Nat×Nat)}(κ:G9 (Bs a G s) w w')
  (hz:∀b lo,z=Y (b,lo)->b<w'.heap.size/\(w.heap.size<=b\/∃p j c,Bs a G s p j=Y (b,c)/\c<=lo))(hz2:∀b lo,z2=Y (b,lo)->b<w'.heap.size/\(w.heap.size<=b\/∃p j c,Bs a G s p j=Y (b,c)/\c<=lo))
  (C:∀b lo c,z=Y (b,lo)->z2≠Y (b,c))(hw:m'.WF)
  (D:∀g,Bf w w' (AU w0.heap.size F0 G) g->Va w' g z z2 m' v):
  ∃η,AP F0 w0 ((d,.mx m')::(s,.undef)::ε) (a.put (Y d) v) w' η/\Bf w w' (AU w0.heap.size F0 G) (AU w0.heap.size F0 η):=by
 have O:s<a.tmps.size:=Bi h hs V
 let Z:Dg:=λp i=>if p=0 then(if i=W then z else if i=Y 0 then z2 else W)else W
 have δ:∀p i b lo,Z p i=Y (b,lo)->p=0/\((i=W/\z=Y (b,lo))\/(i=Y 0/\z2=Y (b,lo))):=by
  grind
 have l:∀p i b lo,Z p i=Y (b,lo)->b<w'.heap.size/\(w.heap.size<=b\/∃p j c,Bs a G s p j=Y (b,c)/\c<=lo):=by
  grind
 have r:∀g:Nat->Nat->Prop,(∀b o,g b o->(b<w.heap.size/\AU w0.heap.size F0 G b o/\¬ZF (Bs a G s) b o)\/ZF Z b o)->Bf w w' (AU w0.heap.size F0 G) g:=by
  intro g A b o u ζ hf;have hlt:b<w.heap.size:=World.block_lt_of_cell? w ⟨b,o,W⟩ ζ;have H:¬ZF (Bs a G s) b o:=λ⟨q,i,lo,h1,h2⟩=>by
   obtain ⟨p,j,B,_⟩:=CM h1;exact hf (.inr ⟨p,j,lo,B,h2⟩)
  refine ⟨κ.cell b o u H ζ,λJ=>?_⟩;rcases A b o J with⟨_,e,_⟩|⟨p,j,lo,e3,e4⟩
  .exact hf e
  .rcases(l _ _ _ _ e3).2 with e5|⟨p2,j2,θ,e5,e6⟩
   .omega
   .exact H ⟨p2,j2,θ,e5,G? e6 e4⟩
 have key:=h.Aaw (s:=s) (d:=d) (Z:=Z) (w':=w') (env':=(d,.mx m')::(s,.undef)::ε) (a':=a.put (Y d) v) O hd κ (Bj _ _ _) (FG _ _ _) ?_ l ?_ ?_ ?_ ?_ ?_ (.inr (.inr ⟨λcs=>by rw[AB.bn,Ne rfl];simp,λn es=>by rw[AB.bn,Ne rfl];simp⟩)) ?_
 .exact⟨_,key.1,r _ key.2⟩
 .intro p i p' i' b lo c M N;obtain⟨rfl,B⟩:=δ _ _ _ _ M;obtain⟨rfl,I⟩:=δ _ _ _ _ N;refine⟨rfl,?_⟩;rcases B with⟨rfl,B⟩|⟨rfl,B⟩<;>rcases I with⟨rfl,I⟩|⟨rfl,I⟩
  .rfl
  .exact absurd I (C _ _ _ B)
  .exact absurd B (C _ _ _ I)
  .rfl
 .intro p E;rw[AB.bn,QQ U,AB.bn,QQ U];exact h.dom p E
 .intro p;rw[AB.bn];split
  .exact hw
  .rw[AB.bn];split
   .trivial
   .exact h.wf p
 .exact λp E _=>AY _ _ _ _ (λe=>E e.symm)
 .exact λp E L=>by rw[AB.bn,QQ (λe=>E e.symm),AB.bn,QQ (λe=>L e.symm)]
 .exact λe=>by rw[AB.bn,QQ (λe'=>e e'.symm),AB.bn,Ne rfl]
 .intro g A;rw[AB.bn,Ne rfl,Cx _ _ _ hd];have R:CY a G s d Z d=Z 0:=by simp[CY]
  simp [AM];rw[R];have M:Z 0 W=z:=by simp[Z]
  have N:Z 0 (Y 0)=z2:=by simp[Z]
  rw [M,N];exact D g (r g A)
variable{b:Nat}
theorem TN{g o:Obj}(h:w.heap[b]?=Y g):(setBlock w b o).heap[b]?=Y o/\∀k,k≠b->(setBlock w b o).heap[k]?=w.heap[k]?:=by
 have c:b<w.heap.size:=(E!.1 h).1;refine⟨by simp[setBlock,c],λk j=>?_⟩;simp[setBlock]
 grind
variable{p:Nat}{i:Option Nat}
theorem UO{Z:Dg}{c:World}(g:c.heap=w.heap/\c.os=w.os/\c.tape=w.tape/\c.output=w.output)(l:Z p i=Y (b,0)){o r:Obj}(h:w.heap[b]?=Y r):G9 Z w (setBlock c b o):=by
 obtain ⟨j,C,D,E⟩:=g;have hh:=TN (w:=c) (o:=o) (by rw[j];exact h);refine⟨C,D,E,by simp[setBlock,j],λk _ H=>?_,λk q u A I=>?_⟩
 .grind
 .have B:k≠b:=λe=>A ⟨p,i,0,by rw[e];exact l,G! _⟩
  grind [World.cell?_of_block]
variable{t:TypeId}
theorem pi(g:AP F0 w0 ε a w G)(hd:d<a.tmps.size)(c:o.op=.makeMap t W)(h:AE.mkm.wp S ε (Y d) K):A1 P F0 w0 a w o d K:=by
 simp [AE.wp]at h;replace h:=h w.heap.size;have r:Below w.heap.size w (w.alloc (.map #[] 0)):=(Below.refl _ _).alloc (R0 _) _;refine⟨.map (Y w.heap.size),w.alloc (.map #[] 0),?_,_,_,h,_,g.quiet r d hd (.mx (.mp w.heap.size [])) _ (λi=>if i=W then Y (w.heap.size,0)else W) (λi b lo hi=>?_) (λi A b lo j B C=>?_) V ?_ (by intro p l;cases l)⟩
 .simp[execOp,c,Instr.makeMap,newObj,Sem.run]
 .split at hi
  .simp at hi;rw[<-hi.1];exact⟨R0 _,V⟩
  .cases hi
 .grind
 .simp[AM,B1];exact⟨rfl,rfl,#[],0,heap_alloc_new w _,rfl,V,V⟩
variable{s:Nat}
theorem de(r:AP F0 w0 ε a w G)(hd:d<a.tmps.size)(c:o.op=.move (.tmp s)\/o.op=.assign (.tmp s))(h:(AE.mvm s).wp S ε (Y d) K):A1 P F0 w0 a w o d K:=by
 have j:(execOp a.eval o).run P w=.ok (.value (slot a s)) w:=by rcases c with c|c<;>simp[execOp,c,show a.eval (.tmp s)=slot a s from rfl]
 have C:∀g:Fq,(∃vs,slot a s=.tuple vs/\AR w (AU w0.heap.size F0 G) g vs.toList)->TV.ns g->K (.tp g) ε->A1 P F0 w0 a w o d K:=by
  rintro g ⟨vs,E,H⟩ B J;refine⟨_,w,j,_,_,J,⟨_,r.quiet (Below.refl _ _) d hd (.tp g) _ (λ_=>W) V V V ?_ B⟩⟩;simp[AM];exact⟨vs,E,Ar (Kv (Below.refl _ _) d _ V) _ _ H⟩
 simp [AE.wp]at h;split at h
 next b D A=>have l:=Ag r A V;simp[AM]at l;exact Cp r hd (t:=.AaK b) j (by simp[Aq];exact l.1) trivial h
 next b D g A=>have l:=Ag r A V;have B:=r.wf s;rw[A]at B;simp[AM]at l;obtain⟨vs,E,H,L,I⟩:=l;exact C (.AaK b::g) ⟨_,E,⟨_,_,rfl,by simp[Aq],I⟩⟩ ⟨trivial,B.2⟩ h
 next g A=>have l:=Ag r A V;have B:=r.wf s;rw[A]at B;simp[AM]at l;exact C _ l B h
 .exact h.elim
variable{f:FuncId}{ys:List AF}{ats:Array TypeId}{Q:Exit->Act->World->Prop}
theorem ju(r:AP F0 w0 ε a w G)(hd:d<a.tmps.size)(g:o.dst=Y d){xs:Array Operand}(C:o.op=.call {callee:=.value (.func f),args:=xs,argTypes:=ats})(D:Be xs.toList ys=X)(h:(AE.AaA f ys).wp (AS P) ε (Y d) K)
  {next:Act->World->Prop}(N:∀e env' a' w',K e env'->Q7 a d a'->Bt F0 w0 ((d,e)::env') a' w'->next a' w'):o.wp P a w next Q:=by
 simp only[AE.wp]at h;cases l:vals ε ys with
 |none=>rw[l]at h;exact h.elim|some ts=>
  rw [l]at h;simp only[Ai]at h;have hv:=GM r D l;have j:(execOp a.eval o).run P w=(callFunc f (xs.map a.eval)).run P w:=by simp[execOp,C,resolve,Act.eval,Deferred.ofValue,invoke]
  rcases h with⟨L,E,M⟩|⟨A,L,E,M⟩
  .exact Yb r hd g (vs:=xs.map a.eval) j ⟨E,rfl⟩ hv.2 m_ M N
  .obtain⟨Z,I⟩:=(E:XO P f ts (.mpr A L)) hv.2;obtain⟨η,I⟩:=I _ w (xs.map a.eval) m_ r.below.now;unfold Oper.wp;rw[j,FC Z _,Oper.upon_enter];refine I.mono ?_;rintro e w' ⟨v,rfl,hb,b,vs,k1,k2,k3,ζ,k5⟩;simp[g];refine N _ _ _ _ (M η b) ⟨_,rfl⟩ ⟨_,r.quiet hb d hd (.mx (.tm b A L)) v (λi=>if i=W then Y (b,0)else W) (λi O lo hi=>?_) (λi i' O lo δ B R=>?_) V ?_ η⟩
   .split at hi
    .simp at hi;rw[<-hi.1];exact⟨k2,k3⟩
    .cases hi
   .split at B
    .split at R
     .simp_all
     .cases R
    .cases B
   .simp[AM,B1];refine⟨vs,k1,rfl,ζ,Ar (λO o u θ hf=>⟨θ,λH=>?_⟩) _ _ k5⟩;rcases H with c|⟨p,i,lo,c,h7⟩
    .exact hf ⟨F? c.1 r.below.size,.inl c⟩
    .by_cases κ:p=d
     .subst κ;rw[B1]at c;split at c
      .simp at c;obtain⟨rfl,_⟩:=c;obtain⟨es,J,B,_⟩:=ζ;simp[World.cell?,B]at θ
      .cases c
     .rw[BE _ _ _ _ κ]at c;exact hf ⟨(r.lt _ _ _ _ c).1,.inr ⟨p,i,lo,c,h7⟩⟩
def P9(P:Program)(t:TypeId):Bool:=
 match P.underlying t with
 |some (.map k e)=>OW P (.a [0,0]) k&&(match P.underlying k with
  |some (.struct fs)=>(match fs.toList with
   |[f,g]=>B9 P f.type==Y T&&B9 P g.type==Y T&&f.offset==0&&g.offset==1&&(match P.underlying f.type with|some (.int _)=>X|_=>T)&&(match P.underlying g.type with|some (.int _)=>X|_=>T)
   |_=>T)
  |_=>T)&&(match P.info? e with|some i=>(match i.zero with|some (.int .i64 0)=>X|_=>T)|none=>T)
 |_=>T
variable{F:Nat->Nat->Prop}
theorem TO(k:Int×Int):Aq w F (SL k) (E9 k):=by
 simp only[SL,Aq,E9];refine⟨_,rfl,?_,rfl⟩;simp only[AR];exact⟨_,_,rfl,rfl,_,_,rfl,rfl,rfl⟩
variable{k:Int×Int}
theorem dN(h:Aq w F (SL k) v):v=E9 k:=by
 simp [SL,Aq]at h;obtain⟨vs,rfl,h,_⟩:=h;simp only[AR]at h;obtain⟨x,r,A,c,y,B,j,g,l⟩:=h;simp[Aq]at c g;subst c g;subst l;subst j;unfold E9;congr 1
 grind
theorem fm{t:TV}(h:t.AbN?=Y k):t=SL k:=by
 unfold TV.AbN? at h;split at h
 .cases h;rfl
 .cases h
theorem Z4(g:OW P (.a [0,0]) t=X)(x y:Int×Int):(Op.equal t (E9 x) (E9 y)).run P w=.ok (decide (x=y)) w:=by
 obtain ⟨xs,ys,h,j,_,c⟩:=W8 (P:=P) (w:=w) (op:=.eql) (x:=.tmp 0) (y:=.tmp 0) (F:=λ_ _=>False) (cs:=[.int .i64 x.1,.int .i64 x.2]) (ds:=[.int .i64 y.1,.int .i64 y.2]) (q:=decide (x=y)) rfl g (TO x) (TO y) (by
  simp [CJ]
  grind)
 rw [<-h,<-j]at c;exact c
theorem Sx(B:OW P (.a [0,0]) t=X)(k:Int×Int):∀(L:List MapEntry)(c:BW)(i:Nat),L.map (λe=>(e.key,e.val))=c.map (λp=>(E9 p.1,Value.int .i64 p.2)) ->
  (c.look k=W/\(Instr.findAsking t (E9 k) L i).run P w=.ok W w/\∀n,c.set k n=c++[(k,n)])\/
  ∃j n e,c.look k=Y n/\(Instr.findAsking t (E9 k) L i).run P w=.ok (Y (i+j,.int .i64 n)) w/\L[j]?=Y e/\e.key=E9 k/\∀m,c.set k m=List.set c j (k,m)
 |[],c,i,h=>by
  have:c=[]:=by simpa using h.symm
  subst this;exact .inl ⟨rfl,by simp[Instr.findAsking],λn=>rfl⟩
 |e::L,[],i,h=>by simp at h|e::L,p::c,i,h=>by
  simp at h;obtain⟨⟨C,D⟩,E⟩:=h;by_cases g:p.1=k
  .refine .inr ⟨0,p.2,e,by simp[BW.look,g],?_,rfl,by rw[C,g],λm=>by simp[BW.set,g]⟩;have:(Op.equal t (E9 k) e.key).run P w=.ok X w:=by rw[C,Z4 B];simp[g]
   simp [Instr.findAsking,this,D]
  .have he:(Op.equal t (E9 k) e.key).run P w=.ok T w:=by
    grind [Z4]
   rcases Sx B k L c (i+1) E with⟨l,r,A⟩|⟨j,n,H,l,r,A,I,J⟩
   .exact .inl ⟨by simp[BW.look,g,l],by simp[Instr.findAsking,he,r],λn=>by simp[BW.set,g,A]⟩
   .refine .inr ⟨j+1,n,H,by simp[BW.look,g,l],?_,so,I,λm=>by simp[BW.set,g,J]⟩;simp[Instr.findAsking,he,r];omega
theorem WQ(r:OW P (.a [0,0]) t=X)(A:∃fs,P.underlying t=Y (.struct fs))(k:Int×Int)(L:List MapEntry)(c:BW)(h:L.map (λe=>(e.key,e.val))=c.map (λp=>(E9 p.1,Value.int .i64 p.2))):
  (c.look k=W/\(Instr.findKey t (E9 k) L).run P w=.ok W w/\∀n,c.set k n=c++[(k,n)])\/
  ∃j n e,c.look k=Y n/\(Instr.findKey t (E9 k) L).run P w=.ok (Y (j,.int .i64 n)) w/\L[j]?=Y e/\e.key=E9 k/\∀m,c.set k m=List.set c j (k,m):=by
 obtain ⟨fs,l⟩:=A;cases L with
 |nil=>
  have:c=[]:=by simpa using h.symm
  subst this;exact .inl ⟨rfl,by simp[Instr.findKey,run_underlying l,Instr.findNow],λn=>rfl⟩
 |cons e L=>
  have B:(Instr.findKey t (E9 k) (e::L)).run P w=(Instr.findAsking t (E9 k) (e::L) 0).run P w:=by
   simp [Instr.findKey,run_underlying l,Instr.findNow,Instr.sameNow]
  rw [B];rcases Sx (w:=w) r k (e::L) c 0 h with g|⟨j,n,C,D,E,H⟩
  .exact .inl g
  .exact .inr ⟨j,n,C,D,by rw[E,I_],H⟩
theorem U0{t k e:TypeId}(hok:P9 P t=X)(ht:P.underlying t=Y (.map k e))(x:Int×Int)(b:Bool):(Instr.checkKey b 10000 k (E9 x)).run P w=.ok () w:=by
 unfold P9 at hok;rw[ht]at hok;simp at hok;obtain⟨⟨_,h2⟩,_⟩:=hok;split at h2
 .rename_i fs hu;split at h2
  .rename_i f g hfs;simp at h2;obtain⟨⟨⟨⟨⟨h3,h4⟩,h5⟩,h6⟩,h7⟩,h8⟩:=h2;have hi1:∃q,P.underlying f.type=Y (.int q):=by
    grind
   have hi2:∃q,P.underlying g.type=Y (.int q):=by
    grind
   obtain ⟨q1,hi1⟩:=hi1;obtain⟨q2,hi2⟩:=hi2;have hfs':fs=#[f,g]:=by apply Array.ext';simpa using hfs
   subst hfs';have p1:(part f.type #[.int .i64 x.1,.int .i64 x.2] f.offset).run P w=.ok (.int .i64 x.1) w:=by
    simp [part,Cs h3,h5]
   have p2:(part g.type #[.int .i64 x.1,.int .i64 x.2] g.offset).run P w=.ok (.int .i64 x.2) w:=by
    simp [part,Cs h4,h6]
   have c1:∀n y,(Instr.checkKey b (n+1) f.type (.int .i64 y)).run P w=.ok () w:=λn y=>by
    simp [Instr.checkKey,run_underlying hi1]
   have c2:∀n y,(Instr.checkKey b (n+1) g.type (.int .i64 y)).run P w=.ok () w:=λn y=>by
    simp [Instr.checkKey,run_underlying hi2]
   show (Instr.checkKey b (9999+1) k (.agg #[.int .i64 x.1,.int .i64 x.2])).run P w=.ok () w;have d1:=c1 9998 x.1;have d2:=c2 9998 x.2;rw[Instr.checkKey];by_cases n1:f.name= "_" <;>by_cases n2:g.name= "_" <;>simp[run_underlying hu,n1,n2,p1,p2,d1,d2]
  .cases h2
 .cases h2
variable{m x:Operand}
theorem pu(B:AP F0 w0 ε a w G)(hd:d<a.tmps.size){m' y:AF}(N:o.op=.lookup t m x X)(c:P9 P t=X)(hm:AK m m'=X)(hx:AK x y=X)(h:(AE.mlk s m' y).wp S ε (Y d) K):A1 P F0 w0 a w o d K:=by
 simp [AE.wp]at h;split at h
 .rename_i b r b' u δ g hu;obtain⟨rfl,h⟩:=h;have g:=(Ay B hm g).1;simp[Aq]at g;cases θ:u.AbN? with
  |none=>rw[θ]at h;exact h.elim|some k=>
   rw [θ]at h;simp[Ai]at h;have hv:=(Ay B hx hu).1;rw[fm θ]at hv;have hv:=dN hv;have Z:=Ag B δ V;have C:=B.wf s;rw[δ]at C;simp[AM]at Z;obtain⟨_,e2,es,η,e3,e4,_⟩:=Z;have e1:=g;have E:=c;unfold P9 at c;split at c
   .rename_i kt et O;simp at c;obtain⟨⟨h1,h2⟩,L⟩:=c;have H:∃fs,P.underlying kt=Y (.struct fs):=by
     grind
    have A:(zeroValue et).run P w=.ok (.int .i64 0) w:=by
     split at L
     .rename_i i hi;split at L
      next hz=>simp[zeroValue,typeInfo,hi,hz]
      .cases L
     .cases L
    have I:=U0 (P:=P) (w:=w) E O k es.isEmpty;have κ:∀n,r.look k=Y n->(TV.int .i64 n).WF:=by
     intro n R;have:∀l:BW,BW.WF l->l.look k=Y n->(TV.int .i64 n).WF:=by
      intro l
      induction l with
      |nil=>intro _ h;cases h
      |cons p l ih=>
       intro C h;simp[BW.look]at h;split at h
       .cases h;exact(C p V).2.2
       .exact ih (λq hq=>C q (by simp[hq])) h
     exact this r C R
    have J:∀(n:Int)(q:Bool),(TV.int .i64 n).WF->(Instr.lookup t (a.eval m) (E9 k) X).run P w=.ok (.tuple #[.int .i64 n,.bool q]) w->K (.tp [.int .i64 n,.bool q]) ε->A1 P F0 w0 a w o d K:=by
     intro n q R D hK;refine⟨.tuple #[.int .i64 n,.bool q],w,?_,_,_,hK,_,B.quiet (Below.refl _ _) d hd (.tp [.int .i64 n,.bool q]) _ (λ_=>W) V V V ?_ ⟨R,trivial,trivial⟩⟩
     .simp[execOp,N,hv,D]
     .simp only[AM];exact⟨_,rfl,_,_,rfl,rfl,_,_,rfl,rfl,rfl⟩
    rcases WQ (w:=w) h1 H k es.toList r e4 with⟨M,ζ,_⟩|⟨j,n,e,M,ζ,_⟩
    .rw[M]at h;refine J 0 T ⟨a_,a_⟩ ?_ h;simp[Instr.lookup,run_underlying O,e1,MapKept.run_getObj_map e3,I,ζ,A]
    .rw[M]at h;refine J n X (κ n M) ?_ h;simp[Instr.lookup,run_underlying O,e1,MapKept.run_getObj_map e3,I,ζ]
   .cases c
 .exact h.elim
theorem BW.set_wf{g:BW}{n:Int}(h:BW.WF g)(A:(TV.int .i64 k.1).WF/\(TV.int .i64 k.2).WF)(B:(TV.int .i64 n).WF):BW.WF (g.set k n):=by
 induction g with
 |nil=>
  intro p c
  grind [BW.set,y!]
 |cons q l r=>
  intro p c;simp[BW.set]at c;split at c
  .rcases D'.1 c with rfl|c
   .grind
   .exact h p (by simp[c])
  .rcases D'.1 c with rfl|c
   .exact h p V
   .exact r (λx j=>h x j_) p c
theorem aP(k:Int×Int):Instr.sameBits 10000 (E9 k) (E9 k)=X:=by
 show Instr.sameBits (9999+1) (.agg #[.int .i64 k.1,.int .i64 k.2]) (.agg #[.int .i64 k.1,.int .i64 k.2])=X;simp[Instr.sameBits]
theorem px(C:AP F0 w0 ε a w G){m x v:Operand}{m' y u:AF}(O:o.op=.mapUpdate t m x v)(A:P9 P t=X)(hm:AK m m'=X)(D:AK x y=X)(hv:AK v u=X)(h:(AE.mup s m' y u).wp S ε W K):IB P F0 w0 a w o K:=by
 simp [AE.wp]at h;split at h
 .rename_i b E b' tx hs H hu;split at h
  rotate_left
  .exact h.elim
  rename_i n hn;obtain⟨rfl,h⟩:=h;have H:=(Ay C hm H).1;simp[Aq]at H;cases hk:tx.AbN? with
  |none=>rw[hk]at h;exact h.elim|some k=>
   rw [hk]at h;simp[Ai]at h;have l:=Ay C D hu;rw[fm hk]at l;have hkw:(TV.int .i64 k.1).WF/\(TV.int .i64 k.2).WF:=⟨l.2.1,l.2.2.1⟩;have l:=dN l.1;have B:=Ay C hv hn;have hnw:=B.2;have B:=B.1;simp[Aq]at B;have L:s<a.tmps.size:=Bi C hs V;have hr:=Ag C hs V;have hw:=C.wf s;rw[hs]at hw;simp[AM]at hr;obtain⟨e0,e2,es,r,e3,e4,e5,e6⟩:=hr;have e1:=H;have θ:=A;unfold P9 at A;split at A
   .rename_i kt et ht;simp at A;obtain⟨⟨h1,h2⟩,h3⟩:=A;have κ:∃fs,P.underlying kt=Y (.struct fs):=by
     grind
    have η:=U0 (P:=P) (w:=w) θ ht k T;have ζ:∀J:Obj,(execOp a.eval o).run P w=.ok .skip (setBlock w b J)->(∃es' c,J=.map es' c/\es'.toList.map (λe=>(e.key,e.val))=(E.set k n).map (λp=>(E9 p.1,Value.int .i64 p.2))/\es'.toList.Pairwise (λx y=>x.born<y.born)/\∀e∈es'.toList,e.born<c)->IB P F0 w0 a w o K:=by
     rintro J hrun ⟨es',c,rfl,f1,f2,f3⟩;have hb:G9 (Bs a G s) w (setBlock w b (.map es' c)):=UO ⟨rfl,rfl,rfl,rfl⟩ (p:=0) (i:=W) (by rw[DO];exact e2) e3;have M:AB.get ((s,EV.mx (.mp b (E.set k n)))::ε) s=.mx (.mp b (E.set k n)):=by rw[AB.bn,Ne rfl]
     have hi2:=C.Aaw (s:=s) (d:=s) (Z:=Bs a G s) (w':=setBlock w b (.map es' c)) (env':=(s,.mx (.mp b (E.set k n)))::ε) (a':=a) L L hb rfl rfl (KC C L) (λq i b lo hq=>⟨?_,.inr ⟨q,i,lo,hq,R0 _⟩⟩) (λp hp=>by rw[AB.bn,QQ U];exact C.dom p hp) (λp=>?_) (λ_ _ _=>rfl) (λp hp _=>by rw[AB.bn,QQ (λe=>hp e.symm)]) (λe=>absurd rfl e) (.inr (.inr ⟨λcs=>by rw[M];simp,λn es=>by rw[M];simp⟩)) (λF' hF'=>?_)
     .exact⟨_,hrun,_,h,_,hi2.1⟩
     .obtain⟨p,j,g1,_⟩:=CM hq;exact F? (C.lt _ _ _ _ g1).1 hb.size
     .rw[AB.bn];split
      .exact BW.set_wf hw hkw hnw
      .exact C.wf p
     .rw[M];have hzd:CY a G s s (Bs a G s) s=G s:=by simp[CY,DO]
      simp [AM,hzd];exact⟨e0,e2,es',c,(TN e3).1,f1,f2,f3⟩
    have I:∀J,(setObj b J).run P w=.ok () (setBlock w b J):=λJ=>by simp[setObj,Sem.run,e3,setBlock]
    rcases WQ (w:=w) h1 κ k es.toList E e4 with⟨g1,g2,g3⟩|⟨j,m,e,g1,g2,g3,g4,g5⟩
    .refine ζ (.map (es.push {key:=E9 k,val:=.int .i64 n,born:=r}) (r+1)) ?_ ⟨_,_,rfl,?_,?_,?_⟩
     .simp[execOp,O,l,B,Instr.mapUpdate,run_underlying ht,e1,MapKept.run_getObj_map e3,η,g2,I]
     .rw[g3];simp[e4]
     .simp;rw[List.pairwise_append];refine⟨e5,V,λx D y hy=>?_⟩;simp at hy;subst hy;exact e6 x D
     .intro x D;simp only[Array.toList_push,y_,y!]at D;rcases D with D|rfl
      .have:=e6 x D;omega
      .simp
    .have hjl:j<es.size:=by have:=(z_.1 g3).1;simpa using this
     have δ:es[j]?=Y e:=by rw[<-F_];exact g3
     refine ζ (.map (es.modify j λe=>{e with key:=E9 k,val:=.int .i64 n}) r) ?_ ⟨_,_,rfl,?_,?_,?_⟩
     .simp[execOp,O,l,B,Instr.mapUpdate,run_underlying ht,e1,MapKept.run_getObj_map e3,η,g2,I,δ,g4,Instr.keyThatStays,aP]
     .rw[g5,List.map_set,<-e4];rw[F!];apply B?;intro i;simp only[C?,D!,A!,a6,E?];by_cases g:j=i
      .subst g;rw[Ne rfl,Ne hjl];simp[δ]
      .rw[QQ g];simp[g]
     .rw[F!];rw[<-List.pairwise_map (f:=λe:MapEntry=>e.born) (R:=λx y=>x<y)]at e5|-;have:(es.toList.modify j λe=>{e with key:=E9 k,val:=.int .i64 n}).map (λe:MapEntry=>e.born)=es.toList.map (λe:MapEntry=>e.born):=by
       apply B?;intro i;simp only[C?,D!];cases es.toList[i]? with
       |none=>rfl|some e=>by_cases g:j=i<;>simp[g]
      rw [this];exact e5
     .intro x D;rw[F!]at D;obtain⟨i,hi⟩:=C_ D;rw[D!]at hi;cases N:es.toList[i]? with
      |none=>rw[N]at hi;cases hi
      |some e0=>
       rw [N]at hi;have:=e6 e0 (w! N);by_cases g:j=i
       .simp[g]at hi;rw[<-hi];exact this
       .simp[g]at hi;rw[<-hi];exact this
   .cases A
 .exact h.elim
theorem pw(g:AP F0 w0 ε a w G)(hd:d<a.tmps.size){m':AF}{t k e:TypeId}(B:o.op=.range t m)(θ:AK m m'=X)(κ:P.underlying t=Y (.map k e))(h:(AE.r0 s m').wp S ε (Y d) K):A1 P F0 w0 a w o d K:=by
 simp [AE.wp]at h;split at h
 .rename_i d' b j us D l E H;simp at l;subst l;obtain⟨⟨hds,rfl⟩,hK⟩:=h;have L:=(Ay g θ H).1;simp[Aq]at L;have M:=Ag g E V;have N:=g.wf s;rw[E]at N;simp[AM]at M;obtain⟨vs,e0,O,⟨es,c,R,e4,e5,e6⟩,_⟩:=M;have r:Below w.heap.size w (w.alloc (.mapIter (Y b) c #[] c)):=(Below.refl _ _).alloc (R0 _) _;have A:=(g.lt _ _ _ _ O).1;have key:∀{C:Nat->Nat->Prop},Va (w.alloc (.mapIter (Y b) c #[] c)) C (Y (w.heap.size,0)) (Y (b,0)) (.mi W j) (.pointer (Y ⟨w.heap.size,0,W⟩)):=by
   intro C;refine⟨_,b,rfl,rfl,rfl,es,c,c,c,#[],by rw[r.block b A];exact R,heap_alloc_new w _,e5,e6,R0 _,R0 _,V,?_⟩;have:(es.toList.filter λe=>!(#[]:Array Nat).contains e.born)=es.toList:=V
   rw [this,e4]
  obtain ⟨G',I,_⟩:=g.mxgo (m':=.mi W j) (v:=.pointer (Y ⟨w.heap.size,0,W⟩)) (w':=w.alloc (.mapIter (Y b) c #[] c)) E hd (z:=Y (w.heap.size,0)) (z2:=Y (b,0)) ⟨rfl,rfl,rfl,r.size,λk η _=>r.block k η,λb o u _ J=>by
     rw [r.cell (p:=⟨b,o,W⟩) (World.block_lt_of_cell? w ⟨b,o,W⟩ J)];exact J⟩ (λD lo e=>by
     simp at e;rw[<-e.1];exact⟨V,.inl (R0 _)⟩) (λD lo e=>by
     simp at e;obtain⟨rfl,rfl⟩:=e;exact⟨F? A r.size,.inr ⟨0,W,0,by rw[DO];exact O,R0 _⟩⟩) (λD lo ζ f1 f2=>by
     grind) ⟨by intro p Z;simp at Z,N.1⟩ λC δ=>key
  exact ⟨_,_,by simp[execOp,B,L,run_range_map w t k e b es c κ R],_,_,hK,G',I⟩
 .exact h.elim
theorem eJ{L:List MapEntry}(c:L.Pairwise (λx y=>x.born<y.born)){e:MapEntry}(he:e∈L):L.Perm (e::L.filter λx=>!(x.born==e.born)):=by
 induction L with
 |nil=>cases he
 |cons x L h=>
  rw [List.pairwise_cons]at c;rcases D'.1 he with rfl|he
  .have:L.filter (λx=>!(x.born==e.born))=L:=by
    grind [List.filter_eq_self]
   rw [List.filter_cons_of_neg V,this]
  .have g:¬x.born=e.born:=by have:=c.1 e he;omega
   rw [List.filter_cons_of_pos q_];exact((h c.2 he).cons x).trans (List.Perm.swap _ _ _)
theorem pv(D:AP F0 w0 ε a w G)(hd:d<a.tmps.size)(κ:o.op=.next (.tmp s) T)(h:(AE.mnx s).wp S ε (Y d) K):A1 P F0 w0 a w o d K:=by
 simp only[AE.wp]at h;split at h
 .rename_i d' last A η hs;simp at η;subst η;obtain⟨hds,hK0,hK1⟩:=h;have L:s<a.tmps.size:=Bi D hs V;have hr:=Ag D hs V;have hw:=D.wf s;rw[hs]at hw;simp[AM]at hr;obtain⟨r,b,e1,e2,e3,es,g,l,c0,c,f1,f2,f3,f4,f5,f6,f7,f8⟩:=hr;have M:(leftOf es c).toList=es.toList.filter λe=>!c.contains e.born:=by
   simp [leftOf]
  rcases run_next_at (P:=P) w o.type r b l c0 c es g f2 f1 f4 f5 with⟨h0,C⟩|⟨e,he,R,hal,C⟩
  .have:A=[]:=by
    have h1:(es.toList.filter λe=>!c.contains e.born)=[]:=by
     grind
    rw [h1]at f8;have:=f8.length_eq
    grind
   refine ⟨.tuple #[.bool T],w,?_,_,_,hK0 this,_,D.quiet (Below.refl _ _) d hd (.tp [.bool T]) _ (λ_=>W) V V V ?_ ⟨trivial,trivial⟩⟩
   .simp[execOp,κ,show a.eval (.tmp s)=slot a s from rfl,e1,C]
   .simp only[AM];exact⟨_,rfl,_,_,rfl,rfl,rfl⟩
  .rw[M]at he;have hes:e∈es.toList:=(D?.1 he).1;have hns:c.contains e.born=T:=by simpa using(D?.1 he).2
   have hpw:(es.toList.filter λe=>!c.contains e.born).Pairwise (λx y=>x.born<y.born):=f3.sublist List.filter_sublist;have ζ:=eJ hpw he;have hff:(es.toList.filter λe=>!c.contains e.born).filter (λx=>!(x.born==e.born))=es.toList.filter λx=>!(c.push e.born).contains x.born:=by
    rw [List.filter_filter];congr 1;funext x;rw[contains_push];cases c.contains x.born<;>cases(x.born==e.born)<;>rfl
   rw [hff]at ζ;have I:=(ζ.map (λe:MapEntry=>(e.key,e.val))).symm.trans f8;have δ:(e.key,e.val)∈A.map (λp=>(E9 p.1,Value.int .i64 p.2)):=I.mem_iff.1 V;obtain⟨p,θ,B⟩:=D_.1 δ;simp at B;have hpt:=List.perm_cons_erase θ;have hpm3:((es.toList.filter λx=>!(c.push e.born).contains x.born).map (λe=>(e.key,e.val))).Perm ((A.erase p).map (λp=>(E9 p.1,Value.int .i64 p.2))):=by
    have h5:=I.trans (hpt.map (λp=>(E9 p.1,Value.int .i64 p.2)));simp only[List.map_cons,B]at h5;exact h5.cons_inv
   have N:R.heap=w.heap/\R.os=w.os/\R.tape=w.tape/\R.output=w.output:=by
    rcases hal with rfl|rfl<;>exact⟨rfl,rfl,rfl,rfl⟩
   have hr1:R.heap[r]?=Y (.mapIter (Y b) l c c0):=by rw[N.1];exact f2
   have hbz:G9 (Bs a G s) w (setBlock R r (.mapIter (Y b) l (c.push e.born) g)):=UO N (p:=0) (i:=W) (by rw[DO];exact e2) f2;have O:AB.get ((s,EV.mx (.mi (Y p) (A.erase p)))::ε) s=.mx (.mi (Y p) (A.erase p)):=by rw[AB.bn,Ne rfl]
   have hrb:b≠r:=λe=>by
    have:=(D.gi _ _ _ _ _ _ _ e2 (e▸e3)).2;cases this
   have J:BW.WF A:=hw.2;have H:=J p θ;have hi2:=D.Aaw (s:=s) (d:=s) (Z:=Bs a G s) (w':=setBlock R r (.mapIter (Y b) l (c.push e.born) g)) (env':=(s,.mx (.mi (Y p) (A.erase p)))::ε) (a':=a) L L hbz rfl rfl (KC D L) (λq i b lo E=>⟨?_,.inr ⟨q,i,lo,E,R0 _⟩⟩) (λp θ=>by rw[AB.bn,QQ U];exact D.dom p θ) (λq=>?_) (λ_ _ _=>rfl) (λp θ _=>by rw[AB.bn,QQ (λe=>θ e.symm)]) (λe=>absurd rfl e) (.inr (.inr ⟨λcs=>by rw[O];simp,λn es=>by rw[O];simp⟩)) (λF' hF'=>?_)
   .refine⟨.tuple #[.bool X,e.key,e.val],_,?_,_,_,hK1 p (A.erase p) hpt,_,hi2.1.quiet (Below.refl _ _) d hd (.tp [.bool X,SL p.1,.int .i64 p.2]) _ (λ_=>W) V V V ?_ ⟨trivial,⟨H.1,H.2.1,trivial⟩,H.2.2,trivial⟩⟩
    .simp[execOp,κ,show a.eval (.tmp s)=slot a s from rfl,e1,C]
    .simp only[AM];refine⟨_,rfl,_,_,rfl,rfl,_,_,rfl,?_,_,_,rfl,?_,rfl⟩
     .rw[<-B.1];exact TO p.1
     .simp[Aq];exact B.2.symm
   .obtain⟨p',j,g1,_⟩:=CM E;exact F? (D.lt _ _ _ _ g1).1 hbz.size
   .rw[AB.bn];split
    .refine⟨?_,λq E=>J q (List.mem_of_mem_erase E)⟩;intro q E;simp at E;subst E;exact H
    .exact D.wf q
   .rw[O];have hzd:CY a G s s (Bs a G s) s=G s:=by simp[CY,DO]
    simp [AM,hzd];have hh:=TN (o:=.mapIter (Y b) l (c.push e.born) g) hr1;refine⟨r,b,e1,e2,e3,es,g,l,g,c.push e.born,by rw[hh.2 b hrb,N.1];exact f1,hh.1,f3,f4,f6,f6,λq E=>?_,hpm3⟩;simp at E;subst E;exact⟨c,e,rfl,hes,rfl,B.1.symm,B.2.symm⟩
 .exact h.elim
theorem ph(A:AP F0 w0 ε a w G)(hd:d<a.tmps.size)(B:o.op=.entry (.tmp s))(h:(AE.men s).wp S ε (Y d) K):A1 P F0 w0 a w o d K:=by
 simp [AE.wp]at h;split at h
 .rename_i p D E;have H:=Ag A E V;have I:=A.wf s;rw[E]at I;simp[AM]at H;obtain⟨r,b,M,δ,Z,es,C,g,N,J,O,R,f3,f4,f5,f6,θ,f8⟩:=H;obtain⟨j,e,κ,η,ζ,g4,g5⟩:=θ p rfl;subst κ ζ;have L:(es.toList.map (·.born)).Nodup:=by
   grind
  have l:=run_entry_at (P:=P) w r b g j es N e R O η L;have c:=I.1 p V;refine⟨.tuple #[e.key,e.val],w,?_,_,_,h,_,A.quiet (Below.refl _ _) d hd (.tp [SL p.1,.int .i64 p.2]) _ (λ_=>W) V V V ?_ ⟨⟨c.1,c.2.1,trivial⟩,c.2.2,trivial⟩⟩
  .simp[execOp,B,show a.eval (.tmp s)=slot a s from rfl,M,l]
  .simp only[AM];refine⟨_,rfl,_,_,rfl,?_,_,_,rfl,?_,rfl⟩
   .grind[TO]
   grind [Aq]
 .exact h.elim
end
end Go.Sf
