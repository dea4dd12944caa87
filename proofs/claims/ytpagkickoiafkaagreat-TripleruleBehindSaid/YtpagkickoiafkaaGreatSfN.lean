/- Operations on lists of lists that nobody else reads. -/
import Derived.Test.YtpagkickoiafkaaGreatSfX
import Derived.Maps.RangeRun
set_option linter.all false
open Option renaming some->Y,none->W
open Bool renaming true->X,false->T
open List renaming mem_of_getElem?->v?,eq_nil_of_length_eq_zero->w_,getElem?_take->w!,getElem?_eq_getElem->w?,getElem?_cons_zero->x_,mem_append->x!,mem_singleton->x?,getElem?_append_left->y_,getElem?_eq_some_iff->y!,length_singleton->y?,getElem?_append_right->z_,getElem?_set_ne->z!,length_set->z?,getElem?_set->A_,mem_or_eq_of_mem_set->A',flatMap_cons->A!,size_toArray->A?,length_drop->B_,ext_getElem?->B',getElem?_of_mem->B!,getElem?_take_of_lt->B?,getElem?_drop->C_,getElem?_map->C',mem_map->C!,mem_cons->C?,getElem?_modify->D_,mem_filter->D'
open Option renaming map_some->D!,map_eq_some_iff->D?
open Array renaming getElem?_eq_some_iff->E_,length_toList->E',getElem?_toList->E!,toList_modify->E?
open Nat renaming lt_of_lt_of_le->F_,add_sub_cancel->F!,zero_le->F?,le_trans->G_,sub_self->G!,lt_or_ge->G?,add_zero->H_,min_eq_left->H',zero_add->H!
namespace Go.Sf
open Go.RowKit (Below)
section
variable{P:Program}{S:FuncId->Fq->At->Prop}{F0:Nat->Nat->Prop}{w0:W0}{O:AB}{a:Act}{w:World}{G:BV}{d:Nat}{o:Oper}{K:EV->AB->Prop}
theorem Bs.congr'{F0:Nat->Nat->Prop}{w0:W0}{O env2:AB}{a:Act}{w:World}(h:Bs F0 w0 O a w)(he:∀n,O.get n=env2.get n):Bs F0 w0 env2 a w:=by
 obtain ⟨G,h⟩:=h;refine⟨G,h.gB,h.lt,h.below,h.defers,λq c=>?_,λq c=>?_,λq=>?_⟩
 .rw[<-he];exact h.dom q c
 .rw[<-he];refine AK.kept (QN _ _) (λ_=>rfl) (λ_ _ _ _=>rfl) rfl BI.rfl' (λr i k l⟨p,g⟩=>⟨⟨p,(AB.Aaa (he r)).trans g⟩,λ_ hv=>hv⟩) (λr off l⟨cs,j⟩=>⟨⟨cs,by rw[he];exact j⟩,rfl⟩) (λr i l⟨p,g⟩=>⟨⟨p,(AB.wm (he r)).trans g⟩,λ_ hv=>hv⟩) (h.slots q c)
 .rw[<-he];exact h.wf q
variable{s off:Nat}
theorem U4(h:AR F0 w0 O a w G){es:Fq}(A:O.nat s off=Y es):
  ∃b c θ x,slot a s=.pointer (Y ⟨b,0,W⟩)/\w.heap[b]?=Y (.cells c θ (0,0))/\c[off]?=Y x/\G s W=Y (b,0)/\FN w (AW w0.heap.size F0 G) (po a G) (G s (Y off)) es x/\(TV.list 1 es).WF:=by
 obtain ⟨cs,l,r⟩:=AB.og A;have g:=Ah h l V;simp only[AK]at g;obtain⟨b,c,θ,B,C,J,D,E⟩:=g;obtain⟨x,H,I⟩:=E off _ r;have j:=h.wf s;rw[l]at j;exact⟨b,c,θ,x,B,C,H,D,I,j _ (v? r)⟩
variable{F:Nat->Nat->Prop}{z:Option (Nat×Nat)}
theorem Vo{ρ:Hc}{es:Fq}{x:Value}(h:FN w F ρ z es x)(r:es≠[]):
  ∃g cap c e xs,x=.slice (Y ⟨g,0,W⟩) es.length cap/\w.heap[g]?=Y (.cells c e (0,0))/\es.length<=cap/\c.size=cap/\z=Y (g,0)/\(∀(j:Nat)(e:TV),es[j]?=Y e->∃y n fs,c[j]?=Y y/\e=.list n fs/\Q6 w F (ρ g j) n fs y)/\c.toList.take es.length=xs/\(∀y∈xs,y.oneCell'=X):=by
 obtain ⟨xs,⟨ε,H,B⟩,I,J⟩:=h;rcases H.2 with⟨_,hn,_⟩|⟨g,cap,c,e,N,R,θ,η,ζ,C,D⟩
 .exact absurd (w_ hn) r
 .refine⟨g,cap,c,e,xs,N,R,θ,U,by rw[B,D];rfl,λj el E=>?_,by rw[<-C,Nat.mul_one],I⟩;obtain⟨κ,y,n,fs,A,l,L,M⟩:=J j el E;rw[B,D]at A;simp only[D!,kx,Prod.mk.injEq,and_true]at A;subst A;refine⟨y,n,fs,?_,L,M⟩;rw[<-C,w!]at l;split at l
  .simpa using l
  .cases l
variable{x:Operand}{y:AF}{b:Nat}
theorem xt(j:AR F0 w0 O a w G)(g:AJ x y=X)(h:y.ev O=.bp s off){cs:List AQ}(l:O.get s=.bx cs)(r:slot a s=.pointer (Y ⟨b,0,W⟩)):a.eval x=.pointer (Y ⟨b,off,W⟩):=by
 cases y with
 |c t=>simp[AF.ev]at h|s m=>
  rw [Jz g];simp only[AF.ev]at h;have:=Ah j h V;simp only[AK]at this;obtain⟨A,B,C⟩:=this ⟨cs,l⟩
  grind
theorem Xp(j:AR F0 w0 O a w G)(g:AJ x y=X){k:NK}(h:y.ev O=.nh s off k){es:Fq}(l:O.nat s off=Y es):NH a w s off k (a.eval x):=by
 cases y with
 |c t=>simp[AF.ev]at h|s m=>
  rw [Jz g];simp only[AF.ev]at h;have:=Ah j h V
  grind [AK]
variable{v:Value}
theorem AR.Abs(g:AR F0 w0 O a w G)(hd:d<a.tmps.size){k:NK}(hv:∀es,O.nat s off=Y es->NH a w s off k v):Bs F0 w0 ((d,.nh s off k)::O) (a.put (Y d) v) w:=by
 refine ⟨_,g.quiet (Below.refl _ _) d hd (.nh s off k) v (λ_=>W) V V V ?_ trivial⟩;simp only[AK];rintro⟨es,h⟩;have c:=AB.pN V h;exact g.nh ⟨_,c.2⟩ (AZ _ _ _ _ c.1) (λ_ _ _ _=>rfl) _ (hv es c.2)
variable{t:TypeId}
theorem p7(r:AR F0 w0 O a w G)(hd:d<a.tmps.size)(A:o.op=.load t x)(B:AJ x y=X)(H:B2 P t=Y T)(h:(AE.lan y).wp S O (Y d) K):A2 P F0 w0 a w o d K:=by
 simp only[AE.wp]at h;split at h
 .rename_i s off I;cases l:O.nat s off with
  |none=>rw[l]at h;exact h.elim|some es=>
   rw [l]at h;simp only[Ai]at h;obtain⟨cs,J,L⟩:=AB.og l;obtain⟨b,c,θ,v,C,D,E,M,N,_⟩:=U4 r l;have j:=xt r B I J C;have g:w.cell? ⟨b,off,W⟩=Y v:=by
    rw [cell_of_row w b off c θ (0,0) D];exact E
   refine ⟨v,w,?_,_,_,h,r.Abs hd λes' _=>?_⟩
   .simp[execOp,A,j,Instr.loadAt,Instr.sureAddr,loadVar,Cg H,g]
   .exact⟨b,c,θ,v,C,D,E,rfl⟩
 .exact h.elim
theorem qM(B:AR F0 w0 O a w G)(hd:d<a.tmps.size){x i:Operand}{y j:AF}(M:o.op=.indexAddr t x i)(N:AJ x y=X)(C:AJ i j=X)(R:IZ P t=Y 1)(h:(AE.nia y j).wp S O (Y d) K):A2 P F0 w0 a w o d K:=by
 unfold IZ at R;split at R
 .rename_i el hu;simp only[AE.wp]at h;split at h
  .rename_i s off k D hy hj;cases A:O.nat s off with
   |none=>rw[A]at h;exact h.elim|some es=>
    rw [A]at h;simp only[Ai]at h;obtain⟨h0,ε,hK⟩:=h;have l:=(Ax B C hj).1;simp only[Ap]at l;obtain⟨b,c,θ,x0,κ,η,ζ,L⟩:=Xp B N hy A;simp only[NK.at]at L;obtain⟨b',c',T',v,H,δ,I,f4,f5,_⟩:=U4 B A;rw[κ]at H;simp only[Value.pointer.injEq,kx,Addr.mk.injEq,and_true,and_self]at H;subst H;rw[η]at δ;cases δ;rw[ζ]at I;simp only[kx]at I;subst I;obtain⟨g,cap,J,e,xs,rfl,g2,g3,_⟩:=Vo f5 (by rintro rfl;simp at ε;omega);have E:0<=D/\D<(es.length:Int):=⟨h0,ε⟩;refine⟨.pointer (Y ⟨g,D.toNat,W⟩),w,?_,_,_,hK,B.Abs hd λes' _=>?_⟩
    .simp[execOp,M,L,l,Instr.indexAt,asIntOf,run_underlying hu,E,B7 R,Addr.add_lit]
    .exact⟨b,c,θ,_,κ,η,ζ,g,_,_,rfl,rfl⟩
  .rename_i s off r k D hy hj;cases A:O.nat s off with
   |none=>rw[A]at h;exact h.elim|some es=>
    rw [A]at h;simp only[Ai]at h;obtain⟨h0,fs,hr,ε,hK⟩:=h;have l:=(Ax B C hj).1;simp only[Ap]at l;obtain⟨b,c,θ,x0,κ,η,ζ,g,len,cap,e0,L⟩:=Xp B N hy A;subst e0;obtain⟨b',c',T',v,H,δ,I,f4,f5,_⟩:=U4 B A;rw[κ]at H;simp only[Value.pointer.injEq,kx,Addr.mk.injEq,and_true,and_self]at H;subst H;rw[η]at δ;cases δ;rw[ζ]at I;simp only[kx]at I;subst I;obtain⟨g',cap',J,e,xs,g1,g2,g3,_,_,g4,_⟩:=Vo f5 (by rintro rfl;simp at hr);simp only[Value.slice.injEq,kx,Addr.mk.injEq,and_true]at g1;obtain⟨rfl,rfl,rfl⟩:=g1;obtain⟨u,n,fs',k1,k2,k3⟩:=g4 r _ hr;simp only[TV.list.injEq]at k2;obtain⟨rfl,rfl⟩:=k2;rw[cell_of_row w g r J e (0,0) g2,k1]at L;simp only[kx]at L;subst L;obtain⟨ys,⟨z0,m1,m2⟩,m3,m4,m5⟩:=k3;rcases m1.2 with⟨_,hn,_⟩|⟨Z,cap2,cur2,e2',q1,q2,q3,_⟩
    .simp only[hn]at ε;omega
    .have E:0<=D/\D<(fs.length:Int):=⟨h0,ε⟩;refine⟨.pointer (Y ⟨Z,D.toNat,W⟩),w,?_,_,_,hK,B.Abs hd λes' _=>?_⟩
     .simp[execOp,M,q1,l,Instr.indexAt,asIntOf,run_underlying hu,E,B7 R,Addr.add_lit]
     .refine⟨b,c,θ,_,κ,η,ζ,g,_,_,rfl,Z,fs.length,cap2,?_,rfl⟩;rw[cell_of_row w g r J e (0,0) g2,k1,q1]
  .exact h.elim
 .cases R
theorem qN(B:AR F0 w0 O a w G)(hd:d<a.tmps.size)(C:o.op=.load t x)(D:AJ x y=X)(κ:B2 P t=Y T)(h:(AE.nld y).wp S O (Y d) K):A2 P F0 w0 a w o d K:=by
 simp only[AE.wp]at h;split at h
 .rename_i s off r η;cases A:O.nat s off with
  |none=>rw[A]at h;exact h.elim|some es=>
   rw [A]at h;simp only[Ai]at h;obtain⟨l,ζ⟩:=h;obtain⟨b,c,θ,x0,J,L,M,g,len,cap,e0,δ⟩:=Xp B D η A;subst e0;obtain⟨b',c',T',v,E,N,H,f4,Z,_⟩:=U4 B A;rw[J]at E;simp only[Value.pointer.injEq,kx,Addr.mk.injEq,and_true,and_self]at E;subst E;rw[L]at N;cases N;rw[M]at H;simp only[kx]at H;subst H;obtain⟨g',R,I,e,xs,ε,g2,g3,_,_,g4,_⟩:=Vo Z (by rintro rfl;simp at l);simp only[Value.slice.injEq,kx,Addr.mk.injEq,and_true]at ε;obtain⟨rfl,rfl,rfl⟩:=ε;obtain⟨u,n,fs',k1,k2,k3⟩:=g4 r _ (w? l);have j:w.cell? ⟨g,r,W⟩=Y u:=by
    rw [cell_of_row w g r I e (0,0) g2];exact k1
   refine ⟨u,w,?_,_,_,ζ,B.Abs hd λes' _=>?_⟩
   .simp[execOp,C,δ,Instr.loadAt,Instr.sureAddr,loadVar,Cg κ,j]
   .exact⟨b,c,θ,_,J,L,M,g,_,_,rfl,j⟩
 .exact h.elim
variable{q:Nat}
theorem mu(r:AR F0 w0 O a w G)(hd:d<a.tmps.size)(θ:o.op=.box t x)(ε:AJ x (.s q)=X)(h:(AE.Abi q).wp S O (Y d) K):A2 P F0 w0 a w o d K:=by
 simp only[AE.wp]at h;split at h
 .rename_i d' cs H ζ;simp only[kx]at H;subst H;obtain⟨⟨hno,hdq⟩,hK⟩:=h;have hev:=Jz (a:=a) ε;have A:q<a.tmps.size:=Bg r ζ V;have hr:=Ah r ζ V;have J:=r.wf q;rw[ζ]at J;simp only[AK]at hr;obtain⟨vs,h1,h2,h3⟩:=hr;have B:Below w.heap.size w (w.alloc (.cells vs t)):=(Below.refl _ _).alloc (aN _) _;have hone:∀(i:Nat)(y:Value),vs[i]?=Y y->y.oneCell'=X:=by
   intro i y hy;have hlt:i<cs.length:=by have:=(E_.1 hy).1;omega
   obtain ⟨x,hx,D⟩:=h3 i _ (w? hlt)
   grind [Gn]
  let Z:DK:=λp i=>if p=0/\i=W then Y (w.heap.size,0)else Br a G q p i
  have N:∀p i b lo,Z p i=Y (b,lo)->(p=0/\i=W/\b=w.heap.size/\lo=0)\/Br a G q p i=Y (b,lo):=by
   grind
  have hzl:∀p i b lo,Br a G q p i=Y (b,lo)->b<w.heap.size:=λp i b lo C=>by
   obtain ⟨δ,j,l,_⟩:=CG C;exact(r.lt _ _ _ _ l).1
  refine ⟨.pointer (Y ⟨w.heap.size,0,W⟩),w.alloc (.cells vs t),?_,_,_,hK,?_⟩
  .simp[execOp,θ,Instr.box,newVar,newRow,hev,h1,Value.cells]
  .have hg:=λp=>AB.d3 d (.bx cs) ((q,EV.undef)::O) p;refine⟨_,(r.Aaf (s:=q) (d:=d) (Z:=Z) (w':=w.alloc (.cells vs t)) (env':=(d,.bx cs)::(q,.undef)::O) (a':=a.put (Y d) (.pointer (Y ⟨w.heap.size,0,W⟩))) A hd ⟨rfl,rfl,rfl,B.size,λk hk _=>B.block k hk,λb o u _ hu=>by
     rw [B.cell (p:=⟨b,o,W⟩) (World.block_lt_of_cell? w ⟨b,o,W⟩ hu)];exact hu⟩ (Bi _ _ _) (Ek _ _ _) ?_ ?_ ?_ ?_ ?_ ?_ ?_ (.inl hno) ?_).1⟩
   .intro p i δ i' b lo lo' I e2;rcases N _ _ _ _ I with⟨rfl,rfl,l,_⟩|l<;>rcases N _ _ _ _ e2 with⟨rfl,rfl,R,_⟩|R
    .exact⟨rfl,rfl⟩
    .grind
    .grind
    .exact Jr r A _ _ _ _ _ _ _ l R
   .intro p i b lo I;rcases N _ _ _ _ I with⟨rfl,rfl,l,_⟩|l
    .exact⟨by rw[l];simp,.inl U⟩
    .exact⟨F_ (hzl _ _ _ _ l) B.size,.inr ⟨p,i,lo,l,aN _⟩⟩
   .intro p E;rw[AB.d3,aE U,AB.d3,aE U];exact r.dom p E
   .intro p;rw[AB.d3];split
    .exact J
    .rw[AB.d3];split
     .trivial
     .exact r.wf p
   .exact λp E _=>AZ _ _ _ _ (λe=>E e.symm)
   .exact λp E κ=>by rw[AB.d3,aE (λe=>E e.symm),AB.d3,aE (λe=>κ e.symm)]
   .exact λ_=>by rw[AB.d3,aE hdq,AB.d3,QQ rfl]
   .intro F' hF';rw[AB.d3,QQ rfl,Cj _ _ _ hd];have L:CN a G q d Z d=Z 0:=by simp[CN]
    simp only[AK];refine⟨w.heap.size,vs,t,rfl,heap_alloc_new w _,h2,by rw[L];simp[Z],λi c D=>?_⟩;obtain⟨x,I,e2⟩:=h3 i c D;have M:Z 0 (Y i)=G q (Y i):=by simp[Z,C9]
    refine ⟨x,I,?_⟩;rw[L,M];refine BE.po (e2.kept (λb o u D hf=>⟨?_,λη=>?_⟩) (λb lo C=>B.block b (r.lt _ _ _ _ C).1) (r.AaK B)) (λg lo j C=>?_)
    .rw[B.cell (p:=⟨b,o,W⟩) (World.block_lt_of_cell? w ⟨b,o,W⟩ D)];exact D
    .rcases hF' b o η with⟨_,h6,_⟩|⟨p,i,lo,h6,h7⟩
     .exact hf h6
     .rcases N _ _ _ _ h6 with⟨_,_,l,_⟩|l
      .have:=World.block_lt_of_cell? w ⟨b,o,W⟩ D;simp only at this;omega
      .obtain⟨δ,j,R,_⟩:=CG l;exact hf (.inr ⟨δ,j,lo,R,h7⟩)
    .have hz':Z 0 (Y i)=Y (g,lo):=by rw[M];exact C
     rw [Qh (Bi _ _ _) hd A hz' j];simp only[DK.po,Z];rw[aE U];exact O8 C j
 .exact h.elim
def cX(P:Program)(t:TypeId):Bool:=
 match P.underlying t with
 |some (.slice e)=>(match P.info? e with
  |some ie=>ie.size==1&&(match ie.zero with|some z=>z.cells.size==1|none=>T)
  |none=>T)
 |_=>T
variable{n:Nat}{fs:Fq}
theorem pK{x:Value}(h:Q6 w F z n fs x):x.oneCell'=X:=by
 obtain ⟨ys,⟨l,c,_⟩,_⟩:=h;rcases c.2 with⟨rfl,_⟩|⟨g,cap,j,e,rfl,_⟩<;>rfl
theorem nB(r:AR F0 w0 O a w G)(hd:d<a.tmps.size)(I:o.op=.buildSlice t 1 #[(0,x)])(c:cX P t=X)(η:AJ x (.s q)=X)(h:(AE.Aa4 q).wp S O (Y d) K):A2 P F0 w0 a w o d K:=by
 simp only[AE.wp]at h;split at h
 .rename_i d' n fs B L;simp only[kx]at B;subst B;obtain⟨⟨hno,R⟩,hK⟩:=h;have N:=Jz (a:=a) η;have ε:=Ah r L V;have C:=r.wf q;rw[L]at C;simp only[AK]at ε;have g:Q6 w (AW w0.heap.size F0 G) (G q W) n fs (slot a q):=ε;have j:=pK g;unfold cX at c;split at c
  .rename_i e hu;split at c
   .rename_i ie M;simp only[gN,beq_iff_eq]at c;obtain⟨θ,E⟩:=c;split at E
    .rename_i z A;have l:=Pq j;have D:(execOp a.eval o).run P w=.ok (.value (.slice (Y ⟨w.heap.size,0,W⟩) 1 1)) (w.alloc (.cells #[slot a q] e)):=by
      simp [execOp,I,Instr.buildSlice,run_underlying hu,sizeOf,typeInfo,M,θ,zeroValue,A,Instr.fill,newRow,N,l]
      grind
     have H:Below w.heap.size w (w.alloc (.cells #[slot a q] e)):=(Below.refl _ _).alloc (aN _) _;refine⟨_,_,D,_,_,hK,r.xgo L hd R (z':=G q W) rfl rfl rfl H.size (λk ζ _=>H.block k ζ) (λb lo A=>⟨F_ (r.lt _ _ _ _ A).1 H.size,.inr ⟨lo,A⟩⟩) V V (λF' G' env' a' J δ Z=>?_) C⟩;simp only[AK];refine⟨w.heap.size,1,slot a q,rfl,aN _,?_,λhf=>?_,j,?_⟩
     .rw[cell_of_row _ w.heap.size 0 #[slot a q] e (0,0) (heap_alloc_new w _)];rfl
     .rcases Z _ _ hf with κ|⟨lo,κ⟩
      .omega
      .have:=(r.lt _ _ _ _ κ).1;omega
     .rw[δ];exact g.kept J (λb lo A=>H.block b (r.lt _ _ _ _ A).1)
    .cases E
   .cases c
  .cases c
 .exact h.elim
theorem AR.give(h:AR F0 w0 O a w G){es fs:Fq}(M:O.get s=.xn es)(N:O.get q=.x1 n fs):
  AR F0 w0 ((q,.undef)::O) a w (λp i=>if p=s/\i=Y 0 then G q W else if p=q then W else G p i):=by
 have Z:s≠q:=by rintro rfl;rw[M]at N;cases N
 have hsz:s<a.tmps.size:=Bg h M V;have hqz:q<a.tmps.size:=Bg h N V;have J:∀p i b lo,(if p=s/\i=Y 0 then G q W else if p=q then W else G p i)=Y (b,lo)->(p=s/\i=Y 0/\G q W=Y (b,lo))\/(¬(p=s/\i=Y 0)/\p≠q/\G p i=Y (b,lo)):=by
  grind
 have E:Be w w (AW w0.heap.size F0 G) (AW w0.heap.size F0 (λp i=>if p=s/\i=Y 0 then G q W else if p=q then W else G p i)):=by
  refine λb o u η hf=>⟨η,?_⟩;rintro(B|⟨p,j,lo,B,κ⟩)
  .exact hf (.inl B)
  .rcases J _ _ _ _ B with⟨_,_,ε⟩|⟨_,_,ε⟩
   .exact hf (.inr ⟨_,_,lo,ε,κ⟩)
   .exact hf (.inr ⟨_,_,lo,ε,κ⟩)
 have g:po a (λp i=>if p=s/\i=Y 0 then G q W else if p=q then W else G p i)=po a G:=by
  grind [po]
 refine ⟨λp i p' i' b lo ζ R δ=>?_,λp i b lo R=>?_,h.below,h.defers,λp I=>?_,λp I=>?_,λp=>?_⟩
 .rcases J _ _ _ _ R with⟨rfl,rfl,l⟩|⟨n1,n2,l⟩<;>rcases J _ _ _ _ δ with⟨rfl,rfl,L⟩|⟨m1,m2,L⟩
  .exact⟨rfl,rfl⟩
  .exact absurd (h.gB _ _ _ _ _ _ _ l L).1.symm m2
  .exact absurd (h.gB _ _ _ _ _ _ _ l L).1 n2
  .exact h.gB _ _ _ _ _ _ _ l L
 .rcases J _ _ _ _ R with⟨_,_,l⟩|⟨_,_,l⟩
  .exact h.lt _ _ _ _ l
  .exact h.lt _ _ _ _ l
 .rw[AB.d3,aE U];exact h.dom p I
 .rw[AB.d3];split
  .trivial
  .rename_i D;by_cases H:p=s
   .subst H;have C:=h.slots p I;rw[M]at C|-;simp only[AK]at C|-;rw[aE V,aE (λe=>D e.symm),g];exact C.kept E (λ_ _ _=>rfl) BI.rfl'
   .refine AK.kept E (λi=>by rw[aE (λe=>H e.1),aE (λe=>D e.symm)]) (λ_ _ _ _=>rfl) g BI.rfl' (λr i k C⟨θ,A⟩=>?_) (λr off C⟨cs',c⟩=>?_) (λr i C⟨θ,A⟩=>?_) (h.slots p I)
    .have B:=AB.pN V A;exact⟨⟨θ,B.2⟩,λ_ hv=>hv⟩
    .rw[AB.d3]at c;split at c
     .cases c
     .exact⟨⟨cs',c⟩,rfl⟩
    .have B:=AB.l4 V V A;exact⟨⟨θ,B.2⟩,λ_ hv=>hv⟩
 .rw[AB.d3];split
  .trivial
  .exact h.wf p
def TY(zo:Option (Nat×Nat))(rowz:Nat->Option (Nat×Nat)):DK:=λp i=>if p=0 then(if i=W then zo else W)else if zo.map (λz=>z.1+1)=Y p then(match i with|some j=>rowz j|none=>W)else W
variable{rowz:Nat->Option (Nat×Nat)}{p:Nat}{i:Option Nat}
theorem TZ{c:Option (Nat×Nat)}{b lo:Nat}(h:TY c rowz p i=Y (b,lo)):(p=0/\i=W/\c=Y (b,lo))\/∃g l j,c=Y (g,l)/\p=g+1/\i=Y j/\rowz j=Y (b,lo):=by
 simp only[TY]at h;split at h
 .grind
 .split at h
  .rename_i A r;cases i with
   |none=>cases h
   |some j=>
    cases c with
    |none=>cases r
    |some z=>
     grind
  .cases h
theorem lP{g l:Nat}(j:Nat):(TY (Y (g,l)) rowz).po g j=rowz j:=by
 simp [DK.po,TY]
variable{e:TypeId}
theorem AR.Aar(B:AR F0 w0 O a w G){ty:TypeId}{i:TypeInfo}{z:Value}{es:Fq}(hs:O.get s=.xn es)(hq:O.get q=.x1 n fs)
  (ht:P.underlying t=Y (.slice e))(hi:P.info? e=Y i)(hz:i.zero=Y z)(hsize:i.size=1)(hby:i.bytes<=4096)(hzs:z.cells.size=1)(η:es.length+1<=AY):
  ∃v' w',(Builtin.append_ #[t,t] ty #[slot a s,slot a q]).run P w=.ok v' w'/\Bs F0 w0 ((s,.xn (es++[.list n fs]))::(q,.undef)::O) (a.put (Y s) v') w':=by
  have hsq:s≠q:=by rintro rfl;rw[hs]at hq;cases hq
  have ε:s<a.tmps.size:=Bg B hs V;have hqz:q<a.tmps.size:=Bg B hq V;have hrs:=Ah B hs V;have hws:=B.wf s;rw[hs]at hws;have hrq:=Ah B hq V;have hwq:=B.wf q;rw[hq]at hwq;simp only[AK]at hrs hrq;obtain⟨xs,⟨z0,h1,hz0⟩,h2,h3⟩:=hrs;obtain⟨g1,cap1,x,k1,k2,k3,k4,k5,k6⟩:=hrq;obtain⟨v',w',z',hrun,r1,L⟩:=QF (P:=P) t ty e i z 1 ht hi hz hsize hby hzs U (slot a s) es.length xs z0 h1 (Y ⟨g1,0,W⟩) 1 cap1 [x] rfl V k2 (λb ζ j u hu=>by
   simp only[kx]at ζ;subst ζ;cases j with
   |zero=>simp only[x_,kx]at hu;subst hu;rw[Addr.add_lit];exact k3|succ j=>simp at hu) (by simpa using k5) η
  obtain ⟨C,N,R,e',m1,m2,m3⟩:∃C N R e',v'=.slice (Y ⟨C,0,W⟩) (es.length+1) N/\w'.heap[C]?=Y (.cells R e' (0,0))/\z'=Y (C,(es.length+1)*1):=by
   rcases r1.2 with⟨_,hn,_⟩|⟨C,N,R,e',c,r,_,_,_,_,e7⟩
   .omega
   grind
  let M:BV:=λp i=>if p=s/\i=Y 0 then G q W else if p=q then W else G p i
  have hI1:AR F0 w0 ((q,.undef)::O) a w M:=B.give hs hq;have D:M s W=G s W:=by simp only[M];rw[aE V,aE hsq]
  have hG10:M s (Y 0)=G q W:=by simp[M]
  have hG1r:∀g j,M (a.tmps.size+g) (Y j)=G (a.tmps.size+g) (Y j):=λg j=>by simp only[M];rw[aE U,aE U]
  let rowz:Nat->Option (Nat×Nat):=λj=>if j=es.length then G q W else z0.bind λp=>G (a.tmps.size+p.1) (Y j)
  let Z:DK:=TY (Y (C,0)) rowz
  have A:∀b lo,z0=Y (b,lo)->G s W=Y (b,0):=λb lo e=>by rw[hz0,e];rfl
  have hrz:∀j b lo,rowz j=Y (b,lo)->(j=es.length/\G q W=Y (b,lo))\/(j≠es.length/\∃g l,z0=Y (g,l)/\G (a.tmps.size+g) (Y j)=Y (b,lo)):=by
   grind [Option.bind_eq_some_iff]
  have κ:∀j b lo,rowz j=Y (b,lo)->∃p i,G p i=Y (b,lo)/\p≠s/\(p=q/\i=W/\j=es.length\/a.tmps.size<=p/\i=Y j/\j≠es.length):=by
   intro j b lo δ;rcases hrz _ _ _ δ with⟨c,r⟩|⟨c,g,l,r,J⟩
   .exact⟨_,_,r,λe=>hsq e.symm,.inl ⟨rfl,rfl,c⟩⟩
   .exact⟨_,_,J,U,.inr ⟨U,rfl,c⟩⟩
  have E:∀l,z'=Y (C,l)->w.heap.size<=C\/G s W=Y (C,0):=λl hl=>by
   rcases (L.Abo _ _ hl).2 with e|⟨I,e,_⟩
   .exact .inl e
   .exact .inr (A _ _ e)
  have E:=E _ m3;have h:∀p i b lo,G p i=Y (b,lo)->b<w.heap.size:=λp i b lo e=>(B.lt _ _ _ _ e).1;have hout:∀p i b lo,G p i=Y (b,lo)->p≠s->b≠C:=by
   intro p i b lo c r J;subst J;rcases E with e|e
   .have:=h _ _ _ _ c;omega
   .exact r (B.gB _ _ _ _ _ _ _ c e).1
  have hzz:∀p j b lo,Z p j=Y (b,lo)->b<w'.heap.size/\(w.heap.size<=b\/∃p j I,Br a M s p j=Y (b,I)/\I<=lo):=by
   intro p j b lo hp;rcases TZ hp with⟨_,_,e⟩|⟨g,l,j,c,_,_,r⟩
   .simp only[kx,Prod.mk.injEq]at e;obtain⟨rfl,rfl⟩:=e;refine⟨(L.Abo _ _ m3).1,E.imp id λe=>⟨0,W,0,by rw[C9,D];exact e,aN _⟩⟩
   .rcases hrz _ _ _ r with⟨_,J⟩|⟨_,g0,l0,J,e4⟩
    .exact⟨F_ (h _ _ _ _ J) L.size,.inr ⟨0,Y 0,lo,by rw[C9,hG10];exact J,aN _⟩⟩
    .refine⟨F_ (h _ _ _ _ e4) L.size,.inr ⟨g0+1,Y j,lo,?_,aN _⟩⟩;simp only[Br];rw[aE U,QQ ⟨W,0,by rw[F!,D];exact A _ _ J⟩];simp only[F!];rw[hG1r];exact e4
  have H:∀b o,AW w0.heap.size F0 M b o->AW w0.heap.size F0 G b o:=by
   rintro b o (e|⟨p,j,lo,c,r⟩)
   .exact .inl e
   .simp only[M]at c;split at c
    .exact .inr ⟨_,_,lo,c,r⟩
    .split at c
     .cases c
     .exact .inr ⟨_,_,lo,c,r⟩
  have hd:=ε;refine⟨v',w',?_,_,(hI1.Aaf (s:=s) (d:=s) (Z:=Z) (w':=w') (env':=(s,.xn (es++[.list n fs]))::(q,.undef)::O) (a':=a.put (Y s) v') ε ε ⟨L.os,L.tape,L.output,L.size,λk hk hz=>?_,λb o u hz hu=>?_⟩ (Bi _ _ _) (Ek _ _ _) ?_ hzz ?_ ?_ ?_ ?_ ?_ (.inr (.inr ⟨?_,?_⟩)) ?_).1⟩
  .rw[k1];exact hrun
  .refine L.other k hk λlo e=>hz 0 W 0 ?_;rw[C9,D];exact A _ _ e
  .refine L.cell b o u hu λlo e=>absurd ⟨0,W,0,?_,F? _⟩ hz;rw[C9,D];exact A _ _ e
  .intro p j p' j' b lo I c r;rcases TZ c with⟨rfl,rfl,f1⟩|⟨g,l,i1,f1,rfl,rfl,f2⟩<;>rcases TZ r with⟨rfl,rfl,f3⟩|⟨g2,l2,i2,f3,rfl,rfl,f4⟩
   .exact⟨rfl,rfl⟩
   .simp only[kx,Prod.mk.injEq]at f1;obtain⟨p1,p2,q1,q2,_⟩:=κ _ _ _ f4;exact absurd f1.1.symm (hout _ _ _ _ q1 q2)
   .simp only[kx,Prod.mk.injEq]at f3;obtain⟨p1,p2,q1,q2,_⟩:=κ _ _ _ f2;exact absurd f3.1.symm (hout _ _ _ _ q1 q2)
   .simp only[kx,Prod.mk.injEq]at f1 f3;obtain⟨p1,p2,q1,q2,q3⟩:=κ _ _ _ f2;obtain⟨p3,p4,q4,q5,q6⟩:=κ _ _ _ f4;have:=B.gB _ _ _ _ _ _ _ q1 q4;refine⟨U,?_⟩;rcases q3 with⟨u1,u2,u3⟩|⟨u1,u2,u3⟩<;>rcases q6 with⟨u4,u5,u6⟩|⟨u4,u5,u6⟩
    .rw[u3,u6]
    .omega
    .omega
    .rw[u2,u5]at this;exact this.2
  .intro p hp;rw[AB.d3,aE U,AB.d3,aE U];exact B.dom p hp
  .intro p;rw[AB.d3];split
   .simp only[EV.WF,TV.WF]at hws hwq|-;exact⟨by rw[a5];exact U3 (by simpa using η),KJ.2 ⟨hws.2,⟨hwq,trivial⟩⟩⟩
   .rw[AB.d3];split
    .trivial
    .exact B.wf p
  .exact λp hp _=>AZ _ _ _ _ (λe=>hp e.symm)
  .exact λp hp _=>by rw[AB.d3,aE (λe=>hp e.symm)]
  .exact λe=>absurd rfl e
  .intro cs;rw[AB.d3,QQ rfl];simp
  .intro m es';rw[AB.d3,QQ rfl];simp
  .intro F' hF';rw[AB.d3,QQ rfl,Cj _ _ _ hd];have hag:Be w w' (AW w0.heap.size F0 G) F':=by
    intro b o u hc hf;have hlt:b<w.heap.size:=World.block_lt_of_cell? w ⟨b,o,W⟩ hc;refine⟨L.cell b o u hc λlo e=>absurd (.inr ⟨s,W,0,A _ _ e,F? _⟩) hf,λhf'=>?_⟩;rcases hF' b o hf' with⟨_,e,_⟩|⟨p,j,lo,c,r⟩
    .exact hf (H b o e)
    .rcases(hzz _ _ _ _ c).2 with J|⟨p2,j2,lo2,J,e4⟩
     .omega
     .obtain⟨p3,j3,e5,_⟩:=CG J;exact hf (H b o (.inr ⟨p3,j3,lo2,e5,G_ e4 r⟩))
   have hzd:CN a M s s Z s W=Y (C,0):=by simp[CN,Z,TY]
   have hrow:∀j,po (a.put (Y s) v') (CN a M s s Z) C j=rowz j:=λj=>by
    rw [Qh (k:=W) (lo:=0) (Bi _ _ _) hd ε (by simp[Z,TY]) j];exact lP j
   simp only[AK];rw[hzd];refine⟨xs++[x],⟨z',by rw[a5];exact r1,by rw[m3];rfl⟩,?_,?_⟩
   .intro y hy;rcases x!.1 hy with hy|hy
    .exact h2 y hy
    .simp only[x?]at hy;subst hy;exact k5
   .have hxl:xs.length=es.length:=by have:=h1.1;omega
    intro j el δ;by_cases hjl:j<es.length
    .rw[y_ hjl]at δ;obtain⟨g,y,m,fs',c,r,J,e4⟩:=h3 j el δ;refine⟨C,y,m,fs',rfl,by rw[y_ U];exact r,J,?_⟩;rw[hrow];have θ:∃l,z0=Y (g,l):=by
      rw [hz0]at c;cases z0 with
      |none=>cases c
      |some p=>simp only[D!,kx,Prod.mk.injEq,and_true]at c;exact⟨p.2,by rw[<-c]⟩
     obtain ⟨l,θ⟩:=θ;have hrj:rowz j=po a G g j:=by
      simp only[rowz,θ];rw[aE U];rfl
     rw [hrj];exact e4.kept hag λb lo ζ=>L.other b (h _ _ _ _ ζ) λI e=>by
      have:=(B.gB _ _ _ _ _ _ _ (A _ _ e) ζ).1;omega
    .have hje:j=es.length:=by
      have:=(y!.1 δ).1;simp only[a5,y?]at this;omega
     subst hje;rw[z_ (aN _),G!]at δ;simp only[x_,kx]at δ;subst δ;refine⟨C,x,n,fs,rfl,by rw[<-hxl,z_ (aN _),G!];rfl,rfl,?_⟩;rw[hrow];have hrj:rowz es.length=G q W:=by simp[rowz]
     rw [hrj];exact k6.kept hag λb lo ζ=>L.other b (h _ _ _ _ ζ) λI e=>hsq (B.gB _ _ _ _ _ _ _ (A _ _ e) ζ).1
theorem mq(hI:AR F0 w0 O a w G)(hd:d<a.tmps.size){m q:Nat}{i:TypeInfo}{z:Value}(L:o.op=.call {callee:=.builtin .append,args:=#[.tmp m,.tmp q],argTypes:=#[t,t]})
  (ht:P.underlying t=Y (.slice e))(hi:P.info? e=Y i)(hz:i.zero=Y z)(j:i.size=1)(M:i.bytes<=4096)(N:z.cells.size=1)
  (h:(AE.Aar m q).wp S O (Y d) K):A2 P F0 w0 a w o d K:=by
 simp only[AE.wp]at h;split at h
 .rename_i d' s off n fs r hm hq;simp only[kx]at r;subst r;split at h
  .rename_i cs R;cases c:O.nat s off with
   |none=>rw[c]at h;exact h.elim|some es=>
    rw [c]at h;simp only[Ai]at h;obtain⟨B,⟨C,hdm,δ,hmq⟩,hK⟩:=h;obtain⟨cs',D,hk⟩:=AB.og c;rw[R]at D;cases D;have hds:d≠s:=λe=>AB.mo d O C m (by rw[hm,e];rfl);obtain⟨b,c0,θ,Z,e1,e2,e3,e4⟩:=Xp hI (x:=.tmp m) (y:=.s m) p? hm c;simp only[NK.at]at e4;have l:w.cell? ⟨b,off,W⟩=Y Z:=by rw[cell_of_row w b off c0 θ (0,0) e2];exact e3
    obtain ⟨G1,h1⟩:=hI.Aax R hk hd e1 l (.inr (.inr ⟨es,rfl,rfl,rfl,C⟩));have h2:=h1.strip m;have ε:(strip ((d,EV.xn es)::(s,.bx (cs.set off ⟨T,.undef⟩))::O) m).get d=.xn es:=by
     grind [strip,AB.d3]
    have κ:s≠q:=by rintro rfl;rw[R]at hq;cases hq
    have η:(strip ((d,EV.xn es)::(s,.bx (cs.set off ⟨T,.undef⟩))::O) m).get q=.x1 n fs:=by
     grind [strip,AB.d3]
    obtain ⟨v',w',g,E⟩:=h2.Aar (ty:=o.type) ε η ht hi hz j M N B;rw[Cj _ _ _ hd,AZ _ _ _ _ δ]at g;refine⟨v',w',?_,_,_,hK,?_⟩
    .have ζ:a.eval (.tmp m)=Z:=e4;simp[execOp,L,resolve,invoke,builtin,ζ,show a.eval (.tmp q)=slot a q from rfl,g]
    .have A:(a.put (Y d) Z).put (Y d) v'=a.put (Y d) v':=by simp[Act.put]
     rw [A]at E;refine E.congr' λp=>?_;simp only[strip,AB.d3];by_cases H:d=p
     .simp[H]
     .by_cases I:q=p
      .have J:¬s=p:=λe=>κ (e.trans I.symm);simp[H,I,J]
      .by_cases J:m=p
       .have k4:¬s=p:=λe=>by
         grind
        simp [H,I,J,k4]
       .simp[H,I,J]
  .exact h.elim
 .exact h.elim
theorem AR.renest(h:AR F0 w0 O a w G){s off g r n:Nat}{es fs fs':Fq}(hx:O.nat s off=Y es)(hg:G s (Y off)=Y (g,0))(hr:es[r]?=Y (.list n fs)){w':World}(hb:Q2 (po a G g r) w w')(hz0:∀b lo,po a G g r=Y (b,lo)->lo=0)
  (hrow:∀y,w.cell? ⟨g,r,W⟩=Y y->Be w w' (AW w0.heap.size F0 G) (AW w0.heap.size F0 G)->Q6 w' (AW w0.heap.size F0 G) (po a G g r) n fs' y)(hw:(TV.list n fs').WF):
  AR F0 w0 (O.Abv s off (es.set r (.list n fs'))) a w' G:=by
 obtain ⟨b1,b2,b3,b4,b5⟩:=hb;obtain⟨cs,hs,hk⟩:=AB.og hx;have hsz:s<a.tmps.size:=Bg h hs V;have η:=h.wf s;rw[hs]at η;have hzG:∀lo b,po a G g r=Y (b,lo)->G (a.tmps.size+g) (Y r)=Y (b,lo):=λ_ _ e=>e;have A:∀p i b lo,p<a.tmps.size->G p i=Y (b,lo)->w'.heap[b]?=w.heap[b]?:=by
  intro p i b lo E e;refine b5 b (h.lt _ _ _ _ e).1 λD e'=>?_;have:=(h.gB _ _ _ _ _ _ _ e (hzG _ _ e')).1;omega
 have B:∀C j b lo,¬(C=g/\j=r)->po a G C j=Y (b,lo)->w'.heap[b]?=w.heap[b]?:=by
  intro C j b lo hne e;refine b5 b (h.lt _ _ _ _ e).1 λD e'=>hne ?_;have:=h.gB _ _ _ _ _ _ _ e e'
  grind
 have J:Be w w' (AW w0.heap.size F0 G) (AW w0.heap.size F0 G):=by
  intro b o u hc hF;refine⟨?_,hF⟩;have hlt:b<w.heap.size:=World.block_lt_of_cell? w ⟨b,o,W⟩ hc;rw[World.cell?_of_block (w:=w) (a:=⟨b,o,W⟩) (b5 b hlt (λlo l=>hF (.inr ⟨_,Y r,lo,l,by rw[hz0 b lo l];exact F? _⟩)))];exact hc
 have L:Gr F0 w0 w':=h.below.but b1 b2 b3 b4 (Z:=λk=>∃lo,po a G g r=Y (k,lo)) (λb⟨lo,l⟩=>(h.lt _ _ _ _ l).2.imp id (λe o=>e o (by rw[hz0 b lo l];exact F? _))) (λk hk l=>b5 k (F_ hk h.below.size) (λlo e=>l ⟨lo,e⟩));have H:∀q i,(∃p,AB.nat ((s,.bx (cs.set off ⟨X,.xn (es.set r (.list n fs'))⟩))::O) q i=Y p)->∃p,O.nat q i=Y p:=by
  grind [AB.og,AB.d3,z!,AB.nat,AB.t5]
 have I:∀q i,(∃p,AB.ln ((s,.bx (cs.set off ⟨X,.xn (es.set r (.list n fs'))⟩))::O) q i=Y p)->∃p,O.ln q i=Y p:=by
  rintro q i ⟨⟨n1,es1⟩,E⟩;by_cases hsq:s=q
  .subst hsq;cases i with
   |none=>have:=AB.o4 E;rw[AB.d3,QQ rfl]at this;cases this
   |some i=>
    grind [AB.l3,AB.d3,z!,AB.ln]
  grind [AB.tc]
 simp only[AB.Abv,hs];refine⟨h.gB,λp i b lo e=>⟨F_ (h.lt _ _ _ _ e).1 b4,(h.lt _ _ _ _ e).2⟩,L,h.defers,λp E=>?_,λp E=>?_,λp=>?_⟩
 .rw[AB.d3,aE U];exact h.dom p E
 .rw[AB.d3];by_cases ζ:s=p
  .subst ζ;rw[QQ rfl];have δ:=h.slots s E;rw[hs]at δ;simp only[AK]at δ|-;obtain⟨b,c,θ,e1,e2,e3,e4,e5⟩:=δ;refine⟨b,c,θ,e1,by rw[A _ _ _ _ E e4];exact e2,by simpa using e3,e4,λi d hd=>?_⟩;by_cases hio:off=i
   .subst hio;rw[List.getElem?_set_self (by rcases G? off cs.length with h|h;exact h;rw[List.getElem?_eq_none h]at hk;cases hk)]at hd;simp only[kx]at hd;subst hd;obtain⟨x,f1,f2⟩:=e5 off _ hk;refine⟨x,f1,?_⟩;obtain⟨xs,⟨z0,k1,k2⟩,k3,k4⟩:=(f2:FN _ _ _ _ _ _);refine⟨xs,⟨z0,?_,k2⟩,k3,λj e N=>?_⟩
    .rw[z?];exact k1.kept (λR lo l=>A s (Y off) R 0 E (by rw[k2,l];rfl))
    .rw[A_]at N;by_cases hrj:r=j
     .subst hrj;rw[QQ rfl]at N;split at N
      .simp only[kx]at N;subst N;obtain⟨C,y,n2,fs2,m1,m2,m3,m4⟩:=k4 r _ hr;have hgg:C=g:=by rw[hg]at m1;simpa using m1.symm
       subst hgg;refine⟨C,y,n,fs',m1,m2,rfl,hrow y ?_ J⟩;rcases k1.2 with⟨_,hn,_⟩|⟨g3,cap,cur,e',q1,q2,q3,q4,q5,q6,q7⟩
       .have:es=[]:=w_ hn;subst this;simp at hr
       .rw[k2,q7]at m1;simp only[D!,kx,Prod.mk.injEq,and_true]at m1;subst m1;exact k1.cell q1 r y m2
      .cases N
     .rw[aE hrj]at N;obtain⟨C,y,n2,fs2,m1,m2,m3,m4⟩:=k4 j _ N;exact⟨C,y,n2,fs2,m1,m2,m3,m4.kept J λR lo l=>B C j R lo (λe=>hrj e.2.symm) l⟩
   .rw[z! hio]at hd;obtain⟨x,f1,f2⟩:=e5 i d hd;refine⟨x,f1,f2.Aa9 J (λR lo l=>A _ _ _ _ E l) λC lo j R D l hρ=>B C j R D (λe=>?_) hρ⟩;rw[e.1]at l;have:=(h.gB _ _ _ _ _ _ _ l hg).2;simp only[kx]at this;exact hio this.symm
  .rw[aE ζ];refine AK.kept' J (λ_=>rfl) (λi b lo l=>A _ _ _ _ E l) (λ_ _ _ _ _=>rfl) (λi C lo j R D l hρ=>B C j R D (λe=>?_) hρ) (λq i k _ ε=>⟨H q i ε,h.nh (H q i ε) rfl λj b _ l=>?_⟩) (λq off' _⟨cs',κ⟩=>⟨?_,rfl⟩) (λq i _ ε=>⟨I q i ε,h.xv (I q i ε) rfl λb l=>?_⟩) (h.slots p E)
   .rw[e.1]at l;exact ζ (h.gB _ _ _ _ _ _ _ l hg).1.symm
   .obtain⟨pp,M⟩:=H q i ε;obtain⟨cs',h2,_⟩:=AB.og M;exact A _ _ _ _ (Bg h h2 V) l
   .rw[AB.d3]at κ;split at κ
    next e=>subst e;exact⟨cs,hs⟩
    .exact⟨cs',κ⟩
   .obtain⟨⟨n1,es1⟩,M⟩:=I q i ε;refine A q W b 0 ?_ l;cases i with
    |none=>exact Bg h (AB.o4 M) V|some i=>obtain⟨cs',h2,_⟩:=AB.l3 M;exact Bg h h2 V
 .rw[AB.d3];split
  .intro y hy;rcases A' hy with hy|rfl
   .exact η y hy
   .have h1:(TV.list 1 es).WF:=η _ (v? hk);simp only[TV.WF]at h1|-;refine⟨by simpa using h1.1,?_⟩;rw[Bn]at h1|-;intro t ht;rcases A' ht with ht|rfl
    .exact h1.2 t ht
    .exact hw
  .exact h.wf p
variable{u:TV}
theorem ZU(j:u.cells=[u]):∀(fs:Fq)(c:Nat),(∀e∈fs,e.cells.length=1)->(fs.set c u).flatMap TV.cells=(fs.flatMap TV.cells).set c u
 |[],c,_=>by simp|f::fs,c,h=>by
  obtain ⟨l,g⟩:=List.length_eq_one_iff.1 (h f V);cases c with
  |zero=>simp[A!,g,j]|succ c=>
   simp only[List.set_cons_succ,A!,g,List.singleton_append];rw[ZU j fs c (λe he=>h e (by simp[he]))]
theorem qP(hI:AR F0 w0 O a w G){x v:Operand}{x' v':AF}(hop:o.op=.store t x v)(L:AJ x x'=X)(hv:AJ v v'=X)(hn:Cx P t=Y 1)(h:(AE.nst x' v').wp S O W K):Hd P F0 w0 a w o K:=by
 simp only[AE.wp]at h;split at h
 .rename_i s off r c u hy hu;cases B:O.nat s off with
  |none=>rw[B]at h;exact h.elim|some es=>
   rw [B]at h;simp only[Ai]at h;obtain⟨fs,hr,hc,I,hfl,hK⟩:=h;obtain⟨b,c0,θ,x0,e1,e2,e3,g,len,cap,e0,J,len',δ,e4,e5⟩:=Xp hI L hy B;subst e0;obtain⟨b',c',T',v0,f1,f2,f3,f4,f5,Z⟩:=U4 hI B;rw[e1]at f1;simp only[Value.pointer.injEq,kx,Addr.mk.injEq,and_true,and_self]at f1;subst f1;rw[e2]at f2;cases f2;rw[e3]at f3;simp only[kx]at f3;subst f3;obtain⟨g',cap1,cur,e,xs,g1,g2,g3,_,gz,g4,_⟩:=Vo f5 (by rintro rfl;simp at hr);simp only[Value.slice.injEq,kx,Addr.mk.injEq,and_true]at g1;obtain⟨rfl,rfl,rfl⟩:=g1;obtain⟨y,n,fs',k1,k2,k3⟩:=g4 r _ hr;simp only[TV.list.injEq]at k2;obtain⟨rfl,rfl⟩:=k2;have hcy:=e4;rw[cell_of_row w g r cur e (0,0) g2,k1]at e4;simp only[kx]at e4;subst e4;obtain⟨ys,⟨z0,m1,m2⟩,m3,m4,m5⟩:=k3;rcases m1.2 with⟨e9,_,_⟩|⟨gr,capr,l,er,q1,q2,q3,q4,q5,q6,q7⟩
   .cases e9
   .simp only[Value.slice.injEq,kx,Addr.mk.injEq,and_true]at q1;obtain⟨rfl,rfl,rfl⟩:=q1;have M:=Ax hI hv (t:=u) (by simp[AF.val,hu,EV.val]);have N:=GZ M.1;rw[I]at N;have R:∃y,(a.eval v).cells.toList=[y]/\Ap w (AW w0.heap.size F0 G) u y/\y.oneCell'=X:=by
     obtain ⟨k1,k2⟩:=N;simp only[AT]at k1;obtain⟨y,r,k3,k4,rfl⟩:=k1;exact⟨y,k3,k4,k2 y (by rw[k3];simp)⟩
    obtain ⟨y,k1',k2',k3'⟩:=R;have ε:c<l.size:=U
    have C:=run_storeCells_at P J c er [y] 0 l w q2 (by simp only[y?];omega) (by simpa using k3');simp only[H_]at C;have hsz:(a.eval v).cells.size=1:=by rw[<-E',k1'];rfl
    have hst:(execOp a.eval o).run P w=.ok .skip (w.setRow J (l.toList.take c++[y]++l.toList.drop (c+1)).toArray):=by
     simp only[y?]at C;simp[execOp,hop,e5,Instr.storeAt,Instr.sureAddr,storeVar,B7 hn,hsz,k1',C]
    have H:po a G g r=Y (J,0):=by rw[m2,q7];rfl
    have D:(TV.list 1 fs).WF:=Bn.1 Z.2 _ (v? hr);have hyl:ys.length=fs.length:=by have:=m1.1;omega
    refine ⟨_,hst,_,hK,G,hI.renest B gz hr (fs':=fs.set c u) ?_ ?_ (λy' E hag=>?_) ?_⟩
    .exact⟨rfl,rfl,rfl,V,λk _ hk=>setRow_other w J k _ (λe=>hk 0 (by rw[e];exact H))⟩
    .intro b lo hb;rw[H]at hb;simp only[kx,Prod.mk.injEq]at hb;exact hb.2.symm
    .rw[hcy]at E;simp only[kx]at E;subst E;refine⟨ys.set c y,⟨Y (J,fs.length*1),⟨by rw[z?,z?];omega,.inr ⟨J,δ,_,er,by rw[z?],setRow_heap w J l _ er _ q2,by rw[z?];exact q3,q4,?_,?_,by rw[z?]⟩⟩,by rw[H];rfl⟩,?_,?_,?_⟩
     .simp only[A?,a5,a6,B_,E',y?];omega
     .rw[z?,<-q6];apply B';intro i;have hs2:l.toList.take c++[y]++l.toList.drop (c+1)=l.toList.set c y:=by
       rw [List.set_eq_take_append_cons_drop,QQ (by simpa using ε),bk];rfl
      rw [hs2];simp only[w!,A_,a6,E'];by_cases hi:i<fs.length*1
      .simp only[QQ hi];by_cases κ:c=i
       .subst κ;simp only[if_true];rw[QQ ε,QQ U]
       .simp only[aE κ]
      .simp only[aE hi];rw[aE U]
     .rw[Bf];have η:=(Bf _ _).1 (As hag _ _ m3);rw[ZU I fs c m4];refine⟨by rw[z?,z?];exact η.1,λi t' v'' A j=>?_⟩;rw[A_]at A j;by_cases ζ:c=i
      .subst ζ;rw[QQ rfl]at A j;split at A
       .split at j
        .simp only[kx]at A j;subst A j;exact RR u hfl _ k2'
        .cases j
       .cases A
      .rw[aE ζ]at A j;exact η.2 i t' v'' A j
     .intro e he;rcases A' he with he|rfl
      .exact m4 e he
      .rw[I];rfl
     .intro x L;rcases A' L with L|rfl
      .exact m5 x L
      .exact k3'
    .simp only[TV.WF]at D|-;refine⟨by simpa using D.1,?_⟩;rw[Bn];intro t ht;rcases A' ht with ht|rfl
     .exact Bn.1 D.2 t ht
     .exact M.2
 .exact h.elim
theorem Y9(A:AR F0 w0 O a w G)(C:u.WF):∀{i:Nat}{xs:List Operand}{ys:List AF},Bc xs ys=X->∀{j:Fq},FE O i ys=Y j->(∀x,xs[i]?=Y x->Ap w (AW w0.heap.size F0 G) u (a.eval x))->AT w (AW w0.heap.size F0 G) (j.set i u) (xs.map a.eval)/\TV.k7 (j.set i u)
 |_,[],[],_,j,h,_=>by simp[FE]at h;subst h;exact⟨rfl,trivial⟩|_,[],_::_,h,_,_,_=>by simp[Bc]at h|_,_::_,[],h,_,_,_=>by simp[Bc]at h|0,x::xs,y::ys,c,j,h,ho=>by
  simp only[Bc,gN]at c;simp only[FE]at h;split at h
  next B g=>simp only[kx]at h;subst h;have l:=ho x V;obtain⟨r,H⟩:=Fo A c.2 g;exact⟨⟨_,_,rfl,l,r⟩,C,H⟩
  .cases h
 |i+1,x::xs,y::ys,c,j,h,ho=>by
  simp only[Bc,gN]at c;simp only[FE]at h;split at h
  next t B E g=>simp only[kx]at h;subst h;have l:=Ax A c.1 E;have r:=Y9 A C c.2 g (λx D=>ho x (by simpa using D));exact⟨⟨_,_,rfl,l.1,r.1⟩,l.2,r.2⟩
  .cases h
variable{f:FuncId}{ys:List AF}{ats:Array TypeId}{Q:Exit->Act->World->Prop}
theorem jx(B:AR F0 w0 O a w G)(hd:d<a.tmps.size)(ζ:o.dst=Y d){xs:Array Operand}{i:Nat}(hop:o.op=.call {callee:=.value (.func f),args:=xs,argTypes:=ats})(δ:Bc xs.toList ys=X)(h:(AE.Aas f ys i).wp (AV P) O (Y d) K)
  {next:Act->World->Prop}(hn:∀e env' a' w',K e env'->Q4 a d a'->Bs F0 w0 ((d,e)::env') a' w'->next a' w'):o.wp P a w next Q:=by
 simp only[AE.wp]at h;split at h
 .rename_i d' q hdd hy;simp only[kx]at hdd;subst hdd;split at h
  .rename_i cs hq;obtain⟨hdq,h⟩:=h;cases N:FE O i ys with
   |none=>rw[N]at h;exact h.elim|some ts=>
    rw [N]at h;simp only[Ai]at h;obtain⟨r,hS,hK⟩:=h;have R:q<a.tmps.size:=Bg B hq V;have hxi:∀(xs:List Operand)(ys:List AF)(i:Nat)(y:AF),Bc xs ys=X->ys[i]?=Y y->∃x,xs[i]?=Y x/\AJ x y=X:=by
     intro xs
     induction xs with
     |nil=>intro ys i y I M;cases ys<;>simp[Bc]at I M
     |cons x xs ih=>
      intro ys i y I M;cases ys with
      |nil=>simp[Bc]at I|cons z ys=>
       simp only[Bc,gN]at I
       grind
    obtain ⟨x,hx,hxy⟩:=hxi _ _ _ _ δ hy;have hev:=Jz (a:=a) hxy;have hr:=Ah B hq V;have hwc:=B.wf q;rw[hq]at hwc;simp only[AK]at hr;obtain⟨vs,I,M,h3⟩:=hr;have hone:∀y∈vs.toList,y.oneCell'=X:=by
     intro y hy;obtain⟨i,hi⟩:=B! hy;have hlt:i<cs.length:=by have:=(y!.1 hi).1;simpa[M]using this
     obtain ⟨x,hx,H⟩:=h3 i _ (w? hlt)
     grind [kx,Gn]
    have D:Ap w (AW w0.heap.size F0 G) (.agg (cs.map λ_=>TV.undef)) (a.eval x):=by
     grind [Ap,List.all_eq_true,Bf,D?,v?]
    have hwu:(TV.agg (cs.map λ_=>TV.undef)).WF:=by
     grind [TV.WF,Bn]
    have hv:=Y9 B hwu δ N (λx' hx'=>by rw[hx]at hx';cases hx';exact D);have E:∀b o,AW w0.heap.size F0 G b o↔((AW w0.heap.size F0 G b o/\¬ZF (Br a G q) b o)\/ZF (Br a G q) b o):=by
     intro b o;constructor
     .intro hf;by_cases η:ZF (Br a G q) b o
      .exact .inr η
      .exact .inl ⟨hf,η⟩
     .rintro(hf|⟨p,i,lo,I,M⟩)
      .exact hf.1
      .obtain⟨p,j,ε,_⟩:=CG I;exact .inr ⟨p,j,lo,ε,M⟩
    have hF:(λb o=>(AW w0.heap.size F0 G b o/\¬ZF (Br a G q) b o)\/ZF (Br a G q) b o)=AW w0.heap.size F0 G:=by
     funext b o;exact propext (E b o).symm
    obtain ⟨k0,k3⟩:=hS hv.2 hwc;have hbr:Wz w (λb o=>(AW w0.heap.size F0 G b o/\¬ZF (Br a G q) b o)\/ZF (Br a G q) b o) (Br a G q) cs (slot a q):=by
     rw [hF];refine⟨vs,I,M,λj c H=>?_⟩;obtain⟨x,J,κ⟩:=h3 j c H;refine⟨x,J,by rw[C9];exact κ.po (λg lo j hg=>O8 hg j),Gn κ⟩
    obtain ⟨k1,k4⟩:=k3 (λb o=>AW w0.heap.size F0 G b o/\¬ZF (Br a G q) b o) w (xs.map a.eval) (slot a q) (Br a G q) (by rw[hF];simpa using hv.1)
     (by rw[Array.getElem?_map];rw[<-E!,hx];simp only[D!];rw[hev]) hbr (Jr B R) (λp i b lo e=>by obtain⟨p,j,ε,_⟩:=CG e;exact(B.lt _ _ _ _ ε).1)
     (by
      rintro b o o' ⟨p,i,lo,J,κ⟩ ⟨hf,hnz⟩;by_cases hlo:lo<=o'
      .exact hnz ⟨p,i,lo,J,hlo⟩
      .obtain⟨p,j,ε,_⟩:=CG J;exact Ou B b lo o' ε U hf)
     ⟨B.below.now,λb o⟨_,_,_,e,_⟩=>by obtain⟨_,_,ε,_⟩:=CG e;exact B.low ε⟩
    have hrun:(execOp a.eval o).run P w=(callFunc f (xs.map a.eval)).run P w:=by simp[execOp,hop,resolve,Act.eval,Deferred.ofValue,invoke]
    unfold Oper.wp;rw[hrun,Ef k0 _,Oper.upon_enter];refine k4.mono ?_;rintro e w' ⟨v',rfl,r1,r2⟩;simp only[ζ];refine hn _ _ _ _ (hK k1) ⟨_,rfl⟩ ?_;have θ:∀Z:DK,JA Z->(∀p i b lo,Z p i=Y (b,lo)->b<w'.heap.size/\(w.heap.size<=b\/∃p' j lo',Br a G q p' j=Y (b,lo')/\lo'<=lo))->(∀cs,r.aev≠.bx cs)->(∀n es,r.aev≠.xo n es)->r.aev.WF ->
      (∀A,(∀b o,A b o->(b<w.heap.size/\AW w0.heap.size F0 G b o/\¬ZF (Br a G q) b o)\/ZF Z b o)->AK (a.put (Y d) v') w' A (CN a G q d Z) ((d,r.aev)::(q,.undef)::O) d r.aev v')->Bs F0 w0 ((d,r.aev)::(q,.undef)::O) (a.put (Y d) v') w':=by
     intro Z hzu η hb1 hb2 hwf hrep;refine⟨_,(B.Aaf (s:=q) (d:=d) (Z:=Z) (w':=w') (env':=(d,r.aev)::(q,.undef)::O) (a':=a.put (Y d) v') R hd r1 (Bi _ _ _) (Ek _ _ _) hzu η ?_ ?_ ?_ ?_ ?_ (.inr (.inr ⟨λcs=>by rw[AB.d3,QQ rfl];exact hb1 cs,λn es=>by rw[AB.d3,QQ rfl];exact hb2 n es⟩)) ?_).1⟩
     .intro p hp;rw[AB.d3,aE U,AB.d3,aE U];exact B.dom p hp
     .intro p;rw[AB.d3];split
      .exact hwf
      .rw[AB.d3];split
       .trivial
       .exact B.wf p
     .exact λp hp _=>AZ _ _ _ _ (λe=>hp e.symm)
     .exact λp hp hpq=>by rw[AB.d3,aE (λe=>hp e.symm),AB.d3,aE (λe=>hpq e.symm)]
     .exact λ_=>by rw[AB.d3,aE hdq,AB.d3,QQ rfl]
     .intro A l;rw[AB.d3,QQ rfl,Cj _ _ _ hd];exact hrep A l
    have C:∀(Z:DK)(A:Nat->Nat->Prop),(∀p i b lo,Z p i≠Y (b,lo))->(∀b o,A b o->(b<w.heap.size/\AW w0.heap.size F0 G b o/\¬ZF (Br a G q) b o)\/ZF Z b o)->Be w' w' (λb o=>b<w.heap.size/\AW w0.heap.size F0 G b o/\¬ZF (Br a G q) b o) A:=by
     intro Z A hZ l b o u H hf;refine⟨H,λL=>?_⟩;rcases l b o L with e|⟨p,i,lo,e,_⟩
     .exact hf e
     .exact hZ _ _ _ _ e
    cases r with
    |sh t=>
     refine θ (λ_ _=>W) (λ_ _ _ _ _ _ _ e=>r!) (λ_ _ _ _ e=>r!) t_ t_ k1 λA l=>?_;simp only[At.aev,At.ev,AK];exact B8 (C _ A V l) _ _ r2
    |tp ts=>
     refine θ (λ_ _=>W) (λ_ _ _ _ _ _ _ e=>r!) (λ_ _ _ _ e=>r!) t_ t_ k1 λA l=>?_;simp only[At.aev,At.ev,AK];obtain⟨us,J,κ⟩:=r2;exact⟨us,J,As (C _ A V l) _ _ κ⟩
    |vS ds=>
     obtain ⟨Z,⟨us,J,κ,e3⟩,e4,e5,e6⟩:=r2;refine θ Z e4 e6 (by simp[At.aev]) (by simp[At.aev]) k1 λA l=>?_;simp only[At.aev,AK];refine⟨us,J,κ,λj c H=>?_⟩;obtain⟨y,g1,g2,g3⟩:=e3 j c H;refine⟨y,g1,?_⟩;have hzz:CN a G q d Z d=Z 0:=by simp[CN]
     rw [hzz];refine BE.po (g2.kept (λb o u H hf=>⟨H,λL=>hf ?_⟩) (λ_ _ _=>rfl) BI.rfl') (λg lo j η=>Qh (Bi _ _ _) hd R η j);exact l b o L
    |_=>exact r2.elim
  .exact h.elim
 .exact h.elim
theorem qR(C:AR F0 w0 O a w G){x v:Operand}{x' v':AF}{ps:List (Option AQ)}(hop:o.op=.store t x v)(hx:AJ x x'=X)(hv:AJ v v'=X)(hn:Cx P t=Y n)(h:(AE.stq n ps x' v').wp S O W K):Hd P F0 w0 a w o K:=by
 simp only[AE.wp]at h;split at h
 .rename_i s off u hp hve;split at h
  .rename_i cs hs;obtain⟨b,η,ζ⟩:=HC C hx hp hs;have hr:=Ah C hs V;simp only[AK]at hr;obtain⟨N,c,θ,h1,h2,h3,h4,h5⟩:=hr;rw[η]at h1;simp only[Value.pointer.injEq,kx,Addr.mk.injEq,and_true,and_self]at h1;subst h1;have hw:=C.wf s;rw[hs]at hw;have hst:∀(vs:List Value),vs.length=n->(a.eval v).cells.toList=vs->off+n<=c.size->(∀y∈vs,y.oneCell'=X)->(execOp a.eval o).run P w=.ok .skip (w.setRow b (c.toList.take off++vs++c.toList.drop (off+n)).toArray):=by
    intro vs hl I hle ho;have B:=run_storeCells_at P b off θ vs 0 c w h2 U ho;simp only[H_]at B;have hsz:(a.eval v).cells.size=n:=by rw[<-E',I,hl]
    rw [hl]at B;simp[execOp,hop,ζ,Instr.storeAt,Instr.sureAddr,storeVar,B7 hn,hsz,I,B]
   cases hb:EM ps u.cells with
   |none=>rw[hb]at h;exact h.elim|some ds=>
    rw [hb]at h;simp only[Ai]at h;obtain⟨hl,δ⟩:=Mn hb;obtain⟨hun,hoff,hnx,hK⟩:=h;have ε:=Ax C hv hve;have I:=GZ ε.1;have D:=BJ I.1;refine⟨_,hst _ U rfl U I.2,_,hK,?_⟩
    let zs:Option Nat->Option (Nat×Nat):=λi=>match i with|none=>Y (b,0)|some j=>if off<=j/\j<off+n then W else G s (Y j)
    refine C.rebox_n hs η h2 (zs:=zs) rfl ?_ ?_ ?_ ?_ ?_ ?_
    .intro i N lo hi hz;cases i with
     |none=>exact absurd rfl hi|some j=>
      simp only[zs]at hz;split at hz
      .cases hz
      .exact hz
    .intro i i' N lo H r A;have zn:∀j N lo H,zs (Y j)=Y (N,lo)->zs W=Y (N,H)->False:=by
      intro j N lo H r A;simp only[zs,kx,Prod.mk.injEq]at A;obtain⟨rfl,_⟩:=A;simp only[zs]at r;split at r
      .cases r
      .have:=(C.gB _ _ _ _ _ _ _ r h4).2;cases this
     cases i with
     |none=>cases i' with
      |none=>rfl|some j=>exact(zn j _ _ _ A r).elim
     |some j=>cases i' with
      |none=>exact(zn j _ _ _ r A).elim|some j'=>
       simp only[zs]at r A;split at r<;>split at A
       .cases r
       .cases r
       .cases A
       .exact(C.gB _ _ _ _ _ _ _ r A).2
    .simp only[A?,a5,a6,B_,E']at D|-;omega
    .intro F' w' J E R i y l;rw[List.getElem?_toArray];rcases G? i off with M|hge
     .rw[bk,y_ an,B? M]at l;obtain⟨vv,r,A⟩:=h5 i y l;refine⟨vv,?_,?_⟩
      .rw[bk,y_ an,B? M];simpa using r
      .simp only[zs];rw[aE U];exact A.kept J (λk lo Z=>E k (λe=>by have:=(C.gB _ _ _ _ _ _ _ (e▸Z) h4).2;cases this)) R
     .rcases G? i (off+n)with M|hge2
      .rw[bk,z_ an,y_ an]at l;simp only[a6]at l;rw[H' U]at l;obtain⟨tt,htt,L⟩:=δ _ _ l;have κ:(a.eval v).cells.toList[i-off]?=Y ((a.eval v).cells.toList[i-off]' U):=w? U;refine⟨(a.eval v).cells.toList[i-off]' U,?_,?_⟩
       .rw[bk,z_ an,y_ (by simp only[a6,E']at D|-;omega)];simp only[a6,E'];rw[H' U];exact κ
       .have hzi:zs (Y i)=W:=by simp only[zs];rw[QQ ⟨U,U⟩]
        have g:=((Bf _ _).1 I.1).2 _ tt _ htt κ;rw[hzi];rcases L with rfl|⟨rfl,n',rfl|rfl|rfl⟩
        .exact⟨B8 J _ _ g,I.2 _ (List.getElem_mem _)⟩
        .simp only[Ap]at g;simp only[BE,D5,Bo];exact⟨[],⟨V,.inl ⟨g,rfl,rfl⟩⟩,rfl,V,V⟩
        .simp only[Ap]at g;simp only[BE,D5];exact⟨[],⟨W,⟨V,.inl ⟨g,rfl,rfl⟩⟩,rfl⟩,rfl,V,V⟩
        .simp only[Ap]at g;simp only[BE,D5];exact⟨[],⟨W,⟨V,.inl ⟨g,rfl,rfl⟩⟩,rfl⟩,V,V⟩
      .rw[z_ an]at l;simp only[a5,a6,C_]at l;rw[H' U,show off+n+(i-(off+ds.length))=i from U]at l;obtain⟨vv,r,A⟩:=h5 i y l;refine⟨vv,?_,?_⟩
       .rw[z_ (by simp only[a5,a6,E']at D|-;omega)];simp only[a5,a6,E',C_]at D|-;rw[H' U,show off+n+(i-(off+(a.eval v).cells.size))=i from U];simpa using r
       .simp only[zs];rw[aE U];exact A.kept J (λk lo Z=>E k (λe=>by have:=(C.gB _ _ _ _ _ _ _ (e▸Z) h4).2;cases this)) R
    .intro y l;rcases x!.1 l with l|l
     .rcases x!.1 l with l|l
      .exact hw y (List.mem_of_mem_take l)
      .obtain⟨i,hi⟩:=B! l;obtain⟨tt,ht,L⟩:=δ i y hi;rcases L with rfl|⟨rfl,n',rfl|rfl|rfl⟩
       .exact Bn.1 (Hz ε.2) tt (v? ht)
       .simp[TV.WF,TV.k7]
       .simp[TV.WF,TV.k7]
       .simp[TV.WF,TV.k7]
     .exact hw y (List.mem_of_mem_drop l)
    .intro k tx htx Z;exact .inl (AB.noX_all hnx)
  .exact h.elim
 .exact h.elim
theorem AR.takeAll(h:AR F0 w0 O a w G){cs:List AQ}(hs:O.get s=.bx cs)(hd:d<a.tmps.size)(hds:d≠s){c:Array Value}{θ:TypeId}(Z:slot a s=.pointer (Y ⟨b,0,W⟩))(h2:w.heap[b]?=Y (.cells c θ (0,0))):
  Bs F0 w0 ((d,.vS cs)::(s,.bx (cs.map λ_=>⟨T,.undef⟩))::O) (a.put (Y d) (.agg c)) w:=by
 have hsz:s<a.tmps.size:=Bg h hs V;have hr:=Ah h hs V;have hw:=h.wf s;rw[hs]at hw;simp only[AK]at hr;obtain⟨J,c',T',l,h2',h3,h4,h5⟩:=hr;rw[Z]at l;simp only[Value.pointer.injEq,kx,Addr.mk.injEq,and_true,and_self]at l;subst l;rw[h2]at h2';cases h2'
 let H:BV:=λp i=>if p=d then(if i=W then W else G s i)else if p=s/\i≠W then W else G p i
 have M:∀p i J lo,H p i=Y (J,lo)->(p=d/\i≠W/\G s i=Y (J,lo))\/(p≠d/\¬(p=s/\i≠W)/\G p i=Y (J,lo)):=by
  grind
 have hag:Be w w (AW w0.heap.size F0 G) (AW w0.heap.size F0 H):=λJ o v hc hF=>⟨hc,λhF'=>hF (AW.mono (λp i b'' lo ζ=>by
  grind) hF')⟩
 have I:po (a.put (Y d) (.agg c)) H=po a G:=LV (Bi _ _ _) λq hq=>by
  grind
 refine ⟨H,?_,?_,h.below,g?,?_,?_,?_⟩
 .intro p i p' i' J lo lo' C δ;rcases M _ _ _ _ C with⟨rfl,n0,f1⟩|⟨n1,n2,f1⟩<;>rcases M _ _ _ _ δ with⟨rfl,m0,f2⟩|⟨m1,m2,f2⟩
  .exact⟨rfl,(h.gB _ _ _ _ _ _ _ f1 f2).2⟩
  .have:=h.gB _ _ _ _ _ _ _ f1 f2;exact absurd ⟨this.1.symm,this.2▸n0⟩ m2
  .have:=h.gB _ _ _ _ _ _ _ f1 f2;exact absurd ⟨this.1,this.2▸m0⟩ n2
  .exact h.gB _ _ _ _ _ _ _ f1 f2
 .intro p i J lo C;rcases M _ _ _ _ C with⟨_,_,C⟩|⟨_,_,C⟩<;>exact h.lt _ _ _ _ C
 .intro p ζ;rw[Bi]at ζ;rw[AB.d3,aE U,AB.d3,aE U];exact h.dom p ζ
 .intro p ζ;rw[Bi]at ζ;rw[AB.d3];by_cases A:d=p
  .subst A;rw[QQ rfl,Cj _ _ _ hd];simp only[AK];refine⟨c,rfl,h3,λi y D=>?_⟩;obtain⟨v,C,δ⟩:=h5 i y D;refine⟨v,C,?_⟩;have:H d (Y i)=G s (Y i):=by simp[H]
   rw [this,I];exact δ.kept hag (λ_ _ _=>rfl) BI.rfl'
  .rw[aE A,AZ _ _ _ _ A,AB.d3];by_cases N:s=p
   .subst N;rw[QQ rfl];simp only[AK];refine⟨b,c,θ,Z,h2,by simpa using h3,by simp only[H];rw[aE (λe=>A e.symm),aE V];exact h4,λi y D=>?_⟩;rw[C']at D;simp only[D?]at D;obtain⟨y0,hy0,rfl⟩:=D;obtain⟨v,C,δ⟩:=h5 i y0 hy0;exact⟨v,C,Gn δ,Gn δ⟩
   .rw[aE N];refine AK.kept hag (λi=>by simp only[H];rw[aE (λe=>A e.symm),aE (λe=>N e.1.symm)]) (λ_ _ _ _=>rfl) I BI.rfl' (λr i k hr⟨E,L⟩=>?_) (λr off' hr⟨cs',g⟩=>?_) (λr i hr⟨E,L⟩=>?_) (h.slots p ζ)
    .have l:=AB.pN V L;by_cases j:s=r
     .subst j;obtain⟨cs'',κ,η⟩:=AB.og l.2;rw[AB.d3,QQ rfl]at κ;simp only[EV.bx.injEq]at κ;subst κ;rw[C']at η;cases R:cs[i]? <;>rw[R]at η<;>simp at η
     .have B:O.nat r i=Y E:=by rw[<-l.2];exact(AB.t5 j).symm
      exact ⟨⟨E,B⟩,h.nh ⟨E,B⟩ (AZ _ _ _ _ l.1) (λ_ _ _ _=>rfl)⟩
    .rw[AB.d3]at g;by_cases ε:d=r
     .rw[QQ ε]at g;cases g
     .rw[aE ε,AB.d3]at g;refine⟨?_,AZ _ _ _ _ ε⟩;split at g
      next j=>subst j;exact⟨cs,hs⟩
      .exact⟨_,g⟩
    .have l:=AB.l4 V V L;by_cases j:s=r
     .subst j;obtain⟨n,es⟩:=E;cases i with
      |none=>have:=AB.o4 l.2;rw[AB.d3,QQ rfl]at this;cases this
      |some k=>
       obtain ⟨cs'',κ,η⟩:=AB.l3 l.2;rw[AB.d3,QQ rfl]at κ;simp only[EV.bx.injEq]at κ;subst κ;rw[C']at η;cases R:cs[k]? <;>rw[R]at η<;>simp at η
     .have B:O.ln r i=Y E:=by rw[<-l.2];exact(AB.tc j).symm
      exact ⟨⟨E,B⟩,h.xv ⟨E,B⟩ (AZ _ _ _ _ l.1) (λ_ _=>rfl)⟩
 .intro p;rw[AB.d3];split
  .exact hw
  .rw[AB.d3];split
   .intro y D;simp only[C!]at D;obtain⟨_,_,rfl⟩:=D;trivial
   .exact h.wf p
theorem p8(B:AR F0 w0 O a w G)(hd:d<a.tmps.size)(r:o.op=.load t (.tmp s))(I:B2 P t=Y X)(hn:Cx P t=Y n)(h:(AE.ldg s n).wp S O (Y d) K):A2 P F0 w0 a w o d K:=by
 simp only[AE.wp]at h;split at h
 .rename_i N cs l C;simp only[kx]at l;subst l;obtain⟨J,A,L⟩:=h;have D:=Ah B C V;simp only[AK]at D;obtain⟨b,c,θ,E,H,M,_⟩:=D;have g:=run_loadCells_list (P:=P) w ⟨b,0,W⟩ c.toList (λj v hv=>by
   have:=cell_of_row w b j c θ (0,0) H;rw[show((⟨b,0,W⟩:Addr).add j)=⟨b,j,W⟩by rw[Addr.add_lit,H!],this];simpa using hv)
  rw [E',M,J]at g;refine⟨.agg c,w,?_,_,_,L,B.takeAll C hd A E H⟩;simp[execOp,r,show a.eval (.tmp s)=slot a s from rfl,E,Instr.loadAt,Instr.sureAddr,loadVar,Cg I,B7 hn,g]
 .exact h.elim
end
end Go.Sf
namespace Go.Sf
open Go.RowKit (Below)
open Go.ChangeMaps (setBlock)
section
variable{P:Program}{S:FuncId->Fq->At->Prop}{F0:Nat->Nat->Prop}{w0:W0}{O:AB}{a:Act}{w:World}{G:BV}{d:Nat}{o:Oper}{K:EV->AB->Prop}
variable{v:Value}
theorem AR.mxgo(h:AR F0 w0 O a w G){s d:Nat}{m m':MX}(hs:O.get s=.mx m)(hd:d<a.tmps.size){w':World}{z z2:Option (Nat×Nat)}(κ:Gd (Br a G s) w w')
  (hz:∀b lo,z=Y (b,lo)->b<w'.heap.size/\(w.heap.size<=b\/∃p j c,Br a G s p j=Y (b,c)/\c<=lo))(hz2:∀b lo,z2=Y (b,lo)->b<w'.heap.size/\(w.heap.size<=b\/∃p j c,Br a G s p j=Y (b,c)/\c<=lo))
  (C:∀b lo c,z=Y (b,lo)->z2≠Y (b,c))(hw:m'.WF)
  (D:∀g,Be w w' (AW w0.heap.size F0 G) g->Va w' g z z2 m' v):
  ∃η,AR F0 w0 ((d,.mx m')::(s,.undef)::O) (a.put (Y d) v) w' η/\Be w w' (AW w0.heap.size F0 G) (AW w0.heap.size F0 η):=by
 have R:s<a.tmps.size:=Bg h hs V
 let Z:DK:=λp i=>if p=0 then(if i=W then z else if i=Y 0 then z2 else W)else W
 have δ:∀p i b lo,Z p i=Y (b,lo)->p=0/\((i=W/\z=Y (b,lo))\/(i=Y 0/\z2=Y (b,lo))):=by
  grind
 have l:∀p i b lo,Z p i=Y (b,lo)->b<w'.heap.size/\(w.heap.size<=b\/∃p j c,Br a G s p j=Y (b,c)/\c<=lo):=by
  grind
 have r:∀g:Nat->Nat->Prop,(∀b o,g b o->(b<w.heap.size/\AW w0.heap.size F0 G b o/\¬ZF (Br a G s) b o)\/ZF Z b o)->Be w w' (AW w0.heap.size F0 G) g:=by
  intro g A b o u ζ hf;have hlt:b<w.heap.size:=World.block_lt_of_cell? w ⟨b,o,W⟩ ζ;have H:¬ZF (Br a G s) b o:=λ⟨q,i,lo,h1,h2⟩=>by
   obtain ⟨p,j,B,_⟩:=CG h1;exact hf (.inr ⟨p,j,lo,B,h2⟩)
  refine ⟨κ.cell b o u H ζ,λJ=>?_⟩;rcases A b o J with⟨_,e,_⟩|⟨p,j,lo,e3,e4⟩
  .exact hf e
  .rcases(l _ _ _ _ e3).2 with e5|⟨p2,j2,ε,e5,e6⟩
   .omega
   .exact H ⟨p2,j2,ε,e5,G_ e6 e4⟩
 have key:=h.Aaf (s:=s) (d:=d) (Z:=Z) (w':=w') (env':=(d,.mx m')::(s,.undef)::O) (a':=a.put (Y d) v) R hd κ (Bi _ _ _) (Ek _ _ _) ?_ l ?_ ?_ ?_ ?_ ?_ (.inr (.inr ⟨λcs=>by rw[AB.d3,QQ rfl];simp,λn es=>by rw[AB.d3,QQ rfl];simp⟩)) ?_
 .exact⟨_,key.1,r _ key.2⟩
 .intro p i p' i' b lo c M N;obtain⟨rfl,B⟩:=δ _ _ _ _ M;obtain⟨rfl,I⟩:=δ _ _ _ _ N;refine⟨rfl,?_⟩;rcases B with⟨rfl,B⟩|⟨rfl,B⟩<;>rcases I with⟨rfl,I⟩|⟨rfl,I⟩
  .rfl
  .exact absurd I (C _ _ _ B)
  .exact absurd B (C _ _ _ I)
  .rfl
 .intro p E;rw[AB.d3,aE U,AB.d3,aE U];exact h.dom p E
 .intro p;rw[AB.d3];split
  .exact hw
  .rw[AB.d3];split
   .trivial
   .exact h.wf p
 .exact λp E _=>AZ _ _ _ _ (λe=>E e.symm)
 .exact λp E L=>by rw[AB.d3,aE (λe=>E e.symm),AB.d3,aE (λe=>L e.symm)]
 .exact λe=>by rw[AB.d3,aE (λe'=>e e'.symm),AB.d3,QQ rfl]
 .intro g A;rw[AB.d3,QQ rfl,Cj _ _ _ hd];have θ:CN a G s d Z d=Z 0:=by simp[CN]
  simp [AK];rw[θ];have M:Z 0 W=z:=by simp[Z]
  have N:Z 0 (Y 0)=z2:=by simp[Z]
  rw [M,N];exact D g (r g A)
variable{b:Nat}
theorem TR{g o:Obj}(h:w.heap[b]?=Y g):(setBlock w b o).heap[b]?=Y o/\∀k,k≠b->(setBlock w b o).heap[k]?=w.heap[k]?:=by
 have c:b<w.heap.size:=(E_.1 h).1;refine⟨by simp[setBlock,c],λk j=>?_⟩;simp[setBlock]
 grind
variable{p:Nat}{i:Option Nat}
theorem Ui{Z:DK}{c:World}(g:c.heap=w.heap/\c.os=w.os/\c.tape=w.tape/\c.output=w.output)(l:Z p i=Y (b,0)){o r:Obj}(h:w.heap[b]?=Y r):Gd Z w (setBlock c b o):=by
 obtain ⟨j,B,C,D⟩:=g;have hh:=TR (w:=c) (o:=o) (by rw[j];exact h);refine⟨B,C,D,by simp[setBlock,j],λk _ E=>?_,λk q u hn H=>?_⟩
 .grind
 .have A:k≠b:=λe=>hn ⟨p,i,0,by rw[e];exact l,F? _⟩
  grind [World.cell?_of_block]
variable{t:TypeId}
theorem qE(g:AR F0 w0 O a w G)(hd:d<a.tmps.size)(c:o.op=.makeMap t W)(h:AE.mkm.wp S O (Y d) K):A2 P F0 w0 a w o d K:=by
 simp [AE.wp]at h;replace h:=h w.heap.size;have r:Below w.heap.size w (w.alloc (.map #[] 0)):=(Below.refl _ _).alloc (aN _) _;refine⟨.map (Y w.heap.size),w.alloc (.map #[] 0),?_,_,_,h,_,g.quiet r d hd (.mx (.mp w.heap.size [])) _ (λi=>if i=W then Y (w.heap.size,0)else W) (λi b lo hi=>?_) (λi A b lo j B C=>?_) V ?_ (by intro p l;cases l)⟩
 .simp[execOp,c,Instr.makeMap,newObj,Sem.run]
 .split at hi
  .simp at hi;rw[<-hi.1];exact⟨aN _,V⟩
  .cases hi
 .grind
 .simp[AK,Bv];exact⟨rfl,rfl,#[],0,heap_alloc_new w _,rfl,V,V⟩
variable{s:Nat}
theorem dg(r:AR F0 w0 O a w G)(hd:d<a.tmps.size)(c:o.op=.move (.tmp s)\/o.op=.assign (.tmp s))(h:(AE.mvm s).wp S O (Y d) K):A2 P F0 w0 a w o d K:=by
 have j:(execOp a.eval o).run P w=.ok (.value (slot a s)) w:=by rcases c with c|c<;>simp[execOp,c,show a.eval (.tmp s)=slot a s from rfl]
 have C:∀g:Fq,(∃vs,slot a s=.tuple vs/\AT w (AW w0.heap.size F0 G) g vs.toList)->TV.k7 g->K (.tp g) O->A2 P F0 w0 a w o d K:=by
  rintro g ⟨vs,E,H⟩ B J;refine⟨_,w,j,_,_,J,⟨_,r.quiet (Below.refl _ _) d hd (.tp g) _ (λ_=>W) V V V ?_ B⟩⟩;simp[AK];exact⟨vs,E,As (Kc (Below.refl _ _) d _ V) _ _ H⟩
 simp [AE.wp]at h;split at h
 next b D A=>have l:=Ah r A V;simp[AK]at l;exact Cc r hd (t:=.Aau b) j (by simp[Ap];exact l.1) trivial h
 next b D g A=>have l:=Ah r A V;have B:=r.wf s;rw[A]at B;simp[AK]at l;obtain⟨vs,E,H,L,I⟩:=l;exact C (.Aau b::g) ⟨_,E,⟨_,_,rfl,by simp[Ap],I⟩⟩ ⟨trivial,B.2⟩ h
 next g A=>have l:=Ah r A V;have B:=r.wf s;rw[A]at B;simp[AK]at l;exact C _ l B h
 .exact h.elim
variable{f:FuncId}{ys:List AF}{ats:Array TypeId}{Q:Exit->Act->World->Prop}
theorem kA(r:AR F0 w0 O a w G)(hd:d<a.tmps.size)(g:o.dst=Y d){xs:Array Operand}(C:o.op=.call {callee:=.value (.func f),args:=xs,argTypes:=ats})(D:Bc xs.toList ys=X)(h:(AE.Aan f ys).wp (AV P) O (Y d) K)
  {next:Act->World->Prop}(hn:∀e env' a' w',K e env'->Q4 a d a'->Bs F0 w0 ((d,e)::env') a' w'->next a' w'):o.wp P a w next Q:=by
 simp only[AE.wp]at h;cases l:vals O ys with
 |none=>rw[l]at h;exact h.elim|some ts=>
  rw [l]at h;simp only[Ai]at h;have hv:=Fo r D l;have j:(execOp a.eval o).run P w=(callFunc f (xs.map a.eval)).run P w:=by simp[execOp,C,resolve,Act.eval,Deferred.ofValue,invoke]
  rcases h with⟨L,E,M⟩|⟨A,L,E,M⟩
  .exact YW r hd g (vs:=xs.map a.eval) j ⟨E,rfl⟩ hv.2 j? M hn
  .obtain⟨δ,I⟩:=(E:XB P f ts (.mpr A L)) hv.2;obtain⟨κ,I⟩:=I _ w (xs.map a.eval) j? r.below.now;unfold Oper.wp;rw[j,Ef δ _,Oper.upon_enter];refine I.mono ?_;rintro e w' ⟨v,rfl,Z,b,vs,k1,k2,k3,η,k5⟩;simp[g];refine hn _ _ _ _ (M κ b) ⟨_,rfl⟩ ⟨_,r.quiet Z d hd (.mx (.tm b A L)) v (λi=>if i=W then Y (b,0)else W) (λi N lo hi=>?_) (λi i' N lo ζ B R=>?_) V ?_ κ⟩
   .split at hi
    .simp at hi;rw[<-hi.1];exact⟨k2,k3⟩
    .cases hi
   .split at B
    .split at R
     .simp_all
     .cases R
    .cases B
   .simp[AK,Bv];refine⟨vs,k1,rfl,η,As (λN o u θ hf=>⟨θ,λH=>?_⟩) _ _ k5⟩;rcases H with c|⟨p,i,lo,c,h7⟩
    .exact hf ⟨F_ c.1 r.below.size,.inl c⟩
    .by_cases ε:p=d
     .subst ε;rw[Bv]at c;split at c
      .simp at c;obtain⟨rfl,_⟩:=c;obtain⟨es,J,B,_⟩:=η;simp[World.cell?,B]at θ
      .cases c
     .rw[BD _ _ _ _ ε]at c;exact hf ⟨(r.lt _ _ _ _ c).1,.inr ⟨p,i,lo,c,h7⟩⟩
def Pp(P:Program)(t:TypeId):Bool:=
 match P.underlying t with
 |some (.map k e)=>Ny P (.a [0,0]) k&&(match P.underlying k with
  |some (.struct fs)=>(match fs.toList with
   |[f,g]=>B2 P f.type==Y T&&B2 P g.type==Y T&&f.offset==0&&g.offset==1&&(match P.underlying f.type with|some (.int _)=>X|_=>T)&&(match P.underlying g.type with|some (.int _)=>X|_=>T)
   |_=>T)
  |_=>T)&&(match P.info? e with|some i=>(match i.zero with|some (.int .i64 0)=>X|_=>T)|none=>T)
 |_=>T
variable{F:Nat->Nat->Prop}
theorem TW(k:Int×Int):Ap w F (SK k) (Ec k):=by
 simp only[SK,Ap,Ec];refine⟨_,rfl,?_,rfl⟩;simp only[AT];exact⟨_,_,rfl,rfl,_,_,rfl,rfl,rfl⟩
variable{k:Int×Int}
theorem dP(h:Ap w F (SK k) v):v=Ec k:=by
 simp [SK,Ap]at h;obtain⟨vs,rfl,h,_⟩:=h;simp only[AT]at h;obtain⟨x,r,A,c,y,B,j,g,l⟩:=h;simp[Ap]at c g;subst c g;subst l;subst j;unfold Ec;congr 1
 grind
theorem gC{t:TV}(h:t.Abt?=Y k):t=SK k:=by
 unfold TV.Abt? at h;split at h
 .cases h;rfl
 .cases h
theorem aH(g:Ny P (.a [0,0]) t=X)(x y:Int×Int):(Op.equal t (Ec x) (Ec y)).run P w=.ok (decide (x=y)) w:=by
 obtain ⟨xs,ys,h,j,_,c⟩:=Ws (P:=P) (w:=w) (op:=.eql) (x:=.tmp 0) (y:=.tmp 0) (F:=λ_ _=>False) (cs:=[.int .i64 x.1,.int .i64 x.2]) (ds:=[.int .i64 y.1,.int .i64 y.2]) (q:=decide (x=y)) rfl g (TW x) (TW y) (by
  simp [B1]
  grind)
 rw [<-h,<-j]at c;exact c
theorem St(B:Ny P (.a [0,0]) t=X)(k:Int×Int):∀(L:List MapEntry)(c:BZ)(i:Nat),L.map (λe=>(e.key,e.val))=c.map (λp=>(Ec p.1,Value.int .i64 p.2)) ->
  (c.look k=W/\(Instr.findAsking t (Ec k) L i).run P w=.ok W w/\∀n,c.set k n=c++[(k,n)])\/
  ∃j n e,c.look k=Y n/\(Instr.findAsking t (Ec k) L i).run P w=.ok (Y (i+j,.int .i64 n)) w/\L[j]?=Y e/\e.key=Ec k/\∀m,c.set k m=List.set c j (k,m)
 |[],c,i,h=>by
  have:c=[]:=by simpa using h.symm
  subst this;exact .inl ⟨rfl,by simp[Instr.findAsking],λn=>rfl⟩
 |e::L,[],i,h=>by simp at h|e::L,p::c,i,h=>by
  simp at h;obtain⟨⟨C,D⟩,E⟩:=h;by_cases g:p.1=k
  .refine .inr ⟨0,p.2,e,by simp[BZ.look,g],?_,rfl,by rw[C,g],λm=>by simp[BZ.set,g]⟩;have:(Op.equal t (Ec k) e.key).run P w=.ok X w:=by rw[C,aH B];simp[g]
   simp [Instr.findAsking,this,D]
  .have he:(Op.equal t (Ec k) e.key).run P w=.ok T w:=by
    grind [aH]
   rcases St B k L c (i+1) E with⟨l,r,A⟩|⟨j,n,H,l,r,A,I,J⟩
   .exact .inl ⟨by simp[BZ.look,g,l],by simp[Instr.findAsking,he,r],λn=>by simp[BZ.set,g,A]⟩
   .refine .inr ⟨j+1,n,H,by simp[BZ.look,g,l],?_,u',I,λm=>by simp[BZ.set,g,J]⟩;simp[Instr.findAsking,he,r];omega
theorem WL(r:Ny P (.a [0,0]) t=X)(A:∃fs,P.underlying t=Y (.struct fs))(k:Int×Int)(L:List MapEntry)(c:BZ)(h:L.map (λe=>(e.key,e.val))=c.map (λp=>(Ec p.1,Value.int .i64 p.2))):
  (c.look k=W/\(Instr.findKey t (Ec k) L).run P w=.ok W w/\∀n,c.set k n=c++[(k,n)])\/
  ∃j n e,c.look k=Y n/\(Instr.findKey t (Ec k) L).run P w=.ok (Y (j,.int .i64 n)) w/\L[j]?=Y e/\e.key=Ec k/\∀m,c.set k m=List.set c j (k,m):=by
 obtain ⟨fs,l⟩:=A;cases L with
 |nil=>
  have:c=[]:=by simpa using h.symm
  subst this;exact .inl ⟨rfl,by simp[Instr.findKey,run_underlying l,Instr.findNow],λn=>rfl⟩
 |cons e L=>
  have B:(Instr.findKey t (Ec k) (e::L)).run P w=(Instr.findAsking t (Ec k) (e::L) 0).run P w:=by
   simp [Instr.findKey,run_underlying l,Instr.findNow,Instr.sameNow]
  rw [B];rcases St (w:=w) r k (e::L) c 0 h with g|⟨j,n,C,D,E,H⟩
  .exact .inl g
  .exact .inr ⟨j,n,C,D,by rw[E,H!],H⟩
theorem VL{t k e:TypeId}(hok:Pp P t=X)(ht:P.underlying t=Y (.map k e))(x:Int×Int)(b:Bool):(Instr.checkKey b 10000 k (Ec x)).run P w=.ok () w:=by
 unfold Pp at hok;rw[ht]at hok;simp at hok;obtain⟨⟨_,h2⟩,_⟩:=hok;split at h2
 .rename_i fs hu;split at h2
  .rename_i f g hfs;simp at h2;obtain⟨⟨⟨⟨⟨h3,h4⟩,h5⟩,h6⟩,h7⟩,h8⟩:=h2;have hi1:∃q,P.underlying f.type=Y (.int q):=by
    grind
   have hi2:∃q,P.underlying g.type=Y (.int q):=by
    grind
   obtain ⟨q1,hi1⟩:=hi1;obtain⟨q2,hi2⟩:=hi2;have hfs':fs=#[f,g]:=by apply Array.ext';simpa using hfs
   subst hfs';have p1:(part f.type #[.int .i64 x.1,.int .i64 x.2] f.offset).run P w=.ok (.int .i64 x.1) w:=by
    simp [part,Cg h3,h5]
   have p2:(part g.type #[.int .i64 x.1,.int .i64 x.2] g.offset).run P w=.ok (.int .i64 x.2) w:=by
    simp [part,Cg h4,h6]
   have c1:∀n y,(Instr.checkKey b (n+1) f.type (.int .i64 y)).run P w=.ok () w:=λn y=>by
    simp [Instr.checkKey,run_underlying hi1]
   have c2:∀n y,(Instr.checkKey b (n+1) g.type (.int .i64 y)).run P w=.ok () w:=λn y=>by
    simp [Instr.checkKey,run_underlying hi2]
   show (Instr.checkKey b (9999+1) k (.agg #[.int .i64 x.1,.int .i64 x.2])).run P w=.ok () w;have d1:=c1 9998 x.1;have d2:=c2 9998 x.2;rw[Instr.checkKey];by_cases n1:f.name= "_" <;>by_cases n2:g.name= "_" <;>simp[run_underlying hu,n1,n2,p1,p2,d1,d2]
  .cases h2
 .cases h2
variable{m x:Operand}
theorem qH(B:AR F0 w0 O a w G)(hd:d<a.tmps.size){m' y:AF}(N:o.op=.lookup t m x X)(c:Pp P t=X)(hm:AJ m m'=X)(hx:AJ x y=X)(h:(AE.mlk s m' y).wp S O (Y d) K):A2 P F0 w0 a w o d K:=by
 simp [AE.wp]at h;split at h
 .rename_i b r b' u ζ g hu;obtain⟨rfl,h⟩:=h;have g:=(Ax B hm g).1;simp[Ap]at g;cases θ:u.Abt? with
  |none=>rw[θ]at h;exact h.elim|some k=>
   rw [θ]at h;simp[Ai]at h;have hv:=(Ax B hx hu).1;rw[gC θ]at hv;have hv:=dP hv;have δ:=Ah B ζ V;have C:=B.wf s;rw[ζ]at C;simp[AK]at δ;obtain⟨_,e2,es,κ,e3,e4,_⟩:=δ;have Z:=g;have E:=c;unfold Pp at c;split at c
   .rename_i kt et R;simp at c;obtain⟨⟨h1,h2⟩,L⟩:=c;have H:∃fs,P.underlying kt=Y (.struct fs):=by
     grind
    have A:(zeroValue et).run P w=.ok (.int .i64 0) w:=by
     split at L
     .rename_i i hi;split at L
      next hz=>simp[zeroValue,typeInfo,hi,hz]
      .cases L
     .cases L
    have I:=VL (P:=P) (w:=w) E R k es.isEmpty;have ε:∀n,r.look k=Y n->(TV.int .i64 n).WF:=by
     intro n hn;have:∀l:BZ,BZ.WF l->l.look k=Y n->(TV.int .i64 n).WF:=by
      intro l
      induction l with
      |nil=>intro _ h;cases h
      |cons p l ih=>
       intro C h;simp[BZ.look]at h;split at h
       .cases h;exact(C p V).2.2
       .exact ih (λq hq=>C q (by simp[hq])) h
     exact this r C hn
    have J:∀(n:Int)(q:Bool),(TV.int .i64 n).WF->(Instr.lookup t (a.eval m) (Ec k) X).run P w=.ok (.tuple #[.int .i64 n,.bool q]) w->K (.tp [.int .i64 n,.bool q]) O->A2 P F0 w0 a w o d K:=by
     intro n q hn D hK;refine⟨.tuple #[.int .i64 n,.bool q],w,?_,_,_,hK,_,B.quiet (Below.refl _ _) d hd (.tp [.int .i64 n,.bool q]) _ (λ_=>W) V V V ?_ ⟨hn,trivial,trivial⟩⟩
     .simp[execOp,N,hv,D]
     .simp only[AK];exact⟨_,rfl,_,_,rfl,rfl,_,_,rfl,rfl,rfl⟩
    rcases WL (w:=w) h1 H k es.toList r e4 with⟨M,η,_⟩|⟨j,n,e,M,η,_⟩
    .rw[M]at h;refine J 0 T ⟨a_,a_⟩ ?_ h;simp[Instr.lookup,run_underlying R,Z,MapKept.run_getObj_map e3,I,η,A]
    .rw[M]at h;refine J n X (ε n M) ?_ h;simp[Instr.lookup,run_underlying R,Z,MapKept.run_getObj_map e3,I,η]
   .cases c
 .exact h.elim
theorem BZ.set_wf{g:BZ}{n:Int}(h:BZ.WF g)(A:(TV.int .i64 k.1).WF/\(TV.int .i64 k.2).WF)(hn:(TV.int .i64 n).WF):BZ.WF (g.set k n):=by
 induction g with
 |nil=>
  intro p c
  grind [BZ.set,x?]
 |cons q l r=>
  intro p c;simp[BZ.set]at c;split at c
  .rcases C?.1 c with rfl|c
   .grind
   .exact h p (by simp[c])
  .rcases C?.1 c with rfl|c
   .exact h p V
   .exact r (λx j=>h x j_) p c
theorem ac(k:Int×Int):Instr.sameBits 10000 (Ec k) (Ec k)=X:=by
 show Instr.sameBits (9999+1) (.agg #[.int .i64 k.1,.int .i64 k.2]) (.agg #[.int .i64 k.1,.int .i64 k.2])=X;simp[Instr.sameBits]
theorem qK(C:AR F0 w0 O a w G){m x v:Operand}{m' y u:AF}(θ:o.op=.mapUpdate t m x v)(A:Pp P t=X)(hm:AJ m m'=X)(D:AJ x y=X)(hv:AJ v u=X)(h:(AE.mup s m' y u).wp S O W K):Hd P F0 w0 a w o K:=by
 simp [AE.wp]at h;split at h
 .rename_i b E b' tx hs H hu;split at h
  rotate_left
  .exact h.elim
  rename_i n hn;obtain⟨rfl,h⟩:=h;have H:=(Ax C hm H).1;simp[Ap]at H;cases hk:tx.Abt? with
  |none=>rw[hk]at h;exact h.elim|some k=>
   rw [hk]at h;simp[Ai]at h;have l:=Ax C D hu;rw[gC hk]at l;have hkw:(TV.int .i64 k.1).WF/\(TV.int .i64 k.2).WF:=⟨l.2.1,l.2.2.1⟩;have l:=dP l.1;have B:=Ax C hv hn;have hnw:=B.2;have B:=B.1;simp[Ap]at B;have L:s<a.tmps.size:=Bg C hs V;have hr:=Ah C hs V;have hw:=C.wf s;rw[hs]at hw;simp[AK]at hr;obtain⟨e0,e2,es,r,e3,e4,e5,e6⟩:=hr;have e1:=H;have ε:=A;unfold Pp at A;split at A
   .rename_i kt et ht;simp at A;obtain⟨⟨h1,h2⟩,h3⟩:=A;have κ:∃fs,P.underlying kt=Y (.struct fs):=by
     grind
    have η:=VL (P:=P) (w:=w) ε ht k T;have ζ:∀J:Obj,(execOp a.eval o).run P w=.ok .skip (setBlock w b J)->(∃es' c,J=.map es' c/\es'.toList.map (λe=>(e.key,e.val))=(E.set k n).map (λp=>(Ec p.1,Value.int .i64 p.2))/\es'.toList.Pairwise (λx y=>x.born<y.born)/\∀e∈es'.toList,e.born<c)->Hd P F0 w0 a w o K:=by
     rintro J hrun ⟨es',c,rfl,f1,f2,f3⟩;have hb:Gd (Br a G s) w (setBlock w b (.map es' c)):=Ui ⟨rfl,rfl,rfl,rfl⟩ (p:=0) (i:=W) (by rw[C9];exact e2) e3;have M:AB.get ((s,EV.mx (.mp b (E.set k n)))::O) s=.mx (.mp b (E.set k n)):=by rw[AB.d3,QQ rfl]
     have hi2:=C.Aaf (s:=s) (d:=s) (Z:=Br a G s) (w':=setBlock w b (.map es' c)) (env':=(s,.mx (.mp b (E.set k n)))::O) (a':=a) L L hb rfl rfl (Jr C L) (λq i b lo hq=>⟨?_,.inr ⟨q,i,lo,hq,aN _⟩⟩) (λp hp=>by rw[AB.d3,aE U];exact C.dom p hp) (λp=>?_) (λ_ _ _=>rfl) (λp hp _=>by rw[AB.d3,aE (λe=>hp e.symm)]) (λe=>absurd rfl e) (.inr (.inr ⟨λcs=>by rw[M];simp,λn es=>by rw[M];simp⟩)) (λF' hF'=>?_)
     .exact⟨_,hrun,_,h,_,hi2.1⟩
     .obtain⟨p,j,g1,_⟩:=CG hq;exact F_ (C.lt _ _ _ _ g1).1 hb.size
     .rw[AB.d3];split
      .exact BZ.set_wf hw hkw hnw
      .exact C.wf p
     .rw[M];have hzd:CN a G s s (Br a G s) s=G s:=by simp[CN,C9]
      simp [AK,hzd];exact⟨e0,e2,es',c,(TR e3).1,f1,f2,f3⟩
    have I:∀J,(setObj b J).run P w=.ok () (setBlock w b J):=λJ=>by simp[setObj,Sem.run,e3,setBlock]
    rcases WL (w:=w) h1 κ k es.toList E e4 with⟨g1,g2,g3⟩|⟨j,m,e,g1,g2,g3,g4,g5⟩
    .refine ζ (.map (es.push {key:=Ec k,val:=.int .i64 n,born:=r}) (r+1)) ?_ ⟨_,_,rfl,?_,?_,?_⟩
     .simp[execOp,θ,l,B,Instr.mapUpdate,run_underlying ht,e1,MapKept.run_getObj_map e3,η,g2,I]
     .rw[g3];simp[e4]
     .simp;rw[List.pairwise_append];refine⟨e5,V,λx D y hy=>?_⟩;simp at hy;subst hy;exact e6 x D
     .intro x D;simp only[Array.toList_push,x!,x?]at D;rcases D with D|rfl
      .have:=e6 x D;omega
      .simp
    .have hjl:j<es.size:=by have:=(y!.1 g3).1;simpa using this
     have δ:es[j]?=Y e:=by rw[<-E!];exact g3
     refine ζ (.map (es.modify j λe=>{e with key:=Ec k,val:=.int .i64 n}) r) ?_ ⟨_,_,rfl,?_,?_,?_⟩
     .simp[execOp,θ,l,B,Instr.mapUpdate,run_underlying ht,e1,MapKept.run_getObj_map e3,η,g2,I,δ,g4,Instr.keyThatStays,ac]
     .rw[g5,List.map_set,<-e4];rw[E?];apply B';intro i;simp only[C',D_,A_,az,E'];by_cases g:j=i
      .subst g;rw[QQ rfl,QQ hjl];simp[δ]
      .rw[aE g];simp[g]
     .rw[E?];rw[<-List.pairwise_map (f:=λe:MapEntry=>e.born) (R:=λx y=>x<y)]at e5|-;have:(es.toList.modify j λe=>{e with key:=Ec k,val:=.int .i64 n}).map (λe:MapEntry=>e.born)=es.toList.map (λe:MapEntry=>e.born):=by
       apply B';intro i;simp only[C',D_];cases es.toList[i]? with
       |none=>rfl|some e=>by_cases g:j=i<;>simp[g]
      rw [this];exact e5
     .intro x D;rw[E?]at D;obtain⟨i,hi⟩:=B! D;rw[D_]at hi;cases N:es.toList[i]? with
      |none=>rw[N]at hi;cases hi
      |some e0=>
       rw [N]at hi;have:=e6 e0 (v? N);by_cases g:j=i
       .simp[g]at hi;rw[<-hi];exact this
       .simp[g]at hi;rw[<-hi];exact this
   .cases A
 .exact h.elim
theorem qJ(g:AR F0 w0 O a w G)(hd:d<a.tmps.size){m':AF}{t k e:TypeId}(B:o.op=.range t m)(ε:AJ m m'=X)(κ:P.underlying t=Y (.map k e))(h:(AE.pc s m').wp S O (Y d) K):A2 P F0 w0 a w o d K:=by
 simp [AE.wp]at h;split at h
 .rename_i d' b j us D l E H;simp at l;subst l;obtain⟨⟨hds,rfl⟩,hK⟩:=h;have L:=(Ax g ε H).1;simp[Ap]at L;have M:=Ah g E V;have N:=g.wf s;rw[E]at N;simp[AK]at M;obtain⟨vs,e0,R,⟨es,c,θ,e4,e5,e6⟩,_⟩:=M;have r:Below w.heap.size w (w.alloc (.mapIter (Y b) c #[] c)):=(Below.refl _ _).alloc (aN _) _;have A:=(g.lt _ _ _ _ R).1;have key:∀{C:Nat->Nat->Prop},Va (w.alloc (.mapIter (Y b) c #[] c)) C (Y (w.heap.size,0)) (Y (b,0)) (.mi W j) (.pointer (Y ⟨w.heap.size,0,W⟩)):=by
   intro C;refine⟨_,b,rfl,rfl,rfl,es,c,c,c,#[],by rw[r.block b A];exact θ,heap_alloc_new w _,e5,e6,aN _,aN _,V,?_⟩;have:(es.toList.filter λe=>!(#[]:Array Nat).contains e.born)=es.toList:=V
   rw [this,e4]
  obtain ⟨G',I,_⟩:=g.mxgo (m':=.mi W j) (v:=.pointer (Y ⟨w.heap.size,0,W⟩)) (w':=w.alloc (.mapIter (Y b) c #[] c)) E hd (z:=Y (w.heap.size,0)) (z2:=Y (b,0)) ⟨rfl,rfl,rfl,r.size,λk η _=>r.block k η,λb o u _ J=>by
     rw [r.cell (p:=⟨b,o,W⟩) (World.block_lt_of_cell? w ⟨b,o,W⟩ J)];exact J⟩ (λD lo e=>by
     simp at e;rw[<-e.1];exact⟨V,.inl (aN _)⟩) (λD lo e=>by
     simp at e;obtain⟨rfl,rfl⟩:=e;exact⟨F_ A r.size,.inr ⟨0,W,0,by rw[C9];exact R,aN _⟩⟩) (λD lo ζ f1 f2=>by
     grind) ⟨by intro p Z;simp at Z,N.1⟩ λC δ=>key
  exact ⟨_,_,by simp[execOp,B,L,run_range_map w t k e b es c κ θ],_,_,hK,G',I⟩
 .exact h.elim
theorem eQ{L:List MapEntry}(c:L.Pairwise (λx y=>x.born<y.born)){e:MapEntry}(he:e∈L):L.Perm (e::L.filter λx=>!(x.born==e.born)):=by
 induction L with
 |nil=>cases he
 |cons x L h=>
  rw [List.pairwise_cons]at c;rcases C?.1 he with rfl|he
  .have:L.filter (λx=>!(x.born==e.born))=L:=by
    grind [List.filter_eq_self]
   rw [List.filter_cons_of_neg V,this]
  .have g:¬x.born=e.born:=by have:=c.1 e he;omega
   rw [List.filter_cons_of_pos u_];exact((h c.2 he).cons x).trans (List.Perm.swap _ _ _)
theorem qI(D:AR F0 w0 O a w G)(hd:d<a.tmps.size)(κ:o.op=.next (.tmp s) T)(h:(AE.mnx s).wp S O (Y d) K):A2 P F0 w0 a w o d K:=by
 simp only[AE.wp]at h;split at h
 .rename_i d' last A η hs;simp at η;subst η;obtain⟨hds,hK0,hK1⟩:=h;have L:s<a.tmps.size:=Bg D hs V;have hr:=Ah D hs V;have hw:=D.wf s;rw[hs]at hw;simp[AK]at hr;obtain⟨r,b,e1,e2,e3,es,g,l,c0,c,f1,f2,f3,f4,f5,f6,f7,f8⟩:=hr;have M:(leftOf es c).toList=es.toList.filter λe=>!c.contains e.born:=by
   simp [leftOf]
  rcases run_next_at (P:=P) w o.type r b l c0 c es g f2 f1 f4 f5 with⟨h0,C⟩|⟨e,he,θ,hal,C⟩
  .have:A=[]:=by
    have h1:(es.toList.filter λe=>!c.contains e.born)=[]:=by
     grind
    rw [h1]at f8;have:=f8.length_eq
    grind
   refine ⟨.tuple #[.bool T],w,?_,_,_,hK0 this,_,D.quiet (Below.refl _ _) d hd (.tp [.bool T]) _ (λ_=>W) V V V ?_ ⟨trivial,trivial⟩⟩
   .simp[execOp,κ,show a.eval (.tmp s)=slot a s from rfl,e1,C]
   .simp only[AK];exact⟨_,rfl,_,_,rfl,rfl,rfl⟩
  .rw[M]at he;have hes:e∈es.toList:=(D'.1 he).1;have hns:c.contains e.born=T:=by simpa using(D'.1 he).2
   have hpw:(es.toList.filter λe=>!c.contains e.born).Pairwise (λx y=>x.born<y.born):=f3.sublist List.filter_sublist;have ζ:=eQ hpw he;have hff:(es.toList.filter λe=>!c.contains e.born).filter (λx=>!(x.born==e.born))=es.toList.filter λx=>!(c.push e.born).contains x.born:=by
    rw [List.filter_filter];congr 1;funext x;rw[contains_push];cases c.contains x.born<;>cases(x.born==e.born)<;>rfl
   rw [hff]at ζ;have I:=(ζ.map (λe:MapEntry=>(e.key,e.val))).symm.trans f8;have δ:(e.key,e.val)∈A.map (λp=>(Ec p.1,Value.int .i64 p.2)):=I.mem_iff.1 V;obtain⟨p,ε,B⟩:=C!.1 δ;simp at B;have hpt:=List.perm_cons_erase ε;have hpm3:((es.toList.filter λx=>!(c.push e.born).contains x.born).map (λe=>(e.key,e.val))).Perm ((A.erase p).map (λp=>(Ec p.1,Value.int .i64 p.2))):=by
    have h5:=I.trans (hpt.map (λp=>(Ec p.1,Value.int .i64 p.2)));simp only[List.map_cons,B]at h5;exact h5.cons_inv
   have N:θ.heap=w.heap/\θ.os=w.os/\θ.tape=w.tape/\θ.output=w.output:=by
    rcases hal with rfl|rfl<;>exact⟨rfl,rfl,rfl,rfl⟩
   have hr1:θ.heap[r]?=Y (.mapIter (Y b) l c c0):=by rw[N.1];exact f2
   have hbz:Gd (Br a G s) w (setBlock θ r (.mapIter (Y b) l (c.push e.born) g)):=Ui N (p:=0) (i:=W) (by rw[C9];exact e2) f2;have R:AB.get ((s,EV.mx (.mi (Y p) (A.erase p)))::O) s=.mx (.mi (Y p) (A.erase p)):=by rw[AB.d3,QQ rfl]
   have hrb:b≠r:=λe=>by
    have:=(D.gB _ _ _ _ _ _ _ e2 (e▸e3)).2;cases this
   have J:BZ.WF A:=hw.2;have H:=J p ε;have hi2:=D.Aaf (s:=s) (d:=s) (Z:=Br a G s) (w':=setBlock θ r (.mapIter (Y b) l (c.push e.born) g)) (env':=(s,.mx (.mi (Y p) (A.erase p)))::O) (a':=a) L L hbz rfl rfl (Jr D L) (λq i b lo E=>⟨?_,.inr ⟨q,i,lo,E,aN _⟩⟩) (λp ε=>by rw[AB.d3,aE U];exact D.dom p ε) (λq=>?_) (λ_ _ _=>rfl) (λp ε _=>by rw[AB.d3,aE (λe=>ε e.symm)]) (λe=>absurd rfl e) (.inr (.inr ⟨λcs=>by rw[R];simp,λn es=>by rw[R];simp⟩)) (λF' hF'=>?_)
   .refine⟨.tuple #[.bool X,e.key,e.val],_,?_,_,_,hK1 p (A.erase p) hpt,_,hi2.1.quiet (Below.refl _ _) d hd (.tp [.bool X,SK p.1,.int .i64 p.2]) _ (λ_=>W) V V V ?_ ⟨trivial,⟨H.1,H.2.1,trivial⟩,H.2.2,trivial⟩⟩
    .simp[execOp,κ,show a.eval (.tmp s)=slot a s from rfl,e1,C]
    .simp only[AK];refine⟨_,rfl,_,_,rfl,rfl,_,_,rfl,?_,_,_,rfl,?_,rfl⟩
     .rw[<-B.1];exact TW p.1
     .simp[Ap];exact B.2.symm
   .obtain⟨p',j,g1,_⟩:=CG E;exact F_ (D.lt _ _ _ _ g1).1 hbz.size
   .rw[AB.d3];split
    .refine⟨?_,λq E=>J q (List.mem_of_mem_erase E)⟩;intro q E;simp at E;subst E;exact H
    .exact D.wf q
   .rw[R];have hzd:CN a G s s (Br a G s) s=G s:=by simp[CN,C9]
    simp [AK,hzd];have hh:=TR (o:=.mapIter (Y b) l (c.push e.born) g) hr1;refine⟨r,b,e1,e2,e3,es,g,l,g,c.push e.born,by rw[hh.2 b hrb,N.1];exact f1,hh.1,f3,f4,f6,f6,λq E=>?_,hpm3⟩;simp at E;subst E;exact⟨c,e,rfl,hes,rfl,B.1.symm,B.2.symm⟩
 .exact h.elim
theorem qC(A:AR F0 w0 O a w G)(hd:d<a.tmps.size)(B:o.op=.entry (.tmp s))(h:(AE.men s).wp S O (Y d) K):A2 P F0 w0 a w o d K:=by
 simp [AE.wp]at h;split at h
 .rename_i p D E;have H:=Ah A E V;have I:=A.wf s;rw[E]at I;simp[AK]at H;obtain⟨r,b,L,ζ,δ,es,C,g,M,J,N,R,Z,f4,f5,f6,θ,f8⟩:=H;obtain⟨j,e,ε,κ,η,g4,g5⟩:=θ p rfl;subst ε η;have hn:(es.toList.map (·.born)).Nodup:=by
   grind
  have l:=run_entry_at (P:=P) w r b g j es M e R N κ hn;have c:=I.1 p V;refine⟨.tuple #[e.key,e.val],w,?_,_,_,h,_,A.quiet (Below.refl _ _) d hd (.tp [SK p.1,.int .i64 p.2]) _ (λ_=>W) V V V ?_ ⟨⟨c.1,c.2.1,trivial⟩,c.2.2,trivial⟩⟩
  .simp[execOp,B,show a.eval (.tmp s)=slot a s from rfl,L,l]
  .simp only[AK];refine⟨_,rfl,_,_,rfl,?_,_,_,rfl,?_,rfl⟩
   .grind[TW]
   grind [Ap]
 .exact h.elim
end
end Go.Sf
