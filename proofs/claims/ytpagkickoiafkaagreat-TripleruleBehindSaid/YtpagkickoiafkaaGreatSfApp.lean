/- Appending to a list that a slot owns. -/
import Derived.Test.YtpagkickoiafkaaGreatSfOps1
set_option linter.all false
open Option renaming some->Y,none->W
open Bool renaming true->X,false->T
open Nat renaming add_mul->v?,zero_add->w_,mul_le_mul_right->w!,lt_or_ge->w?,lt_of_lt_of_le->x_,le_trans->x!,zero_le->x?,min_eq_left->y_,add_sub_cancel_left->y!
open List renaming eq_nil_of_length_eq_zero->y?,take_left->z_,getElem?_toArray->z!,getElem?_append_left->z?,getElem?_take_of_lt->A_,mem_append->A',isEmpty_iff->A!,getElem?_map->A?,getElem?_eq_getElem->B_,getElem_mem->B',getElem?_set->B!,getElem?_append_right->B?,length_singleton->C_,getElem?_drop->C',mem_or_eq_of_mem_set->C!,getElem?_eq_some_iff->C?,getElem?_of_mem->D_,flatMap_cons->D',mem_map->D!,mem_of_getElem?->D?
open Array renaming getElem?_toList->E_,length_toList->E'
open Option renaming map_map->E!,map_eq_some_iff->E?
namespace Go.Sf
open Go.RowKit (Below)
structure Iv(w w':World)(z z':Option (Nat×Nat)):Prop where
 os:w'.os=w.os
 tape:w'.tape=w.tape
 output:w'.output=w.output
 size:w.heap.size<=w'.heap.size
 other:∀k,k<w.heap.size->(∀lo,z≠Y (k,lo))->w'.heap[k]?=w.heap[k]?
 cell:∀b o v,w.cell? ⟨b,o,W⟩=Y v->(∀lo,z=Y (b,lo)->o<lo)->w'.cell? ⟨b,o,W⟩=Y v
 Abo:∀b lo,z'=Y (b,lo)->b<w'.heap.size/\(w.heap.size<=b\/∃lo',z=Y (b,lo')/\lo'<=lo)
theorem Iv.refl(w:World)(z:Option (Nat×Nat))(e:∀b lo,z=Y (b,lo)->b<w.heap.size):Iv w w z z:=
 ⟨rfl,rfl,rfl,aN _,λ_ _ _=>rfl,λ_ _ _ h _=>h,λb lo h=>⟨e b lo h,.inr ⟨lo,h,aN _⟩⟩⟩
section
variable{P:Program}{w:World}
theorem Wt(t ty e D:TypeId)(i:TypeInfo)(E:P.underlying t=Y (.slice e))(hi:P.info? e=Y i)
  (g k l:Nat)(p:Array Value)(H:w.heap[g]?=Y (.cells p D (0,0)))
  (a:Addr)(m c:Nat)(h:List Value)(I:h.length=m*i.size)(q:∀(j:Nat)(u:Value),h[j]?=Y u->w.cell? (a.add j)=Y u)(J:∀u∈h,u.oneCell'=X)
  (A:k+m<=l)(B:k*i.size+h.length<=p.size):
  (Builtin.append_ #[t,t] ty #[.slice (Y ⟨g,0,W⟩) k l,.slice (Y a) m c]).run P w=
   .ok (.slice (Y ⟨g,0,W⟩) (k+m) l) (w.setRow g (p.toList.take (k*i.size)++h++p.toList.drop (k*i.size+h.length)).toArray):=by
 have hf:=run_firstCells_some (P:=P) w i.size m a m c h I q;have C:=run_storeCells_at P g (k*i.size) D h 0 p w H q! J;simp at C;simp[Builtin.append_,run_underlying E,sizeOf,typeInfo,hi,Builtin.lenOf,A,hf,Addr.add_lit,C]
theorem QF(t ty e:TypeId)(i:TypeInfo)(z:Value)(n:Nat)(ht:P.underlying t=Y (.slice e))(hi:P.info? e=Y i)(hz:i.zero=Y z)
  (p:i.size=n)(hby:i.bytes<=4096)(hzs:z.cells.size=n)(hn:0<n)
  (v:Value)(len:Nat)(xs:List Value)(zo:Option (Nat×Nat))(q:Fx w n v len xs zo)
  (ad:Option Addr)(m c:Nat)(l:List Value)(κ:l.length=m*n)(had:ad=W->m=0)(hmc:m<=c)(η:∀a,ad=Y a->∀(j:Nat)(u:Value),l[j]?=Y u->w.cell? (a.add j)=Y u)(h1:∀u∈l,u.oneCell'=X)
  (J:len+m<=AY):
  ∃v' w' z',(Builtin.append_ #[t,t] ty #[v,.slice ad m c]).run P w=.ok v' w'/\Fx w' n v' (len+m) (xs++l) z'/\Iv w w' zo z':=by
 have D:(xs++l).length=(len+m)*n:=by rw[a5,q.1,κ,v?]
 have E:(len+m)*i.bytes<=140737488355328:=by
  calc (len+m)*i.bytes<=AY*4096:=Nat.mul_le_mul J hby
   _<=140737488355328:=a_
 have hml:len+m<=maxLen:=by simp[maxLen,AY]at *;omega
 have N:∀b lo,zo=Y (b,lo)->b<w.heap.size:=by
  intro b lo I;rcases q.2 with⟨_,_,h⟩|⟨g,cap,B,ε,_,hg,_,_,_,_,h⟩
  .rw[h]at I;cases I
  grind
 by_cases hm:m=0
 .subst hm;have hnn:l=[]:=y? (by simpa using κ);subst hnn;refine⟨v,w,zo,?_,by simpa using q,Iv.refl w zo N⟩;have hfc:(Builtin.firstCells n 0 (.slice ad 0 c)).run P w=.ok #[] w:=by
   cases ad<;>simp[Builtin.firstCells,loadCells,loadCellsFrom]
  rcases q.2 with⟨rfl,rfl,_⟩|⟨g,cap,B,ε,rfl,hg,M,_,_,_,_⟩
  .simp[Builtin.append_,run_underlying ht,sizeOf,typeInfo,hi,p,Builtin.lenOf,hfc]
  .simp[Builtin.append_,run_underlying ht,sizeOf,typeInfo,hi,p,Builtin.lenOf,M,hfc,storeCells]
 .cases ad with
  |none=>exact absurd (had rfl) hm|some a=>
   have A:=η a rfl;have L:∀(old:Nat),old<len+m ->
     Fx (w.drew.alloc (.cells (xs.toArray++l.toArray++Builtin.zeroCells z.cells (grownCap w (len+m) old e-(len+m))) e)) n
      (.slice (Y ⟨w.heap.size,0,W⟩) (len+m) (grownCap w (len+m) old e)) (len+m) (xs++l) (Y (w.heap.size,(len+m)*n))/\
     Iv w (w.drew.alloc (.cells (xs.toArray++l.toArray++Builtin.zeroCells z.cells (grownCap w (len+m) old e-(len+m))) e)) zo (Y (w.heap.size,(len+m)*n)):=by
    intro old ho;have hge:=grownCap_ge w (len+m) old e;have ζ:grownCap w (len+m) old e<=maxLen:=grownCap_le_maxLen w (len+m) old e hml;refine⟨⟨D,.inr ⟨w.heap.size,_,_,e,rfl,heap_alloc_new w.drew _,hge,ζ,?_,?_,rfl⟩⟩,⟨rfl,rfl,rfl,V,λk hk _=>Below.heap_alloc w.drew _ k hk,λb o v M _=>?_,λb lo I=>?_⟩⟩
    .simp[Array.size_append,List.size_toArray,size_zeroCells,hzs,q.1,κ,<-v?];congr 1;omega
    .simp;rw[<-bk,<-D];exact z_
    .have I:b<w.heap.size:=World.block_lt_of_cell? w ⟨b,o,W⟩ M;rw[World.cell?_alloc_lt _ _ (a:=⟨b,o,W⟩) (by simpa using I)];simpa using M
    .simp at I;rw[<-I.1];exact⟨V,.inl (aN _)⟩
   rcases q.2 with⟨rfl,rfl,rfl⟩|⟨g,cap,B,ε,rfl,hg,hnc,ζ,hcs,htake,rfl⟩
   .have hx:xs=[]:=y? (by simpa using q.1);subst hx;have δ:=run_append_nil (P:=P) w t ty e i z ht hi hz a m c l (by rw[p];exact κ) A U (by simp[AY]at J;omega) (by have I:=E;simp at I;omega);have H:=L 0 U;simp only[w_,List.nil_append,Array.empty_append]at H δ|-;exact⟨_,_,_,δ,H.1,H.2⟩
   .by_cases C:len+m<=cap
    .have R:len*i.size+l.length<=B.size:=by rw[κ,hcs,p,<-v?];exact w! _ C
     have δ:=Wt (P:=P) t ty e ε i ht hi g len cap B hg a m c l (by rw[p];exact κ) A h1 C R;rw[p]at δ R;refine⟨_,_,Y (g,(len+m)*n),δ,⟨D,.inr ⟨g,cap,_,ε,rfl,setRow_heap w g B _ ε _ hg,C,ζ,?_,?_,rfl⟩⟩,⟨rfl,rfl,rfl,V,λk _ hk=>setRow_other w g k _ (λe=>hk (len*n) (by rw[e])),λb o u M hlo=>?_,λb lo I=>?_⟩⟩
     .simp;omega
     .rw[htake,<-D];exact z_
     .by_cases hbg:b=g
      .subst hbg;have ho:=hlo (len*n) rfl;rw[cell_of_row _ b o _ ε (0,0) (setRow_heap w b B _ ε _ hg)];rw[cell_of_row w b o B ε (0,0) hg]at M;have hoc:o<B.size:=U
       rw [z!,bk,z? an,A_ ho];simpa using M
      .rw[World.cell?_of_block (w:=w) (a:=⟨b,o,W⟩) (setRow_other w g b _ (λe=>hbg e))];exact M
     .simp at I;obtain⟨rfl,rfl⟩:=I;refine⟨by simpa using N g (len*n) rfl,.inr ⟨len*n,rfl,w! _ U⟩⟩
    .have Z:∀(j:Nat)(u:Value),xs[j]?=Y u->w.cell? ((⟨g,0,W⟩:Addr).add j)=Y u:=λj u hu=>by
      rw [Addr.add_lit,w_];exact q.cell rfl j u hu
     have δ:=run_append_grow (P:=P) w t ty e i z ht hi hz ⟨g,0,W⟩ len cap xs (by rw[p];exact q.1) Z a m c l (by rw[p];exact κ) A U (by simp[AY]at J;omega) (growslice_fits U E);have H:=L cap U;exact⟨_,_,_,δ,H.1,H.2⟩
end
end Go.Sf
namespace Go.Sf
open Go.RowKit (Below)
section
variable{P:Program}{S:FuncId->Fq->At->Prop}{F0:Nat->Nat->Prop}{w0:W0}{O:AB}{a:Act}{w:World}{G:BV}{d:Nat}{o:Oper}{K:EV->AB->Prop}
variable{s:Nat}{v:Value}
theorem AR.app(h:AR F0 w0 O a w G)(hss:s<a.tmps.size){w':World}{z':Option (Nat×Nat)}(hf:Iv w w' (G s W) z')(hd:d<a.tmps.size){t:TV}(ht:t.WF)
  (ζ:∀F',Be w w' (AW w0.heap.size F0 G) F'->(∀b o,F' b o->(b<w0.heap.size/\F0 b o)\/(∃q i lo,G q i=Y (b,lo)/\lo<=o)\/∃lo,z'=Y (b,lo)/\lo<=o)->Bo w' F' z' t v):
  ∃J,AR F0 w0 ((d,.ow t)::Go.Sf.strip O s) (a.put (Y d) v) w' J/\Be w w' (AW w0.heap.size F0 G) (AW w0.heap.size F0 J):=by
 let J:BV:=I8 (I8 G s (λ_=>W)) d (λi=>if i=W then z' else W)
 have I:∀q i b lo,J q i=Y (b,lo)->(q=d/\i=W/\z'=Y (b,lo))\/(q≠d/\q≠s/\G q i=Y (b,lo)):=by
  intro q i b lo M;by_cases E:q=d
  .grind[Bv]
  .simp[J,BD _ _ _ _ E]at M;by_cases L:q=s
   .grind[Bv]
   .rw[BD _ _ _ _ L]at M
    grind
 have hne:∀q i b lo,q≠s->G q i=Y (b,lo)->∀B,G s W≠Y (b,B):=λq i b lo L m B D=>L (h.gB _ _ _ _ _ _ _ m D).1;have R:Be w w' (AW w0.heap.size F0 G) (AW w0.heap.size F0 J):=by
  intro b o u hc δ;have l:∀lo,G s W=Y (b,lo)->o<lo:=λlo l=>by
   rcases w? o lo with h|h
   .exact h
   .exact absurd (.inr ⟨s,W,lo,l,h⟩) δ
  refine ⟨hf.cell b o u hc l,?_⟩;rintro(m|⟨q,i,lo,m,D⟩)
  .exact δ (.inl m)
  .rcases I _ _ _ _ m with⟨_,_,A⟩|⟨_,_,A⟩
   .have H:=World.block_lt_of_cell? w ⟨b,o,W⟩ hc;rcases(hf.Abo b lo A).2 with κ|⟨B,κ,h4⟩
    .simp only at H;omega
    grind
   .exact δ (.inr ⟨q,i,lo,A,D⟩)
 have N:Gr F0 w0 w':=h.below.trans hf.os hf.tape hf.output hf.size (λk hk he=>hf.other k (x_ hk h.below.size) (λlo l=>(h.lt _ _ _ _ l).2.elim (λe=>U) (λe=>he lo (e lo (aN _))))) (λb o u H he hu=>hf.cell b o u hu (λlo l=>(h.lt _ _ _ _ l).2.elim (λe=>U) (λe=>Nat.lt_of_not_le λhle=>he (e o hle))));refine⟨J,⟨?_,?_,N,g?,?_,?_,?_⟩,R⟩
 .intro q i q' i' b lo B m D;have mix:∀q i lo B,z'=Y (b,lo)->q≠s->G q i=Y (b,B)->False:=by
   intro q i lo B A L η;rcases(hf.Abo b lo A).2 with κ|⟨lo2,κ,_⟩
   .have:=(h.lt _ _ _ _ η).1;omega
   grind
  rcases I _ _ _ _ m with⟨rfl,rfl,A⟩|⟨n1,n2,A⟩<;>rcases I _ _ _ _ D with⟨rfl,rfl,η⟩|⟨m1,m2,η⟩
  .exact⟨rfl,rfl⟩
  .exact(mix _ _ _ _ A m2 η).elim
  .exact(mix _ _ _ _ η n2 A).elim
  .exact h.gB _ _ _ _ _ _ _ A η
 .intro q i b lo m;rcases I _ _ _ _ m with⟨_,_,A⟩|⟨_,_,A⟩
  .have:=hf.Abo b lo A;refine⟨this.1,?_⟩;rcases this.2 with κ|⟨B,κ,h4⟩
   .exact .inl (x! h.below.size κ)
   .exact(h.lt _ _ _ _ κ).2.imp id (λe o ho=>e o (x! h4 ho))
  .have:=h.lt _ _ _ _ A;exact⟨x_ this.1 hf.size,this.2⟩
 .intro q M;rw[Bi]at M;rw[AB.d3,aE U];exact(h.strip s).dom q M
 .intro q M;rw[Bi]at M;rw[AB.d3];by_cases E:d=q
  .subst E;rw[QQ rfl,Cj _ _ _ hd];simp[AK,J,Bv];refine ζ _ R λb o δ=>?_;rcases δ with m|⟨q,i,lo,m,D⟩
   .exact .inl m
   .rcases I _ _ _ _ m with⟨_,_,A⟩|⟨_,_,A⟩
    .exact .inr (.inr ⟨lo,A,D⟩)
    .exact .inr (.inl ⟨q,i,lo,A,D⟩)
  .rw[aE E,AZ _ _ _ _ E];simp[Go.Sf.strip,AB.d3];split
   .trivial
   .rename_i hsq;refine AK.kept R (λi=>?_) (λi b lo H=>hf.other b (h.lt _ _ _ _ H).1 (hne q i b lo (λe=>hsq e.symm) H)) (LV (Bi _ _ _) (λq M=>by
     simp [J];rw[BD _ _ _ _ U,BD _ _ _ _ U])) (λg j b lo Z=>by
     exact hf.other b (h.lt _ _ _ _ Z).1 (hne _ _ b lo U Z)) (λr i k Z⟨p,hp⟩=>?_) (λr off Z⟨cs,C⟩=>?_) (λr i Z⟨p,hp⟩=>?_) (h.slots q M)
    .simp[J];rw[BD _ _ _ _ (λe=>E e.symm),BD _ _ _ _ (λe=>hsq e.symm)]
    .have m:=AB.pN V hp;have D:=AB.pN V m.2;exact⟨⟨p,D.2⟩,h.nh ⟨p,D.2⟩ (AZ _ _ _ _ m.1) (λ_ b _ H=>hf.other b (h.lt _ _ _ _ H).1 (λlo l=>D.1 (h.gB _ _ _ _ _ _ _ l H).1))⟩
    .rw[AB.d3]at C;by_cases ε:d=r
     .rw[QQ ε]at C;cases C
     .rw[aE ε]at C;simp[AB.d3]at C;split at C
      .cases C
      .exact⟨⟨cs,C⟩,AZ _ _ _ _ ε⟩
    .have m:=AB.l4 V V hp;have D:=AB.l4 V V m.2;exact⟨⟨p,D.2⟩,h.xv ⟨p,D.2⟩ (AZ _ _ _ _ m.1) (λb H=>hf.other b (h.lt _ _ _ _ H).1 (λlo l=>D.1 (h.gB _ _ _ _ _ _ _ l H).1))⟩
 .intro q;rw[AB.d3];split
  .exact ht
  .exact(h.strip s).wf q
theorem AR.app'(h:AR F0 w0 O a w G){l:TV}(m:O.get s=.ow l){w':World}{z':Option (Nat×Nat)}(hf:Iv w w' (G s W) z')(hd:d<a.tmps.size){t:TV}(B:t.WF)
  (g:∀p,Be w w' (AW w0.heap.size F0 G) p->(∀b o,p b o->(b<w0.heap.size/\F0 b o)\/(∃q i lo,G q i=Y (b,lo)/\lo<=o)\/∃lo,z'=Y (b,lo)/\lo<=o)->Bo w' p z' t v):
  Bs F0 w0 ((d,.ow t)::(s,.tv l)::O) (a.put (Y d) v) w':=by
 obtain ⟨C,u,A⟩:=h.app (Bg h m V) hf hd B g;have hv:=Ax h (x:=.tmp s) (y:=.s s) p? (t:=l) (by simp[AF.val,AF.ev,m,EV.val]);have j:=Bg h m V;by_cases k:d=s
 .subst k;refine⟨C,u.rem d (t:=t) (by rw[Bi];exact j) ?_ B λn=>?_⟩
  .exact(Ax u (x:=.tmp d) (y:=.s d) p? (t:=t) (by simp[AF.val,AF.ev,AB.d3,EV.val])).1
  .simp[Go.Sf.strip,AB.d3];split
   .exact .inl rfl
   .exact .inl rfl
 .refine⟨C,u.rem s (t:=l) (by rw[Bi];exact j) ?_ hv.2 λn=>?_⟩
  .rw[AZ _ _ _ _ k];exact B8 A _ _ hv.1
  .simp[Go.Sf.strip,AB.d3];split
   .exact .inl rfl
   .split
    next e=>exact .inr ⟨e.symm,rfl⟩
    .exact .inl rfl
theorem KJ{l m:Fq}:TV.k7 (l++m)↔TV.k7 l/\TV.k7 m:=by grind[Bn]
variable{x:Operand}{y:AF}{i:TypeInfo}{z:Value}{n:Nat}
theorem pi(L:AR F0 w0 O a w G)(hd:d<a.tmps.size){t e:TypeId}(M:o.op=.call {callee:=.builtin .append,args:=#[.tmp s,x],argTypes:=#[t,t]})
  (ht:P.underlying t=Y (.slice e))(hi:P.info? e=Y i)(hz:i.zero=Y z)(q:i.size=n)(N:i.bytes<=4096)(R:z.cells.size=n)(hn:0<n)
  (ε:AJ x y=X)(h:(AE.app n (.s s) y).wp S O (Y d) K):A2 P F0 w0 a w o d K:=by
 simp [AE.wp,AF.ev]at h;split at h
 .rename_i m es m' C κ hy;obtain⟨ζ,δ,I,hK⟩:=h;subst δ;subst ζ;have p:=Ah L κ V;have A:=L.wf s;rw[κ]at A;simp[AK,Bo]at p;obtain⟨xs,h1,h2,h3,h4⟩:=p;have hv:=Ax L ε hy;simp[Ap]at hv;obtain⟨⟨Z,cap,h5,h6,h7,h8⟩,h9⟩:=hv;have B:∃g:List Value,AT w (AW w0.heap.size F0 G) (C.flatMap TV.cells) g/\(∀x∈g,x.oneCell'=X)/\(∀f∈C,f.cells.length=m)/\∀b,Z=Y b->∀(j:Nat)(u:Value),g[j]?=Y u->w.cell? (b.add j)=Y u:=by
   cases Z with
   |none=>
    have:=h7 rfl;subst this;exact⟨[],rfl,V,V,V⟩
   |some b=>
    obtain ⟨k,h11⟩:=h8 b rfl;obtain⟨bb,off,sp⟩:=b;simp only at k h11;by_cases H:C=[]
    .subst H;exact⟨[],rfl,V,V,V⟩
    have k:sp=W:=k.resolve_left H;subst k;have hrow:∀(l:Fq)(off:Nat),II w (AW w0.heap.size F0 G) m l bb off->DD w (AW w0.heap.size F0 G) (l.flatMap TV.cells) bb off/\∀f∈l,f.cells.length=m:=by
     intro l
     induction l with
     |nil=>intro off _;exact⟨trivial,V⟩|cons f l ih=>
      grind [Qe,Im]
    grind [Tp,kx]
  obtain ⟨g,n1,n2,n3,n4⟩:=B;have η:g.length=C.length*m:=by rw[BJ n1,PE m C n3]
  obtain ⟨v',w',z',J,r1,r2⟩:=QF (P:=P) t o.type e i z m ht hi hz q N R hn (slot a s) es.length xs (G s W) h1 Z C.length cap g η (λe=>by rw[h7 e];rfl) h6 n4 n2 I;refine⟨v',w',?_,_,_,hK,L.app' κ r2 hd ?_ λF' D hF'=>?_⟩
  .simp[execOp,M,resolve,invoke,builtin,show a.eval (.tmp s)=slot a s from rfl,h5,J]
  .simp only[EV.WF,TV.WF]at A h9|-;exact⟨by rw[a5];exact U3 U,KJ.2 ⟨A.2,h9.2⟩⟩
  .simp only[Bo];refine⟨xs++g,by rw[a5];exact r1,?_,?_,?_⟩
   .rw[List.flatMap_append];exact ID (As D _ _ h2) (As D _ _ n1)
   .intro e he;rcases A'.1 he with he|he
    .exact h3 e he
    .exact n3 e he
   .intro x E;rcases A'.1 E with E|E
    .exact h4 x E
    .exact n2 x E
 .exact h.elim
end
end Go.Sf
namespace Go.Sf
open Go.RowKit (Below)
def lD:TV->Bool
 |.list _ es=>es.isEmpty|.xl _ es=>es.isEmpty|.xn es=>es.isEmpty|_=>T
def U6(c:AQ)(v:Value):Bool:=if c.own then lD c.t&&MO v else D9 c.t v&&v.oneCell'
def Oq:List AQ->List Value->Bool
 |[],vs=>vs.isEmpty|c::cs,vs=>match vs with|v::vs=>U6 c v&&Oq cs vs|[]=>T
section
variable{w:World}{F:Nat->Nat->Prop}
variable{ρ:Hc}{v:Value}
theorem WD{c:AQ}(h:U6 c v=X):BE w F ρ W c v/\c.t.WF:=by
 obtain ⟨_|_,t⟩:=c
 .simp[U6]at h;have e:=HK w F t v h.1;exact⟨⟨e.1,h.2⟩,e.2⟩
 .simp[U6]at h;cases t<;>simp only[lD,Bool.false_eq_true,false_and]at h
  next n es=>rw[A!]at h;obtain⟨rfl,h⟩:=h;refine⟨?_,V,trivial⟩;simp only[BE,D5,Bo];exact⟨[],⟨V,.inl ⟨Jh h,rfl,rfl⟩⟩,rfl,V,V⟩
  next n es=>rw[A!]at h;obtain⟨rfl,h⟩:=h;refine⟨?_,V,trivial⟩;simp only[BE,D5];exact⟨[],⟨W,⟨V,.inl ⟨Jh h,rfl,rfl⟩⟩,rfl⟩,rfl,V,V⟩
  next es=>rw[A!]at h;obtain⟨rfl,h⟩:=h;refine⟨?_,V,trivial⟩;simp[BE,D5];exact⟨[],⟨W,⟨V,.inl ⟨Jh h,rfl,rfl⟩⟩,rfl⟩,V,V⟩
theorem Nz{ρ:Hc}:∀{cs:List AQ}{vs:List Value},Oq cs vs=X->vs.length=cs.length/\(∀(i:Nat)(c:AQ),cs[i]?=Y c->∃x,vs[i]?=Y x/\BE w F ρ W c x)/\∀c∈cs,c.t.WF
 |[],vs,h=>by simp[Oq]at h;subst h;simp|c::cs,[],h=>by simp[Oq]at h|c::cs,v::vs,h=>by
  simp [Oq]at h;obtain⟨j,k,l⟩:=Nz (cs:=cs) (vs:=vs) h.2;have g:=WD (w:=w) (F:=F) (ρ:=ρ) h.1;refine⟨j_,λi c' e=>?_,λc' e=>?_⟩
  .cases i with
   |zero=>simp at e;subst e;exact⟨v,rfl,g.1⟩|succ i=>exact k i c' h_
  .rcases List.mem_cons.1 e with rfl|e
   .exact g.2
   .exact l c' e
end
def VP(O:AB):Option Nat->AB
 |some q=>Go.Sf.strip O q|none=>O
theorem Qo(O:AB)(q:Option Nat)(p:Nat):(VP O q).get p=.undef\/((VP O q).get p=O.get p/\Y p≠q):=by
 cases q with
 |none=>exact .inr ⟨rfl,V⟩|some e=>
  simp [VP,Go.Sf.strip,AB.d3]
  grind
section
variable{P:Program}{S:FuncId->Fq->At->Prop}{F0:Nat->Nat->Prop}{w0:W0}{O:AB}{a:Act}{w:World}{G:BV}{d:Nat}{o:Oper}{K:EV->AB->Prop}
variable{c:Array Value}{θ:TypeId}
theorem AR.box(h:AR F0 w0 O a w G)(hd:d<a.tmps.size)(j:O.ew d=X){cs:List AQ}(q:c.size=cs.length)
  (u:∀l,Be w (w.alloc (.cells c θ)) (AW w0.heap.size F0 G) l->∀(i:Nat)(x:AQ),cs[i]?=Y x->∃v,c[i]?=Y v/\BE (w.alloc (.cells c θ)) l (po a G) W x v)(A:∀x∈cs,x.t.WF):
  Bs F0 w0 ((d,.bx cs)::O) (a.put (Y d) (.pointer (Y ⟨w.heap.size,0,W⟩))) (w.alloc (.cells c θ)):=by
 have m:Below w.heap.size w (w.alloc (.cells c θ)):=(Below.refl _ _).alloc (aN _) _;have p:∀(i:Option Nat)b lo,(if i=W then Y (w.heap.size,0)else W)=Y (b,lo)->w.heap.size<=b/\b<(w.alloc (.cells c θ)).heap.size:=by
  intro i b lo hi;split at hi
  .simp at hi;rw[<-hi.1];exact⟨aN _,V⟩
  .cases hi
 have k:=Kc (F0:=F0) (w0:=w0) (G:=G) m d (λi=>if i=W then Y (w.heap.size,0)else W) (λi b lo hi=>(p i b lo hi).1);refine⟨_,h.quiet m d hd (.bx cs) _ (λi=>if i=W then Y (w.heap.size,0)else W) p (λi D b lo B e g=>?_) (λ_=>j) ?_ A⟩
 .split at e
  .split at g
   .simp_all
   .cases g
  .cases e
 .simp only[AK];refine⟨_,c,θ,rfl,heap_alloc_new w _,q,by rw[Bv];simp,λi x C=>?_⟩;obtain⟨v,e,g⟩:=u _ k i x C;refine⟨v,e,?_⟩;rw[Bv,LV (Bi _ _ _) (λs E=>BD _ _ _ _ U)];simpa using g
variable{x:Operand}{y:AF}{t:TypeId}
theorem mw(m:AR F0 w0 O a w G)(hd:d<a.tmps.size)(j:o.op=.box t x)(k:AJ x y=X)(h:(AE.Abd y).wp S O (Y d) K):A2 P F0 w0 a w o d K:=by
 simp [AE.wp]at h;split at h
 .rename_i u I hv e;simp at e;subst e;obtain⟨l,E⟩:=h;have A:=Ax m k hv;have p:=GZ A.1;have B:=BJ p.1;refine⟨_,_,by simp[execOp,j,Instr.box,newVar,newRow],_,_,E,m.box hd l (c:=(a.eval x).cells) (θ:=t) q! (λH q i c g=>?_) (λc g=>?_)⟩
  .rw[A?]at g;simp at g;obtain⟨J,L,rfl⟩:=g;have C:i<u.cells.length:=by
    grind
   have D:(a.eval x).cells.toList[i]?=Y ((a.eval x).cells.toList[i]' U):=B_ U;refine⟨(a.eval x).cells.toList[i]' U,by rw[<-E_];exact D,?_,p.2 _ (B' _)⟩
   grind [B8,Bf]
  grind [Bn,Hz]
 .exact h.elim
variable{i:TypeInfo}{z:Value}
theorem ph(k:AR F0 w0 O a w G)(hd:d<a.tmps.size){cs:List AQ}(g:o.op=.alloc t)(hi:P.info? t=Y i)(l:i.zero=Y z)(e:Oq cs z.cells.toList=X)(h:(AE.alc cs).wp S O (Y d) K):A2 P F0 w0 a w o d K:=by
 simp [AE.wp]at h;obtain⟨j,p⟩:=h;refine⟨_,_,?_,_,_,p,k.box hd j (c:=z.cells) (θ:=t) (by have:=(Nz (w:=w) (F:=λ_ _=>False) (ρ:=λ_ _=>W) e).1;simpa using this) (λA _ i c m=>?_) (Nz (w:=w) (F:=λ_ _=>False) (ρ:=λ_ _=>W) e).2.2⟩
 .simp[execOp,g,Instr.alloc,zeroValue,typeInfo,hi,l,newVar,newRow]
 .obtain⟨x,q,u⟩:=(Nz e).2.1 i c m;exact⟨x,by simpa using q,u⟩
variable{s off:Nat}
theorem HC(j:AR F0 w0 O a w G)(g:AJ x y=X)(e:y.place O=Y (s,off)){cs:List AQ}(k:O.get s=.bx cs):
  ∃b,slot a s=.pointer (Y ⟨b,0,W⟩)/\a.eval x=.pointer (Y ⟨b,off,W⟩):=by
 cases y with
 |c t=>simp[AF.place]at e|s n=>
  cases x<;>simp[AJ]at g;subst g;rename_i n;simp[AF.place]at e;have h:=Ah j k V;simp only[AK]at h;obtain⟨b,c,θ,m,_⟩:=h;split at e
  next q l he=>simp at e;obtain⟨rfl,rfl⟩:=e;have h:=Ah j he V;simp only[AK]at h;obtain⟨p,u,A⟩:=h ⟨cs,k⟩;exact⟨p,u,A⟩
  next cs' he=>simp at e;obtain⟨rfl,rfl⟩:=e;exact⟨b,m,m⟩
  .cases e
variable{b:Nat}
theorem AR.Abr(h:AR F0 w0 O a w G){cs cs':List AQ}(hs:O.get s=.bx cs)(R:slot a s=.pointer (Y ⟨b,0,W⟩)){c c':Array Value}(D:w.heap[b]?=Y (.cells c θ (0,0)))
  {q:Option Nat}(hqs:q≠Y s)(hqlt:∀p,q=Y p->p<a.tmps.size){zs:Option Nat->Option (Nat×Nat)}(hzb:zs W=Y (b,0))
  (hz:∀i m lo,i≠W->zs i=Y (m,lo)->G s i=Y (m,lo)\/∃q',q=Y q'/\∃j,G q' j=Y (m,lo))
  (hzu:∀i η m lo ε,zs i=Y (m,lo)->zs η=Y (m,ε)->i=η)
  (hl:c'.size=cs'.length)(hcs:∀F' w',Be w w' (AW w0.heap.size F0 G) F'->(∀k,k≠b->w'.heap[k]?=w.heap[k]?)->BI w w' (po a G)->∀(i:Nat)(x:AQ),cs'[i]?=Y x->∃v,c'[i]?=Y v/\BE w' F' (po a G) (zs (Y i)) x v)
  (hw:∀x∈cs',x.t.WF)(hxx:∀(k:Nat)(t:TV),t.Aai=X->cs'[k]?=Y ⟨X,t⟩->(O.noX s (Y k)=X\/(cs[k]?=Y ⟨X,t⟩/\c'[k]?=c[k]?))):
  ∃ζ,AR F0 w0 ((s,.bx cs')::VP O q) a (w.setRow b c') ζ/\Be w (w.setRow b c') (AW w0.heap.size F0 G) (AW w0.heap.size F0 ζ):=by
 have hx:∀(k n:Nat)(es:Fq),cs'[k]?=Y ⟨X,.xl n es⟩->(O.noX s (Y k)=X\/((∃p,O.ln s (Y k)=Y p)/\c'[k]?=c[k]?)):=λk n es hk=>
  (hxx k _ rfl hk).imp id λ⟨A,J⟩=>⟨⟨(n,es),by simp[AB.ln,hs,A]⟩,J⟩
 have hxn:∀(k:Nat)(es:Fq),cs'[k]?=Y ⟨X,.xn es⟩->(O.noX s (Y k)=X\/((∃p,O.nat s k=Y p)/\c'[k]?=c[k]?)):=λk es hk=>
  (hxx k _ rfl hk).imp id λ⟨A,J⟩=>⟨⟨es,by simp[AB.nat,hs,A]⟩,J⟩
 have hsz:s<a.tmps.size:=Bg h hs V;have M:G s W=Y (b,0):=by
  have:=Ah h hs V
  grind [AK,kx]
 let ζ:BV:=λp=>if p=s then zs else if Y p=q then(λ_=>W)else G p
 have H:ζ s=zs:=by simp[ζ]
 have u:∀p i m lo,ζ p i=Y (m,lo)->∃δ η,G δ η=Y (m,lo)/\(δ=p\/Y δ=q)/\(p≠s->δ=p/\η=i):=by
  intro p i m lo hp;by_cases B:p=s
  .subst B;rw[H]at hp;by_cases hi:i=W
   .grind
   grind
  grind
 have hqout:∀p i m lo,ζ p i=Y (m,lo)->Y p≠q:=by
  grind
 have l:∀k,k≠b->(w.setRow b c').heap[k]?=w.heap[k]?:=λk hk=>setRow_other w b k _ hk;have hag:Be w (w.setRow b c') (AW w0.heap.size F0 G) (AW w0.heap.size F0 ζ):=by
  intro m o v hc hF;have hbb:m≠b:=λe=>hF (.inr ⟨s,W,0,by rw[e];exact M,x? _⟩);refine⟨by rw[World.cell?_of_block (w:=w) (a:=⟨m,o,W⟩) (l m hbb)];exact hc,λhF'=>hF ?_⟩;rcases hF' with A|⟨p,i,lo,A,J⟩
  .exact .inl A
  .obtain⟨δ,η,h3,_⟩:=u p i m lo A;exact .inr ⟨δ,η,lo,h3,J⟩
 have hbelow:Gr F0 w0 (w.setRow b c'):=h.below.but rfl rfl rfl V (Z:=λk=>k=b) (λk hk=>by rw[hk];exact(h.lt _ _ _ _ M).2.imp id (λe o=>e o (x? _))) (λk _ hk=>l k hk);have hrs:BI w (w.setRow b c') (po a G):=λg j m lo hr=>l m (h.Abl hsz M hr);have hrho:po a ζ=po a G:=LV rfl λp hp=>by
  grind
 refine ⟨ζ,⟨?_,?_,hbelow,h.defers,?_,?_,?_⟩,hag⟩
 .intro p i δ η m lo ε A J;by_cases B:p=s<;>by_cases L:δ=s
  .subst B;subst L;rw[H]at A J;exact⟨rfl,hzu i η m lo ε A J⟩
  .obtain⟨r,j,N,I,_⟩:=u p i m lo A;obtain⟨r',j',e3,_,e4⟩:=u δ η m ε J;obtain⟨rfl,rfl⟩:=e4 L;obtain⟨rfl,_⟩:=h.gB _ _ _ _ _ _ _ N e3;rcases I with I|I
   .exact absurd (I.trans B) L
   .exact absurd I (hqout _ _ _ _ J)
  .obtain⟨r,j,N,I,_⟩:=u δ η m ε J;obtain⟨r',j',e3,_,e4⟩:=u p i m lo A;obtain⟨rfl,rfl⟩:=e4 B;obtain⟨rfl,_⟩:=h.gB _ _ _ _ _ _ _ N e3;rcases I with I|I
   .exact absurd (I.trans L) B
   .exact absurd I (hqout _ _ _ _ A)
  .obtain⟨r,j,N,_,I⟩:=u p i m lo A;obtain⟨r',j',e3,_,e4⟩:=u δ η m ε J;obtain⟨rfl,rfl⟩:=I B;obtain⟨rfl,rfl⟩:=e4 L;exact h.gB _ _ _ _ _ _ _ N e3
 .intro p i m lo A;obtain⟨r,j,N,_⟩:=u p i m lo A;have:=h.lt _ _ _ _ N;exact⟨to,this.2⟩
 .intro p hp;rw[AB.d3,aE U];cases q with
  |none=>exact h.dom p hp|some q'=>exact(h.strip q').dom p hp
 .intro p hp;rw[AB.d3];by_cases B:s=p
  .subst B;rw[QQ rfl];simp only[AK];refine⟨b,c',θ,R,setRow_heap w b c c' θ (0,0) D,hl,by rw[H];exact hzb,λi x hx=>?_⟩;obtain⟨v,A,J⟩:=hcs _ _ hag l hrs i x hx;exact⟨v,A,by rw[H,hrho];exact J⟩
  .rw[aE B];have hcase:=Qo O q p;rcases hcase with he|⟨he,hpq⟩<;>rw[he]
   .trivial
   .have hGp:∀i,ζ p i=G p i:=λi=>by simp[ζ];rw[aE (λe=>B e.symm),aE hpq]
    refine AK.kept hag hGp (λi m lo hb'=>l m (λe=>B (h.gB _ _ _ _ _ _ _ M (e▸hb')).1)) hrho hrs (λr i k hr⟨pp,κ⟩=>?_) (λr off hr⟨cs'',C⟩=>⟨?_,rfl⟩) (λr i hr⟨pp,κ⟩=>?_) (h.slots p hp)
    .by_cases E:s=r
     .subst E;obtain⟨cs'',A,J⟩:=AB.og κ;rw[AB.d3,QQ rfl]at A;simp[EV.bx.injEq]at A;subst A;rcases hxn i pp J with h3|⟨h3,h4⟩
      .exact absurd hr (AB.noX_nh h3 p i (.inr rfl) k)
      .refine⟨h3,λv hv=>?_⟩;obtain⟨m,c0,T0,x0,N,I,e3,e4⟩:=hv;rw[R]at N;simp at N;subst N;rw[D]at I;cases I;obtain⟨es0,hes0⟩:=h3;obtain⟨cs0,f1,f2⟩:=AB.og hes0;have hr0:=h.slots s hsz;rw[f1]at hr0;simp only[AK]at hr0;obtain⟨b2,c2,T2,g1,g2,_,_,g5⟩:=hr0;rw[R]at g1;simp at g1;subst g1;rw[D]at g2;cases g2;obtain⟨x1,k1,k2⟩:=g5 i _ f2;rw[e3]at k1;simp at k1;subst k1;refine⟨_,_,_,x0,R,setRow_heap w _ _ c' _ (0,0) D,h4.trans e3,e4.kept λg len cap e=>?_⟩;subst e;have hgz:=FN.nil_or k2;exact l g (λe=>by
        have:=(h.gB _ _ _ _ _ _ _ M (e▸hgz)).2;cases this)
     .rw[AB.t5 E]at κ;have hp2:O.nat r i=Y pp:=by
       grind [Qo,AB.nat_undef,AB.Aaa]
      exact ⟨⟨pp,hp2⟩,h.nh ⟨pp,hp2⟩ rfl (λj m _ hb'=>l m (λe=>E (h.gB _ _ _ _ _ _ _ M (e▸hb')).1))⟩
    .rw[AB.d3]at C;split at C
     next E=>subst E;exact⟨cs,hs⟩
     .rcases Qo O q r with he|⟨he,_⟩<;>rw[he]at C
      .cases C
      .exact⟨_,C⟩
    .by_cases E:s=r
     .subst E;obtain⟨n,es⟩:=pp;cases i with
      |none=>have:=AB.o4 κ;rw[AB.d3,QQ rfl]at this;cases this
      |some k=>
       obtain ⟨cs'',A,J⟩:=AB.l3 κ;rw[AB.d3,QQ rfl]at A;simp[EV.bx.injEq]at A;subst A;rcases hx k n es J with h3|⟨h3,h4⟩
       .have h5:=AB.noX_spec h3 p k (.inr rfl);rcases hr with hr|⟨c,hr⟩
        .exact absurd hr h5.1
        .exact absurd hr (h5.2 c)
       .refine⟨h3,λv hv=>?_⟩;obtain⟨m,c0,T0,N,I,e3⟩:=hv;rw[R]at N;simp at N;subst N;rw[D]at I;cases I;exact⟨_,_,_,R,setRow_heap w _ _ c' _ (0,0) D,h4.trans e3⟩
     .rw[AB.tc E]at κ;have hp2:O.ln r i=Y pp:=by
       grind [Qo,AB.Aaq,AB.wm]
      exact ⟨⟨pp,hp2⟩,h.xv ⟨pp,hp2⟩ rfl (λm hb'=>l m (λe=>E (h.gB _ _ _ _ _ _ _ M (e▸hb')).1))⟩
 .intro p;rw[AB.d3];split
  .exact hw
  .cases q with
   |none=>exact h.wf p|some q'=>exact(h.strip q').wf p
end
end Go.Sf
namespace Go.Sf
open Go.RowKit (Below)
def Hd(P:Program)(F0:Nat->Nat->Prop)(w0:W0)(a:Act)(w:World)(o:Oper)(K:EV->AB->Prop):Prop:=
 ∃w',(execOp a.eval o).run P w=.ok .skip w'/\∃env',K .undef env'/\Bs F0 w0 env' a w'
section
variable{P:Program}{S:FuncId->Fq->At->Prop}{F0:Nat->Nat->Prop}{w0:W0}{O:AB}{a:Act}{w:World}{G:BV}{d:Nat}{o:Oper}{K:EV->AB->Prop}
variable{s b:Nat}{θ:TypeId}
theorem AR.rebox_n(h:AR F0 w0 O a w G){cs cs':List AQ}(C:O.get s=.bx cs)(j:slot a s=.pointer (Y ⟨b,0,W⟩)){c c':Array Value}(g:w.heap[b]?=Y (.cells c θ (0,0)))
  {zs:Option Nat->Option (Nat×Nat)}(l:zs W=Y (b,0))
  (D:∀i e lo,i≠W->zs i=Y (e,lo)->G s i=Y (e,lo))
  (m:∀i A e lo u,zs i=Y (e,lo)->zs A=Y (e,u)->i=A)
  (E:c'.size=cs'.length)(p:∀B w',Be w w' (AW w0.heap.size F0 G) B->(∀k,k≠b->w'.heap[k]?=w.heap[k]?)->BI w w' (po a G)->∀(i:Nat)(x:AQ),cs'[i]?=Y x->∃v,c'[i]?=Y v/\BE w' B (po a G) (zs (Y i)) x v)
  (H:∀x∈cs',x.t.WF)(I:∀(k:Nat)(t:TV),t.Aai=X->cs'[k]?=Y ⟨X,t⟩->(O.noX s (Y k)=X\/(cs[k]?=Y ⟨X,t⟩/\c'[k]?=c[k]?))):
  Bs F0 w0 ((s,.bx cs')::O) a (w.setRow b c'):=by
 obtain ⟨M,N,_⟩:=h.Abr C j g (q:=W) V V l (λi e lo J L=>.inl (D i e lo J L)) m E p H I;exact⟨M,N⟩
theorem AR.rebox_q(h:AR F0 w0 O a w G){cs cs':List AQ}(N:O.get s=.bx cs)(A:slot a s=.pointer (Y ⟨b,0,W⟩)){c c':Array Value}(m:w.heap[b]?=Y (.cells c θ (0,0)))
  {q:Nat}{u:TV}(g:O.get q=.ow u)(B:q≠s){zs:Option Nat->Option (Nat×Nat)}(C:zs W=Y (b,0))
  (R:∀i l lo,i≠W->zs i=Y (l,lo)->G s i=Y (l,lo)\/∃J,Y q=Y J/\∃j,G J j=Y (l,lo))
  (D:∀i L l lo H,zs i=Y (l,lo)->zs L=Y (l,H)->i=L)
  (ε:c'.size=cs'.length)(E:∀M w',Be w w' (AW w0.heap.size F0 G) M->(∀k,k≠b->w'.heap[k]?=w.heap[k]?)->BI w w' (po a G)->∀(i:Nat)(x:AQ),cs'[i]?=Y x->∃v,c'[i]?=Y v/\BE w' M (po a G) (zs (Y i)) x v)
  (κ:∀x∈cs',x.t.WF)(η:∀(k:Nat)(t:TV),t.Aai=X->cs'[k]?=Y ⟨X,t⟩->(O.noX s (Y k)=X\/(cs[k]?=Y ⟨X,t⟩/\c'[k]?=c[k]?))):
  Bs F0 w0 ((s,.bx cs')::(q,.tv u)::O) a (w.setRow b c'):=by
 obtain ⟨δ,Z,I⟩:=h.Abr N A m (q:=Y q) q! (λp ζ=>by cases ζ;exact Bg h g V) C R D ε E κ η;have hv:=Ax h (x:=.tmp q) (y:=.s q) p? (t:=u) (by simp[AF.val,AF.ev,g,EV.val]);refine⟨δ,Z.rem q (t:=u) (Bg h g V) (B8 I _ _ hv.1) hv.2 λn=>?_⟩;simp[VP,Go.Sf.strip,AB.d3];split
 .exact .inl rfl
 .split
  next e=>exact .inr ⟨e.symm,rfl⟩
  .exact .inl rfl
variable{t:TypeId}{n:Nat}
theorem hU(B:AR F0 w0 O a w G){x v:Operand}{x' v':AF}(hop:o.op=.store t x v)(hx:AJ x x'=X)(hv:AJ v v'=X)(hn:Cx P t=Y n)(h:(AE.st n x' v').wp S O W K):Hd P F0 w0 a w o K:=by
 simp only[AE.wp]at h;split at h
 .rename_i s off hp;split at h
  .rename_i cs hs;obtain⟨b,Z,hadr⟩:=HC B hx hp hs;have hr:=Ah B hs V;simp only[AK]at hr;obtain⟨L,c,θ,h1,h2,h3,h4,h5⟩:=hr;rw[Z]at h1;simp at h1;subst h1;have hw:=B.wf s;rw[hs]at hw;have hst:∀(vs:List Value),vs.length=n->(a.eval v).cells.toList=vs->off+n<=c.size->(∀y∈vs,y.oneCell'=X)->(execOp a.eval o).run P w=.ok .skip (w.setRow b (c.toList.take off++vs++c.toList.drop (off+n)).toArray):=by
    intro vs hl ζ hle ho;have N:=run_storeCells_at P b off θ vs 0 c w h2 U ho;simp at N;have hsz:(a.eval v).cells.size=n:=by rw[<-E',ζ,hl]
    rw [hl]at N;simp[execOp,hop,hadr,Instr.storeAt,Instr.sureAddr,storeVar,B7 hn,hsz,ζ,N]
   split at h
   ·
    rename_i u H;cases v' with
    |c t=>exact h.elim|s q=>
     simp only at h;obtain⟨ε,hn1,η,hK⟩:=h;subst hn1;cases v<;>simp[AJ]at hv;subst hv;rename_i q;simp[AF.ev]at H;have E:=Ah B H V;simp[AK]at E;have hqw:=B.wf q;rw[H]at hqw;have R:=Vv E;have δ:(a.eval (.tmp q)).cells.toList=[slot a q]:=by
      have:a.eval (.tmp q)=slot a q:=rfl;rw[this];cases hsq:slot a q<;>rw[hsq]at R<;>first|rfl|simp[Value.oneCell']at R
     refine ⟨_,hst [slot a q] rfl δ U (by simpa using R),_,hK,?_⟩
     let zs:Option Nat->Option (Nat×Nat):=λi=>match i with|none=>Y (b,0)|some j=>if j=off then G q W else G s (Y j)
     refine B.rebox_q hs Z h2 H (λe=>ε e) (zs:=zs) rfl ?_ ?_ ?_ ?_ ?_ ?_
     .intro i L lo hi κ;cases i with
      |none=>exact absurd rfl hi|some j=>
       simp [zs]at κ;split at κ
       .exact .inr ⟨q,rfl,W,κ⟩
       .exact .inl κ
     .intro i i' L lo D g p;have zn:∀j L lo D,zs (Y j)=Y (L,lo)->zs W=Y (L,D)->False:=by
       intro j L lo D g p;simp[zs]at p;obtain⟨rfl,_⟩:=p;simp[zs]at g;split at g
       .exact ε (B.gB _ _ _ _ _ _ _ g h4).1
       .have:=(B.gB _ _ _ _ _ _ _ g h4).2;cases this
      cases i with
      |none=>cases i' with
       |none=>rfl|some j=>exact(zn j _ _ _ p g).elim
      |some j=>cases i' with
       |none=>exact(zn j _ _ _ g p).elim|some j'=>
        simp [zs]at g p;split at g<;>split at p
        next e3 e4=>rw[e3,e4]
        .exact absurd (B.gB _ _ _ _ _ _ _ g p).1 ε
        .exact absurd (B.gB _ _ _ _ _ _ _ p g).1 ε
        .exact(B.gB _ _ _ _ _ _ _ g p).2
     .simp;omega
     .intro F' w' I C M i y l;rw[B!]at l;by_cases hi:off=i
      .subst hi;rw[QQ rfl,QQ η]at l;simp at l;subst l;refine⟨slot a q,?_,?_⟩
       .rw[z!,bk,B? an];simp;rw[y_ U,Nat.sub_self];rfl
       .simp[BE,zs];exact E.c.kept I (λk lo m=>C k (λe=>ε (B.gB _ _ _ _ _ _ _ (e▸m) h4).1)) M
      .rw[aE hi]at l;obtain⟨vv,g,p⟩:=h5 i y l;refine⟨vv,?_,?_⟩
       .rw[z!];rcases w? i off with A|hge
        .rw[bk,z? an,A_ A];simpa using g
        .rw[B? an];simp only[a5,a6,E',C_];rw[y_ U,C',show off+1+(i-(off+1))=i from U];simpa using g
       .have hi':¬i=off:=λe=>hi e.symm;simp[zs];rw[aE hi'];exact p.kept I (λk lo m=>C k (λe=>l_)) M
     .intro y l;rcases C! l with l|rfl
      .exact hw y l
      .exact hqw
     .intro k tx htx m;rw[B!]at m;by_cases hi:off=k
      .rw[QQ hi]at m;rw[QQ U]at m;simp[AQ.mk.injEq]at m;subst m;cases u<;>first|(simp[Bo]at E;done)|(simp[TV.Aai]at htx;done)
      .rw[aE hi]at m;refine .inr ⟨m,?_⟩;have hkc:k<c.size:=by
        have:=(C?.1 m).1;omega
       rw [z!];rcases w? k off with A|hge
       .rw[bk,z? an,A_ A,E_]
       .rw[B? an];simp only[a5,a6,E',C_];rw[y_ U,C',show off+1+(k-(off+1))=k from U,E_]
   ·
    rename_i u H;obtain⟨hun,η,hK⟩:=h;have hvv:=Xx B hv H;have ζ:=GZ hvv.1;have J:=BJ ζ.1;refine⟨_,hst _ U rfl U ζ.2,_,hK,?_⟩
    let zs:Option Nat->Option (Nat×Nat):=λi=>match i with|none=>Y (b,0)|some j=>if off<=j/\j<off+n then W else G s (Y j)
    refine B.rebox_n hs Z h2 (zs:=zs) rfl ?_ ?_ ?_ ?_ ?_ ?_
    .intro i L lo hi κ;cases i with
     |none=>exact absurd rfl hi|some j=>
      simp only[zs]at κ;split at κ
      .cases κ
      .exact κ
    .intro i i' L lo D g p;have zn:∀j L lo D,zs (Y j)=Y (L,lo)->zs W=Y (L,D)->False:=by
      intro j L lo D g p;simp[zs]at p;obtain⟨rfl,_⟩:=p;simp only[zs]at g;split at g
      .cases g
      .have:=(B.gB _ _ _ _ _ _ _ g h4).2;cases this
     cases i with
     |none=>cases i' with
      |none=>rfl|some j=>exact(zn j _ _ _ p g).elim
     |some j=>cases i' with
      |none=>exact(zn j _ _ _ g p).elim|some j'=>
       simp only[zs]at g p;split at g<;>split at p
       .cases g
       .cases g
       .cases p
       .exact(B.gB _ _ _ _ _ _ _ g p).2
    .simp at J|-;omega
    .intro F' w' I C M i y l;rw[z!];rcases w? i off with A|hge
     .rw[bk,z? an,A_ A]at l;obtain⟨vv,g,p⟩:=h5 i y l;refine⟨vv,?_,?_⟩
      .rw[bk,z? an,A_ A];simpa using g
      .simp[zs];rw[aE U];exact p.kept I (λk lo m=>C k (λe=>l_)) M
     .rcases w? i (off+n)with A|hge2
      .rw[bk,B? an,z? an]at l;simp[A?]at l;rw[y_ U]at l;obtain⟨tt,htt,rfl⟩:=l;have hx':(a.eval v).cells.toList[i-off]?=Y ((a.eval v).cells.toList[i-off]' U):=B_ U;refine⟨(a.eval v).cells.toList[i-off]' U,?_,?_⟩
       .rw[bk,B? an,z? (by simp at J|-;omega)];simp only[a6,E'];rw[y_ U];exact hx'
       .exact⟨B8 I _ _ (((Bf _ _).1 ζ.1).2 _ tt _ htt hx'),ζ.2 _ (B' _)⟩
      .rw[B? an]at l;simp[C']at l;rw[y_ U,show off+n+(i-(off+u.cells.length))=i from U]at l;obtain⟨vv,g,p⟩:=h5 i y l;refine⟨vv,?_,?_⟩
       .rw[B? (by simp at J|-;omega)];simp[C']at J|-;rw[y_ U,show off+n+(i-(off+(a.eval v).cells.size))=i from U];simpa using g
       .simp[zs];rw[aE U];exact p.kept I (λk lo m=>C k (λe=>l_)) M
    .intro y l;rcases A'.1 l with l|l
     .rcases A'.1 l with l|l
      .exact hw y (List.mem_of_mem_take l)
      .simp at l;obtain⟨tt,htt,rfl⟩:=l;exact Bn.1 (Hz hvv.2) tt htt
     .exact hw y (List.mem_of_mem_drop l)
    .intro k tx htx m;have hlen:(cs.take off++u.cells.map (λt=>(⟨T,t⟩:AQ))++cs.drop (off+n)).length=cs.length:=by
      simp;omega
     have hkl:k<cs.length:=by rw[<-hlen];exact(C?.1 m).1
     rw [z!];rcases w? k off with A|hge
     .rw[bk,z? an,A_ A]at m;refine .inr ⟨m,?_⟩;rw[bk,z? an,A_ A,E_]
     .rcases w? k (off+n)with A|hge2
      .rw[bk,B? an,z? an,A?]at m;simp[AQ.mk.injEq,exists_false]at m
      .rw[B? an]at m;simp[C']at m;rw[y_ U,show off+n+(k-(off+u.cells.length))=k from U]at m;refine .inr ⟨m,?_⟩;rw[B? (by simp at J|-;omega)];simp only[a5,a6,E',C']at J|-;rw[y_ U,show off+n+(k-(off+(a.eval v).cells.size))=k from U,E_]
   .exact h.elim
  .exact h.elim
 .exact h.elim
theorem AR.frz(h:AR F0 w0 O a w G){cs:List AQ}(J:O.get s=.bx cs):Bs F0 w0 ((s,.tv (.pt (cs.map (·.t))))::O) a w:=by
 have hsz:s<a.tmps.size:=Bg h J V;have E:=Ah h J V;have hw:=h.wf s;rw[J]at hw;simp only[AK]at E;obtain⟨b,c,θ,h1,h2,h3,η,h5⟩:=E
 let D:BV:=I8 G s (λ_=>W)
 have l:∀p i B lo,D p i=Y (B,lo)->p≠s/\G p i=Y (B,lo):=by
  intro p i B lo m;by_cases g:p=s
  .grind[Bv]
  .simp[D,BD _ _ _ _ g]at m;exact⟨g,m⟩
 have H:Be w w (AW w0.heap.size F0 G) (AW w0.heap.size F0 D):=λB o v ζ δ=>⟨ζ,λL=>δ (AW.mono (λp i Z lo m=>⟨p,i,lo,(l _ _ _ _ m).2,aN _⟩) L)⟩;refine⟨D,λp i p' i' B lo lo' C M=>h.gB _ _ _ _ _ _ _ (l _ _ _ _ C).2 (l _ _ _ _ M).2,λp i B lo C=>h.lt _ _ _ _ (l _ _ _ _ C).2,h.below,h.defers,λp m=>?_,λp m=>?_,λp=>?_⟩
 .rw[AB.d3,aE U];exact h.dom p m
 .rw[AB.d3];by_cases g:s=p
  .subst g;rw[QQ rfl,h1];simp only[AK,Ap];refine⟨b,0,rfl,?_⟩;rw[Im];intro i t R;rw[A?]at R;simp at R;obtain⟨cell,A,rfl⟩:=R;obtain⟨x,hx,I⟩:=h5 i cell A;refine⟨x,?_,?_,Gn I,B8 H _ _ (WW h I)⟩
   .rw[w_,cell_of_row w b i c θ (0,0) h2];exact hx
   .rintro(⟨C,ε⟩|⟨p,j,lo,C,_⟩)
    .exact(h.lt _ _ _ _ η).2.elim (λe=>U) (λe=>h.below.free _ 0 _ (e 0 (x? 0)) ε)
    .obtain⟨M,e3⟩:=l _ _ _ _ C;exact M (h.gB _ _ _ _ _ _ _ e3 η).1
  .rw[aE g];refine AK.kept H (λi=>by simp[D];rw[BD _ _ _ _ (λe=>g e.symm)]) (λ_ _ _ _=>rfl) (LV rfl λq hq=>by simp[D];rw[BD _ _ _ _ U]) BI.rfl' (λr i k E⟨N,u⟩=>⟨⟨N,(AB.pN V u).2⟩,λ_ hv=>hv⟩) (λr off E⟨cs',κ⟩=>?_) (λr i E⟨N,u⟩=>⟨⟨N,(AB.l4 V V u).2⟩,λ_ hv=>hv⟩) (h.slots p m)
   grind [AB.d3]
 .rw[AB.d3];split
  .grind[EV.WF,TV.WF,Bn]
  .exact h.wf p
theorem Wr{w:World}{F g:Nat->Nat->Prop}{z:Option (Nat×Nat)}{j:Fq}{x:Value}(h:Q6 w F z n j x)(k:Be w w F g)(l:∀b lo o,z=Y (b,lo)->¬g b o):Ap w g (.list n j) x:=by
 obtain ⟨ys,⟨p,q,u⟩,A,B,C⟩:=h;have e:Bo w g p (.list n j) x:=⟨ys,q,As k _ _ A,B,C⟩;exact e.rep λb lo o m _=>l b 0 o (by rw[u,m];rfl)
theorem AR.rls(h:AR F0 w0 O a w G){cs:List AQ}(hs:O.get s=.bx cs):Bs F0 w0 ((s,.bx (cs.map AQ.rel))::O) a w:=by
 classical
 have hsz:s<a.tmps.size:=Bg h hs V;have hr:=Ah h hs V;have hw:=h.wf s;rw[hs]at hw;simp only[AK]at hr;obtain⟨b,c,θ,h1,h2,h3,h4,h5⟩:=hr
 let zs:Option Nat->Option (Nat×Nat):=λi=>match i with
  |none=>G s W|some k=>match cs[k]? with
   |some ⟨X,.xl n es⟩=>(G s (Y k)).map λp=>(p.1,es.length*n)|some ⟨X,.xn es⟩=>(G s (Y k)).map λp=>(p.1,es.length*1)|_=>G s (Y k)
 let Q:Nat->Prop:=λp=>a.tmps.size<=p/\∃k lo,G s (Y k)=Y (p-a.tmps.size,lo)
 let D:BV:=λp=>if p=s then zs else if Q p then λ_=>W else G p
 have η:D s=zs:=by simp[D]
 have I:∀p i E lo,D p i=Y (E,lo)->∃C,G p i=Y (E,C)/\C<=lo:=by
  intro p i E lo m;by_cases B:p=s
  .subst B;rw[η]at m;cases i with
   |none=>exact⟨lo,m,aN _⟩|some k=>
    simp [zs]at m;split at m
    next n es hk=>obtain⟨x,_,xs,⟨z0,_,L⟩,_⟩:=h5 k _ hk;simp only[L,E!,E?,Function.comp,Prod.mk.injEq]at m;obtain⟨p,m,q,u⟩:=m;exact⟨0,by rw[L,m,<-q];rfl,x? _⟩
    next es hk=>obtain⟨x,_,xs,⟨z0,_,L⟩,_⟩:=h5 k _ hk;simp only[L,E!,E?,Function.comp,Prod.mk.injEq]at m;obtain⟨p,m,q,u⟩:=m;exact⟨0,by rw[L,m,<-q];rfl,x? _⟩
    .exact⟨lo,m,aN _⟩
  .simp[D,aE B]at m;split at m
   .cases m
   .exact⟨lo,m,aN _⟩
 have M:Be w w (AW w0.heap.size F0 G) (AW w0.heap.size F0 D):=λE o v hc hF=>⟨hc,λhF'=>hF (AW.mono (λp i b'' lo m=>by
  obtain ⟨C,q,u⟩:=I _ _ _ _ m;exact⟨p,i,C,q,u⟩) hF')⟩
 have hrow:∀k g j E lo o,G s (Y k)=Y (g,0)->po a G g j=Y (E,lo)->¬AW w0.heap.size F0 D E o:=by
  intro k g j E lo o L hρ;rintro(⟨q,u⟩|⟨p,i,lo',q,u⟩)
  .exact(h.lt _ _ _ _ hρ).2.elim (λe=>U) (λe=>h.below.free _ lo _ (e lo (aN _)) u)
  .obtain⟨C,e3,_⟩:=I _ _ _ _ q;obtain⟨rfl,_⟩:=h.gB _ _ _ _ _ _ _ hρ e3;simp[D]at q;rw[aE U,QQ ⟨U,k,0,by rw[y!];exact L⟩]at q;cases q
 have hrel:∀{k:Nat}{d:AQ}{x:Value},cs[k]?=Y d->BE w (AW w0.heap.size F0 G) (po a G) (G s (Y k)) d x->BE w (AW w0.heap.size F0 D) (po a D) (zs (Y k)) d.rel x:=by
  intro k d x hk hd;have N:zs (Y k)=match d with
   |⟨X,.xl n es⟩=>(G s (Y k)).map λp=>(p.1,es.length*n)|⟨X,.xn es⟩=>(G s (Y k)).map λp=>(p.1,es.length*1)|_=>G s (Y k):=by
   simp only[zs,hk];obtain⟨o,t⟩:=d;cases o<;>cases t<;>rfl
  generalize hzz:zs (Y k)=z' at N;unfold AQ.rel;split
  .rename_i n es;subst N;obtain⟨xs,⟨z0,δ,k2⟩,k3,k4,k5⟩:=hd;refine⟨xs,?_,As M _ _ k3,k4,k5⟩;have:(G s (Y k)).map (λp=>(p.1,es.length*n))=z0:=by
    rw [k2];rcases δ.2 with⟨_,_,e⟩|⟨g,cap,cur,e,_,_,_,_,_,_,e⟩
    .rw[e];rfl
    .rw[e];rfl
   show Fx w n x es.length xs ((G s (Y k)).map λp=>(p.1,es.length*n));rw[this];exact δ
  .rename_i es;subst N;obtain⟨xs,⟨z0,δ,k2⟩,k3,k4⟩:=hd;have hlen:xs.length=es.length:=by have:=δ.1;omega
   have hone:∀e∈es,e.cells.length=1:=by
    intro e he;obtain⟨j,hj⟩:=D_ he;obtain⟨g,x,n,Z,_,_,rfl,_⟩:=k4 j e hj;rfl
   have hfm:∀(l:Fq),(∀e∈l,∃n Z,e=TV.list n Z)->l.flatMap TV.cells=l:=by
    intro l
    induction l with
    |nil=>intro _;rfl|cons e l ih=>
     intro hl;obtain⟨n,Z,rfl⟩:=hl e V;rw[D',ih (λe he=>hl e (by simp[he]))];rfl
   refine ⟨xs,?_,?_,hone,k3⟩
   .have:(G s (Y k)).map (λp=>(p.1,es.length*1))=z0:=by
     rw [k2];rcases δ.2 with⟨_,_,e⟩|⟨g,cap,cur,e,_,_,_,_,_,_,e⟩
     .rw[e];rfl
     .rw[e];rfl
    show Fx w 1 x es.length xs ((G s (Y k)).map λp=>(p.1,es.length*1));rw[this];exact δ
   .rw[hfm es λe he=>by
     obtain ⟨j,hj⟩:=D_ he;obtain⟨g,x,n,Z,_,_,rfl,_⟩:=k4 j e hj;exact⟨_,_,rfl⟩]
    rw [Bf];refine⟨hlen,λj e y hj hy=>?_⟩;obtain⟨g,x,n,Z,q,u,rfl,e4⟩:=k4 j e hj;rw[hy]at u;cases u;exact Wr e4 M λE lo o hb=>hrow k g j E lo o q hb
  .rename_i hne ε;have:z'=G s (Y k):=by
    rw [N];split
    .exact absurd rfl (hne _ _)
    .exact absurd rfl (ε _)
    .rfl
   rw [this];have hd2:=hd.kept M (λ_ _ _=>rfl) BI.rfl';obtain⟨o,t⟩:=d;cases o
   .exact hd2
   .cases t<;>first|exact hd2|exact absurd rfl (ε _)
 refine ⟨D,λp i p' i' E lo lo' q u=>?_,λp i E lo q=>?_,h.below,h.defers,λp m=>?_,λp m=>?_,λp=>?_⟩
 .obtain⟨_,f1,_⟩:=I _ _ _ _ q;obtain⟨_,f2,_⟩:=I _ _ _ _ u;exact h.gB _ _ _ _ _ _ _ f1 f2
 .obtain⟨C,f1,f2⟩:=I _ _ _ _ q;exact⟨(h.lt _ _ _ _ f1).1,(h.lt _ _ _ _ f1).2.imp id λk o ho=>k o (x! f2 ho)⟩
 .rw[AB.d3,aE U];exact h.dom p m
 .rw[AB.d3];by_cases B:s=p
  .subst B;rw[QQ rfl,h1];simp only[AK];refine⟨b,c,θ,rfl,h2,by simpa using h3,by rw[η];exact h4,λi d hd=>?_⟩;rw[A?]at hd;simp at hd;obtain⟨κ,R,rfl⟩:=hd;obtain⟨x,hx,hc⟩:=h5 i κ R;refine⟨x,hx,?_⟩;rw[η];exact hrel R hc
  .rw[aE B];have hGp:∀i,D p i=G p i:=λi=>by
    simp [D];rw[aE (λe=>B e.symm),aE (λe=>o_)]
   refine AK.kept' M hGp (λ_ _ _ _=>rfl) (λi g lo j L=>?_) (λ_=>BI.spot BI.rfl') (λr i k hr⟨ζ,A⟩=>?_) (λr off hr⟨cs',H⟩=>?_) (λr i hr⟨ζ,A⟩=>?_) (h.slots p m)
   .simp[po,D];rw[aE U,aE];rintro⟨_,k,lo',e⟩;rw[y!]at e;exact B (h.gB _ _ _ _ _ _ _ e L).1
   .by_cases J:s=r
    .subst J;exfalso;obtain⟨cs',q,u⟩:=AB.og A;rw[AB.d3,QQ rfl]at q;cases q;rw[A?]at u;simp at u;obtain⟨κ,_,e3⟩:=u;obtain⟨o,t⟩:=κ;cases o<;>cases t<;>simp[AQ.rel]at e3
    .rw[AB.t5 J]at A;exact⟨⟨ζ,A⟩,λv hv=>hv⟩
   .rw[AB.d3]at H;split at H
    next e=>subst e;exact⟨⟨cs,hs⟩,rfl⟩
    .exact⟨⟨cs',H⟩,rfl⟩
   .by_cases J:s=r
    .subst J;exfalso;cases i with
     |none=>simp[AB.ln,AB.d3]at A|some k=>
      obtain ⟨cs',q,u⟩:=AB.l3 (n:=ζ.1) (es:=ζ.2) A;rw[AB.d3,QQ rfl]at q;cases q;rw[A?]at u;simp at u;obtain⟨κ,_,e3⟩:=u;obtain⟨o,t⟩:=κ;cases o<;>cases t<;>simp[AQ.rel]at e3
    .have:O.ln r i=Y ζ:=by
      rw [<-A];exact(AB.wm (by rw[AB.d3,aE J])).symm
     exact ⟨⟨ζ,this⟩,λv hv=>hv⟩
 .rw[AB.d3];split
  .intro d hd;obtain⟨κ,R,rfl⟩:=D!.1 hd;have:=hw κ R;obtain⟨o,t⟩:=κ;cases o<;>cases t<;>exact this
  .exact h.wf p
end
end Go.Sf
namespace Go.Sf
open Go.RowKit (Below)
section
variable{P:Program}{S:FuncId->Fq->At->Prop}{F0:Nat->Nat->Prop}{w0:W0}{O:AB}{a:Act}{w:World}{G:BV}{d:Nat}{o:Oper}{K:EV->AB->Prop}
variable{s off b:Nat}
theorem AR.Aax(h:AR F0 w0 O a w G){cs:List AQ}(ζ:O.get s=.bx cs){t:TV}(Z:cs[off]?=Y ⟨X,t⟩)(hd:d<a.tmps.size)(hsl:slot a s=.pointer (Y ⟨b,0,W⟩)){x:Value}(hx:w.cell? ⟨b,off,W⟩=Y x){e:EV}{t':TV}(u:(e=.ow t/\t'=t/\t.Aai=T)\/(∃n es,t=.xl n es/\e=.xo n es/\t'=.undef/\O.ew d=X)\/∃es,t=.xn es/\e=.xn es/\t'=.undef/\O.ew d=X):
  Bs F0 w0 ((d,e)::(s,.bx (cs.set off ⟨T,t'⟩))::O) (a.put (Y d) x) w:=by
 have H:=Ah h ζ V;have hw:=h.wf s;rw[ζ]at hw;simp only[AK]at H;obtain⟨R,c,θ,η,N,h3,h4,h5⟩:=H;rw[hsl]at η;simp at η;subst η;obtain⟨x',hx',g⟩:=h5 off _ Z;have M:x'=x:=by
  rw [cell_of_row w b off c θ (0,0) N]at hx
  grind
 subst M;simp[BE]at g
 let J:BV:=λp i=>if p=d then(if i=W then G s (Y off)else W)else if p=s/\i=Y off then W else G p i
 have ε:∀p i R lo,J p i=Y (R,lo)->(p=d/\i=W/\G s (Y off)=Y (R,lo))\/(p≠d/\¬(p=s/\i=Y off)/\G p i=Y (R,lo)):=by
  grind
 have A:Be w w (AW w0.heap.size F0 G) (AW w0.heap.size F0 J):=λR o v Z hF=>⟨Z,λhF'=>hF (AW.mono (λp i b'' lo δ=>by
  grind) hF')⟩
 have C:po (a.put (Y d) x') J=po a G:=LV (Bi _ _ _) λq hq=>by
  have hsz:s<a.tmps.size:=Bg h ζ V
  grind
 refine ⟨J,?_,?_,h.below,g?,?_,?_,?_⟩
 .intro p i p' i' R lo lo' I e2;rcases ε _ _ _ _ I with⟨rfl,rfl,f1⟩|⟨n1,n2,f1⟩<;>rcases ε _ _ _ _ e2 with⟨rfl,rfl,f2⟩|⟨m1,m2,f2⟩
  .exact⟨rfl,rfl⟩
  .exact absurd ((h.gB _ _ _ _ _ _ _ f1 f2).imp Eq.symm Eq.symm) m2
  .exact absurd (h.gB _ _ _ _ _ _ _ f1 f2) n2
  .exact h.gB _ _ _ _ _ _ _ f1 f2
 .intro p i R lo I;rcases ε _ _ _ _ I with⟨_,_,I⟩|⟨_,_,I⟩<;>exact h.lt _ _ _ _ I
 .intro p δ;rw[Bi]at δ;have hsz:s<a.tmps.size:=Bg h ζ V;rw[AB.d3,aE U,AB.d3,aE U];exact h.dom p δ
 .intro p δ;rw[Bi]at δ;rw[AB.d3];by_cases D:d=p
  .subst D;rw[QQ rfl,Cj _ _ _ hd];rcases u with⟨rfl,rfl,hxl⟩|⟨n,es,rfl,rfl,rfl,_⟩|⟨es,rfl,rfl,rfl,_⟩
   .simp[AK,J];exact(g.own hxl).kept A (λ_ _ _=>rfl)
   .have:=g.kept A (λ_ _ _=>rfl) BI.rfl';simp[D5]at this;simp[AK,J];exact this
   .have:=g.kept A (λ_ _ _=>rfl) BI.rfl';simp[D5]at this;simp[AK];rw[C];simp[J];exact this
  .rw[aE D,AZ _ _ _ _ D,AB.d3];by_cases κ:s=p
   .subst κ;rw[QQ rfl];have hsd:¬s=d:=λe=>D e.symm;simp only[AK];refine⟨b,c,θ,hsl,N,by simpa using h3,by simp only[J];rw[aE hsd,aE V];exact h4,λi y B=>?_⟩;rw[B!]at B;by_cases hi:off=i
    .subst hi;rw[QQ rfl]at B;split at B
     .simp at B;subst B;refine⟨x',hx',?_,Ot g⟩;rcases u with⟨rfl,rfl,hxl⟩|⟨n,es,rfl,rfl,rfl,_⟩|⟨es,rfl,rfl,rfl,_⟩
      .exact B8 A _ _ (D5.rep g (λb lo o hz ho=>Ou h b lo o hz ho))
      .exact Ot g
      .exact Ot g
     .cases B
    .rw[aE hi]at B;obtain⟨v,I,e2⟩:=h5 i y B;refine⟨v,I,?_⟩;simp[J];rw[aE hsd,aE (by rintro⟨_,e⟩;exact hi (by simpa using e.symm)),C];exact e2.kept A (λ_ _ _=>rfl) BI.rfl'
   .rw[aE κ];refine AK.kept A (λi=>by simp[J];rw[aE (λe=>D e.symm),aE (λe=>κ e.1.symm)]) (λ_ _ _ _=>rfl) C BI.rfl' (λr i k H⟨pp,l⟩=>?_) (λr off' H⟨cs',m⟩=>?_) (λr i H⟨pp,l⟩=>?_) (h.slots p δ)
    .by_cases j:d=r
     .subst j;obtain⟨cs',I⟩:=AB.Aam l;rcases u with⟨rfl,_⟩|⟨n,es,_,rfl,_⟩|⟨es,_,rfl,_⟩<;>cases I
     .rw[AB.t5 j]at l;have E:∃p,O.nat r i=Y p:=by
       grind [AB.og,AB.d3,AB.nat,AB.t5]
      exact ⟨E,h.nh E (AZ _ _ _ _ j) (λ_ _ _ _=>rfl)⟩
    .rw[AB.d3]at m;by_cases j:d=r
     .rw[QQ j]at m;rcases u with⟨rfl,_⟩|⟨n,es,_,rfl,_⟩|⟨es,_,rfl,_⟩<;>cases m
     .rw[aE j,AB.d3]at m;refine⟨?_,AZ _ _ _ _ j⟩;split at m
      next L=>subst L;exact⟨cs,ζ⟩
      .exact⟨_,m⟩
    .by_cases j:d=r
     .subst j;rcases u with⟨rfl,_⟩|⟨n,es,_,rfl,_,hno⟩|⟨es,_,rfl,_⟩
      .exact absurd rfl (AB.l4 V V l).1
      rotate_left
      .exact absurd rfl (AB.l4 V V l).1
      .have M:=AB.AaB d O hno p;rcases H with H|⟨c,H⟩
       .exact absurd H (M.1 i)
       .exact absurd H (M.2 i c)
     .rw[AB.tc j]at l;have E:∃p,O.ln r i=Y p:=by
       by_cases L:s=r
       .subst L;obtain⟨n,es⟩:=pp;cases i with
        |none=>have:=AB.o4 l;rw[AB.d3,QQ rfl]at this;cases this
        |some k=>
         obtain ⟨cs'',η,N⟩:=AB.l3 l;rw[AB.d3,QQ rfl]at η;simp[EV.bx.injEq]at η;subst η;rw[B!]at N;split at N
         .split at N<;>simp at N
         .exact⟨(n,es),by simp[AB.ln,ζ,N]⟩
       .rw[AB.tc L]at l;exact⟨pp,l⟩
      exact ⟨E,h.xv E (AZ _ _ _ _ j) (λ_ _=>rfl)⟩
 .intro p;rw[AB.d3];split
  .have:=hw _ (D? Z);rcases u with⟨rfl,_⟩|⟨n,es,rfl,rfl,_⟩|⟨es,rfl,rfl,_⟩
   .exact this
   .exact this
   .exact this
  .rw[AB.d3];split
   .intro y B;rcases C! B with B|rfl
    .exact hw y B
    .rcases u with⟨_,rfl,_⟩|⟨n,es,_,_,rfl,_⟩|⟨es,_,_,rfl,_⟩
     .exact(hw ⟨X,_⟩ (D? Z):_)
     .trivial
     .trivial
   .exact h.wf p
variable{x:Operand}{t:TypeId}
theorem p9(k:AR F0 w0 O a w G)(hd:d<a.tmps.size){x':AF}(l:o.op=.load t x)(A:AJ x x'=X)(B:B2 P t=Y T)(h:(AE.ldt x').wp S O (Y d) K):A2 P F0 w0 a w o d K:=by
 simp [AE.wp]at h;split at h
 .rename_i s off C;split at h
  .rename_i cs m;split at h
   .rename_i n es q;obtain⟨b,g,j⟩:=HC k A C m;have u:=Ah k m V;simp only[AK]at u;obtain⟨I,c,θ,p,D,J,L,E⟩:=u;rw[g]at p;simp at p;subst p;obtain⟨y,H,_⟩:=E off _ q;have e:w.cell? ⟨b,off,W⟩=Y y:=by rw[cell_of_row w b off c θ (0,0) D];exact H
    exact ⟨y,w,by simp[execOp,l,j,Instr.loadAt,Instr.sureAddr,loadVar,Cg B,e],_,_,h,k.Aax m q hd g e (.inl ⟨rfl,rfl,rfl⟩)⟩
   .exact h.elim
  .exact h.elim
 .exact h.elim
end
abbrev DK:=Nat->Option Nat->Option (Nat×Nat)
def DK.po(Z:DK):Hc:=λg j=>Z (g+1) (Y j)
def ZF(Z:DK)(b o:Nat):Prop:=∃q i lo,Z q i=Y (b,lo)/\lo<=o
def JA(Z:DK):Prop:=∀q i q' i' b lo lo',Z q i=Y (b,lo)->Z q' i'=Y (b,lo')->q=q'/\i=i'
def Wz(w:World)(F:Nat->Nat->Prop)(Z:DK)(cs:List AQ)(v:Value):Prop:=
 ∃vs:Array Value,v=.agg vs/\vs.size=cs.length/\∀(i:Nat)(d:AQ),cs[i]?=Y d->∃x,vs[i]?=Y x/\BE w F Z.po (Z 0 (Y i)) d x/\x.oneCell'=X
def SS(w:World)(F N:Nat->Nat->Prop)(cs:List AQ)(v:Value):Prop:=
 ∃Z:DK,Wz w (λb o=>F b o\/ZF Z b o) Z cs v/\JA Z/\Z 0 W=W/\∀q i b lo,Z q i=Y (b,lo)->b<w.heap.size/\N b lo
def IJ(w':World)(F:Nat->Nat->Prop)(base:Nat):At->Value->Prop
 |.sh t,v=>Ap w' F t v|.own t,v=>∃z,Bo w' (λb o=>F b o\/∃lo,z=Y (b,lo)/\lo<=o) z t v/\∀b lo,z=Y (b,lo)->base<=b/\b<w'.heap.size|.tp ts,v=>∃vs,v=.tuple vs/\AT w' F ts vs.toList|.AaO n es,v=>∃z xs,Fx w' n v es.length xs z/\AT w' (λb o=>F b o\/∃lo,z=Y (b,lo)) (es.flatMap TV.cells) xs/\(∀e∈es,e.cells.length=n)/\(∀x∈xs,x.oneCell'=X)/\∀b lo,z=Y (b,lo)->base<=b/\b<w'.heap.size|.vS cs,v=>SS w' F (λb _=>base<=b) cs v|.mpr kvs ts,v=>∃(b:Nat)(vs:List Value),v=.tuple (Value.map (Y b)::vs).toArray/\base<=b/\b<w'.heap.size/\W8 w' b kvs/\AT w' F ts vs|_,_=>False
def DR(P:Program)(f:FuncId):Bool:=
 match P.funcs[f]? with
 |some fn=>fn.name != "runtime.NumGoroutine" && fn.body.isSome
 |none=>T
def XB(P:Program)(f:FuncId)(args:Fq)(r:At):Prop:=
 TV.k7 args->DR P f=X/\∀(F0:Nat->Nat->Prop)(w:World)(vs:Array Value),AT w F0 args vs.toList->UQ w ->
  r.WF/\Calls P f vs w λe w'=>∃v,e=.returned v/\Below w.heap.size w w'/\IJ w' (λb o=>b<w.heap.size/\F0 b o) w.heap.size r v
def Q2(z:Option (Nat×Nat))(w w':World):Prop:=
 w'.os=w.os/\w'.tape=w.tape/\w'.output=w.output/\w.heap.size<=w'.heap.size/\∀k,k<w.heap.size->(∀lo,z≠Y (k,lo))->w'.heap[k]?=w.heap[k]?
def QL(w:World)(F:Nat->Nat->Prop):Fq->Value->Prop
 |[t],v=>Ap w F t v|us,v=>∃vs,v=.tuple vs/\AT w F us vs.toList
def AAE(P:Program)(f:FuncId)(args:Fq)(zs':Fp)(us:Fq):Prop:=
 ∃(zs:Fp)(ts:Fq),args=.list 1 (zs.map (TV.int .i64))::ts/\DR P f=X/\TV.q0 us=X/\
  ∀(F0:Nat->Nat->Prop)(w:World)(v:Value)(vs:List Value)(z:Option (Nat×Nat)),(TV.list 1 (zs.map (TV.int .i64))).WF->TV.k7 ts->Js w 1 v zs.length (zs.map (Value.int .i64)) z->AT w F0 ts vs->(∀b lo o,z=Y (b,lo)->lo<=o->F0 b o)->(∀b lo,z=Y (b,lo)->b<w.heap.size/\dm<=b)->UQ w ->
   Calls P f (v::vs).toArray w λe w'=>(zs'.length=zs.length/\(At.turn zs' us).WF)/\(∃r,e=.returned r/\QL w' (λ_ _=>False) us r)/\Js w' 1 v zs.length (zs'.map (Value.int .i64)) z/\Q2 z w w'
def AAB(P:Program)(f:FuncId)(args:Fq)(zs':Fp):Prop:=
 ∃zs:Fp,args=[.list 1 (zs.map (TV.int .i64))]/\DR P f=X/\((TV.list 1 (zs.map (TV.int .i64))).WF->(TV.list 1 (zs'.map (TV.int .i64))).WF)/\
  ∀(w:World)(v:Value)(z:Option (Nat×Nat)),Js w 1 v zs.length (zs.map (Value.int .i64)) z ->
   Calls P f #[v] w λe w'=>∃v',e=.returned v'/\Js w' 1 v' zs'.length (zs'.map (Value.int .i64)) z/\Q2 z w w'
def NZ(w:World)(F:Nat->Nat->Prop)(Z:DK)(cs:List AQ)(v:Value):Prop:=
 ∃b c θ,v=.pointer (Y ⟨b,0,W⟩)/\w.heap[b]?=Y (.cells c θ (0,0))/\c.size=cs.length/\Z 0 W=Y (b,0)/\∀(i:Nat)(d:AQ),cs[i]?=Y d->∃x,c[i]?=Y x/\BE w F Z.po (Z 0 (Y i)) d x
structure Gd(Z:DK)(w w':World):Prop where
 os:w'.os=w.os
 tape:w'.tape=w.tape
 output:w'.output=w.output
 size:w.heap.size<=w'.heap.size
 block:∀k,k<w.heap.size->(∀q i lo,Z q i≠Y (k,lo))->w'.heap[k]?=w.heap[k]?
 cell:∀b o u,¬ZF Z b o->w.cell? ⟨b,o,W⟩=Y u->w'.cell? ⟨b,o,W⟩=Y u
def AAC(P:Program)(f:FuncId)(args us:Fq):Prop:=
 TV.k7 args->(TV.q0 us=X/\TV.k7 us)/\∀(w:World)(vs:Array Value),AT w (λ_ _=>False) args vs.toList->∃r:Array Value,(callFunc f vs).run P w=.ok (.value (.tuple r)) w/\AT w (λ_ _=>False) us r.toList
def AAA(P:Program)(f:FuncId)(args:Fq)(cs cs':List AQ)(i:Nat)(us:Fq):Prop:=
 TV.k7 args->(∀c∈cs,c.t.WF)->DR P f=X/\∀(F0:Nat->Nat->Prop)(w:World)(vs:Array Value)(v:Value)(Z:DK),
  AT w (λb o=>F0 b o\/ZF Z b o) args vs.toList->vs[i]?=Y v->NZ w (λb o=>F0 b o\/ZF Z b o) Z cs v ->
  JA Z->(∀q i b lo,Z q i=Y (b,lo)->b<w.heap.size)->(∀b o o',ZF Z b o->¬F0 b o')->YS w (ZF Z) ->
  ((∀c∈cs',c.t.WF)/\TV.k7 us)/\Calls P f vs w λe w'=>∃r Z',e=.returned r/\Gd Z w w'/\NZ w' (λb o=>(b<w.heap.size/\F0 b o)\/ZF Z' b o) Z' cs' v/\
   JA Z'/\(∀q i b lo,Z' q i=Y (b,lo)->b<w'.heap.size/\(w.heap.size<=b\/∃p j lo',Z p j=Y (b,lo')/\lo'<=lo))/\
   QL w' (λb o=>(b<w.heap.size/\F0 b o)\/ZF Z' b o) us r
def ah(w':World)(F N:Nat->Nat->Prop):At->Value->Prop
 |.sh t,v=>Ap w' F t v|.tp ts,v=>∃vs,v=.tuple vs/\AT w' F ts vs.toList|.vS cs,v=>SS w' F N cs v|_,_=>False
def AgS(P:Program)(f:FuncId)(args:Fq)(cs:List AQ)(i:Nat)(r:At):Prop:=
 TV.k7 args->(∀c∈cs,c.t.WF)->DR P f=X/\∀(F0:Nat->Nat->Prop)(w:World)(vs:Array Value)(v:Value)(Z:DK),
  AT w (λb o=>F0 b o\/ZF Z b o) args vs.toList->vs[i]?=Y v->Wz w (λb o=>F0 b o\/ZF Z b o) Z cs v ->
  JA Z->(∀q i b lo,Z q i=Y (b,lo)->b<w.heap.size)->(∀b o o',ZF Z b o->¬F0 b o')->YS w (ZF Z) ->
  r.WF/\Calls P f vs w λe w'=>∃v',e=.returned v'/\Gd Z w w'/\ah w' (λb o=>b<w.heap.size/\F0 b o) (λb lo=>w.heap.size<=b\/∃p j lo',Z p j=Y (b,lo')/\lo'<=lo) r v'
def AV(P:Program)(f:FuncId)(args:Fq)(r:At):Prop:=
 match r with
 |.turn zs us=>AAE P f args zs us|.cut zs=>AAB P f args zs|.bo cs cs' i us=>AAA P f args cs cs' i us|.ext us=>AAC P f args us|.ag cs i r=>AgS P f args cs i r|r=>XB P f args r
variable{f:FuncId}{r:At}
theorem AV.to0{P:Program}{args:Fq}(h:AV P f args r)(e:r.plain=X):XB P f args r:=by
 cases r<;>first|exact h|cases e
theorem AV.of0{P:Program}{args:Fq}(h:XB P f args r)(e:r.plain=X):AV P f args r:=by
 cases r<;>first|exact h|cases e
section
variable{P:Program}{F0:Nat->Nat->Prop}{w0:W0}{O:AB}{a:Act}{w:World}{G:BV}{d:Nat}{o:Oper}{K:EV->AB->Prop}
variable{ρ:Hc}
theorem eA{F k:Nat->Nat->Prop}{z:Option (Nat×Nat)}{c:AQ}{x:Value}(h:BE w F ρ z c x)(q:Be w w F k)(C:∀b lo o,z=Y (b,lo)->¬k b o)(δ:∀g lo j b u o,z=Y (g,lo)->ρ g j=Y (b,u)->¬k b o):Ap w k c.rel.t x:=by
 obtain ⟨_|_,t⟩:=c
 .exact B8 q _ _ h.1
 .by_cases E:∃n es,t=.xl n es
  .obtain⟨n,es,rfl⟩:=E;exact Wr (h:Q6 w F z n es x) q C
  .by_cases hn:∃es,t=.xn es
   .obtain⟨es,rfl⟩:=hn;obtain⟨xs,⟨N,I,R⟩,ε,κ⟩:=(h:FN w F ρ z es x);have H:xs.length=es.length:=by have:=I.1;omega
    have m:∀e∈es,e.cells.length=1:=by
     intro e he;obtain⟨j,η⟩:=D_ he;obtain⟨g,x,n,A,_,_,rfl,_⟩:=κ j e η;rfl
    have B:∀(l:Fq),(∀e∈l,∃n A,e=TV.list n A)->l.flatMap TV.cells=l:=by
     intro l
     induction l with
     |nil=>intro _;rfl|cons e l ζ=>
      intro D;obtain⟨n,A,rfl⟩:=D e V;rw[D',ζ (λe he=>D e (by simp[he]))];rfl
    have p:Bo w k N (.list 1 es) x:=by
     refine ⟨xs,I,?_,m,ε⟩;rw[B es λe he=>by
      grind [D_]]
     grind [Bf,Wr]
    exact p.rep λb lo o J _=>C b 0 o (by rw[R,J];rfl)
   .have L:D5 w F ρ z t x:=h;have M:(AQ.mk X t).rel=⟨X,t⟩:=by
     cases t<;>first|rfl|exact absurd ⟨_,_,rfl⟩ E|exact absurd ⟨_,rfl⟩ hn
    rw [M];have Z:=L.kept q (λ_ _ _=>rfl) BI.rfl'
    grind [D5.rep]
variable{r:At}{v:Value}
theorem AR.called(h:AR F0 w0 O a w G)(hd:d<a.tmps.size){w':World}(C:Below w.heap.size w w')(J:r.plain=X)(m:IJ w' (λb o=>b<w.heap.size/\AW w0.heap.size F0 G b o) w.heap.size r v)(D:r.WF):
  Bs F0 w0 ((d,r.ev)::O) (a.put (Y d) v) w':=by
 have old:∀(L:Option Nat->Option (Nat×Nat))b o,AW w0.heap.size F0 (I8 G d L) b o->(b<w.heap.size/\AW w0.heap.size F0 G b o)\/∃i lo,L i=Y (b,lo)/\lo<=o:=by
  intro L b o hf;rcases hf with k|⟨s,i,lo,k,q⟩
  .exact .inl ⟨x_ k.1 h.below.size,.inl k⟩
  .by_cases ε:s=d
   .subst ε;rw[Bv]at k;exact .inr ⟨i,lo,k,q⟩
   .rw[BD _ _ _ _ ε]at k;exact .inl ⟨(h.lt _ _ _ _ k).1,.inr ⟨s,i,lo,k,q⟩⟩
 cases r with
 |sh t=>
  refine h.tv C d hd t v (B8 (λb o u l hf=>⟨l,λe=>?_⟩) t v m) D;rcases old _ _ _ e with k|⟨i,lo,k,_⟩
  .exact hf k
  .cases k
 |own t=>
  obtain ⟨z,k,q⟩:=m;refine h.ow C d hd t v z q (k.kept (λb o u l hf=>⟨l,λe=>hf ?_⟩) (λ_ _ _=>rfl)) D;rcases old _ _ _ e with p|⟨i,lo,p,I⟩
  .exact .inl p
  .split at p
   .exact .inr ⟨lo,p,I⟩
   .cases p
 |tp ts=>
  obtain ⟨vs,k,q⟩:=m;refine⟨_,h.quiet C d hd (.tp ts) v (λ_=>W) V V V ?_ D⟩;simp[AK];refine⟨vs,k,As (λb o u l hf=>⟨l,λe=>?_⟩) _ _ q⟩;rcases old _ _ _ e with p|⟨i,lo,p,_⟩
  .exact hf p
  .cases p
 |AaO n es=>
  obtain ⟨z,xs,k,q,p,I,ζ⟩:=m;refine h.ow C d hd (.list n es) v z ζ ?_ D;simp[Bo];refine⟨xs,k,As (λb o u l hf=>⟨l,λe=>hf ?_⟩) _ _ q,p,I⟩;rcases old _ _ _ e with A|⟨i,lo,A,h7⟩
  .exact .inl A
  .split at A
   .exact .inr ⟨lo,A⟩
   .cases A
 |vS cs=>
  obtain ⟨Z,⟨vs,rfl,k,q⟩,p,_,I⟩:=m;have B:AT w' (λb o=>b<w.heap.size/\AW w0.heap.size F0 G b o) (cs.map λc=>c.rel.t) vs.toList/\∀x∈vs.toList,x.oneCell'=X:=by
   refine ⟨?_,?_⟩
   .rw[Bf];refine⟨by simp[k],λi t x E H=>?_⟩;rw[A?]at E;simp at E;obtain⟨c,l,rfl⟩:=E;obtain⟨y,κ,R,_⟩:=q i c l;rw[E_,κ]at H;simp at H;subst H;refine eA R (λb o u l hf=>⟨l,λe=>hf (.inl e)⟩) (λb lo o η hf=>?_) (λg lo j b M o η m hf=>?_)
    .grind
    .have:=(I _ _ b M m).2;omega
   .intro x H;obtain⟨i,hi⟩:=D_ H;have N:i<cs.length:=by
     grind
    obtain ⟨y,κ,_,δ⟩:=q i _ (B_ N)
    grind
  refine h.tv C d hd (.agg (cs.map λc=>c.rel.t)) _ ?_ (by
   simp [TV.WF];rw[Bn];intro t E;obtain⟨c,l,rfl⟩:=D!.1 E;have:=D c l;obtain⟨o',t'⟩:=c;cases o'<;>cases t'<;>exact this)
  simp only[Ap];refine⟨vs,rfl,As (λb o u l hf=>⟨l,λe=>hf ?_⟩) _ _ B.1,List.all_eq_true.2 B.2⟩;rcases old _ _ _ e with A|⟨i,lo,A,_⟩
  .exact A
  .cases A
 |turn zs=>exact m.elim|cut zs=>exact m.elim|bo _ _ _ _=>exact m.elim|ext _=>exact m.elim|ag _ _ _=>exact m.elim|mpr _ _=>cases J
variable{f:FuncId}
theorem Ef(e:DR P f=X)(vs:Array Value):(callFunc f vs).run P w=.ok (.enter f vs) w:=by
 unfold DR at e;cases hf:P.funcs[f]? with
 |none=>rw[hf]at e;cases e
 |some h=>
  rw [hf]at e;simp[bne_iff_ne]at e;have g:¬h.body=W:=by
   grind
  simp [callFunc,hf,e.1,g]
variable{Q:Exit->Act->World->Prop}
theorem YW(q:AR F0 w0 O a w G)(hd:d<a.tmps.size)(g:o.dst=Y d){vs:Array Value}{k:Fq}(h:(execOp a.eval o).run P w=(callFunc f vs).run P w)(l:AV P f k r/\r.plain=X)(m:TV.k7 k)(j:AT w (AW w0.heap.size F0 G) k vs.toList)(A:r.WF->K r.ev O)
  {next:Act->World->Prop}(hn:∀e env' a' w',K e env'->Q4 a d a'->Bs F0 w0 ((d,e)::env') a' w'->next a' w'):o.wp P a w next Q:=by
 obtain ⟨B,p⟩:=l.1.to0 l.2 m;obtain⟨u,p⟩:=p _ w vs j q.below.now;unfold Oper.wp;rw[h,Ef B vs,Oper.upon_enter];refine p.mono ?_;rintro e w' ⟨v,rfl,C,D⟩;simp[g];exact hn _ _ _ _ (A u) ⟨_,rfl⟩ (q.called hd C l.2 D u)
variable{ys:List AF}{ats:Array TypeId}
theorem m7(m:AR F0 w0 O a w G)(hd:d<a.tmps.size)(j:o.dst=Y d){xs:Array Operand}(k:o.op=.call {callee:=.value (.func f),args:=xs,argTypes:=ats})(l:Bc xs.toList ys=X)(h:(AE.call f ys).wp (AV P) O (Y d) K)
  {next:Act->World->Prop}(hn:∀e env' a' w',K e env'->Q4 a d a'->Bs F0 w0 ((d,e)::env') a' w'->next a' w'):o.wp P a w next Q:=by
 simp [AE.wp]at h;cases g:vals O ys with
 |none=>rw[g]at h;exact h.elim|some u=>
  rw [g]at h;simp[Ai]at h;obtain⟨r,p,q⟩:=h;have:=Fo m l g;refine YW m hd j (vs:=xs.map a.eval) ?_ p this.2 to q hn;simp[execOp,k,resolve,Act.eval,Deferred.ofValue,invoke]
variable{x:Operand}{y:AF}
theorem kB(j:AR F0 w0 O a w G)(hd:d<a.tmps.size)(g:o.dst=Y d){xs:Array Operand}(k:o.op=.call {callee:=.value x,args:=xs,argTypes:=ats})(A:AJ x y=X)(l:Bc xs.toList ys=X)(h:(AE.AaZ y ys).wp (AV P) O (Y d) K)
  {next:Act->World->Prop}(hn:∀e env' a' w',K e env'->Q4 a d a'->Bs F0 w0 ((d,e)::env') a' w'->next a' w'):o.wp P a w next Q:=by
 simp [AE.wp]at h;split at h
 .rename_i f p I hf m;obtain⟨r,B,C⟩:=h;have q:=Ax j A hf;have u:=Fo j l m;simp[Ap,TV.WF]at q;obtain⟨⟨cs,D,E⟩,H⟩:=q;refine YW j hd g (vs:=xs.map a.eval++cs) ?_ B (KJ.2 ⟨u.2,H⟩) ?_ C hn
  .simp[execOp,k,resolve,D,Deferred.ofValue,invoke]
  .rw[Array.toList_append];exact ID (by simpa using u.1) E
 .exact h.elim
end
end Go.Sf
