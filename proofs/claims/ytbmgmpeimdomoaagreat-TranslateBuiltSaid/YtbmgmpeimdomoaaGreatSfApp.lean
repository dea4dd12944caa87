/- Appending to a list that a slot owns. -/
import Derived.Test.YtbmgmpeimdomoaaGreatSfOps1
set_option linter.all false
open Option renaming some->Y,none->W
open Bool renaming true->X,false->T
open Nat renaming add_mul->w!,zero_add->w?,mul_le_mul_right->x_,lt_or_ge->x!,lt_of_lt_of_le->x?,le_trans->y_,zero_le->y!,min_eq_left->y?,add_sub_cancel_left->z_
open List renaming eq_nil_of_length_eq_zero->z!,take_left->z?,getElem?_toArray->A_,getElem?_append_left->A',getElem?_take_of_lt->A!,mem_append->A?,isEmpty_iff->B_,getElem?_map->B',getElem?_eq_getElem->B!,getElem_mem->B?,getElem?_set->C_,getElem?_append_right->C',length_singleton->C!,getElem?_drop->C?,mem_or_eq_of_mem_set->D_,getElem?_eq_some_iff->D',getElem?_of_mem->D!,flatMap_cons->D?,mem_map->E_,mem_of_getElem?->E'
open Array renaming getElem?_toList->E!,length_toList->E?
open Option renaming map_map->F_,map_eq_some_iff->F!
namespace Go.Sf
open Go.RowKit (Below)
structure JK(w w':World)(z z':Option (Nat×Nat)):Prop where
 os:w'.os=w.os
 tape:w'.tape=w.tape
 output:w'.output=w.output
 size:w.heap.size<=w'.heap.size
 other:∀k,k<w.heap.size->(∀lo,z≠Y (k,lo))->w'.heap[k]?=w.heap[k]?
 cell:∀b o v,w.cell? ⟨b,o,W⟩=Y v->(∀lo,z=Y (b,lo)->o<lo)->w'.cell? ⟨b,o,W⟩=Y v
 AbE:∀b lo,z'=Y (b,lo)->b<w'.heap.size/\(w.heap.size<=b\/∃lo',z=Y (b,lo')/\lo'<=lo)
theorem JK.refl(w:World)(z:Option (Nat×Nat))(e:∀b lo,z=Y (b,lo)->b<w.heap.size):JK w w z z:=
 ⟨rfl,rfl,rfl,R0 _,λ_ _ _=>rfl,λ_ _ _ h _=>h,λb lo h=>⟨e b lo h,.inr ⟨lo,h,R0 _⟩⟩⟩
section
variable{P:Program}{w:World}
theorem W9(t ty e D:TypeId)(i:TypeInfo)(E:P.underlying t=Y (.slice e))(hi:P.info? e=Y i)
  (g k l:Nat)(p:Array Value)(H:w.heap[g]?=Y (.cells p D (0,0)))
  (a:Addr)(m c:Nat)(h:List Value)(I:h.length=m*i.size)(q:∀(j:Nat)(u:Value),h[j]?=Y u->w.cell? (a.add j)=Y u)(J:∀u∈h,u.oneCell'=X)
  (A:k+m<=l)(B:k*i.size+h.length<=p.size):
  (Builtin.append_ #[t,t] ty #[.slice (Y ⟨g,0,W⟩) k l,.slice (Y a) m c]).run P w=
   .ok (.slice (Y ⟨g,0,W⟩) (k+m) l) (w.setRow g (p.toList.take (k*i.size)++h++p.toList.drop (k*i.size+h.length)).toArray):=by
 have hf:=run_firstCells_some (P:=P) w i.size m a m c h I q;have C:=run_storeCells_at P g (k*i.size) D h 0 p w H v6 J;simp at C;simp[Builtin.append_,run_underlying E,sizeOf,typeInfo,hi,Builtin.lenOf,A,hf,Addr.add_lit,C]
theorem QY(t ty e:TypeId)(i:TypeInfo)(z:Value)(n:Nat)(ht:P.underlying t=Y (.slice e))(hi:P.info? e=Y i)(hz:i.zero=Y z)
  (p:i.size=n)(hby:i.bytes<=4096)(hzs:z.cells.size=n)(hn:0<n)
  (v:Value)(len:Nat)(xs:List Value)(zo:Option (Nat×Nat))(q:GU w n v len xs zo)
  (ad:Option Addr)(m c:Nat)(l:List Value)(κ:l.length=m*n)(had:ad=W->m=0)(hmc:m<=c)(η:∀a,ad=Y a->∀(j:Nat)(u:Value),l[j]?=Y u->w.cell? (a.add j)=Y u)(h1:∀u∈l,u.oneCell'=X)
  (J:len+m<=AX):
  ∃v' w' z',(Builtin.append_ #[t,t] ty #[v,.slice ad m c]).run P w=.ok v' w'/\GU w' n v' (len+m) (xs++l) z'/\JK w w' zo z':=by
 have D:(xs++l).length=(len+m)*n:=by rw[aE,q.1,κ,w!]
 have E:(len+m)*i.bytes<=140737488355328:=by
  calc (len+m)*i.bytes<=AX*4096:=Nat.mul_le_mul J hby
   _<=140737488355328:=a_
 have hml:len+m<=maxLen:=by simp[maxLen,AX]at *;omega
 have N:∀b lo,zo=Y (b,lo)->b<w.heap.size:=by
  intro b lo I;rcases q.2 with⟨_,_,h⟩|⟨g,cap,B,R,_,hg,_,_,_,_,h⟩
  .rw[h]at I;cases I
  grind
 by_cases hm:m=0
 .subst hm;have hnn:l=[]:=z! (by simpa using κ);subst hnn;refine⟨v,w,zo,?_,l!,JK.refl w zo N⟩;have hfc:(Builtin.firstCells n 0 (.slice ad 0 c)).run P w=.ok #[] w:=by
   cases ad<;>simp[Builtin.firstCells,loadCells,loadCellsFrom]
  rcases q.2 with⟨rfl,rfl,_⟩|⟨g,cap,B,R,rfl,hg,M,_,_,_,_⟩
  .simp[Builtin.append_,run_underlying ht,sizeOf,typeInfo,hi,p,Builtin.lenOf,hfc]
  .simp[Builtin.append_,run_underlying ht,sizeOf,typeInfo,hi,p,Builtin.lenOf,M,hfc,storeCells]
 .cases ad with
  |none=>exact absurd (had rfl) hm|some a=>
   have A:=η a rfl;have L:∀(old:Nat),old<len+m ->
     GU (w.drew.alloc (.cells (xs.toArray++l.toArray++Builtin.zeroCells z.cells (grownCap w (len+m) old e-(len+m))) e)) n
      (.slice (Y ⟨w.heap.size,0,W⟩) (len+m) (grownCap w (len+m) old e)) (len+m) (xs++l) (Y (w.heap.size,(len+m)*n))/\
     JK w (w.drew.alloc (.cells (xs.toArray++l.toArray++Builtin.zeroCells z.cells (grownCap w (len+m) old e-(len+m))) e)) zo (Y (w.heap.size,(len+m)*n)):=by
    intro old ho;have hge:=grownCap_ge w (len+m) old e;have ζ:grownCap w (len+m) old e<=maxLen:=grownCap_le_maxLen w (len+m) old e hml;refine⟨⟨D,.inr ⟨w.heap.size,_,_,e,rfl,heap_alloc_new w.drew _,hge,ζ,?_,?_,rfl⟩⟩,⟨rfl,rfl,rfl,V,λk hk _=>Below.heap_alloc w.drew _ k hk,λb o v M _=>?_,λb lo I=>?_⟩⟩
    .simp[Array.size_append,List.size_toArray,size_zeroCells,hzs,q.1,κ,<-w!];congr 1;omega
    .simp;rw[<-ae,<-D];exact z?
    .have I:b<w.heap.size:=World.block_lt_of_cell? w ⟨b,o,W⟩ M;rw[World.cell?_alloc_lt _ _ (a:=⟨b,o,W⟩) (by simpa using I)];simpa using M
    .simp at I;rw[<-I.1];exact⟨V,.inl (R0 _)⟩
   rcases q.2 with⟨rfl,rfl,rfl⟩|⟨g,cap,B,R,rfl,hg,hnc,ζ,hcs,htake,rfl⟩
   .have hx:xs=[]:=z! (by simpa using q.1);subst hx;have δ:=run_append_nil (P:=P) w t ty e i z ht hi hz a m c l (by rw[p];exact κ) A U (by simp[AX]at J;omega) (by have I:=E;simp at I;omega);have H:=L 0 U;simp only[w?,List.nil_append,Array.empty_append]at H δ|-;exact⟨_,_,_,δ,H.1,H.2⟩
   .by_cases C:len+m<=cap
    .have O:len*i.size+l.length<=B.size:=by rw[κ,hcs,p,<-w!];exact x_ _ C
     have δ:=W9 (P:=P) t ty e R i ht hi g len cap B hg a m c l (by rw[p];exact κ) A h1 C O;rw[p]at δ O;refine⟨_,_,Y (g,(len+m)*n),δ,⟨D,.inr ⟨g,cap,_,R,rfl,setRow_heap w g B _ R _ hg,C,ζ,?_,?_,rfl⟩⟩,⟨rfl,rfl,rfl,V,λk _ hk=>setRow_other w g k _ (λe=>hk (len*n) (by rw[e])),λb o u M hlo=>?_,λb lo I=>?_⟩⟩
     .simp;omega
     .rw[htake,<-D];exact z?
     .by_cases hbg:b=g
      .subst hbg;have ho:=hlo (len*n) rfl;rw[cell_of_row _ b o _ R (0,0) (setRow_heap w b B _ R _ hg)];rw[cell_of_row w b o B R (0,0) hg]at M;have hoc:o<B.size:=U
       rw [A_,ae,A' an,A! ho];simpa using M
      .rw[World.cell?_of_block (w:=w) (a:=⟨b,o,W⟩) (setRow_other w g b _ (λe=>hbg e))];exact M
     .simp at I;obtain⟨rfl,rfl⟩:=I;refine⟨by simpa using N g (len*n) rfl,.inr ⟨len*n,rfl,x_ _ U⟩⟩
    .have Z:∀(j:Nat)(u:Value),xs[j]?=Y u->w.cell? ((⟨g,0,W⟩:Addr).add j)=Y u:=λj u hu=>by
      rw [Addr.add_lit,w?];exact q.cell rfl j u hu
     have δ:=run_append_grow (P:=P) w t ty e i z ht hi hz ⟨g,0,W⟩ len cap xs (by rw[p];exact q.1) Z a m c l (by rw[p];exact κ) A U (by simp[AX]at J;omega) (growslice_fits U E);have H:=L cap U;exact⟨_,_,_,δ,H.1,H.2⟩
end
end Go.Sf
namespace Go.Sf
open Go.RowKit (Below)
section
variable{P:Program}{S:FuncId->Fq->As->Prop}{F0:Nat->Nat->Prop}{w0:W0}{ε:AB}{a:Act}{w:World}{G:BR}{d:Nat}{o:Oper}{K:EV->AB->Prop}
variable{s:Nat}{v:Value}
theorem AP.app(h:AP F0 w0 ε a w G)(hss:s<a.tmps.size){w':World}{z':Option (Nat×Nat)}(hf:JK w w' (G s W) z')(hd:d<a.tmps.size){t:TV}(ht:t.WF)
  (ζ:∀F',Bf w w' (AU w0.heap.size F0 G) F'->(∀b o,F' b o->(b<w0.heap.size/\F0 b o)\/(∃q i lo,G q i=Y (b,lo)/\lo<=o)\/∃lo,z'=Y (b,lo)/\lo<=o)->Bq w' F' z' t v):
  ∃J,AP F0 w0 ((d,.ow t)::Go.Sf.strip ε s) (a.put (Y d) v) w' J/\Bf w w' (AU w0.heap.size F0 G) (AU w0.heap.size F0 J):=by
 let J:BR:=Je (Je G s (λ_=>W)) d (λi=>if i=W then z' else W)
 have I:∀q i b lo,J q i=Y (b,lo)->(q=d/\i=W/\z'=Y (b,lo))\/(q≠d/\q≠s/\G q i=Y (b,lo)):=by
  intro q i b lo M;by_cases E:q=d
  .grind[B1]
  .simp[J,BE _ _ _ _ E]at M;by_cases L:q=s
   .grind[B1]
   .rw[BE _ _ _ _ L]at M
    grind
 have hne:∀q i b lo,q≠s->G q i=Y (b,lo)->∀B,G s W≠Y (b,B):=λq i b lo L m B D=>L (h.gi _ _ _ _ _ _ _ m D).1;have O:Bf w w' (AU w0.heap.size F0 G) (AU w0.heap.size F0 J):=by
  intro b o u hc δ;have l:∀lo,G s W=Y (b,lo)->o<lo:=λlo l=>by
   rcases x! o lo with h|h
   .exact h
   .exact absurd (.inr ⟨s,W,lo,l,h⟩) δ
  refine ⟨hf.cell b o u hc l,?_⟩;rintro(m|⟨q,i,lo,m,D⟩)
  .exact δ (.inl m)
  .rcases I _ _ _ _ m with⟨_,_,A⟩|⟨_,_,A⟩
   .have H:=World.block_lt_of_cell? w ⟨b,o,W⟩ hc;rcases(hf.AbE b lo A).2 with κ|⟨B,κ,h4⟩
    .simp only at H;omega
    grind
   .exact δ (.inr ⟨q,i,lo,A,D⟩)
 have N:HQ F0 w0 w':=h.below.trans hf.os hf.tape hf.output hf.size (λk hk he=>hf.other k (x? hk h.below.size) (λlo l=>(h.lt _ _ _ _ l).2.elim (λe=>U) (λe=>he lo (e lo (R0 _))))) (λb o u H he hu=>hf.cell b o u hu (λlo l=>(h.lt _ _ _ _ l).2.elim (λe=>U) (λe=>Nat.lt_of_not_le λhle=>he (e o hle))));refine⟨J,⟨?_,?_,N,i!,?_,?_,?_⟩,O⟩
 .intro q i q' i' b lo B m D;have mix:∀q i lo B,z'=Y (b,lo)->q≠s->G q i=Y (b,B)->False:=by
   intro q i lo B A L η;rcases(hf.AbE b lo A).2 with κ|⟨lo2,κ,_⟩
   .have:=(h.lt _ _ _ _ η).1;omega
   grind
  rcases I _ _ _ _ m with⟨rfl,rfl,A⟩|⟨n1,n2,A⟩<;>rcases I _ _ _ _ D with⟨rfl,rfl,η⟩|⟨m1,m2,η⟩
  .exact⟨rfl,rfl⟩
  .exact(mix _ _ _ _ A m2 η).elim
  .exact(mix _ _ _ _ η n2 A).elim
  .exact h.gi _ _ _ _ _ _ _ A η
 .intro q i b lo m;rcases I _ _ _ _ m with⟨_,_,A⟩|⟨_,_,A⟩
  .have:=hf.AbE b lo A;refine⟨this.1,?_⟩;rcases this.2 with κ|⟨B,κ,h4⟩
   .exact .inl (y_ h.below.size κ)
   .exact(h.lt _ _ _ _ κ).2.imp id (λe o ho=>e o (y_ h4 ho))
  .have:=h.lt _ _ _ _ A;exact⟨x? this.1 hf.size,this.2⟩
 .intro q M;rw[Bj]at M;rw[AB.bn,QQ U];exact(h.strip s).dom q M
 .intro q M;rw[Bj]at M;rw[AB.bn];by_cases E:d=q
  .subst E;rw[Ne rfl,Cx _ _ _ hd];simp[AM,J,B1];refine ζ _ O λb o δ=>?_;rcases δ with m|⟨q,i,lo,m,D⟩
   .exact .inl m
   .rcases I _ _ _ _ m with⟨_,_,A⟩|⟨_,_,A⟩
    .exact .inr (.inr ⟨lo,A,D⟩)
    .exact .inr (.inl ⟨q,i,lo,A,D⟩)
  .rw[QQ E,AY _ _ _ _ E];simp[Go.Sf.strip,AB.bn];split
   .trivial
   .rename_i hsq;refine AM.kept O (λi=>?_) (λi b lo H=>hf.other b (h.lt _ _ _ _ H).1 (hne q i b lo (λe=>hsq e.symm) H)) (Lz (Bj _ _ _) (λq M=>by
     simp [J];rw[BE _ _ _ _ U,BE _ _ _ _ U])) (λg j b lo Z=>by
     exact hf.other b (h.lt _ _ _ _ Z).1 (hne _ _ b lo U Z)) (λr i k Z⟨p,hp⟩=>?_) (λr off Z⟨cs,C⟩=>?_) (λr i Z⟨p,hp⟩=>?_) (h.slots q M)
    .simp[J];rw[BE _ _ _ _ (λe=>E e.symm),BE _ _ _ _ (λe=>hsq e.symm)]
    .have m:=AB.tn V hp;have D:=AB.tn V m.2;exact⟨⟨p,D.2⟩,h.nh ⟨p,D.2⟩ (AY _ _ _ _ m.1) (λ_ b _ H=>hf.other b (h.lt _ _ _ _ H).1 (λlo l=>D.1 (h.gi _ _ _ _ _ _ _ l H).1))⟩
    .rw[AB.bn]at C;by_cases R:d=r
     .rw[Ne R]at C;cases C
     .rw[QQ R]at C;simp[AB.bn]at C;split at C
      .cases C
      .exact⟨⟨cs,C⟩,AY _ _ _ _ R⟩
    .have m:=AB.o4 V V hp;have D:=AB.o4 V V m.2;exact⟨⟨p,D.2⟩,h.xv ⟨p,D.2⟩ (AY _ _ _ _ m.1) (λb H=>hf.other b (h.lt _ _ _ _ H).1 (λlo l=>D.1 (h.gi _ _ _ _ _ _ _ l H).1))⟩
 .intro q;rw[AB.bn];split
  .exact ht
  .exact(h.strip s).wf q
theorem AP.app'(h:AP F0 w0 ε a w G){l:TV}(m:ε.get s=.ow l){w':World}{z':Option (Nat×Nat)}(hf:JK w w' (G s W) z')(hd:d<a.tmps.size){t:TV}(B:t.WF)
  (g:∀p,Bf w w' (AU w0.heap.size F0 G) p->(∀b o,p b o->(b<w0.heap.size/\F0 b o)\/(∃q i lo,G q i=Y (b,lo)/\lo<=o)\/∃lo,z'=Y (b,lo)/\lo<=o)->Bq w' p z' t v):
  Bt F0 w0 ((d,.ow t)::(s,.tv l)::ε) (a.put (Y d) v) w':=by
 obtain ⟨C,u,A⟩:=h.app (Bi h m V) hf hd B g;have hv:=Ay h (x:=.tmp s) (y:=.s s) r! (t:=l) (by simp[AF.val,AF.ev,m,EV.val]);have j:=Bi h m V;by_cases k:d=s
 .subst k;refine⟨C,u.rem d (t:=t) (by rw[Bj];exact j) ?_ B λn=>?_⟩
  .exact(Ay u (x:=.tmp d) (y:=.s d) r! (t:=t) (by simp[AF.val,AF.ev,AB.bn,EV.val])).1
  .simp[Go.Sf.strip,AB.bn];split
   .exact .inl rfl
   .exact .inl rfl
 .refine⟨C,u.rem s (t:=l) (by rw[Bj];exact j) ?_ hv.2 λn=>?_⟩
  .rw[AY _ _ _ _ k];exact CH A _ _ hv.1
  .simp[Go.Sf.strip,AB.bn];split
   .exact .inl rfl
   .split
    next e=>exact .inr ⟨e.symm,rfl⟩
    .exact .inl rfl
theorem Kf{l m:Fq}:TV.ns (l++m)↔TV.ns l/\TV.ns m:=by grind[Bp]
variable{x:Operand}{y:AF}{i:TypeInfo}{z:Value}{n:Nat}
theorem pJ(L:AP F0 w0 ε a w G)(hd:d<a.tmps.size){t e:TypeId}(M:o.op=.call {callee:=.builtin .append,args:=#[.tmp s,x],argTypes:=#[t,t]})
  (ht:P.underlying t=Y (.slice e))(hi:P.info? e=Y i)(hz:i.zero=Y z)(q:i.size=n)(N:i.bytes<=4096)(O:z.cells.size=n)(hn:0<n)
  (R:AK x y=X)(h:(AE.app n (.s s) y).wp S ε (Y d) K):A1 P F0 w0 a w o d K:=by
 simp [AE.wp,AF.ev]at h;split at h
 .rename_i m es m' C κ hy;obtain⟨ζ,δ,I,hK⟩:=h;subst δ;subst ζ;have p:=Ag L κ V;have A:=L.wf s;rw[κ]at A;simp[AM,Bq]at p;obtain⟨xs,h1,h2,h3,h4⟩:=p;have hv:=Ay L R hy;simp[Aq]at hv;obtain⟨⟨Z,cap,h5,h6,h7,h8⟩,h9⟩:=hv;have B:∃g:List Value,AR w (AU w0.heap.size F0 G) (C.flatMap TV.cells) g/\(∀x∈g,x.oneCell'=X)/\(∀f∈C,f.cells.length=m)/\∀b,Z=Y b->∀(j:Nat)(u:Value),g[j]?=Y u->w.cell? (b.add j)=Y u:=by
   cases Z with
   |none=>
    have:=h7 rfl;subst this;exact⟨[],rfl,V,V,V⟩
   |some b=>
    obtain ⟨k,h11⟩:=h8 b rfl;obtain⟨bb,off,sp⟩:=b;simp only at k h11;by_cases H:C=[]
    .subst H;exact⟨[],rfl,V,V,V⟩
    have k:sp=W:=k.resolve_left H;subst k;have hrow:∀(l:Fq)(off:Nat),Iq w (AU w0.heap.size F0 G) m l bb off->DR w (AU w0.heap.size F0 G) (l.flatMap TV.cells) bb off/\∀f∈l,f.cells.length=m:=by
     intro l
     induction l with
     |nil=>intro off _;exact⟨trivial,V⟩|cons f l ih=>
      grind [Qm,JB]
    grind [Th,nm]
  obtain ⟨g,n1,n2,n3,n4⟩:=B;have η:g.length=C.length*m:=by rw[BL n1,Pg m C n3]
  obtain ⟨v',w',z',J,r1,r2⟩:=QY (P:=P) t o.type e i z m ht hi hz q N O hn (slot a s) es.length xs (G s W) h1 Z C.length cap g η (λe=>by rw[h7 e];rfl) h6 n4 n2 I;refine⟨v',w',?_,_,_,hK,L.app' κ r2 hd ?_ λF' D hF'=>?_⟩
  .simp[execOp,M,resolve,invoke,builtin,show a.eval (.tmp s)=slot a s from rfl,h5,J]
  .simp only[EV.WF,TV.WF]at A h9|-;exact⟨by rw[aE];exact Uj U,Kf.2 ⟨A.2,h9.2⟩⟩
  .simp only[Bq];refine⟨xs++g,by rw[aE];exact r1,?_,?_,?_⟩
   .rw[List.flatMap_append];exact Ik (Ar D _ _ h2) (Ar D _ _ n1)
   .intro e he;rcases A?.1 he with he|he
    .exact h3 e he
    .exact n3 e he
   .intro x E;rcases A?.1 E with E|E
    .exact h4 x E
    .exact n2 x E
 .exact h.elim
end
end Go.Sf
namespace Go.Sf
open Go.RowKit (Below)
def kj:TV->Bool
 |.list _ es=>es.isEmpty|.xl _ es=>es.isEmpty|.xn es=>es.isEmpty|_=>T
def Un(c:AO)(v:Value):Bool:=if c.own then kj c.t&&Mw v else EX c.t v&&v.oneCell'
def PJ:List AO->List Value->Bool
 |[],vs=>vs.isEmpty|c::cs,vs=>match vs with|v::vs=>Un c v&&PJ cs vs|[]=>T
section
variable{w:World}{F:Nat->Nat->Prop}
variable{ρ:IA}{v:Value}
theorem WH{c:AO}(h:Un c v=X):BF w F ρ W c v/\c.t.WF:=by
 obtain ⟨_|_,t⟩:=c
 .simp[Un]at h;have e:=Hs w F t v h.1;exact⟨⟨e.1,h.2⟩,e.2⟩
 .simp[Un]at h;cases t<;>simp only[kj,Bool.false_eq_true,false_and]at h
  next n es=>rw[B_]at h;obtain⟨rfl,h⟩:=h;refine⟨?_,V,trivial⟩;simp only[BF,ER,Bq];exact⟨[],⟨V,.inl ⟨KB h,rfl,rfl⟩⟩,rfl,V,V⟩
  next n es=>rw[B_]at h;obtain⟨rfl,h⟩:=h;refine⟨?_,V,trivial⟩;simp only[BF,ER];exact⟨[],⟨W,⟨V,.inl ⟨KB h,rfl,rfl⟩⟩,rfl⟩,rfl,V,V⟩
  next es=>rw[B_]at h;obtain⟨rfl,h⟩:=h;refine⟨?_,V,trivial⟩;simp[BF,ER];exact⟨[],⟨W,⟨V,.inl ⟨KB h,rfl,rfl⟩⟩,rfl⟩,V,V⟩
theorem OX{ρ:IA}:∀{cs:List AO}{vs:List Value},PJ cs vs=X->vs.length=cs.length/\(∀(i:Nat)(c:AO),cs[i]?=Y c->∃x,vs[i]?=Y x/\BF w F ρ W c x)/\∀c∈cs,c.t.WF
 |[],vs,h=>by simp[PJ]at h;subst h;simp|c::cs,[],h=>by simp[PJ]at h|c::cs,v::vs,h=>by
  simp [PJ]at h;obtain⟨j,k,l⟩:=OX (cs:=cs) (vs:=vs) h.2;have g:=WH (w:=w) (F:=F) (ρ:=ρ) h.1;refine⟨j_,λi c' e=>?_,λc' e=>?_⟩
  .cases i with
   |zero=>simp at e;subst e;exact⟨v,rfl,g.1⟩|succ i=>exact k i c' i?
  .rcases List.mem_cons.1 e with rfl|e
   .exact g.2
   .exact l c' e
end
def U3(ε:AB):Option Nat->AB
 |some q=>Go.Sf.strip ε q|none=>ε
theorem Qr(ε:AB)(q:Option Nat)(p:Nat):(U3 ε q).get p=.undef\/((U3 ε q).get p=ε.get p/\Y p≠q):=by
 cases q with
 |none=>exact .inr ⟨rfl,V⟩|some e=>
  simp [U3,Go.Sf.strip,AB.bn]
  grind
section
variable{P:Program}{S:FuncId->Fq->As->Prop}{F0:Nat->Nat->Prop}{w0:W0}{ε:AB}{a:Act}{w:World}{G:BR}{d:Nat}{o:Oper}{K:EV->AB->Prop}
variable{c:Array Value}{θ:TypeId}
theorem AP.box(h:AP F0 w0 ε a w G)(hd:d<a.tmps.size)(j:ε.ek d=X){cs:List AO}(q:c.size=cs.length)
  (u:∀l,Bf w (w.alloc (.cells c θ)) (AU w0.heap.size F0 G) l->∀(i:Nat)(x:AO),cs[i]?=Y x->∃v,c[i]?=Y v/\BF (w.alloc (.cells c θ)) l (sr a G) W x v)(A:∀x∈cs,x.t.WF):
  Bt F0 w0 ((d,.bx cs)::ε) (a.put (Y d) (.pointer (Y ⟨w.heap.size,0,W⟩))) (w.alloc (.cells c θ)):=by
 have m:Below w.heap.size w (w.alloc (.cells c θ)):=(Below.refl _ _).alloc (R0 _) _;have p:∀(i:Option Nat)b lo,(if i=W then Y (w.heap.size,0)else W)=Y (b,lo)->w.heap.size<=b/\b<(w.alloc (.cells c θ)).heap.size:=by
  intro i b lo hi;split at hi
  .simp at hi;rw[<-hi.1];exact⟨R0 _,V⟩
  .cases hi
 have k:=Kv (F0:=F0) (w0:=w0) (G:=G) m d (λi=>if i=W then Y (w.heap.size,0)else W) (λi b lo hi=>(p i b lo hi).1);refine⟨_,h.quiet m d hd (.bx cs) _ (λi=>if i=W then Y (w.heap.size,0)else W) p (λi D b lo B e g=>?_) (λ_=>j) ?_ A⟩
 .split at e
  .split at g
   .simp_all
   .cases g
  .cases e
 .simp only[AM];refine⟨_,c,θ,rfl,heap_alloc_new w _,q,by rw[B1];simp,λi x C=>?_⟩;obtain⟨v,e,g⟩:=u _ k i x C;refine⟨v,e,?_⟩;rw[B1,Lz (Bj _ _ _) (λs E=>BE _ _ _ _ U)];simpa using g
variable{x:Operand}{y:AF}{t:TypeId}
theorem mb(m:AP F0 w0 ε a w G)(hd:d<a.tmps.size)(j:o.op=.box t x)(k:AK x y=X)(h:(AE.Abv y).wp S ε (Y d) K):A1 P F0 w0 a w o d K:=by
 simp [AE.wp]at h;split at h
 .rename_i u I hv e;simp at e;subst e;obtain⟨l,E⟩:=h;have A:=Ay m k hv;have p:=G4 A.1;have B:=BL p.1;refine⟨_,_,by simp[execOp,j,Instr.box,newVar,newRow],_,_,E,m.box hd l (c:=(a.eval x).cells) (θ:=t) v6 (λH q i c g=>?_) (λc g=>?_)⟩
  .rw[B']at g;simp at g;obtain⟨J,L,rfl⟩:=g;have C:i<u.cells.length:=by
    grind
   have D:(a.eval x).cells.toList[i]?=Y ((a.eval x).cells.toList[i]' U):=B! U;refine⟨(a.eval x).cells.toList[i]' U,by rw[<-E!];exact D,?_,p.2 _ (B? _)⟩
   grind [CH,Bh]
  grind [Bp,IV]
 .exact h.elim
variable{i:TypeInfo}{z:Value}
theorem pI(k:AP F0 w0 ε a w G)(hd:d<a.tmps.size){cs:List AO}(g:o.op=.alloc t)(hi:P.info? t=Y i)(l:i.zero=Y z)(e:PJ cs z.cells.toList=X)(h:(AE.alc cs).wp S ε (Y d) K):A1 P F0 w0 a w o d K:=by
 simp [AE.wp]at h;obtain⟨j,p⟩:=h;refine⟨_,_,?_,_,_,p,k.box hd j (c:=z.cells) (θ:=t) (by have:=(OX (w:=w) (F:=λ_ _=>False) (ρ:=λ_ _=>W) e).1;simpa using this) (λA _ i c m=>?_) (OX (w:=w) (F:=λ_ _=>False) (ρ:=λ_ _=>W) e).2.2⟩
 .simp[execOp,g,Instr.alloc,zeroValue,typeInfo,hi,l,newVar,newRow]
 .obtain⟨x,q,u⟩:=(OX e).2.1 i c m;exact⟨x,l!,u⟩
variable{s off:Nat}
theorem Hl(j:AP F0 w0 ε a w G)(g:AK x y=X)(e:y.place ε=Y (s,off)){cs:List AO}(k:ε.get s=.bx cs):
  ∃b,slot a s=.pointer (Y ⟨b,0,W⟩)/\a.eval x=.pointer (Y ⟨b,off,W⟩):=by
 cases y with
 |c t=>simp[AF.place]at e|s n=>
  cases x<;>simp[AK]at g;subst g;rename_i n;simp[AF.place]at e;have h:=Ag j k V;simp only[AM]at h;obtain⟨b,c,θ,m,_⟩:=h;split at e
  next q l he=>simp at e;obtain⟨rfl,rfl⟩:=e;have h:=Ag j he V;simp only[AM]at h;obtain⟨p,u,A⟩:=h ⟨cs,k⟩;exact⟨p,u,A⟩
  next cs' he=>simp at e;obtain⟨rfl,rfl⟩:=e;exact⟨b,m,m⟩
  .cases e
variable{b:Nat}
theorem AP.AbI(h:AP F0 w0 ε a w G){cs cs':List AO}(hs:ε.get s=.bx cs)(O:slot a s=.pointer (Y ⟨b,0,W⟩)){c c':Array Value}(D:w.heap[b]?=Y (.cells c θ (0,0)))
  {q:Option Nat}(hqs:q≠Y s)(hqlt:∀p,q=Y p->p<a.tmps.size){zs:Option Nat->Option (Nat×Nat)}(hzb:zs W=Y (b,0))
  (hz:∀i m lo,i≠W->zs i=Y (m,lo)->G s i=Y (m,lo)\/∃q',q=Y q'/\∃j,G q' j=Y (m,lo))
  (hzu:∀i η m lo R,zs i=Y (m,lo)->zs η=Y (m,R)->i=η)
  (hl:c'.size=cs'.length)(hcs:∀F' w',Bf w w' (AU w0.heap.size F0 G) F'->(∀k,k≠b->w'.heap[k]?=w.heap[k]?)->BJ w w' (sr a G)->∀(i:Nat)(x:AO),cs'[i]?=Y x->∃v,c'[i]?=Y v/\BF w' F' (sr a G) (zs (Y i)) x v)
  (hw:∀x∈cs',x.t.WF)(hxx:∀(k:Nat)(t:TV),t.Aav=X->cs'[k]?=Y ⟨X,t⟩->(ε.noX s (Y k)=X\/(cs[k]?=Y ⟨X,t⟩/\c'[k]?=c[k]?))):
  ∃ζ,AP F0 w0 ((s,.bx cs')::U3 ε q) a (w.setRow b c') ζ/\Bf w (w.setRow b c') (AU w0.heap.size F0 G) (AU w0.heap.size F0 ζ):=by
 have hx:∀(k n:Nat)(es:Fq),cs'[k]?=Y ⟨X,.xl n es⟩->(ε.noX s (Y k)=X\/((∃p,ε.o3 s (Y k)=Y p)/\c'[k]?=c[k]?)):=λk n es hk=>
  (hxx k _ rfl hk).imp id λ⟨A,J⟩=>⟨⟨(n,es),by simp[AB.o3,hs,A]⟩,J⟩
 have hxn:∀(k:Nat)(es:Fq),cs'[k]?=Y ⟨X,.xn es⟩->(ε.noX s (Y k)=X\/((∃p,ε.nat s k=Y p)/\c'[k]?=c[k]?)):=λk es hk=>
  (hxx k _ rfl hk).imp id λ⟨A,J⟩=>⟨⟨es,by simp[AB.nat,hs,A]⟩,J⟩
 have hsz:s<a.tmps.size:=Bi h hs V;have M:G s W=Y (b,0):=by
  have:=Ag h hs V
  grind [AM,nm]
 let ζ:BR:=λp=>if p=s then zs else if Y p=q then(λ_=>W)else G p
 have H:ζ s=zs:=by simp[ζ]
 have u:∀p i m lo,ζ p i=Y (m,lo)->∃δ η,G δ η=Y (m,lo)/\(δ=p\/Y δ=q)/\(p≠s->δ=p/\η=i):=by
  intro p i m lo hp;by_cases B:p=s
  .subst B;rw[H]at hp;by_cases hi:i=W
   .grind
   grind
  grind
 have hqout:∀p i m lo,ζ p i=Y (m,lo)->Y p≠q:=by
  grind
 have l:∀k,k≠b->(w.setRow b c').heap[k]?=w.heap[k]?:=λk hk=>setRow_other w b k _ hk;have hag:Bf w (w.setRow b c') (AU w0.heap.size F0 G) (AU w0.heap.size F0 ζ):=by
  intro m o v hc hF;have hbb:m≠b:=λe=>hF (.inr ⟨s,W,0,by rw[e];exact M,y! _⟩);refine⟨by rw[World.cell?_of_block (w:=w) (a:=⟨m,o,W⟩) (l m hbb)];exact hc,λhF'=>hF ?_⟩;rcases hF' with A|⟨p,i,lo,A,J⟩
  .exact .inl A
  .obtain⟨δ,η,h3,_⟩:=u p i m lo A;exact .inr ⟨δ,η,lo,h3,J⟩
 have hbelow:HQ F0 w0 (w.setRow b c'):=h.below.but rfl rfl rfl V (Z:=λk=>k=b) (λk hk=>by rw[hk];exact(h.lt _ _ _ _ M).2.imp id (λe o=>e o (y! _))) (λk _ hk=>l k hk);have hrs:BJ w (w.setRow b c') (sr a G):=λg j m lo hr=>l m (h.AbC hsz M hr);have hrho:sr a ζ=sr a G:=Lz rfl λp hp=>by
  grind
 refine ⟨ζ,⟨?_,?_,hbelow,h.defers,?_,?_,?_⟩,hag⟩
 .intro p i δ η m lo R A J;by_cases B:p=s<;>by_cases L:δ=s
  .subst B;subst L;rw[H]at A J;exact⟨rfl,hzu i η m lo R A J⟩
  .obtain⟨r,j,N,I,_⟩:=u p i m lo A;obtain⟨r',j',e3,_,e4⟩:=u δ η m R J;obtain⟨rfl,rfl⟩:=e4 L;obtain⟨rfl,_⟩:=h.gi _ _ _ _ _ _ _ N e3;rcases I with I|I
   .exact absurd (I.trans B) L
   .exact absurd I (hqout _ _ _ _ J)
  .obtain⟨r,j,N,I,_⟩:=u δ η m R J;obtain⟨r',j',e3,_,e4⟩:=u p i m lo A;obtain⟨rfl,rfl⟩:=e4 B;obtain⟨rfl,_⟩:=h.gi _ _ _ _ _ _ _ N e3;rcases I with I|I
   .exact absurd (I.trans L) B
   .exact absurd I (hqout _ _ _ _ A)
  .obtain⟨r,j,N,_,I⟩:=u p i m lo A;obtain⟨r',j',e3,_,e4⟩:=u δ η m R J;obtain⟨rfl,rfl⟩:=I B;obtain⟨rfl,rfl⟩:=e4 L;exact h.gi _ _ _ _ _ _ _ N e3
 .intro p i m lo A;obtain⟨r,j,N,_⟩:=u p i m lo A;have:=h.lt _ _ _ _ N;exact⟨u!,this.2⟩
 .intro p hp;rw[AB.bn,QQ U];cases q with
  |none=>exact h.dom p hp|some q'=>exact(h.strip q').dom p hp
 .intro p hp;rw[AB.bn];by_cases B:s=p
  .subst B;rw[Ne rfl];simp only[AM];refine⟨b,c',θ,O,setRow_heap w b c c' θ (0,0) D,hl,by rw[H];exact hzb,λi x hx=>?_⟩;obtain⟨v,A,J⟩:=hcs _ _ hag l hrs i x hx;exact⟨v,A,by rw[H,hrho];exact J⟩
  .rw[QQ B];have hcase:=Qr ε q p;rcases hcase with he|⟨he,hpq⟩<;>rw[he]
   .trivial
   .have hGp:∀i,ζ p i=G p i:=λi=>by simp[ζ];rw[QQ (λe=>B e.symm),QQ hpq]
    refine AM.kept hag hGp (λi m lo hb'=>l m (λe=>B (h.gi _ _ _ _ _ _ _ M (e▸hb')).1)) hrho hrs (λr i k hr⟨pp,κ⟩=>?_) (λr off hr⟨cs'',C⟩=>⟨?_,rfl⟩) (λr i hr⟨pp,κ⟩=>?_) (h.slots p hp)
    .by_cases E:s=r
     .subst E;obtain⟨cs'',A,J⟩:=AB.pN κ;rw[AB.bn,Ne rfl]at A;simp[EV.bx.injEq]at A;subst A;rcases hxn i pp J with h3|⟨h3,h4⟩
      .exact absurd hr (AB.noX_nh h3 p i (.inr rfl) k)
      .refine⟨h3,λv hv=>?_⟩;obtain⟨m,c0,T0,x0,N,I,e3,e4⟩:=hv;rw[O]at N;simp at N;subst N;rw[D]at I;cases I;obtain⟨es0,hes0⟩:=h3;obtain⟨cs0,f1,f2⟩:=AB.pN hes0;have hr0:=h.slots s hsz;rw[f1]at hr0;simp only[AM]at hr0;obtain⟨b2,c2,T2,g1,g2,_,_,g5⟩:=hr0;rw[O]at g1;simp at g1;subst g1;rw[D]at g2;cases g2;obtain⟨x1,k1,k2⟩:=g5 i _ f2;rw[e3]at k1;simp at k1;subst k1;refine⟨_,_,_,x0,O,setRow_heap w _ _ c' _ (0,0) D,h4.trans e3,e4.kept λg len cap e=>?_⟩;subst e;have hgz:=Fw.nil_or k2;exact l g (λe=>by
        have:=(h.gi _ _ _ _ _ _ _ M (e▸hgz)).2;cases this)
     .rw[AB.Aab E]at κ;have hp2:ε.nat r i=Y pp:=by
       grind [Qr,AB.nat_undef,AB.Aap]
      exact ⟨⟨pp,hp2⟩,h.nh ⟨pp,hp2⟩ rfl (λj m _ hb'=>l m (λe=>E (h.gi _ _ _ _ _ _ _ M (e▸hb')).1))⟩
    .rw[AB.bn]at C;split at C
     next E=>subst E;exact⟨cs,hs⟩
     .rcases Qr ε q r with he|⟨he,_⟩<;>rw[he]at C
      .cases C
      .exact⟨_,C⟩
    .by_cases E:s=r
     .subst E;obtain⟨n,es⟩:=pp;cases i with
      |none=>have:=AB.q0 κ;rw[AB.bn,Ne rfl]at this;cases this
      |some k=>
       obtain ⟨cs'',A,J⟩:=AB.pc κ;rw[AB.bn,Ne rfl]at A;simp[EV.bx.injEq]at A;subst A;rcases hx k n es J with h3|⟨h3,h4⟩
       .have h5:=AB.noX_spec h3 p k (.inr rfl);rcases hr with hr|⟨c,hr⟩
        .exact absurd hr h5.1
        .exact absurd hr (h5.2 c)
       .refine⟨h3,λv hv=>?_⟩;obtain⟨m,c0,T0,N,I,e3⟩:=hv;rw[O]at N;simp at N;subst N;rw[D]at I;cases I;exact⟨_,_,_,O,setRow_heap w _ _ c' _ (0,0) D,h4.trans e3⟩
     .rw[AB.x7 E]at κ;have hp2:ε.o3 r i=Y pp:=by
       grind [Qr,AB.AaF,AB.Aae]
      exact ⟨⟨pp,hp2⟩,h.xv ⟨pp,hp2⟩ rfl (λm hb'=>l m (λe=>E (h.gi _ _ _ _ _ _ _ M (e▸hb')).1))⟩
 .intro p;rw[AB.bn];split
  .exact hw
  .cases q with
   |none=>exact h.wf p|some q'=>exact(h.strip q').wf p
end
end Go.Sf
namespace Go.Sf
open Go.RowKit (Below)
def IB(P:Program)(F0:Nat->Nat->Prop)(w0:W0)(a:Act)(w:World)(o:Oper)(K:EV->AB->Prop):Prop:=
 ∃w',(execOp a.eval o).run P w=.ok .skip w'/\∃env',K .undef env'/\Bt F0 w0 env' a w'
section
variable{P:Program}{S:FuncId->Fq->As->Prop}{F0:Nat->Nat->Prop}{w0:W0}{ε:AB}{a:Act}{w:World}{G:BR}{d:Nat}{o:Oper}{K:EV->AB->Prop}
variable{s b:Nat}{θ:TypeId}
theorem AP.rebox_n(h:AP F0 w0 ε a w G){cs cs':List AO}(C:ε.get s=.bx cs)(j:slot a s=.pointer (Y ⟨b,0,W⟩)){c c':Array Value}(g:w.heap[b]?=Y (.cells c θ (0,0)))
  {zs:Option Nat->Option (Nat×Nat)}(l:zs W=Y (b,0))
  (D:∀i e lo,i≠W->zs i=Y (e,lo)->G s i=Y (e,lo))
  (m:∀i A e lo u,zs i=Y (e,lo)->zs A=Y (e,u)->i=A)
  (E:c'.size=cs'.length)(p:∀B w',Bf w w' (AU w0.heap.size F0 G) B->(∀k,k≠b->w'.heap[k]?=w.heap[k]?)->BJ w w' (sr a G)->∀(i:Nat)(x:AO),cs'[i]?=Y x->∃v,c'[i]?=Y v/\BF w' B (sr a G) (zs (Y i)) x v)
  (H:∀x∈cs',x.t.WF)(I:∀(k:Nat)(t:TV),t.Aav=X->cs'[k]?=Y ⟨X,t⟩->(ε.noX s (Y k)=X\/(cs[k]?=Y ⟨X,t⟩/\c'[k]?=c[k]?))):
  Bt F0 w0 ((s,.bx cs')::ε) a (w.setRow b c'):=by
 obtain ⟨M,N,_⟩:=h.AbI C j g (q:=W) V V l (λi e lo J L=>.inl (D i e lo J L)) m E p H I;exact⟨M,N⟩
theorem AP.rebox_q(h:AP F0 w0 ε a w G){cs cs':List AO}(N:ε.get s=.bx cs)(A:slot a s=.pointer (Y ⟨b,0,W⟩)){c c':Array Value}(m:w.heap[b]?=Y (.cells c θ (0,0)))
  {q:Nat}{u:TV}(g:ε.get q=.ow u)(B:q≠s){zs:Option Nat->Option (Nat×Nat)}(C:zs W=Y (b,0))
  (O:∀i l lo,i≠W->zs i=Y (l,lo)->G s i=Y (l,lo)\/∃J,Y q=Y J/\∃j,G J j=Y (l,lo))
  (D:∀i L l lo H,zs i=Y (l,lo)->zs L=Y (l,H)->i=L)
  (R:c'.size=cs'.length)(E:∀M w',Bf w w' (AU w0.heap.size F0 G) M->(∀k,k≠b->w'.heap[k]?=w.heap[k]?)->BJ w w' (sr a G)->∀(i:Nat)(x:AO),cs'[i]?=Y x->∃v,c'[i]?=Y v/\BF w' M (sr a G) (zs (Y i)) x v)
  (κ:∀x∈cs',x.t.WF)(η:∀(k:Nat)(t:TV),t.Aav=X->cs'[k]?=Y ⟨X,t⟩->(ε.noX s (Y k)=X\/(cs[k]?=Y ⟨X,t⟩/\c'[k]?=c[k]?))):
  Bt F0 w0 ((s,.bx cs')::(q,.tv u)::ε) a (w.setRow b c'):=by
 obtain ⟨δ,Z,I⟩:=h.AbI N A m (q:=Y q) v6 (λp ζ=>by cases ζ;exact Bi h g V) C O D R E κ η;have hv:=Ay h (x:=.tmp q) (y:=.s q) r! (t:=u) (by simp[AF.val,AF.ev,g,EV.val]);refine⟨δ,Z.rem q (t:=u) (Bi h g V) (CH I _ _ hv.1) hv.2 λn=>?_⟩;simp[U3,Go.Sf.strip,AB.bn];split
 .exact .inl rfl
 .split
  next e=>exact .inr ⟨e.symm,rfl⟩
  .exact .inl rfl
variable{t:TypeId}{n:Nat}
theorem gf(B:AP F0 w0 ε a w G){x v:Operand}{x' v':AF}(hop:o.op=.store t x v)(hx:AK x x'=X)(hv:AK v v'=X)(hn:C7 P t=Y n)(h:(AE.st n x' v').wp S ε W K):IB P F0 w0 a w o K:=by
 simp only[AE.wp]at h;split at h
 .rename_i s off hp;split at h
  .rename_i cs hs;obtain⟨b,Z,hadr⟩:=Hl B hx hp hs;have hr:=Ag B hs V;simp only[AM]at hr;obtain⟨L,c,θ,h1,h2,h3,h4,h5⟩:=hr;rw[Z]at h1;simp at h1;subst h1;have hw:=B.wf s;rw[hs]at hw;have hst:∀(vs:List Value),vs.length=n->(a.eval v).cells.toList=vs->off+n<=c.size->(∀y∈vs,y.oneCell'=X)->(execOp a.eval o).run P w=.ok .skip (w.setRow b (c.toList.take off++vs++c.toList.drop (off+n)).toArray):=by
    intro vs hl ζ hle ho;have N:=run_storeCells_at P b off θ vs 0 c w h2 U ho;simp at N;have hsz:(a.eval v).cells.size=n:=by rw[<-E?,ζ,hl]
    rw [hl]at N;simp[execOp,hop,hadr,Instr.storeAt,Instr.sureAddr,storeVar,CG hn,hsz,ζ,N]
   split at h
   ·
    rename_i u H;cases v' with
    |c t=>exact h.elim|s q=>
     simp only at h;obtain⟨R,hn1,η,hK⟩:=h;subst hn1;cases v<;>simp[AK]at hv;subst hv;rename_i q;simp[AF.ev]at H;have E:=Ag B H V;simp[AM]at E;have hqw:=B.wf q;rw[H]at hqw;have O:=Vr E;have δ:(a.eval (.tmp q)).cells.toList=[slot a q]:=by
      have:a.eval (.tmp q)=slot a q:=rfl;rw[this];cases hsq:slot a q<;>rw[hsq]at O<;>first|rfl|simp[Value.oneCell']at O
     refine ⟨_,hst [slot a q] rfl δ U (by simpa using O),_,hK,?_⟩
     let zs:Option Nat->Option (Nat×Nat):=λi=>match i with|none=>Y (b,0)|some j=>if j=off then G q W else G s (Y j)
     refine B.rebox_q hs Z h2 H (λe=>R e) (zs:=zs) rfl ?_ ?_ ?_ ?_ ?_ ?_
     .intro i L lo hi κ;cases i with
      |none=>exact absurd rfl hi|some j=>
       simp [zs]at κ;split at κ
       .exact .inr ⟨q,rfl,W,κ⟩
       .exact .inl κ
     .intro i i' L lo D g p;have zn:∀j L lo D,zs (Y j)=Y (L,lo)->zs W=Y (L,D)->False:=by
       intro j L lo D g p;simp[zs]at p;obtain⟨rfl,_⟩:=p;simp[zs]at g;split at g
       .exact R (B.gi _ _ _ _ _ _ _ g h4).1
       .have:=(B.gi _ _ _ _ _ _ _ g h4).2;cases this
      cases i with
      |none=>cases i' with
       |none=>rfl|some j=>exact(zn j _ _ _ p g).elim
      |some j=>cases i' with
       |none=>exact(zn j _ _ _ g p).elim|some j'=>
        simp [zs]at g p;split at g<;>split at p
        next e3 e4=>rw[e3,e4]
        .exact absurd (B.gi _ _ _ _ _ _ _ g p).1 R
        .exact absurd (B.gi _ _ _ _ _ _ _ p g).1 R
        .exact(B.gi _ _ _ _ _ _ _ g p).2
     .simp;omega
     .intro F' w' I C M i y l;rw[C_]at l;by_cases hi:off=i
      .subst hi;rw[Ne rfl,Ne η]at l;simp at l;subst l;refine⟨slot a q,?_,?_⟩
       .rw[A_,ae,C' an];simp;rw[y? U,Nat.sub_self];rfl
       .simp[BF,zs];exact E.c.kept I (λk lo m=>C k (λe=>R (B.gi _ _ _ _ _ _ _ (e▸m) h4).1)) M
      .rw[QQ hi]at l;obtain⟨vv,g,p⟩:=h5 i y l;refine⟨vv,?_,?_⟩
       .rw[A_];rcases x! i off with A|hge
        .rw[ae,A' an,A! A];simpa using g
        .rw[C' an];simp only[aE,aN,E?,C!];rw[y? U,C?,show off+1+(i-(off+1))=i from U];simpa using g
       .have hi':¬i=off:=λe=>hi e.symm;simp[zs];rw[QQ hi'];exact p.kept I (λk lo m=>C k (λe=>o1)) M
     .intro y l;rcases D_ l with l|rfl
      .exact hw y l
      .exact hqw
     .intro k tx htx m;rw[C_]at m;by_cases hi:off=k
      .rw[Ne hi]at m;rw[Ne U]at m;simp[AO.mk.injEq]at m;subst m;cases u<;>first|(simp[Bq]at E;done)|(simp[TV.Aav]at htx;done)
      .rw[QQ hi]at m;refine .inr ⟨m,?_⟩;have hkc:k<c.size:=by
        have:=(D'.1 m).1;omega
       rw [A_];rcases x! k off with A|hge
       .rw[ae,A' an,A! A,E!]
       .rw[C' an];simp only[aE,aN,E?,C!];rw[y? U,C?,show off+1+(k-(off+1))=k from U,E!]
   ·
    rename_i u H;obtain⟨hun,η,hK⟩:=h;have hvv:=YA B hv H;have ζ:=G4 hvv.1;have J:=BL ζ.1;refine⟨_,hst _ U rfl U ζ.2,_,hK,?_⟩
    let zs:Option Nat->Option (Nat×Nat):=λi=>match i with|none=>Y (b,0)|some j=>if off<=j/\j<off+n then W else G s (Y j)
    refine B.rebox_n hs Z h2 (zs:=zs) rfl ?_ ?_ ?_ ?_ ?_ ?_
    .intro i L lo hi κ;cases i with
     |none=>exact absurd rfl hi|some j=>
      simp only[zs]at κ;split at κ
      .cases κ
      .exact κ
    .intro i i' L lo D g p;have zn:∀j L lo D,zs (Y j)=Y (L,lo)->zs W=Y (L,D)->False:=by
      intro j L lo D g p;simp[zs]at p;obtain⟨rfl,_⟩:=p;simp only[zs]at g;split at g
      .cases g
      .have:=(B.gi _ _ _ _ _ _ _ g h4).2;cases this
     cases i with
     |none=>cases i' with
      |none=>rfl|some j=>exact(zn j _ _ _ p g).elim
     |some j=>cases i' with
      |none=>exact(zn j _ _ _ g p).elim|some j'=>
       simp only[zs]at g p;split at g<;>split at p
       .cases g
       .cases g
       .cases p
       .exact(B.gi _ _ _ _ _ _ _ g p).2
    .simp at J|-;omega
    .intro F' w' I C M i y l;rw[A_];rcases x! i off with A|hge
     .rw[ae,A' an,A! A]at l;obtain⟨vv,g,p⟩:=h5 i y l;refine⟨vv,?_,?_⟩
      .rw[ae,A' an,A! A];simpa using g
      .simp[zs];rw[QQ U];exact p.kept I (λk lo m=>C k (λe=>o1)) M
     .rcases x! i (off+n)with A|hge2
      .rw[ae,C' an,A' an]at l;simp[B']at l;rw[y? U]at l;obtain⟨tt,htt,rfl⟩:=l;have hx':(a.eval v).cells.toList[i-off]?=Y ((a.eval v).cells.toList[i-off]' U):=B! U;refine⟨(a.eval v).cells.toList[i-off]' U,?_,?_⟩
       .rw[ae,C' an,A' (by simp at J|-;omega)];simp only[aN,E?];rw[y? U];exact hx'
       .exact⟨CH I _ _ (((Bh _ _).1 ζ.1).2 _ tt _ htt hx'),ζ.2 _ (B? _)⟩
      .rw[C' an]at l;simp[C?]at l;rw[y? U,show off+n+(i-(off+u.cells.length))=i from U]at l;obtain⟨vv,g,p⟩:=h5 i y l;refine⟨vv,?_,?_⟩
       .rw[C' (by simp at J|-;omega)];simp[C?]at J|-;rw[y? U,show off+n+(i-(off+(a.eval v).cells.size))=i from U];simpa using g
       .simp[zs];rw[QQ U];exact p.kept I (λk lo m=>C k (λe=>o1)) M
    .intro y l;rcases A?.1 l with l|l
     .rcases A?.1 l with l|l
      .exact hw y (List.mem_of_mem_take l)
      .simp at l;obtain⟨tt,htt,rfl⟩:=l;exact Bp.1 (IV hvv.2) tt htt
     .exact hw y (List.mem_of_mem_drop l)
    .intro k tx htx m;have hlen:(cs.take off++u.cells.map (λt=>(⟨T,t⟩:AO))++cs.drop (off+n)).length=cs.length:=by
      simp;omega
     have hkl:k<cs.length:=by rw[<-hlen];exact(D'.1 m).1
     rw [A_];rcases x! k off with A|hge
     .rw[ae,A' an,A! A]at m;refine .inr ⟨m,?_⟩;rw[ae,A' an,A! A,E!]
     .rcases x! k (off+n)with A|hge2
      .rw[ae,C' an,A' an,B']at m;simp[AO.mk.injEq,exists_false]at m
      .rw[C' an]at m;simp[C?]at m;rw[y? U,show off+n+(k-(off+u.cells.length))=k from U]at m;refine .inr ⟨m,?_⟩;rw[C' (by simp at J|-;omega)];simp only[aE,aN,E?,C?]at J|-;rw[y? U,show off+n+(k-(off+(a.eval v).cells.size))=k from U,E!]
   .exact h.elim
  .exact h.elim
 .exact h.elim
theorem AP.frz(h:AP F0 w0 ε a w G){cs:List AO}(J:ε.get s=.bx cs):Bt F0 w0 ((s,.tv (.pt (cs.map (·.t))))::ε) a w:=by
 have hsz:s<a.tmps.size:=Bi h J V;have E:=Ag h J V;have hw:=h.wf s;rw[J]at hw;simp only[AM]at E;obtain⟨b,c,θ,h1,h2,h3,η,h5⟩:=E
 let D:BR:=Je G s (λ_=>W)
 have l:∀p i B lo,D p i=Y (B,lo)->p≠s/\G p i=Y (B,lo):=by
  intro p i B lo m;by_cases g:p=s
  .grind[B1]
  .simp[D,BE _ _ _ _ g]at m;exact⟨g,m⟩
 have H:Bf w w (AU w0.heap.size F0 G) (AU w0.heap.size F0 D):=λB o v ζ δ=>⟨ζ,λL=>δ (AU.mono (λp i Z lo m=>⟨p,i,lo,(l _ _ _ _ m).2,R0 _⟩) L)⟩;refine⟨D,λp i p' i' B lo lo' C M=>h.gi _ _ _ _ _ _ _ (l _ _ _ _ C).2 (l _ _ _ _ M).2,λp i B lo C=>h.lt _ _ _ _ (l _ _ _ _ C).2,h.below,h.defers,λp m=>?_,λp m=>?_,λp=>?_⟩
 .rw[AB.bn,QQ U];exact h.dom p m
 .rw[AB.bn];by_cases g:s=p
  .subst g;rw[Ne rfl,h1];simp only[AM,Aq];refine⟨b,0,rfl,?_⟩;rw[JB];intro i t O;rw[B']at O;simp at O;obtain⟨cell,A,rfl⟩:=O;obtain⟨x,hx,I⟩:=h5 i cell A;refine⟨x,?_,?_,HK I,CH H _ _ (WY h I)⟩
   .rw[w?,cell_of_row w b i c θ (0,0) h2];exact hx
   .rintro(⟨C,R⟩|⟨p,j,lo,C,_⟩)
    .exact(h.lt _ _ _ _ η).2.elim (λe=>U) (λe=>h.below.free _ 0 _ (e 0 (y! 0)) R)
    .obtain⟨M,e3⟩:=l _ _ _ _ C;exact M (h.gi _ _ _ _ _ _ _ e3 η).1
  .rw[QQ g];refine AM.kept H (λi=>by simp[D];rw[BE _ _ _ _ (λe=>g e.symm)]) (λ_ _ _ _=>rfl) (Lz rfl λq hq=>by simp[D];rw[BE _ _ _ _ U]) BJ.rfl' (λr i k E⟨N,u⟩=>⟨⟨N,(AB.tn V u).2⟩,λ_ hv=>hv⟩) (λr off E⟨cs',κ⟩=>?_) (λr i E⟨N,u⟩=>⟨⟨N,(AB.o4 V V u).2⟩,λ_ hv=>hv⟩) (h.slots p m)
   grind [AB.bn]
 .rw[AB.bn];split
  .grind[EV.WF,TV.WF,Bp]
  .exact h.wf p
theorem W7{w:World}{F g:Nat->Nat->Prop}{z:Option (Nat×Nat)}{j:Fq}{x:Value}(h:Q9 w F z n j x)(k:Bf w w F g)(l:∀b lo o,z=Y (b,lo)->¬g b o):Aq w g (.list n j) x:=by
 obtain ⟨ys,⟨p,q,u⟩,A,B,C⟩:=h;have e:Bq w g p (.list n j) x:=⟨ys,q,Ar k _ _ A,B,C⟩;exact e.rep λb lo o m _=>l b 0 o (by rw[u,m];rfl)
theorem AP.rls(h:AP F0 w0 ε a w G){cs:List AO}(hs:ε.get s=.bx cs):Bt F0 w0 ((s,.bx (cs.map AO.rel))::ε) a w:=by
 classical
 have hsz:s<a.tmps.size:=Bi h hs V;have hr:=Ag h hs V;have hw:=h.wf s;rw[hs]at hw;simp only[AM]at hr;obtain⟨b,c,θ,h1,h2,h3,h4,h5⟩:=hr
 let zs:Option Nat->Option (Nat×Nat):=λi=>match i with
  |none=>G s W|some k=>match cs[k]? with
   |some ⟨X,.xl n es⟩=>(G s (Y k)).map λp=>(p.1,es.length*n)|some ⟨X,.xn es⟩=>(G s (Y k)).map λp=>(p.1,es.length*1)|_=>G s (Y k)
 let Q:Nat->Prop:=λp=>a.tmps.size<=p/\∃k lo,G s (Y k)=Y (p-a.tmps.size,lo)
 let D:BR:=λp=>if p=s then zs else if Q p then λ_=>W else G p
 have η:D s=zs:=by simp[D]
 have I:∀p i E lo,D p i=Y (E,lo)->∃C,G p i=Y (E,C)/\C<=lo:=by
  intro p i E lo m;by_cases B:p=s
  .subst B;rw[η]at m;cases i with
   |none=>exact⟨lo,m,R0 _⟩|some k=>
    simp [zs]at m;split at m
    next n es hk=>obtain⟨x,_,xs,⟨z0,_,L⟩,_⟩:=h5 k _ hk;simp only[L,F_,F!,Function.comp,Prod.mk.injEq]at m;obtain⟨p,m,q,u⟩:=m;exact⟨0,by rw[L,m,<-q];rfl,y! _⟩
    next es hk=>obtain⟨x,_,xs,⟨z0,_,L⟩,_⟩:=h5 k _ hk;simp only[L,F_,F!,Function.comp,Prod.mk.injEq]at m;obtain⟨p,m,q,u⟩:=m;exact⟨0,by rw[L,m,<-q];rfl,y! _⟩
    .exact⟨lo,m,R0 _⟩
  .simp[D,QQ B]at m;split at m
   .cases m
   .exact⟨lo,m,R0 _⟩
 have M:Bf w w (AU w0.heap.size F0 G) (AU w0.heap.size F0 D):=λE o v hc hF=>⟨hc,λhF'=>hF (AU.mono (λp i b'' lo m=>by
  obtain ⟨C,q,u⟩:=I _ _ _ _ m;exact⟨p,i,C,q,u⟩) hF')⟩
 have hrow:∀k g j E lo o,G s (Y k)=Y (g,0)->sr a G g j=Y (E,lo)->¬AU w0.heap.size F0 D E o:=by
  intro k g j E lo o L hρ;rintro(⟨q,u⟩|⟨p,i,lo',q,u⟩)
  .exact(h.lt _ _ _ _ hρ).2.elim (λe=>U) (λe=>h.below.free _ lo _ (e lo (R0 _)) u)
  .obtain⟨C,e3,_⟩:=I _ _ _ _ q;obtain⟨rfl,_⟩:=h.gi _ _ _ _ _ _ _ hρ e3;simp[D]at q;rw[QQ U,Ne ⟨U,k,0,by rw[z_];exact L⟩]at q;cases q
 have hrel:∀{k:Nat}{d:AO}{x:Value},cs[k]?=Y d->BF w (AU w0.heap.size F0 G) (sr a G) (G s (Y k)) d x->BF w (AU w0.heap.size F0 D) (sr a D) (zs (Y k)) d.rel x:=by
  intro k d x hk hd;have N:zs (Y k)=match d with
   |⟨X,.xl n es⟩=>(G s (Y k)).map λp=>(p.1,es.length*n)|⟨X,.xn es⟩=>(G s (Y k)).map λp=>(p.1,es.length*1)|_=>G s (Y k):=by
   simp only[zs,hk];obtain⟨o,t⟩:=d;cases o<;>cases t<;>rfl
  generalize hzz:zs (Y k)=z' at N;unfold AO.rel;split
  .rename_i n es;subst N;obtain⟨xs,⟨z0,δ,k2⟩,k3,k4,k5⟩:=hd;refine⟨xs,?_,Ar M _ _ k3,k4,k5⟩;have:(G s (Y k)).map (λp=>(p.1,es.length*n))=z0:=by
    rw [k2];rcases δ.2 with⟨_,_,e⟩|⟨g,cap,cur,e,_,_,_,_,_,_,e⟩
    .rw[e];rfl
    .rw[e];rfl
   show GU w n x es.length xs ((G s (Y k)).map λp=>(p.1,es.length*n));rw[this];exact δ
  .rename_i es;subst N;obtain⟨xs,⟨z0,δ,k2⟩,k3,k4⟩:=hd;have hlen:xs.length=es.length:=by have:=δ.1;omega
   have hone:∀e∈es,e.cells.length=1:=by
    intro e he;obtain⟨j,hj⟩:=D! he;obtain⟨g,x,n,Z,_,_,rfl,_⟩:=k4 j e hj;rfl
   have hfm:∀(l:Fq),(∀e∈l,∃n Z,e=TV.list n Z)->l.flatMap TV.cells=l:=by
    intro l
    induction l with
    |nil=>intro _;rfl|cons e l ih=>
     intro hl;obtain⟨n,Z,rfl⟩:=hl e V;rw[D?,ih (λe he=>hl e (by simp[he]))];rfl
   refine ⟨xs,?_,?_,hone,k3⟩
   .have:(G s (Y k)).map (λp=>(p.1,es.length*1))=z0:=by
     rw [k2];rcases δ.2 with⟨_,_,e⟩|⟨g,cap,cur,e,_,_,_,_,_,_,e⟩
     .rw[e];rfl
     .rw[e];rfl
    show GU w 1 x es.length xs ((G s (Y k)).map λp=>(p.1,es.length*1));rw[this];exact δ
   .rw[hfm es λe he=>by
     obtain ⟨j,hj⟩:=D! he;obtain⟨g,x,n,Z,_,_,rfl,_⟩:=k4 j e hj;exact⟨_,_,rfl⟩]
    rw [Bh];refine⟨hlen,λj e y hj hy=>?_⟩;obtain⟨g,x,n,Z,q,u,rfl,e4⟩:=k4 j e hj;rw[hy]at u;cases u;exact W7 e4 M λE lo o hb=>hrow k g j E lo o q hb
  .rename_i hne R;have:z'=G s (Y k):=by
    rw [N];split
    .exact absurd rfl (hne _ _)
    .exact absurd rfl (R _)
    .rfl
   rw [this];have hd2:=hd.kept M (λ_ _ _=>rfl) BJ.rfl';obtain⟨o,t⟩:=d;cases o
   .exact hd2
   .cases t<;>first|exact hd2|exact absurd rfl (R _)
 refine ⟨D,λp i p' i' E lo lo' q u=>?_,λp i E lo q=>?_,h.below,h.defers,λp m=>?_,λp m=>?_,λp=>?_⟩
 .obtain⟨_,f1,_⟩:=I _ _ _ _ q;obtain⟨_,f2,_⟩:=I _ _ _ _ u;exact h.gi _ _ _ _ _ _ _ f1 f2
 .obtain⟨C,f1,f2⟩:=I _ _ _ _ q;exact⟨(h.lt _ _ _ _ f1).1,(h.lt _ _ _ _ f1).2.imp id λk o ho=>k o (y_ f2 ho)⟩
 .rw[AB.bn,QQ U];exact h.dom p m
 .rw[AB.bn];by_cases B:s=p
  .subst B;rw[Ne rfl,h1];simp only[AM];refine⟨b,c,θ,rfl,h2,by simpa using h3,by rw[η];exact h4,λi d hd=>?_⟩;rw[B']at hd;simp at hd;obtain⟨κ,O,rfl⟩:=hd;obtain⟨x,hx,hc⟩:=h5 i κ O;refine⟨x,hx,?_⟩;rw[η];exact hrel O hc
  .rw[QQ B];have hGp:∀i,D p i=G p i:=λi=>by
    simp [D];rw[QQ (λe=>B e.symm),QQ (λe=>q!)]
   refine AM.kept' M hGp (λ_ _ _ _=>rfl) (λi g lo j L=>?_) (λ_=>BJ.spot BJ.rfl') (λr i k hr⟨ζ,A⟩=>?_) (λr off hr⟨cs',H⟩=>?_) (λr i hr⟨ζ,A⟩=>?_) (h.slots p m)
   .simp[sr,D];rw[QQ U,QQ];rintro⟨_,k,lo',e⟩;rw[z_]at e;exact B (h.gi _ _ _ _ _ _ _ e L).1
   .by_cases J:s=r
    .subst J;exfalso;obtain⟨cs',q,u⟩:=AB.pN A;rw[AB.bn,Ne rfl]at q;cases q;rw[B']at u;simp at u;obtain⟨κ,_,e3⟩:=u;obtain⟨o,t⟩:=κ;cases o<;>cases t<;>simp[AO.rel]at e3
    .rw[AB.Aab J]at A;exact⟨⟨ζ,A⟩,λv hv=>hv⟩
   .rw[AB.bn]at H;split at H
    next e=>subst e;exact⟨⟨cs,hs⟩,rfl⟩
    .exact⟨⟨cs',H⟩,rfl⟩
   .by_cases J:s=r
    .subst J;exfalso;cases i with
     |none=>simp[AB.o3,AB.bn]at A|some k=>
      obtain ⟨cs',q,u⟩:=AB.pc (n:=ζ.1) (es:=ζ.2) A;rw[AB.bn,Ne rfl]at q;cases q;rw[B']at u;simp at u;obtain⟨κ,_,e3⟩:=u;obtain⟨o,t⟩:=κ;cases o<;>cases t<;>simp[AO.rel]at e3
    .have:ε.o3 r i=Y ζ:=by
      rw [<-A];exact(AB.Aae (by rw[AB.bn,QQ J])).symm
     exact ⟨⟨ζ,this⟩,λv hv=>hv⟩
 .rw[AB.bn];split
  .intro d hd;obtain⟨κ,O,rfl⟩:=E_.1 hd;have:=hw κ O;obtain⟨o,t⟩:=κ;cases o<;>cases t<;>exact this
  .exact h.wf p
end
end Go.Sf
namespace Go.Sf
open Go.RowKit (Below)
section
variable{P:Program}{S:FuncId->Fq->As->Prop}{F0:Nat->Nat->Prop}{w0:W0}{ε:AB}{a:Act}{w:World}{G:BR}{d:Nat}{o:Oper}{K:EV->AB->Prop}
variable{s off b:Nat}
theorem AP.AaL(h:AP F0 w0 ε a w G){cs:List AO}(ζ:ε.get s=.bx cs){t:TV}(Z:cs[off]?=Y ⟨X,t⟩)(hd:d<a.tmps.size)(hsl:slot a s=.pointer (Y ⟨b,0,W⟩)){x:Value}(hx:w.cell? ⟨b,off,W⟩=Y x){e:EV}{t':TV}(u:(e=.ow t/\t'=t/\t.Aav=T)\/(∃n es,t=.xl n es/\e=.xo n es/\t'=.undef/\ε.ek d=X)\/∃es,t=.xn es/\e=.xn es/\t'=.undef/\ε.ek d=X):
  Bt F0 w0 ((d,e)::(s,.bx (cs.set off ⟨T,t'⟩))::ε) (a.put (Y d) x) w:=by
 have H:=Ag h ζ V;have hw:=h.wf s;rw[ζ]at hw;simp only[AM]at H;obtain⟨O,c,θ,η,N,h3,h4,h5⟩:=H;rw[hsl]at η;simp at η;subst η;obtain⟨x',hx',g⟩:=h5 off _ Z;have M:x'=x:=by
  rw [cell_of_row w b off c θ (0,0) N]at hx
  grind
 subst M;simp[BF]at g
 let J:BR:=λp i=>if p=d then(if i=W then G s (Y off)else W)else if p=s/\i=Y off then W else G p i
 have R:∀p i O lo,J p i=Y (O,lo)->(p=d/\i=W/\G s (Y off)=Y (O,lo))\/(p≠d/\¬(p=s/\i=Y off)/\G p i=Y (O,lo)):=by
  grind
 have A:Bf w w (AU w0.heap.size F0 G) (AU w0.heap.size F0 J):=λO o v Z hF=>⟨Z,λhF'=>hF (AU.mono (λp i b'' lo δ=>by
  grind) hF')⟩
 have C:sr (a.put (Y d) x') J=sr a G:=Lz (Bj _ _ _) λq hq=>by
  have hsz:s<a.tmps.size:=Bi h ζ V
  grind
 refine ⟨J,?_,?_,h.below,i!,?_,?_,?_⟩
 .intro p i p' i' O lo lo' I e2;rcases R _ _ _ _ I with⟨rfl,rfl,f1⟩|⟨n1,n2,f1⟩<;>rcases R _ _ _ _ e2 with⟨rfl,rfl,f2⟩|⟨m1,m2,f2⟩
  .exact⟨rfl,rfl⟩
  .exact absurd ((h.gi _ _ _ _ _ _ _ f1 f2).imp Eq.symm Eq.symm) m2
  .exact absurd (h.gi _ _ _ _ _ _ _ f1 f2) n2
  .exact h.gi _ _ _ _ _ _ _ f1 f2
 .intro p i O lo I;rcases R _ _ _ _ I with⟨_,_,I⟩|⟨_,_,I⟩<;>exact h.lt _ _ _ _ I
 .intro p δ;rw[Bj]at δ;have hsz:s<a.tmps.size:=Bi h ζ V;rw[AB.bn,QQ U,AB.bn,QQ U];exact h.dom p δ
 .intro p δ;rw[Bj]at δ;rw[AB.bn];by_cases D:d=p
  .subst D;rw[Ne rfl,Cx _ _ _ hd];rcases u with⟨rfl,rfl,hxl⟩|⟨n,es,rfl,rfl,rfl,_⟩|⟨es,rfl,rfl,rfl,_⟩
   .simp[AM,J];exact(g.own hxl).kept A (λ_ _ _=>rfl)
   .have:=g.kept A (λ_ _ _=>rfl) BJ.rfl';simp[ER]at this;simp[AM,J];exact this
   .have:=g.kept A (λ_ _ _=>rfl) BJ.rfl';simp[ER]at this;simp[AM];rw[C];simp[J];exact this
  .rw[QQ D,AY _ _ _ _ D,AB.bn];by_cases κ:s=p
   .subst κ;rw[Ne rfl];have hsd:¬s=d:=λe=>D e.symm;simp only[AM];refine⟨b,c,θ,hsl,N,by simpa using h3,by simp only[J];rw[QQ hsd,QQ V];exact h4,λi y B=>?_⟩;rw[C_]at B;by_cases hi:off=i
    .subst hi;rw[Ne rfl]at B;split at B
     .simp at B;subst B;refine⟨x',hx',?_,PK g⟩;rcases u with⟨rfl,rfl,hxl⟩|⟨n,es,rfl,rfl,rfl,_⟩|⟨es,rfl,rfl,rfl,_⟩
      .exact CH A _ _ (ER.rep g (λb lo o hz ho=>PM h b lo o hz ho))
      .exact PK g
      .exact PK g
     .cases B
    .rw[QQ hi]at B;obtain⟨v,I,e2⟩:=h5 i y B;refine⟨v,I,?_⟩;simp[J];rw[QQ hsd,QQ (by rintro⟨_,e⟩;exact hi (by simpa using e.symm)),C];exact e2.kept A (λ_ _ _=>rfl) BJ.rfl'
   .rw[QQ κ];refine AM.kept A (λi=>by simp[J];rw[QQ (λe=>D e.symm),QQ (λe=>κ e.1.symm)]) (λ_ _ _ _=>rfl) C BJ.rfl' (λr i k H⟨pp,l⟩=>?_) (λr off' H⟨cs',m⟩=>?_) (λr i H⟨pp,l⟩=>?_) (h.slots p δ)
    .by_cases j:d=r
     .subst j;obtain⟨cs',I⟩:=AB.AaC l;rcases u with⟨rfl,_⟩|⟨n,es,_,rfl,_⟩|⟨es,_,rfl,_⟩<;>cases I
     .rw[AB.Aab j]at l;have E:∃p,ε.nat r i=Y p:=by
       grind [AB.pN,AB.bn,AB.nat,AB.Aab]
      exact ⟨E,h.nh E (AY _ _ _ _ j) (λ_ _ _ _=>rfl)⟩
    .rw[AB.bn]at m;by_cases j:d=r
     .rw[Ne j]at m;rcases u with⟨rfl,_⟩|⟨n,es,_,rfl,_⟩|⟨es,_,rfl,_⟩<;>cases m
     .rw[QQ j,AB.bn]at m;refine⟨?_,AY _ _ _ _ j⟩;split at m
      next L=>subst L;exact⟨cs,ζ⟩
      .exact⟨_,m⟩
    .by_cases j:d=r
     .subst j;rcases u with⟨rfl,_⟩|⟨n,es,_,rfl,_,hno⟩|⟨es,_,rfl,_⟩
      .exact absurd rfl (AB.o4 V V l).1
      rotate_left
      .exact absurd rfl (AB.o4 V V l).1
      .have M:=AB.AaQ d ε hno p;rcases H with H|⟨c,H⟩
       .exact absurd H (M.1 i)
       .exact absurd H (M.2 i c)
     .rw[AB.x7 j]at l;have E:∃p,ε.o3 r i=Y p:=by
       by_cases L:s=r
       .subst L;obtain⟨n,es⟩:=pp;cases i with
        |none=>have:=AB.q0 l;rw[AB.bn,Ne rfl]at this;cases this
        |some k=>
         obtain ⟨cs'',η,N⟩:=AB.pc l;rw[AB.bn,Ne rfl]at η;simp[EV.bx.injEq]at η;subst η;rw[C_]at N;split at N
         .split at N<;>simp at N
         .exact⟨(n,es),by simp[AB.o3,ζ,N]⟩
       .rw[AB.x7 L]at l;exact⟨pp,l⟩
      exact ⟨E,h.xv E (AY _ _ _ _ j) (λ_ _=>rfl)⟩
 .intro p;rw[AB.bn];split
  .have:=hw _ (E' Z);rcases u with⟨rfl,_⟩|⟨n,es,rfl,rfl,_⟩|⟨es,rfl,rfl,_⟩
   .exact this
   .exact this
   .exact this
  .rw[AB.bn];split
   .intro y B;rcases D_ B with B|rfl
    .exact hw y B
    .rcases u with⟨_,rfl,_⟩|⟨n,es,_,_,rfl,_⟩|⟨es,_,_,rfl,_⟩
     .exact(hw ⟨X,_⟩ (E' Z):_)
     .trivial
     .trivial
   .exact h.wf p
variable{x:Operand}{t:TypeId}
theorem pY(k:AP F0 w0 ε a w G)(hd:d<a.tmps.size){x':AF}(l:o.op=.load t x)(A:AK x x'=X)(B:B9 P t=Y T)(h:(AE.ldt x').wp S ε (Y d) K):A1 P F0 w0 a w o d K:=by
 simp [AE.wp]at h;split at h
 .rename_i s off C;split at h
  .rename_i cs m;split at h
   .rename_i n es q;obtain⟨b,g,j⟩:=Hl k A C m;have u:=Ag k m V;simp only[AM]at u;obtain⟨I,c,θ,p,D,J,L,E⟩:=u;rw[g]at p;simp at p;subst p;obtain⟨y,H,_⟩:=E off _ q;have e:w.cell? ⟨b,off,W⟩=Y y:=by rw[cell_of_row w b off c θ (0,0) D];exact H
    exact ⟨y,w,by simp[execOp,l,j,Instr.loadAt,Instr.sureAddr,loadVar,Cs B,e],_,_,h,k.AaL m q hd g e (.inl ⟨rfl,rfl,rfl⟩)⟩
   .exact h.elim
  .exact h.elim
 .exact h.elim
end
abbrev Dg:=Nat->Option Nat->Option (Nat×Nat)
def Dg.sr(Z:Dg):IA:=λg j=>Z (g+1) (Y j)
def ZF(Z:Dg)(b o:Nat):Prop:=∃q i lo,Z q i=Y (b,lo)/\lo<=o
def Jf(Z:Dg):Prop:=∀q i q' i' b lo lo',Z q i=Y (b,lo)->Z q' i'=Y (b,lo')->q=q'/\i=i'
def XG(w:World)(F:Nat->Nat->Prop)(Z:Dg)(cs:List AO)(v:Value):Prop:=
 ∃vs:Array Value,v=.agg vs/\vs.size=cs.length/\∀(i:Nat)(d:AO),cs[i]?=Y d->∃x,vs[i]?=Y x/\BF w F Z.sr (Z 0 (Y i)) d x/\x.oneCell'=X
def SR(w:World)(F N:Nat->Nat->Prop)(cs:List AO)(v:Value):Prop:=
 ∃Z:Dg,XG w (λb o=>F b o\/ZF Z b o) Z cs v/\Jf Z/\Z 0 W=W/\∀q i b lo,Z q i=Y (b,lo)->b<w.heap.size/\N b lo
def Ir(w':World)(F:Nat->Nat->Prop)(base:Nat):As->Value->Prop
 |.sh t,v=>Aq w' F t v|.own t,v=>∃z,Bq w' (λb o=>F b o\/∃lo,z=Y (b,lo)/\lo<=o) z t v/\∀b lo,z=Y (b,lo)->base<=b/\b<w'.heap.size|.tp ts,v=>∃vs,v=.tuple vs/\AR w' F ts vs.toList|.Aa5 n es,v=>∃z xs,GU w' n v es.length xs z/\AR w' (λb o=>F b o\/∃lo,z=Y (b,lo)) (es.flatMap TV.cells) xs/\(∀e∈es,e.cells.length=n)/\(∀x∈xs,x.oneCell'=X)/\∀b lo,z=Y (b,lo)->base<=b/\b<w'.heap.size|.oag cs,v=>SR w' F (λb _=>base<=b) cs v|.mpr kvs ts,v=>∃(b:Nat)(vs:List Value),v=.tuple (Value.map (Y b)::vs).toArray/\base<=b/\b<w'.heap.size/\XL w' b kvs/\AR w' F ts vs|_,_=>False
def Do(P:Program)(f:FuncId):Bool:=
 match P.funcs[f]? with
 |some fn=>fn.name != "runtime.NumGoroutine" && fn.body.isSome
 |none=>T
def XO(P:Program)(f:FuncId)(args:Fq)(r:As):Prop:=
 TV.ns args->Do P f=X/\∀(F0:Nat->Nat->Prop)(w:World)(vs:Array Value),AR w F0 args vs.toList->Tz w ->
  r.WF/\Calls P f vs w λe w'=>∃v,e=.returned v/\Below w.heap.size w w'/\Ir w' (λb o=>b<w.heap.size/\F0 b o) w.heap.size r v
def Q6(z:Option (Nat×Nat))(w w':World):Prop:=
 w'.os=w.os/\w'.tape=w.tape/\w'.output=w.output/\w.heap.size<=w'.heap.size/\∀k,k<w.heap.size->(∀lo,z≠Y (k,lo))->w'.heap[k]?=w.heap[k]?
def Qc(w:World)(F:Nat->Nat->Prop):Fq->Value->Prop
 |[t],v=>Aq w F t v|us,v=>∃vs,v=.tuple vs/\AR w F us vs.toList
def AAC(P:Program)(f:FuncId)(args:Fq)(zs':Fp)(us:Fq):Prop:=
 ∃(zs:Fp)(ts:Fq),args=.list 1 (zs.map (TV.int .i64))::ts/\Do P f=X/\TV.t1 us=X/\
  ∀(F0:Nat->Nat->Prop)(w:World)(v:Value)(vs:List Value)(z:Option (Nat×Nat)),(TV.list 1 (zs.map (TV.int .i64))).WF->TV.ns ts->KD w 1 v zs.length (zs.map (Value.int .i64)) z->AR w F0 ts vs->(∀b lo o,z=Y (b,lo)->lo<=o->F0 b o)->(∀b lo,z=Y (b,lo)->b<w.heap.size/\dk<=b)->Tz w ->
   Calls P f (v::vs).toArray w λe w'=>(zs'.length=zs.length/\(As.turn zs' us).WF)/\(∃r,e=.returned r/\Qc w' (λ_ _=>False) us r)/\KD w' 1 v zs.length (zs'.map (Value.int .i64)) z/\Q6 z w w'
def z8(P:Program)(f:FuncId)(args:Fq)(zs':Fp):Prop:=
 ∃zs:Fp,args=[.list 1 (zs.map (TV.int .i64))]/\Do P f=X/\((TV.list 1 (zs.map (TV.int .i64))).WF->(TV.list 1 (zs'.map (TV.int .i64))).WF)/\
  ∀(w:World)(v:Value)(z:Option (Nat×Nat)),KD w 1 v zs.length (zs.map (Value.int .i64)) z ->
   Calls P f #[v] w λe w'=>∃v',e=.returned v'/\KD w' 1 v' zs'.length (zs'.map (Value.int .i64)) z/\Q6 z w w'
def N7(w:World)(F:Nat->Nat->Prop)(Z:Dg)(cs:List AO)(v:Value):Prop:=
 ∃b c θ,v=.pointer (Y ⟨b,0,W⟩)/\w.heap[b]?=Y (.cells c θ (0,0))/\c.size=cs.length/\Z 0 W=Y (b,0)/\∀(i:Nat)(d:AO),cs[i]?=Y d->∃x,c[i]?=Y x/\BF w F Z.sr (Z 0 (Y i)) d x
structure G9(Z:Dg)(w w':World):Prop where
 os:w'.os=w.os
 tape:w'.tape=w.tape
 output:w'.output=w.output
 size:w.heap.size<=w'.heap.size
 block:∀k,k<w.heap.size->(∀q i lo,Z q i≠Y (k,lo))->w'.heap[k]?=w.heap[k]?
 cell:∀b o u,¬ZF Z b o->w.cell? ⟨b,o,W⟩=Y u->w'.cell? ⟨b,o,W⟩=Y u
def AAA(P:Program)(f:FuncId)(args us:Fq):Prop:=
 TV.ns args->(TV.t1 us=X/\TV.ns us)/\∀(w:World)(vs:Array Value),AR w (λ_ _=>False) args vs.toList->∃r:Array Value,(callFunc f vs).run P w=.ok (.value (.tuple r)) w/\AR w (λ_ _=>False) us r.toList
def z7(P:Program)(f:FuncId)(args:Fq)(cs cs':List AO)(i:Nat)(us:Fq):Prop:=
 TV.ns args->(∀c∈cs,c.t.WF)->Do P f=X/\∀(F0:Nat->Nat->Prop)(w:World)(vs:Array Value)(v:Value)(Z:Dg),
  AR w (λb o=>F0 b o\/ZF Z b o) args vs.toList->vs[i]?=Y v->N7 w (λb o=>F0 b o\/ZF Z b o) Z cs v ->
  Jf Z->(∀q i b lo,Z q i=Y (b,lo)->b<w.heap.size)->(∀b o o',ZF Z b o->¬F0 b o')->YZ w (ZF Z) ->
  ((∀c∈cs',c.t.WF)/\TV.ns us)/\Calls P f vs w λe w'=>∃r Z',e=.returned r/\G9 Z w w'/\N7 w' (λb o=>(b<w.heap.size/\F0 b o)\/ZF Z' b o) Z' cs' v/\
   Jf Z'/\(∀q i b lo,Z' q i=Y (b,lo)->b<w'.heap.size/\(w.heap.size<=b\/∃p j lo',Z p j=Y (b,lo')/\lo'<=lo))/\
   Qc w' (λb o=>(b<w.heap.size/\F0 b o)\/ZF Z' b o) us r
def aR(w':World)(F N:Nat->Nat->Prop):As->Value->Prop
 |.sh t,v=>Aq w' F t v|.tp ts,v=>∃vs,v=.tuple vs/\AR w' F ts vs.toList|.oag cs,v=>SR w' F N cs v|_,_=>False
def AgS(P:Program)(f:FuncId)(args:Fq)(cs:List AO)(i:Nat)(r:As):Prop:=
 TV.ns args->(∀c∈cs,c.t.WF)->Do P f=X/\∀(F0:Nat->Nat->Prop)(w:World)(vs:Array Value)(v:Value)(Z:Dg),
  AR w (λb o=>F0 b o\/ZF Z b o) args vs.toList->vs[i]?=Y v->XG w (λb o=>F0 b o\/ZF Z b o) Z cs v ->
  Jf Z->(∀q i b lo,Z q i=Y (b,lo)->b<w.heap.size)->(∀b o o',ZF Z b o->¬F0 b o')->YZ w (ZF Z) ->
  r.WF/\Calls P f vs w λe w'=>∃v',e=.returned v'/\G9 Z w w'/\aR w' (λb o=>b<w.heap.size/\F0 b o) (λb lo=>w.heap.size<=b\/∃p j lo',Z p j=Y (b,lo')/\lo'<=lo) r v'
def AS(P:Program)(f:FuncId)(args:Fq)(r:As):Prop:=
 match r with
 |.turn zs us=>AAC P f args zs us|.cut zs=>z8 P f args zs|.bo cs cs' i us=>z7 P f args cs cs' i us|.ext us=>AAA P f args us|.ag cs i r=>AgS P f args cs i r|r=>XO P f args r
variable{f:FuncId}{r:As}
theorem AS.to0{P:Program}{args:Fq}(h:AS P f args r)(e:r.plain=X):XO P f args r:=by
 cases r<;>first|exact h|cases e
theorem AS.of0{P:Program}{args:Fq}(h:XO P f args r)(e:r.plain=X):AS P f args r:=by
 cases r<;>first|exact h|cases e
section
variable{P:Program}{F0:Nat->Nat->Prop}{w0:W0}{ε:AB}{a:Act}{w:World}{G:BR}{d:Nat}{o:Oper}{K:EV->AB->Prop}
variable{ρ:IA}
theorem d9{F k:Nat->Nat->Prop}{z:Option (Nat×Nat)}{c:AO}{x:Value}(h:BF w F ρ z c x)(q:Bf w w F k)(C:∀b lo o,z=Y (b,lo)->¬k b o)(Z:∀g lo j b u o,z=Y (g,lo)->ρ g j=Y (b,u)->¬k b o):Aq w k c.rel.t x:=by
 obtain ⟨_|_,t⟩:=c
 .exact CH q _ _ h.1
 .by_cases E:∃n es,t=.xl n es
  .obtain⟨n,es,rfl⟩:=E;exact W7 (h:Q9 w F z n es x) q C
  .by_cases H:∃es,t=.xn es
   .obtain⟨es,rfl⟩:=H;obtain⟨xs,⟨O,J,R⟩,κ,η⟩:=(h:Fw w F ρ z es x);have I:xs.length=es.length:=by have:=J.1;omega
    have m:∀e∈es,e.cells.length=1:=by
     intro e he;obtain⟨j,ζ⟩:=D! he;obtain⟨g,x,n,A,_,_,rfl,_⟩:=η j e ζ;rfl
    have B:∀(l:Fq),(∀e∈l,∃n A,e=TV.list n A)->l.flatMap TV.cells=l:=by
     intro l
     induction l with
     |nil=>intro _;rfl|cons e l δ=>
      intro D;obtain⟨n,A,rfl⟩:=D e V;rw[D?,δ (λe he=>D e (by simp[he]))];rfl
    have p:Bq w k O (.list 1 es) x:=by
     refine ⟨xs,J,?_,m,κ⟩;rw[B es λe he=>by
      grind [D!]]
     grind [Bh,W7]
    exact p.rep λb lo o L _=>C b 0 o (by rw[R,L];rfl)
   .have M:ER w F ρ z t x:=h;have N:(AO.mk X t).rel=⟨X,t⟩:=by
     cases t<;>first|rfl|exact absurd ⟨_,_,rfl⟩ E|exact absurd ⟨_,rfl⟩ H
    rw [N];have h3:=M.kept q (λ_ _ _=>rfl) BJ.rfl'
    grind [ER.rep]
variable{r:As}{v:Value}
theorem AP.called(h:AP F0 w0 ε a w G)(hd:d<a.tmps.size){w':World}(C:Below w.heap.size w w')(J:r.plain=X)(m:Ir w' (λb o=>b<w.heap.size/\AU w0.heap.size F0 G b o) w.heap.size r v)(D:r.WF):
  Bt F0 w0 ((d,r.ev)::ε) (a.put (Y d) v) w':=by
 have old:∀(L:Option Nat->Option (Nat×Nat))b o,AU w0.heap.size F0 (Je G d L) b o->(b<w.heap.size/\AU w0.heap.size F0 G b o)\/∃i lo,L i=Y (b,lo)/\lo<=o:=by
  intro L b o hf;rcases hf with k|⟨s,i,lo,k,q⟩
  .exact .inl ⟨x? k.1 h.below.size,.inl k⟩
  .by_cases R:s=d
   .subst R;rw[B1]at k;exact .inr ⟨i,lo,k,q⟩
   .rw[BE _ _ _ _ R]at k;exact .inl ⟨(h.lt _ _ _ _ k).1,.inr ⟨s,i,lo,k,q⟩⟩
 cases r with
 |sh t=>
  refine h.tv C d hd t v (CH (λb o u l hf=>⟨l,λe=>?_⟩) t v m) D;rcases old _ _ _ e with k|⟨i,lo,k,_⟩
  .exact hf k
  .cases k
 |own t=>
  obtain ⟨z,k,q⟩:=m;refine h.ow C d hd t v z q (k.kept (λb o u l hf=>⟨l,λe=>hf ?_⟩) (λ_ _ _=>rfl)) D;rcases old _ _ _ e with p|⟨i,lo,p,I⟩
  .exact .inl p
  .split at p
   .exact .inr ⟨lo,p,I⟩
   .cases p
 |tp ts=>
  obtain ⟨vs,k,q⟩:=m;refine⟨_,h.quiet C d hd (.tp ts) v (λ_=>W) V V V ?_ D⟩;simp[AM];refine⟨vs,k,Ar (λb o u l hf=>⟨l,λe=>?_⟩) _ _ q⟩;rcases old _ _ _ e with p|⟨i,lo,p,_⟩
  .exact hf p
  .cases p
 |Aa5 n es=>
  obtain ⟨z,xs,k,q,p,I,ζ⟩:=m;refine h.ow C d hd (.list n es) v z ζ ?_ D;simp[Bq];refine⟨xs,k,Ar (λb o u l hf=>⟨l,λe=>hf ?_⟩) _ _ q,p,I⟩;rcases old _ _ _ e with A|⟨i,lo,A,h7⟩
  .exact .inl A
  .split at A
   .exact .inr ⟨lo,A⟩
   .cases A
 |oag cs=>
  obtain ⟨Z,⟨vs,rfl,k,q⟩,p,_,I⟩:=m;have B:AR w' (λb o=>b<w.heap.size/\AU w0.heap.size F0 G b o) (cs.map λc=>c.rel.t) vs.toList/\∀x∈vs.toList,x.oneCell'=X:=by
   refine ⟨?_,?_⟩
   .rw[Bh];refine⟨by simp[k],λi t x E H=>?_⟩;rw[B']at E;simp at E;obtain⟨c,l,rfl⟩:=E;obtain⟨y,κ,O,_⟩:=q i c l;rw[E!,κ]at H;simp at H;subst H;refine d9 O (λb o u l hf=>⟨l,λe=>hf (.inl e)⟩) (λb lo o η hf=>?_) (λg lo j b M o η m hf=>?_)
    .grind
    .have:=(I _ _ b M m).2;omega
   .intro x H;obtain⟨i,hi⟩:=D! H;have N:i<cs.length:=by
     grind
    obtain ⟨y,κ,_,δ⟩:=q i _ (B! N)
    grind
  refine h.tv C d hd (.agg (cs.map λc=>c.rel.t)) _ ?_ (by
   simp [TV.WF];rw[Bp];intro t E;obtain⟨c,l,rfl⟩:=E_.1 E;have:=D c l;obtain⟨o',t'⟩:=c;cases o'<;>cases t'<;>exact this)
  simp only[Aq];refine⟨vs,rfl,Ar (λb o u l hf=>⟨l,λe=>hf ?_⟩) _ _ B.1,List.all_eq_true.2 B.2⟩;rcases old _ _ _ e with A|⟨i,lo,A,_⟩
  .exact A
  .cases A
 |turn zs=>exact m.elim|cut zs=>exact m.elim|bo _ _ _ _=>exact m.elim|ext _=>exact m.elim|ag _ _ _=>exact m.elim|mpr _ _=>cases J
variable{f:FuncId}
theorem FC(e:Do P f=X)(vs:Array Value):(callFunc f vs).run P w=.ok (.enter f vs) w:=by
 unfold Do at e;cases hf:P.funcs[f]? with
 |none=>rw[hf]at e;cases e
 |some h=>
  rw [hf]at e;simp[bne_iff_ne]at e;have g:¬h.body=W:=by
   grind
  simp [callFunc,hf,e.1,g]
variable{Q:Exit->Act->World->Prop}
theorem Yb(q:AP F0 w0 ε a w G)(hd:d<a.tmps.size)(g:o.dst=Y d){vs:Array Value}{k:Fq}(h:(execOp a.eval o).run P w=(callFunc f vs).run P w)(l:AS P f k r/\r.plain=X)(m:TV.ns k)(j:AR w (AU w0.heap.size F0 G) k vs.toList)(A:r.WF->K r.ev ε)
  {next:Act->World->Prop}(B:∀e env' a' w',K e env'->Q7 a d a'->Bt F0 w0 ((d,e)::env') a' w'->next a' w'):o.wp P a w next Q:=by
 obtain ⟨C,p⟩:=l.1.to0 l.2 m;obtain⟨u,p⟩:=p _ w vs j q.below.now;unfold Oper.wp;rw[h,FC C vs,Oper.upon_enter];refine p.mono ?_;rintro e w' ⟨v,rfl,D,E⟩;simp[g];exact B _ _ _ _ (A u) ⟨_,rfl⟩ (q.called hd D l.2 E u)
variable{ys:List AF}{ats:Array TypeId}
theorem mf(m:AP F0 w0 ε a w G)(hd:d<a.tmps.size)(j:o.dst=Y d){xs:Array Operand}(k:o.op=.call {callee:=.value (.func f),args:=xs,argTypes:=ats})(l:Be xs.toList ys=X)(h:(AE.call f ys).wp (AS P) ε (Y d) K)
  {next:Act->World->Prop}(p:∀e env' a' w',K e env'->Q7 a d a'->Bt F0 w0 ((d,e)::env') a' w'->next a' w'):o.wp P a w next Q:=by
 simp [AE.wp]at h;cases g:vals ε ys with
 |none=>rw[g]at h;exact h.elim|some A=>
  rw [g]at h;simp[Ai]at h;obtain⟨r,q,u⟩:=h;have:=GM m l g;refine Yb m hd j (vs:=xs.map a.eval) ?_ q this.2 u! u p;simp[execOp,k,resolve,Act.eval,Deferred.ofValue,invoke]
variable{x:Operand}{y:AF}
theorem jv(j:AP F0 w0 ε a w G)(hd:d<a.tmps.size)(g:o.dst=Y d){xs:Array Operand}(k:o.op=.call {callee:=.value x,args:=xs,argTypes:=ats})(A:AK x y=X)(l:Be xs.toList ys=X)(h:(AE.Abi y ys).wp (AS P) ε (Y d) K)
  {next:Act->World->Prop}(B:∀e env' a' w',K e env'->Q7 a d a'->Bt F0 w0 ((d,e)::env') a' w'->next a' w'):o.wp P a w next Q:=by
 simp [AE.wp]at h;split at h
 .rename_i f p J hf m;obtain⟨r,C,D⟩:=h;have q:=Ay j A hf;have u:=GM j l m;simp[Aq,TV.WF]at q;obtain⟨⟨cs,E,H⟩,I⟩:=q;refine Yb j hd g (vs:=xs.map a.eval++cs) ?_ C (Kf.2 ⟨u.2,I⟩) ?_ D B
  .simp[execOp,k,resolve,E,Deferred.ofValue,invoke]
  .rw[Array.toList_append];exact Ik (by simpa using u.1) H
 .exact h.elim
end
end Go.Sf
