/- Appending to a list that a slot owns. -/
import Derived.Test.YthcncnllajfkfaaGreatSfOps1
set_option linter.all false
open Option renaming some->Y,none->W
open Bool renaming true->X,false->T
open Nat renaming add_mul->w_,zero_add->w!,mul_le_mul_right->w?,lt_or_ge->x_,lt_of_lt_of_le->x!,le_trans->x?,zero_le->y_,min_eq_left->y!,add_sub_cancel_left->y?
open List renaming eq_nil_of_length_eq_zero->z_,take_left->z!,getElem?_toArray->z?,getElem?_append_left->A_,getElem?_take_of_lt->A',mem_append->A!,isEmpty_iff->A?,getElem?_map->B_,getElem?_eq_getElem->B',getElem_mem->B!,getElem?_set->B?,getElem?_append_right->C_,length_singleton->C',getElem?_drop->C!,mem_or_eq_of_mem_set->C?,getElem?_eq_some_iff->D_,getElem?_of_mem->D',flatMap_cons->D!,mem_map->D?,mem_of_getElem?->E_
open Array renaming getElem?_toList->E',length_toList->E!
open Option renaming map_map->E?,map_eq_some_iff->F_
namespace Go.Sf
open Go.RowKit (Below)
structure Jv(w w':World)(z z':Option (Nat×Nat)):Prop where
 os:w'.os=w.os
 tape:w'.tape=w.tape
 output:w'.output=w.output
 size:w.heap.size<=w'.heap.size
 other:∀k,k<w.heap.size->(∀lo,z≠Y (k,lo))->w'.heap[k]?=w.heap[k]?
 cell:∀b o v,w.cell? ⟨b,o,W⟩=Y v->(∀lo,z=Y (b,lo)->o<lo)->w'.cell? ⟨b,o,W⟩=Y v
 AbI:∀b lo,z'=Y (b,lo)->b<w'.heap.size/\(w.heap.size<=b\/∃lo',z=Y (b,lo')/\lo'<=lo)
theorem Jv.refl(w:World)(z:Option (Nat×Nat))(e:∀b lo,z=Y (b,lo)->b<w.heap.size):Jv w w z z:=
 ⟨rfl,rfl,rfl,az _,λ_ _ _=>rfl,λ_ _ _ h _=>h,λb lo h=>⟨e b lo h,.inr ⟨lo,h,az _⟩⟩⟩
section
variable{P:Program}{w:World}
theorem Xm(t ty e D:TypeId)(i:TypeInfo)(E:P.underlying t=Y (.slice e))(hi:P.info? e=Y i)
  (g k l:Nat)(p:Array Value)(H:w.heap[g]?=Y (.cells p D (0,0)))
  (a:Addr)(m c:Nat)(h:List Value)(I:h.length=m*i.size)(q:∀(j:Nat)(u:Value),h[j]?=Y u->w.cell? (a.add j)=Y u)(J:∀u∈h,u.oneCell'=X)
  (A:k+m<=l)(B:k*i.size+h.length<=p.size):
  (Builtin.append_ #[t,t] ty #[.slice (Y ⟨g,0,W⟩) k l,.slice (Y a) m c]).run P w=
   .ok (.slice (Y ⟨g,0,W⟩) (k+m) l) (w.setRow g (p.toList.take (k*i.size)++h++p.toList.drop (k*i.size+h.length)).toArray):=by
 have hf:=run_firstCells_some (P:=P) w i.size m a m c h I q;have C:=run_storeCells_at P g (k*i.size) D h 0 p w H (by simpa using B) J;simp at C;simp[Builtin.append_,run_underlying E,sizeOf,typeInfo,hi,Builtin.lenOf,A,hf,Addr.add_lit,C]
theorem RP(t ty e:TypeId)(i:TypeInfo)(z:Value)(n:Nat)(ht:P.underlying t=Y (.slice e))(hi:P.info? e=Y i)(hz:i.zero=Y z)
  (p:i.size=n)(hby:i.bytes<=4096)(hzs:z.cells.size=n)(hn:0<n)
  (v:Value)(len:Nat)(xs:List Value)(Z:Option (Nat×Nat))(q:Ge w n v len xs Z)
  (ad:Option Addr)(m c:Nat)(l:List Value)(ε:l.length=m*n)(had:ad=W->m=0)(hmc:m<=c)(κ:∀a,ad=Y a->∀(j:Nat)(u:Value),l[j]?=Y u->w.cell? (a.add j)=Y u)(h1:∀u∈l,u.oneCell'=X)
  (I:len+m<=AX):
  ∃v' w' z',(Builtin.append_ #[t,t] ty #[v,.slice ad m c]).run P w=.ok v' w'/\Ge w' n v' (len+m) (xs++l) z'/\Jv w w' Z z':=by
 have D:(xs++l).length=(len+m)*n:=by rw[b6,q.1,ε,w_]
 have E:(len+m)*i.bytes<=140737488355328:=by
  calc (len+m)*i.bytes<=AX*4096:=Nat.mul_le_mul I hby
   _<=140737488355328:=a!
 have hml:len+m<=maxLen:=by simp[maxLen,AX]at *;omega
 have M:∀b lo,Z=Y (b,lo)->b<w.heap.size:=by
  intro b lo hb;rcases q.2 with⟨_,_,h⟩|⟨g,cap,B,R,_,hg,_,_,_,_,h⟩
  .rw[h]at hb;cases hb
  grind
 by_cases hm:m=0
 .subst hm;have hnn:l=[]:=z_ t_;subst hnn;refine⟨v,w,Z,?_,v1,Jv.refl w Z M⟩;have hfc:(Builtin.firstCells n 0 (.slice ad 0 c)).run P w=.ok #[] w:=by
   cases ad<;>simp[Builtin.firstCells,loadCells,loadCellsFrom]
  rcases q.2 with⟨rfl,rfl,_⟩|⟨g,cap,B,R,rfl,hg,L,_,_,_,_⟩
  .simp[Builtin.append_,run_underlying ht,sizeOf,typeInfo,hi,p,Builtin.lenOf,hfc]
  .simp[Builtin.append_,run_underlying ht,sizeOf,typeInfo,hi,p,Builtin.lenOf,L,hfc,storeCells]
 .cases ad with
  |none=>exact absurd (had rfl) hm|some a=>
   have A:=κ a rfl;have J:∀(old:Nat),old<len+m ->
     Ge (w.drew.alloc (.cells (xs.toArray++l.toArray++Builtin.zeroCells z.cells (grownCap w (len+m) old e-(len+m))) e)) n
      (.slice (Y ⟨w.heap.size,0,W⟩) (len+m) (grownCap w (len+m) old e)) (len+m) (xs++l) (Y (w.heap.size,(len+m)*n))/\
     Jv w (w.drew.alloc (.cells (xs.toArray++l.toArray++Builtin.zeroCells z.cells (grownCap w (len+m) old e-(len+m))) e)) Z (Y (w.heap.size,(len+m)*n)):=by
    intro old ho;have hge:=grownCap_ge w (len+m) old e;have η:grownCap w (len+m) old e<=maxLen:=grownCap_le_maxLen w (len+m) old e hml;refine⟨⟨D,.inr ⟨w.heap.size,_,_,e,rfl,heap_alloc_new w.drew _,hge,η,?_,?_,rfl⟩⟩,⟨rfl,rfl,rfl,V,λk hk _=>Below.heap_alloc w.drew _ k hk,λb o v L _=>?_,λb lo hb=>?_⟩⟩
    .simp[Array.size_append,List.size_toArray,size_zeroCells,hzs,q.1,ε,<-w_];congr 1;omega
    .simp;rw[<-ci,<-D];exact z!
    .have hb:b<w.heap.size:=World.block_lt_of_cell? w ⟨b,o,W⟩ L;rw[World.cell?_alloc_lt _ _ (a:=⟨b,o,W⟩) (by simpa using hb)];simpa using L
    .simp at hb;rw[<-hb.1];exact⟨V,.inl (az _)⟩
   rcases q.2 with⟨rfl,rfl,rfl⟩|⟨g,cap,B,R,rfl,hg,hnc,η,hcs,δ,rfl⟩
   .have hx:xs=[]:=z_ (by simpa using q.1);subst hx;have hr:=run_append_nil (P:=P) w t ty e i z ht hi hz a m c l (by rw[p];exact ε) A U (by simp[AX]at I;omega) (by have hb:=E;simp at hb;omega);have H:=J 0 U;simp only[w!,List.nil_append,Array.empty_append]at H hr|-;exact⟨_,_,_,hr,H.1,H.2⟩
   .by_cases C:len+m<=cap
    .have N:len*i.size+l.length<=B.size:=by rw[ε,hcs,p,<-w_];exact w? _ C
     have hr:=Xm (P:=P) t ty e R i ht hi g len cap B hg a m c l (by rw[p];exact ε) A h1 C N;rw[p]at hr N;refine⟨_,_,Y (g,(len+m)*n),hr,⟨D,.inr ⟨g,cap,_,R,rfl,setRow_heap w g B _ R _ hg,C,η,?_,?_,rfl⟩⟩,⟨rfl,rfl,rfl,V,λk _ hk=>setRow_other w g k _ (λe=>hk (len*n) (by rw[e])),λb o u L hlo=>?_,λb lo hb=>?_⟩⟩
     .simp;omega
     .rw[δ,<-D];exact z!
     .by_cases hbg:b=g
      .subst hbg;have ho:=hlo (len*n) rfl;rw[cell_of_row _ b o _ R (0,0) (setRow_heap w b B _ R _ hg)];rw[cell_of_row w b o B R (0,0) hg]at L;have hoc:o<B.size:=U
       rw [z?,ci,A_ an,A' ho];simpa using L
      .rw[World.cell?_of_block (w:=w) (a:=⟨b,o,W⟩) (setRow_other w g b _ (λe=>hbg e))];exact L
     .simp at hb;obtain⟨rfl,rfl⟩:=hb;refine⟨by simpa using M g (len*n) rfl,.inr ⟨len*n,rfl,w? _ U⟩⟩
    .have ζ:∀(j:Nat)(u:Value),xs[j]?=Y u->w.cell? ((⟨g,0,W⟩:Addr).add j)=Y u:=λj u hu=>by
      rw [Addr.add_lit,w!];exact q.cell rfl j u hu
     have hr:=run_append_grow (P:=P) w t ty e i z ht hi hz ⟨g,0,W⟩ len cap xs (by rw[p];exact q.1) ζ a m c l (by rw[p];exact ε) A U (by simp[AX]at I;omega) (growslice_fits U E);have H:=J cap U;exact⟨_,_,_,hr,H.1,H.2⟩
end
end Go.Sf
namespace Go.Sf
open Go.RowKit (Below)
section
variable{P:Program}{S:FuncId->Fq->A9->Prop}{F0:Nat->Nat->Prop}{w0:W0}{O:AB}{a:Act}{w:World}{G:Bi}{d:Nat}{o:Oper}{K:EV->AB->Prop}
variable{s:Nat}{v:Value}
theorem AO.app(h:AO F0 w0 O a w G)(hss:s<a.tmps.size){w':World}{z':Option (Nat×Nat)}(hf:Jv w w' (G s W) z')(hd:d<a.tmps.size){t:TV}(ht:t.WF)
  (η:∀F',Bt w w' (AW w0.heap.size F0 G) F'->(∀b o,F' b o->(b<w0.heap.size/\F0 b o)\/(∃q i lo,G q i=Y (b,lo)/\lo<=o)\/∃lo,z'=Y (b,lo)/\lo<=o)->CD w' F' z' t v):
  ∃I,AO F0 w0 ((d,.ow t)::Go.Sf.strip O s) (a.put (Y d) v) w' I/\Bt w w' (AW w0.heap.size F0 G) (AW w0.heap.size F0 I):=by
 let I:Bi:=Km (Km G s (λ_=>W)) d (λi=>if i=W then z' else W)
 have H:∀q i b lo,I q i=Y (b,lo)->(q=d/\i=W/\z'=Y (b,lo))\/(q≠d/\q≠s/\G q i=Y (b,lo)):=by
  intro q i b lo L;by_cases E:q=d
  .grind[CM]
  .simp[I,BZ _ _ _ _ E]at L;by_cases J:q=s
   .grind[CM]
   .rw[BZ _ _ _ _ J]at L
    grind
 have Z:∀q i b lo,q≠s->G q i=Y (b,lo)->∀B,G s W≠Y (b,B):=λq i b lo J m B D=>J (h.o3 _ _ _ _ _ _ _ m D).1;have N:Bt w w' (AW w0.heap.size F0 G) (AW w0.heap.size F0 I):=by
  intro b o u hc ζ;have l:∀lo,G s W=Y (b,lo)->o<lo:=λlo l=>by
   rcases x_ o lo with h|h
   .exact h
   .exact absurd (.inr ⟨s,W,lo,l,h⟩) ζ
  refine ⟨hf.cell b o u hc l,?_⟩;rintro(m|⟨q,i,lo,m,D⟩)
  .exact ζ (.inl m)
  .rcases H _ _ _ _ m with⟨_,_,A⟩|⟨_,_,A⟩
   .have hb:=World.block_lt_of_cell? w ⟨b,o,W⟩ hc;rcases(hf.AbI b lo A).2 with ε|⟨B,ε,h4⟩
    .simp only at hb;omega
    grind
   .exact ζ (.inr ⟨q,i,lo,A,D⟩)
 have M:Hr F0 w0 w':=h.below.trans hf.os hf.tape hf.output hf.size (λk hk he=>hf.other k (x! hk h.below.size) (λlo l=>(h.lt _ _ _ _ l).2.elim (λe=>U) (λe=>he lo (e lo (az _))))) (λb o u hb he hu=>hf.cell b o u hu (λlo l=>(h.lt _ _ _ _ l).2.elim (λe=>U) (λe=>Nat.lt_of_not_le λhle=>he (e o hle))));refine⟨I,⟨?_,?_,M,g!,?_,?_,?_⟩,N⟩
 .intro q i q' i' b lo B m D;have mix:∀q i lo B,z'=Y (b,lo)->q≠s->G q i=Y (b,B)->False:=by
   intro q i lo B A J κ;rcases(hf.AbI b lo A).2 with ε|⟨lo2,ε,_⟩
   .have:=(h.lt _ _ _ _ κ).1;omega
   grind
  rcases H _ _ _ _ m with⟨rfl,rfl,A⟩|⟨n1,n2,A⟩<;>rcases H _ _ _ _ D with⟨rfl,rfl,κ⟩|⟨m1,m2,κ⟩
  .exact⟨rfl,rfl⟩
  .exact(mix _ _ _ _ A m2 κ).elim
  .exact(mix _ _ _ _ κ n2 A).elim
  .exact h.o3 _ _ _ _ _ _ _ A κ
 .intro q i b lo m;rcases H _ _ _ _ m with⟨_,_,A⟩|⟨_,_,A⟩
  .have:=hf.AbI b lo A;refine⟨this.1,?_⟩;rcases this.2 with ε|⟨B,ε,h4⟩
   .exact .inl (x? h.below.size ε)
   .exact(h.lt _ _ _ _ ε).2.imp id (λe o ho=>e o (x? h4 ho))
  .have:=h.lt _ _ _ _ A;exact⟨x! this.1 hf.size,this.2⟩
 .intro q L;rw[Bu]at L;rw[AB.eb,ae U];exact(h.strip s).dom q L
 .intro q L;rw[Bu]at L;rw[AB.eb];by_cases E:d=q
  .subst E;rw[ac rfl,C2 _ _ _ hd];simp[AN,I,CM];refine η _ N λb o ζ=>?_;rcases ζ with m|⟨q,i,lo,m,D⟩
   .exact .inl m
   .rcases H _ _ _ _ m with⟨_,_,A⟩|⟨_,_,A⟩
    .exact .inr (.inr ⟨lo,A,D⟩)
    .exact .inr (.inl ⟨q,i,lo,A,D⟩)
  .rw[ae E,AZ _ _ _ _ E];simp[Go.Sf.strip,AB.eb];split
   .trivial
   .rename_i δ;refine AN.kept N (λi=>?_) (λi b lo hb=>hf.other b (h.lt _ _ _ _ hb).1 (Z q i b lo (λe=>δ e.symm) hb)) (OI (Bu _ _ _) (λq L=>by
     simp [I];rw[BZ _ _ _ _ U,BZ _ _ _ _ U])) (λg j b lo hr=>by
     exact hf.other b (h.lt _ _ _ _ hr).1 (Z _ _ b lo U hr)) (λr i k hr⟨p,hp⟩=>?_) (λr off hr⟨cs,C⟩=>?_) (λr i hr⟨p,hp⟩=>?_) (h.slots q L)
    .simp[I];rw[BZ _ _ _ _ (λe=>E e.symm),BZ _ _ _ _ (λe=>δ e.symm)]
    .have m:=AB.Aac V hp;have D:=AB.Aac V m.2;exact⟨⟨p,D.2⟩,h.nh ⟨p,D.2⟩ (AZ _ _ _ _ m.1) (λ_ b _ hb=>hf.other b (h.lt _ _ _ _ hb).1 (λlo l=>D.1 (h.o3 _ _ _ _ _ _ _ l hb).1))⟩
    .rw[AB.eb]at C;by_cases R:d=r
     .rw[ac R]at C;cases C
     .rw[ae R]at C;simp[AB.eb]at C;split at C
      .cases C
      .exact⟨⟨cs,C⟩,AZ _ _ _ _ R⟩
    .have m:=AB.t1 V V hp;have D:=AB.t1 V V m.2;exact⟨⟨p,D.2⟩,h.xv ⟨p,D.2⟩ (AZ _ _ _ _ m.1) (λb hb=>hf.other b (h.lt _ _ _ _ hb).1 (λlo l=>D.1 (h.o3 _ _ _ _ _ _ _ l hb).1))⟩
 .intro q;rw[AB.eb];split
  .exact ht
  .exact(h.strip s).wf q
theorem AO.app'(h:AO F0 w0 O a w G){l:TV}(m:O.get s=.ow l){w':World}{z':Option (Nat×Nat)}(hf:Jv w w' (G s W) z')(hd:d<a.tmps.size){t:TV}(B:t.WF)
  (g:∀p,Bt w w' (AW w0.heap.size F0 G) p->(∀b o,p b o->(b<w0.heap.size/\F0 b o)\/(∃q i lo,G q i=Y (b,lo)/\lo<=o)\/∃lo,z'=Y (b,lo)/\lo<=o)->CD w' p z' t v):
  B9 F0 w0 ((d,.ow t)::(s,.tv l)::O) (a.put (Y d) v) w':=by
 obtain ⟨C,u,A⟩:=h.app (Bw h m V) hf hd B g;have hv:=BD h (x:=.tmp s) (y:=.s s) q_ (t:=l) (by simp[AH.val,AH.ev,m,EV.val]);have j:=Bw h m V;by_cases k:d=s
 .subst k;refine⟨C,u.rem d (t:=t) (by rw[Bu];exact j) ?_ B λn=>?_⟩
  .exact(BD u (x:=.tmp d) (y:=.s d) q_ (t:=t) (by simp[AH.val,AH.ev,AB.eb,EV.val])).1
  .simp[Go.Sf.strip,AB.eb];split
   .exact .inl rfl
   .exact .inl rfl
 .refine⟨C,u.rem s (t:=l) (by rw[Bu];exact j) ?_ hv.2 λn=>?_⟩
  .rw[AZ _ _ _ _ k];exact CR A _ _ hv.1
  .simp[Go.Sf.strip,AB.eb];split
   .exact .inl rfl
   .split
    next e=>exact .inr ⟨e.symm,rfl⟩
    .exact .inl rfl
theorem Li{l m:Fq}:TV.tc (l++m)↔TV.tc l/\TV.tc m:=by grind[B7]
variable{x:Operand}{y:AH}{i:TypeInfo}{z:Value}{n:Nat}
theorem ri(L:AO F0 w0 O a w G)(hd:d<a.tmps.size){t e:TypeId}(M:o.op=.call {callee:=.builtin .append,args:=#[.tmp s,x],argTypes:=#[t,t]})
  (ht:P.underlying t=Y (.slice e))(hi:P.info? e=Y i)(hz:i.zero=Y z)(q:i.size=n)(N:i.bytes<=4096)(R:z.cells.size=n)(hn:0<n)
  (ε:AK x y=X)(h:(AE.app n (.s s) y).wp S O (Y d) K):BI P F0 w0 a w o d K:=by
 simp [AE.wp,AH.ev]at h;split at h
 .rename_i m es m' C κ hy;obtain⟨ζ,δ,I,hK⟩:=h;subst δ;subst ζ;have p:=At L κ V;have A:=L.wf s;rw[κ]at A;simp[AN,CD]at p;obtain⟨xs,h1,h2,h3,h4⟩:=p;have hv:=BD L ε hy;simp[A1]at hv;obtain⟨⟨Z,cap,h5,h6,h7,h8⟩,h9⟩:=hv;have B:∃g:List Value,AQ w (AW w0.heap.size F0 G) (C.flatMap TV.cells) g/\(∀x∈g,x.oneCell'=X)/\(∀f∈C,f.cells.length=m)/\∀b,Z=Y b->∀(j:Nat)(u:Value),g[j]?=Y u->w.cell? (b.add j)=Y u:=by
   cases Z with
   |none=>
    have:=h7 rfl;subst this;exact⟨[],rfl,V,V,V⟩
   |some b=>
    obtain ⟨k,h11⟩:=h8 b rfl;obtain⟨bb,off,sp⟩:=b;simp only at k h11;by_cases H:C=[]
    .subst H;exact⟨[],rfl,V,V,V⟩
    have k:sp=W:=k.resolve_left H;subst k;have hrow:∀(l:Fq)(off:Nat),JK w (AW w0.heap.size F0 G) m l bb off->Df w (AW w0.heap.size F0 G) (l.flatMap TV.cells) bb off/\∀f∈l,f.cells.length=m:=by
     intro l
     induction l with
     |nil=>intro off _;exact⟨trivial,V⟩|cons f l ih=>
      grind [Ru,Jk]
    grind [Uo,tl]
  obtain ⟨g,n1,n2,n3,n4⟩:=B;have η:g.length=C.length*m:=by rw[BX n1,Qi m C n3]
  obtain ⟨v',w',z',J,r1,r2⟩:=RP (P:=P) t o.type e i z m ht hi hz q N R hn (slot a s) es.length xs (G s W) h1 Z C.length cap g η (λe=>by rw[h7 e];rfl) h6 n4 n2 I;refine⟨v',w',?_,_,_,hK,L.app' κ r2 hd ?_ λF' D hF'=>?_⟩
  .simp[execOp,M,resolve,invoke,builtin,show a.eval (.tmp s)=slot a s from rfl,h5,J]
  .simp only[EV.WF,TV.WF]at A h9|-;exact⟨by rw[b6];exact Vk U,Li.2 ⟨A.2,h9.2⟩⟩
  .simp only[CD];refine⟨xs++g,by rw[b6];exact r1,?_,?_,?_⟩
   .rw[List.flatMap_append];exact JF (A7 D _ _ h2) (A7 D _ _ n1)
   .intro e he;rcases A!.1 he with he|he
    .exact h3 e he
    .exact n3 e he
   .intro x E;rcases A!.1 E with E|E
    .exact h4 x E
    .exact n2 x E
 .exact h.elim
end
end Go.Sf
namespace Go.Sf
open Go.RowKit (Below)
def nM:TV->Bool
 |.list _ es=>es.isEmpty|.xl _ es=>es.isEmpty|.xn es=>es.isEmpty|_=>T
def Vn(c:AR)(v:Value):Bool:=if c.own then nM c.t&&Nz v else Eh c.t v&&v.oneCell'
def QL:List AR->List Value->Bool
 |[],vs=>vs.isEmpty|c::cs,vs=>match vs with|v::vs=>Vn c v&&QL cs vs|[]=>T
section
variable{w:World}{F:Nat->Nat->Prop}
variable{ρ:I5}{v:Value}
theorem Wy{c:AR}(h:Vn c v=X):BW w F ρ W c v/\c.t.WF:=by
 obtain ⟨_|_,t⟩:=c
 .simp[Vn]at h;have e:=IJ w F t v h.1;exact⟨⟨e.1,h.2⟩,e.2⟩
 .simp[Vn]at h;cases t<;>simp only[nM,Bool.false_eq_true,false_and]at h
  next n es=>rw[A?]at h;obtain⟨rfl,h⟩:=h;refine⟨?_,V,trivial⟩;simp only[BW,Et,CD];exact⟨[],⟨V,.inl ⟨Ko h,rfl,rfl⟩⟩,rfl,V,V⟩
  next n es=>rw[A?]at h;obtain⟨rfl,h⟩:=h;refine⟨?_,V,trivial⟩;simp only[BW,Et];exact⟨[],⟨W,⟨V,.inl ⟨Ko h,rfl,rfl⟩⟩,rfl⟩,rfl,V,V⟩
  next es=>rw[A?]at h;obtain⟨rfl,h⟩:=h;refine⟨?_,V,trivial⟩;simp[BW,Et];exact⟨[],⟨W,⟨V,.inl ⟨Ko h,rfl,rfl⟩⟩,rfl⟩,V,V⟩
theorem Pa{ρ:I5}:∀{cs:List AR}{vs:List Value},QL cs vs=X->vs.length=cs.length/\(∀(i:Nat)(c:AR),cs[i]?=Y c->∃x,vs[i]?=Y x/\BW w F ρ W c x)/\∀c∈cs,c.t.WF
 |[],vs,h=>by simp[QL]at h;subst h;simp|c::cs,[],h=>by simp[QL]at h|c::cs,v::vs,h=>by
  simp [QL]at h;obtain⟨j,k,l⟩:=Pa (cs:=cs) (vs:=vs) h.2;have g:=Wy (w:=w) (F:=F) (ρ:=ρ) h.1;refine⟨by simp[j],λi c' e=>?_,λc' e=>?_⟩
  .cases i with
   |zero=>simp at e;subst e;exact⟨v,rfl,g.1⟩|succ i=>exact k i c' f_
  .rcases List.mem_cons.1 e with rfl|e
   .exact g.2
   .exact l c' e
end
def V6(O:AB):Option Nat->AB
 |some q=>Go.Sf.strip O q|none=>O
theorem R1(O:AB)(q:Option Nat)(p:Nat):(V6 O q).get p=.undef\/((V6 O q).get p=O.get p/\Y p≠q):=by
 cases q with
 |none=>exact .inr ⟨rfl,V⟩|some e=>
  simp [V6,Go.Sf.strip,AB.eb]
  grind
section
variable{P:Program}{S:FuncId->Fq->A9->Prop}{F0:Nat->Nat->Prop}{w0:W0}{O:AB}{a:Act}{w:World}{G:Bi}{d:Nat}{o:Oper}{K:EV->AB->Prop}
variable{c:Array Value}{θ:TypeId}
theorem AO.box(h:AO F0 w0 O a w G)(hd:d<a.tmps.size)(j:O.ij d=X){cs:List AR}(p:c.size=cs.length)
  (q:∀l,Bt w (w.alloc (.cells c θ)) (AW w0.heap.size F0 G) l->∀(i:Nat)(x:AR),cs[i]?=Y x->∃v,c[i]?=Y v/\BW (w.alloc (.cells c θ)) l (x7 a G) W x v)(u:∀x∈cs,x.t.WF):
  B9 F0 w0 ((d,.bx cs)::O) (a.put (Y d) (.pointer (Y ⟨w.heap.size,0,W⟩))) (w.alloc (.cells c θ)):=by
 have hb:Below w.heap.size w (w.alloc (.cells c θ)):=(Below.refl _ _).alloc (az _) _;have m:∀(i:Option Nat)b lo,(if i=W then Y (w.heap.size,0)else W)=Y (b,lo)->w.heap.size<=b/\b<(w.alloc (.cells c θ)).heap.size:=by
  intro i b lo hi;split at hi
  .simp at hi;rw[<-hi.1];exact⟨az _,V⟩
  .cases hi
 have k:=Ly (F0:=F0) (w0:=w0) (G:=G) hb d (λi=>if i=W then Y (w.heap.size,0)else W) (λi b lo hi=>(m i b lo hi).1);refine⟨_,h.quiet hb d hd (.bx cs) _ (λi=>if i=W then Y (w.heap.size,0)else W) m (λi C b lo A e g=>?_) (λ_=>j) ?_ u⟩
 .split at e
  .split at g
   .simp_all
   .cases g
  .cases e
 .simp only[AN];refine⟨_,c,θ,rfl,heap_alloc_new w _,p,by rw[CM];simp,λi x B=>?_⟩;obtain⟨v,e,g⟩:=q _ k i x B;refine⟨v,e,?_⟩;rw[CM,OI (Bu _ _ _) (λs D=>BZ _ _ _ _ U)];simpa using g
variable{x:Operand}{y:AH}{t:TypeId}
theorem o7(m:AO F0 w0 O a w G)(hd:d<a.tmps.size)(j:o.op=.box t x)(k:AK x y=X)(h:(AE.AbB y).wp S O (Y d) K):BI P F0 w0 a w o d K:=by
 simp [AE.wp]at h;split at h
 .rename_i u I hv e;simp at e;subst e;obtain⟨l,E⟩:=h;have A:=BD m k hv;have p:=HO A.1;have B:=BX p.1;refine⟨_,_,by simp[execOp,j,Instr.box,newVar,newRow],_,_,E,m.box hd l (c:=(a.eval x).cells) (θ:=t) (by simpa using B) (λH q i c g=>?_) (λc g=>?_)⟩
  .rw[B_]at g;simp at g;obtain⟨J,L,rfl⟩:=g;have C:i<u.cells.length:=by
    grind
   have D:(a.eval x).cells.toList[i]?=Y ((a.eval x).cells.toList[i]' U):=B' U;refine⟨(a.eval x).cells.toList[i]' U,by rw[<-E'];exact D,?_,p.2 _ (B! _)⟩
   grind [CR,Bs]
  grind [B7,Iy]
 .exact h.elim
variable{i:TypeInfo}{z:Value}
theorem rh(k:AO F0 w0 O a w G)(hd:d<a.tmps.size){cs:List AR}(g:o.op=.alloc t)(hi:P.info? t=Y i)(l:i.zero=Y z)(e:QL cs z.cells.toList=X)(h:(AE.alc cs).wp S O (Y d) K):BI P F0 w0 a w o d K:=by
 simp [AE.wp]at h;obtain⟨j,p⟩:=h;refine⟨_,_,?_,_,_,p,k.box hd j (c:=z.cells) (θ:=t) (by have:=(Pa (w:=w) (F:=λ_ _=>False) (ρ:=λ_ _=>W) e).1;simpa using this) (λA _ i c m=>?_) (Pa (w:=w) (F:=λ_ _=>False) (ρ:=λ_ _=>W) e).2.2⟩
 .simp[execOp,g,Instr.alloc,zeroValue,typeInfo,hi,l,newVar,newRow]
 .obtain⟨x,q,u⟩:=(Pa e).2.1 i c m;exact⟨x,v1,u⟩
variable{s off:Nat}
theorem IC(h:AO F0 w0 O a w G)(g:AK x y=X)(e:y.place O=Y (s,off)){cs:List AR}(j:O.get s=.bx cs):
  ∃b,slot a s=.pointer (Y ⟨b,0,W⟩)/\a.eval x=.pointer (Y ⟨b,off,W⟩):=by
 cases y with
 |c t=>simp[AH.place]at e|s n=>
  cases x<;>simp[AK]at g;subst g;rename_i n;simp[AH.place]at e;have hr:=At h j V;simp only[AN]at hr;obtain⟨b,c,θ,l,_⟩:=hr;split at e
  next q k he=>simp at e;obtain⟨rfl,rfl⟩:=e;have hr:=At h he V;simp only[AN]at hr;obtain⟨m,p,u⟩:=hr ⟨cs,j⟩;exact⟨m,p,u⟩
  next cs' he=>simp at e;obtain⟨rfl,rfl⟩:=e;exact⟨b,l,l⟩
  .cases e
variable{b:Nat}
theorem AO.AbP(h:AO F0 w0 O a w G){cs cs':List AR}(hs:O.get s=.bx cs)(R:slot a s=.pointer (Y ⟨b,0,W⟩)){c c':Array Value}(D:w.heap[b]?=Y (.cells c θ (0,0)))
  {q:Option Nat}(hqs:q≠Y s)(hqlt:∀p,q=Y p->p<a.tmps.size){zs:Option Nat->Option (Nat×Nat)}(hzb:zs W=Y (b,0))
  (hz:∀i m lo,i≠W->zs i=Y (m,lo)->G s i=Y (m,lo)\/∃q',q=Y q'/\∃j,G q' j=Y (m,lo))
  (hzu:∀i η m lo ε,zs i=Y (m,lo)->zs η=Y (m,ε)->i=η)
  (hl:c'.size=cs'.length)(hcs:∀F' w',Bt w w' (AW w0.heap.size F0 G) F'->(∀k,k≠b->w'.heap[k]?=w.heap[k]?)->BY w w' (x7 a G)->∀(i:Nat)(x:AR),cs'[i]?=Y x->∃v,c'[i]?=Y v/\BW w' F' (x7 a G) (zs (Y i)) x v)
  (hw:∀x∈cs',x.t.WF)(hxx:∀(k:Nat)(t:TV),t.AaN=X->cs'[k]?=Y ⟨X,t⟩->(O.noX s (Y k)=X\/(cs[k]?=Y ⟨X,t⟩/\c'[k]?=c[k]?))):
  ∃ζ,AO F0 w0 ((s,.bx cs')::V6 O q) a (w.setRow b c') ζ/\Bt w (w.setRow b c') (AW w0.heap.size F0 G) (AW w0.heap.size F0 ζ):=by
 have hx:∀(k n:Nat)(es:Fq),cs'[k]?=Y ⟨X,.xl n es⟩->(O.noX s (Y k)=X\/((∃p,O.wi s (Y k)=Y p)/\c'[k]?=c[k]?)):=λk n es hk=>
  (hxx k _ rfl hk).imp id λ⟨A,J⟩=>⟨⟨(n,es),by simp[AB.wi,hs,A]⟩,J⟩
 have hxn:∀(k:Nat)(es:Fq),cs'[k]?=Y ⟨X,.xn es⟩->(O.noX s (Y k)=X\/((∃p,O.nat s k=Y p)/\c'[k]?=c[k]?)):=λk es hk=>
  (hxx k _ rfl hk).imp id λ⟨A,J⟩=>⟨⟨es,by simp[AB.nat,hs,A]⟩,J⟩
 have hsz:s<a.tmps.size:=Bw h hs V;have M:G s W=Y (b,0):=by
  have:=At h hs V
  grind [AN,tl]
 let ζ:Bi:=λp=>if p=s then zs else if Y p=q then(λ_=>W)else G p
 have H:ζ s=zs:=by simp[ζ]
 have u:∀p i m lo,ζ p i=Y (m,lo)->∃δ η,G δ η=Y (m,lo)/\(δ=p\/Y δ=q)/\(p≠s->δ=p/\η=i):=by
  intro p i m lo hp;by_cases B:p=s
  .subst B;rw[H]at hp;by_cases hi:i=W
   .grind
   grind
  grind
 have hqout:∀p i m lo,ζ p i=Y (m,lo)->Y p≠q:=by
  grind
 have l:∀k,k≠b->(w.setRow b c').heap[k]?=w.heap[k]?:=λk hk=>setRow_other w b k _ hk;have hag:Bt w (w.setRow b c') (AW w0.heap.size F0 G) (AW w0.heap.size F0 ζ):=by
  intro m o v hc hF;have hbb:m≠b:=λe=>hF (.inr ⟨s,W,0,by rw[e];exact M,y_ _⟩);refine⟨by rw[World.cell?_of_block (w:=w) (a:=⟨m,o,W⟩) (l m hbb)];exact hc,λhF'=>hF ?_⟩;rcases hF' with A|⟨p,i,lo,A,J⟩
  .exact .inl A
  .obtain⟨δ,η,h3,_⟩:=u p i m lo A;exact .inr ⟨δ,η,lo,h3,J⟩
 have hbelow:Hr F0 w0 (w.setRow b c'):=h.below.but rfl rfl rfl V (Z:=λk=>k=b) (λk hk=>by rw[hk];exact(h.lt _ _ _ _ M).2.imp id (λe o=>e o (y_ _))) (λk _ hk=>l k hk);have hrs:BY w (w.setRow b c') (x7 a G):=λg j m lo hr=>l m (h.AbK hsz M hr);have hrho:x7 a ζ=x7 a G:=OI rfl λp hp=>by
  grind
 refine ⟨ζ,⟨?_,?_,hbelow,h.defers,?_,?_,?_⟩,hag⟩
 .intro p i δ η m lo ε A J;by_cases B:p=s<;>by_cases L:δ=s
  .subst B;subst L;rw[H]at A J;exact⟨rfl,hzu i η m lo ε A J⟩
  .obtain⟨r,j,N,I,_⟩:=u p i m lo A;obtain⟨r',j',e3,_,e4⟩:=u δ η m ε J;obtain⟨rfl,rfl⟩:=e4 L;obtain⟨rfl,_⟩:=h.o3 _ _ _ _ _ _ _ N e3;rcases I with I|I
   .exact absurd (I.trans B) L
   .exact absurd I (hqout _ _ _ _ J)
  .obtain⟨r,j,N,I,_⟩:=u δ η m ε J;obtain⟨r',j',e3,_,e4⟩:=u p i m lo A;obtain⟨rfl,rfl⟩:=e4 B;obtain⟨rfl,_⟩:=h.o3 _ _ _ _ _ _ _ N e3;rcases I with I|I
   .exact absurd (I.trans L) B
   .exact absurd I (hqout _ _ _ _ A)
  .obtain⟨r,j,N,_,I⟩:=u p i m lo A;obtain⟨r',j',e3,_,e4⟩:=u δ η m ε J;obtain⟨rfl,rfl⟩:=I B;obtain⟨rfl,rfl⟩:=e4 L;exact h.o3 _ _ _ _ _ _ _ N e3
 .intro p i m lo A;obtain⟨r,j,N,_⟩:=u p i m lo A;have:=h.lt _ _ _ _ N;exact⟨u_,this.2⟩
 .intro p hp;rw[AB.eb,ae U];cases q with
  |none=>exact h.dom p hp|some q'=>exact(h.strip q').dom p hp
 .intro p hp;rw[AB.eb];by_cases B:s=p
  .subst B;rw[ac rfl];simp only[AN];refine⟨b,c',θ,R,setRow_heap w b c c' θ (0,0) D,hl,by rw[H];exact hzb,λi x hx=>?_⟩;obtain⟨v,A,J⟩:=hcs _ _ hag l hrs i x hx;exact⟨v,A,by rw[H,hrho];exact J⟩
  .rw[ae B];have hcase:=R1 O q p;rcases hcase with he|⟨he,hpq⟩<;>rw[he]
   .trivial
   .have hGp:∀i,ζ p i=G p i:=λi=>by simp[ζ];rw[ae (λe=>B e.symm),ae hpq]
    refine AN.kept hag hGp (λi m lo hb'=>l m (λe=>B (h.o3 _ _ _ _ _ _ _ M (e▸hb')).1)) hrho hrs (λr i k hr⟨pp,κ⟩=>?_) (λr off hr⟨cs'',C⟩=>⟨?_,rfl⟩) (λr i hr⟨pp,κ⟩=>?_) (h.slots p hp)
    .by_cases E:s=r
     .subst E;obtain⟨cs'',A,J⟩:=AB.t2 κ;rw[AB.eb,ac rfl]at A;simp[EV.bx.injEq]at A;subst A;rcases hxn i pp J with h3|⟨h3,h4⟩
      .exact absurd hr (AB.noX_nh h3 p i (.inr rfl) k)
      .refine⟨h3,λv hv=>?_⟩;obtain⟨m,c0,T0,x0,N,I,e3,e4⟩:=hv;rw[R]at N;simp at N;subst N;rw[D]at I;cases I;obtain⟨es0,hes0⟩:=h3;obtain⟨cs0,f1,f2⟩:=AB.t2 hes0;have hr0:=h.slots s hsz;rw[f1]at hr0;simp only[AN]at hr0;obtain⟨b2,c2,T2,g1,g2,_,_,g5⟩:=hr0;rw[R]at g1;simp at g1;subst g1;rw[D]at g2;cases g2;obtain⟨x1,k1,k2⟩:=g5 i _ f2;rw[e3]at k1;simp at k1;subst k1;refine⟨_,_,_,x0,R,setRow_heap w _ _ c' _ (0,0) D,h4.trans e3,e4.kept λg len cap e=>?_⟩;subst e;have hgz:=F8.nil_or k2;exact l g (λe=>by
        have:=(h.o3 _ _ _ _ _ _ _ M (e▸hgz)).2;cases this)
     .rw[AB.Aan E]at κ;have hp2:O.nat r i=Y pp:=by
       grind [R1,AB.nat_undef,AB.Aaz]
      exact ⟨⟨pp,hp2⟩,h.nh ⟨pp,hp2⟩ rfl (λj m _ hb'=>l m (λe=>E (h.o3 _ _ _ _ _ _ _ M (e▸hb')).1))⟩
    .rw[AB.eb]at C;split at C
     next E=>subst E;exact⟨cs,hs⟩
     .rcases R1 O q r with he|⟨he,_⟩<;>rw[he]at C
      .cases C
      .exact⟨_,C⟩
    .by_cases E:s=r
     .subst E;obtain⟨n,es⟩:=pp;cases i with
      |none=>have:=AB.x5 κ;rw[AB.eb,ac rfl]at this;cases this
      |some k=>
       obtain ⟨cs'',A,J⟩:=AB.tg κ;rw[AB.eb,ac rfl]at A;simp[EV.bx.injEq]at A;subst A;rcases hx k n es J with h3|⟨h3,h4⟩
       .have h5:=AB.noX_spec h3 p k (.inr rfl);rcases hr with hr|⟨c,hr⟩
        .exact absurd hr h5.1
        .exact absurd hr (h5.2 c)
       .refine⟨h3,λv hv=>?_⟩;obtain⟨m,c0,T0,N,I,e3⟩:=hv;rw[R]at N;simp at N;subst N;rw[D]at I;cases I;exact⟨_,_,_,R,setRow_heap w _ _ c' _ (0,0) D,h4.trans e3⟩
     .rw[AB.Aak E]at κ;have hp2:O.wi r i=Y pp:=by
       grind [R1,AB.AaM,AB.Aaq]
      exact ⟨⟨pp,hp2⟩,h.xv ⟨pp,hp2⟩ rfl (λm hb'=>l m (λe=>E (h.o3 _ _ _ _ _ _ _ M (e▸hb')).1))⟩
 .intro p;rw[AB.eb];split
  .exact hw
  .cases q with
   |none=>exact h.wf p|some q'=>exact(h.strip q').wf p
end
end Go.Sf
namespace Go.Sf
open Go.RowKit (Below)
def If(P:Program)(F0:Nat->Nat->Prop)(w0:W0)(a:Act)(w:World)(o:Oper)(K:EV->AB->Prop):Prop:=
 ∃w',(execOp a.eval o).run P w=.ok .skip w'/\∃env',K .undef env'/\B9 F0 w0 env' a w'
section
variable{P:Program}{S:FuncId->Fq->A9->Prop}{F0:Nat->Nat->Prop}{w0:W0}{O:AB}{a:Act}{w:World}{G:Bi}{d:Nat}{o:Oper}{K:EV->AB->Prop}
variable{s b:Nat}{θ:TypeId}
theorem AO.rebox_n(h:AO F0 w0 O a w G){cs cs':List AR}(C:O.get s=.bx cs)(j:slot a s=.pointer (Y ⟨b,0,W⟩)){c c':Array Value}(g:w.heap[b]?=Y (.cells c θ (0,0)))
  {zs:Option Nat->Option (Nat×Nat)}(l:zs W=Y (b,0))
  (D:∀i e lo,i≠W->zs i=Y (e,lo)->G s i=Y (e,lo))
  (m:∀i A e lo u,zs i=Y (e,lo)->zs A=Y (e,u)->i=A)
  (E:c'.size=cs'.length)(p:∀B w',Bt w w' (AW w0.heap.size F0 G) B->(∀k,k≠b->w'.heap[k]?=w.heap[k]?)->BY w w' (x7 a G)->∀(i:Nat)(x:AR),cs'[i]?=Y x->∃v,c'[i]?=Y v/\BW w' B (x7 a G) (zs (Y i)) x v)
  (H:∀x∈cs',x.t.WF)(I:∀(k:Nat)(t:TV),t.AaN=X->cs'[k]?=Y ⟨X,t⟩->(O.noX s (Y k)=X\/(cs[k]?=Y ⟨X,t⟩/\c'[k]?=c[k]?))):
  B9 F0 w0 ((s,.bx cs')::O) a (w.setRow b c'):=by
 obtain ⟨M,N,_⟩:=h.AbP C j g (q:=W) V V l (λi e lo J L=>.inl (D i e lo J L)) m E p H I;exact⟨M,N⟩
theorem AO.rebox_q(h:AO F0 w0 O a w G){cs cs':List AR}(N:O.get s=.bx cs)(A:slot a s=.pointer (Y ⟨b,0,W⟩)){c c':Array Value}(m:w.heap[b]?=Y (.cells c θ (0,0)))
  {q:Nat}{u:TV}(g:O.get q=.ow u)(B:q≠s){zs:Option Nat->Option (Nat×Nat)}(C:zs W=Y (b,0))
  (R:∀i l lo,i≠W->zs i=Y (l,lo)->G s i=Y (l,lo)\/∃J,Y q=Y J/\∃j,G J j=Y (l,lo))
  (D:∀i L l lo H,zs i=Y (l,lo)->zs L=Y (l,H)->i=L)
  (ε:c'.size=cs'.length)(E:∀M w',Bt w w' (AW w0.heap.size F0 G) M->(∀k,k≠b->w'.heap[k]?=w.heap[k]?)->BY w w' (x7 a G)->∀(i:Nat)(x:AR),cs'[i]?=Y x->∃v,c'[i]?=Y v/\BW w' M (x7 a G) (zs (Y i)) x v)
  (κ:∀x∈cs',x.t.WF)(η:∀(k:Nat)(t:TV),t.AaN=X->cs'[k]?=Y ⟨X,t⟩->(O.noX s (Y k)=X\/(cs[k]?=Y ⟨X,t⟩/\c'[k]?=c[k]?))):
  B9 F0 w0 ((s,.bx cs')::(q,.tv u)::O) a (w.setRow b c'):=by
 obtain ⟨δ,Z,I⟩:=h.AbP N A m (q:=Y q) (by simpa using B) (λp ζ=>by cases ζ;exact Bw h g V) C R D ε E κ η;have hv:=BD h (x:=.tmp q) (y:=.s q) q_ (t:=u) (by simp[AH.val,AH.ev,g,EV.val]);refine⟨δ,Z.rem q (t:=u) (Bw h g V) (CR I _ _ hv.1) hv.2 λn=>?_⟩;simp[V6,Go.Sf.strip,AB.eb];split
 .exact .inl rfl
 .split
  next e=>exact .inr ⟨e.symm,rfl⟩
  .exact .inl rfl
variable{t:TypeId}{n:Nat}
theorem ju(B:AO F0 w0 O a w G){x v:Operand}{x' v':AH}(hop:o.op=.store t x v)(hx:AK x x'=X)(hv:AK v v'=X)(hn:DB P t=Y n)(h:(AE.st n x' v').wp S O W K):If P F0 w0 a w o K:=by
 simp only[AE.wp]at h;split at h
 .rename_i s off hp;split at h
  .rename_i cs hs;obtain⟨b,Z,hadr⟩:=IC B hx hp hs;have hr:=At B hs V;simp only[AN]at hr;obtain⟨L,c,θ,h1,h2,h3,h4,h5⟩:=hr;rw[Z]at h1;simp at h1;subst h1;have hw:=B.wf s;rw[hs]at hw;have hst:∀(vs:List Value),vs.length=n->(a.eval v).cells.toList=vs->off+n<=c.size->(∀y∈vs,y.oneCell'=X)->(execOp a.eval o).run P w=.ok .skip (w.setRow b (c.toList.take off++vs++c.toList.drop (off+n)).toArray):=by
    intro vs hl ζ hle ho;have N:=run_storeCells_at P b off θ vs 0 c w h2 U ho;simp at N;have hsz:(a.eval v).cells.size=n:=by rw[<-E!,ζ,hl]
    rw [hl]at N;simp[execOp,hop,hadr,Instr.storeAt,Instr.sureAddr,storeVar,CQ hn,hsz,ζ,N]
   split at h
   ·
    rename_i u H;cases v' with
    |c t=>exact h.elim|s q=>
     simp only at h;obtain⟨ε,hn1,η,hK⟩:=h;subst hn1;cases v<;>simp[AK]at hv;subst hv;rename_i q;simp[AH.ev]at H;have E:=At B H V;simp[AN]at E;have hqw:=B.wf q;rw[H]at hqw;have R:=Wa E;have δ:(a.eval (.tmp q)).cells.toList=[slot a q]:=by
      have:a.eval (.tmp q)=slot a q:=rfl;rw[this];cases hsq:slot a q<;>rw[hsq]at R<;>first|rfl|simp[Value.oneCell']at R
     refine ⟨_,hst [slot a q] rfl δ U (by simpa using R),_,hK,?_⟩
     let zs:Option Nat->Option (Nat×Nat):=λi=>match i with|none=>Y (b,0)|some j=>if j=off then G q W else G s (Y j)
     refine B.rebox_q hs Z h2 H (λe=>ε e) (zs:=zs) rfl ?_ ?_ ?_ ?_ ?_ ?_
     .intro i L lo hi κ;cases i with
      |none=>exact absurd rfl hi|some j=>
       simp [zs]at κ;split at κ
       .exact .inr ⟨q,rfl,W,κ⟩
       .exact .inl κ
     .intro i i' L lo D g p;have zn:∀j L lo D,zs (Y j)=Y (L,lo)->zs W=Y (L,D)->False:=by
       intro j L lo D g p;simp[zs]at p;obtain⟨rfl,_⟩:=p;simp[zs]at g;split at g
       .exact ε (B.o3 _ _ _ _ _ _ _ g h4).1
       .have:=(B.o3 _ _ _ _ _ _ _ g h4).2;cases this
      cases i with
      |none=>cases i' with
       |none=>rfl|some j=>exact(zn j _ _ _ p g).elim
      |some j=>cases i' with
       |none=>exact(zn j _ _ _ g p).elim|some j'=>
        simp [zs]at g p;split at g<;>split at p
        next e3 e4=>rw[e3,e4]
        .exact absurd (B.o3 _ _ _ _ _ _ _ g p).1 ε
        .exact absurd (B.o3 _ _ _ _ _ _ _ p g).1 ε
        .exact(B.o3 _ _ _ _ _ _ _ g p).2
     .simp;omega
     .intro F' w' I C M i y l;rw[B?]at l;by_cases hi:off=i
      .subst hi;rw[ac rfl,ac η]at l;simp at l;subst l;refine⟨slot a q,?_,?_⟩
       .rw[z?,ci,C_ an];simp;rw[y! U,Nat.sub_self];rfl
       .simp[BW,zs];exact E.c.kept I (λk lo m=>C k (λe=>ε (B.o3 _ _ _ _ _ _ _ (e▸m) h4).1)) M
      .rw[ae hi]at l;obtain⟨vv,g,p⟩:=h5 i y l;refine⟨vv,?_,?_⟩
       .rw[z?];rcases x_ i off with A|hge
        .rw[ci,A_ an,A' A];simpa using g
        .rw[C_ an];simp only[b6,bk,E!,C'];rw[y! U,C!,show off+1+(i-(off+1))=i from U];simpa using g
       .have hi':¬i=off:=λe=>hi e.symm;simp[zs];rw[ae hi'];exact p.kept I (λk lo m=>C k (λe=>l!)) M
     .intro y l;rcases C? l with l|rfl
      .exact hw y l
      .exact hqw
     .intro k tx htx m;rw[B?]at m;by_cases hi:off=k
      .rw[ac hi]at m;rw[ac U]at m;simp[AR.mk.injEq]at m;subst m;cases u<;>first|(simp[CD]at E;done)|(simp[TV.AaN]at htx;done)
      .rw[ae hi]at m;refine .inr ⟨m,?_⟩;have hkc:k<c.size:=by
        have:=(D_.1 m).1;omega
       rw [z?];rcases x_ k off with A|hge
       .rw[ci,A_ an,A' A,E']
       .rw[C_ an];simp only[b6,bk,E!,C'];rw[y! U,C!,show off+1+(k-(off+1))=k from U,E']
   ·
    rename_i u H;obtain⟨hun,η,hK⟩:=h;have hvv:=Yl B hv H;have ζ:=HO hvv.1;have J:=BX ζ.1;refine⟨_,hst _ U rfl U ζ.2,_,hK,?_⟩
    let zs:Option Nat->Option (Nat×Nat):=λi=>match i with|none=>Y (b,0)|some j=>if off<=j/\j<off+n then W else G s (Y j)
    refine B.rebox_n hs Z h2 (zs:=zs) rfl ?_ ?_ ?_ ?_ ?_ ?_
    .intro i L lo hi κ;cases i with
     |none=>exact absurd rfl hi|some j=>
      simp only[zs]at κ;split at κ
      .cases κ
      .exact κ
    .intro i i' L lo D g p;have zn:∀j L lo D,zs (Y j)=Y (L,lo)->zs W=Y (L,D)->False:=by
      intro j L lo D g p;simp[zs]at p;obtain⟨rfl,_⟩:=p;simp only[zs]at g;split at g
      .cases g
      .have:=(B.o3 _ _ _ _ _ _ _ g h4).2;cases this
     cases i with
     |none=>cases i' with
      |none=>rfl|some j=>exact(zn j _ _ _ p g).elim
     |some j=>cases i' with
      |none=>exact(zn j _ _ _ g p).elim|some j'=>
       simp only[zs]at g p;split at g<;>split at p
       .cases g
       .cases g
       .cases p
       .exact(B.o3 _ _ _ _ _ _ _ g p).2
    .simp at J|-;omega
    .intro F' w' I C M i y l;rw[z?];rcases x_ i off with A|hge
     .rw[ci,A_ an,A' A]at l;obtain⟨vv,g,p⟩:=h5 i y l;refine⟨vv,?_,?_⟩
      .rw[ci,A_ an,A' A];simpa using g
      .simp[zs];rw[ae U];exact p.kept I (λk lo m=>C k (λe=>l!)) M
     .rcases x_ i (off+n)with A|hge2
      .rw[ci,C_ an,A_ an]at l;simp[B_]at l;rw[y! U]at l;obtain⟨tt,htt,rfl⟩:=l;have hx':(a.eval v).cells.toList[i-off]?=Y ((a.eval v).cells.toList[i-off]' U):=B' U;refine⟨(a.eval v).cells.toList[i-off]' U,?_,?_⟩
       .rw[ci,C_ an,A_ (by simp at J|-;omega)];simp only[bk,E!];rw[y! U];exact hx'
       .exact⟨CR I _ _ (((Bs _ _).1 ζ.1).2 _ tt _ htt hx'),ζ.2 _ (B! _)⟩
      .rw[C_ an]at l;simp[C!]at l;rw[y! U,show off+n+(i-(off+u.cells.length))=i from U]at l;obtain⟨vv,g,p⟩:=h5 i y l;refine⟨vv,?_,?_⟩
       .rw[C_ (by simp at J|-;omega)];simp[C!]at J|-;rw[y! U,show off+n+(i-(off+(a.eval v).cells.size))=i from U];simpa using g
       .simp[zs];rw[ae U];exact p.kept I (λk lo m=>C k (λe=>l!)) M
    .intro y l;rcases A!.1 l with l|l
     .rcases A!.1 l with l|l
      .exact hw y (List.mem_of_mem_take l)
      .simp at l;obtain⟨tt,htt,rfl⟩:=l;exact B7.1 (Iy hvv.2) tt htt
     .exact hw y (List.mem_of_mem_drop l)
    .intro k tx htx m;have hlen:(cs.take off++u.cells.map (λt=>(⟨T,t⟩:AR))++cs.drop (off+n)).length=cs.length:=by
      simp;omega
     have hkl:k<cs.length:=by rw[<-hlen];exact(D_.1 m).1
     rw [z?];rcases x_ k off with A|hge
     .rw[ci,A_ an,A' A]at m;refine .inr ⟨m,?_⟩;rw[ci,A_ an,A' A,E']
     .rcases x_ k (off+n)with A|hge2
      .rw[ci,C_ an,A_ an,B_]at m;simp[AR.mk.injEq,exists_false]at m
      .rw[C_ an]at m;simp[C!]at m;rw[y! U,show off+n+(k-(off+u.cells.length))=k from U]at m;refine .inr ⟨m,?_⟩;rw[C_ (by simp at J|-;omega)];simp only[b6,bk,E!,C!]at J|-;rw[y! U,show off+n+(k-(off+(a.eval v).cells.size))=k from U,E']
   .exact h.elim
  .exact h.elim
 .exact h.elim
theorem AO.frz(h:AO F0 w0 O a w G){cs:List AR}(I:O.get s=.bx cs):B9 F0 w0 ((s,.tv (.pt (cs.map (·.t))))::O) a w:=by
 have hsz:s<a.tmps.size:=Bw h I V;have hr:=At h I V;have hw:=h.wf s;rw[I]at hw;simp only[AN]at hr;obtain⟨b,c,θ,h1,h2,h3,κ,h5⟩:=hr
 let D:Bi:=Km G s (λ_=>W)
 have l:∀p i B lo,D p i=Y (B,lo)->p≠s/\G p i=Y (B,lo):=by
  intro p i B lo m;by_cases g:p=s
  .grind[CM]
  .simp[D,BZ _ _ _ _ g]at m;exact⟨g,m⟩
 have E:Bt w w (AW w0.heap.size F0 G) (AW w0.heap.size F0 D):=λB o v η ζ=>⟨η,λJ=>ζ (AW.mono (λp i δ lo m=>⟨p,i,lo,(l _ _ _ _ m).2,az _⟩) J)⟩;refine⟨D,λp i p' i' B lo Z C L=>h.o3 _ _ _ _ _ _ _ (l _ _ _ _ C).2 (l _ _ _ _ L).2,λp i B lo C=>h.lt _ _ _ _ (l _ _ _ _ C).2,h.below,h.defers,λp m=>?_,λp m=>?_,λp=>?_⟩
 .rw[AB.eb,ae U];exact h.dom p m
 .rw[AB.eb];by_cases g:s=p
  .subst g;rw[ac rfl,h1];simp only[AN,A1];refine⟨b,0,rfl,?_⟩;rw[Jk];intro i t N;rw[B_]at N;simp at N;obtain⟨cell,A,rfl⟩:=N;obtain⟨x,hx,H⟩:=h5 i cell A;refine⟨x,?_,?_,Hj H,CR E _ _ (XH h H)⟩
   .rw[w!,cell_of_row w b i c θ (0,0) h2];exact hx
   .rintro(⟨C,R⟩|⟨p,j,lo,C,_⟩)
    .exact(h.lt _ _ _ _ κ).2.elim (λe=>U) (λe=>h.below.free _ 0 _ (e 0 (y_ 0)) R)
    .obtain⟨L,e3⟩:=l _ _ _ _ C;exact L (h.o3 _ _ _ _ _ _ _ e3 κ).1
  .rw[ae g];refine AN.kept E (λi=>by simp[D];rw[BZ _ _ _ _ (λe=>g e.symm)]) (λ_ _ _ _=>rfl) (OI rfl λq hq=>by simp[D];rw[BZ _ _ _ _ U]) BY.rfl' (λr i k hr⟨M,u⟩=>⟨⟨M,(AB.Aac V u).2⟩,λ_ hv=>hv⟩) (λr off hr⟨cs',ε⟩=>?_) (λr i hr⟨M,u⟩=>⟨⟨M,(AB.t1 V V u).2⟩,λ_ hv=>hv⟩) (h.slots p m)
   grind [AB.eb]
 .rw[AB.eb];split
  .grind[EV.WF,TV.WF,B7]
  .exact h.wf p
theorem Xk{w:World}{F g:Nat->Nat->Prop}{z:Option (Nat×Nat)}{j:Fq}{x:Value}(h:SD w F z n j x)(ha:Bt w w F g)(k:∀b lo o,z=Y (b,lo)->¬g b o):A1 w g (.list n j) x:=by
 obtain ⟨ys,⟨m,p,q⟩,u,A,B⟩:=h;have e:CD w g m (.list n j) x:=⟨ys,p,A7 ha _ _ u,A,B⟩;exact e.rep λb lo o l _=>k b 0 o (by rw[q,l];rfl)
theorem AO.rls(h:AO F0 w0 O a w G){cs:List AR}(hs:O.get s=.bx cs):B9 F0 w0 ((s,.bx (cs.map AR.rel))::O) a w:=by
 classical
 have hsz:s<a.tmps.size:=Bw h hs V;have hr:=At h hs V;have hw:=h.wf s;rw[hs]at hw;simp only[AN]at hr;obtain⟨b,c,θ,h1,h2,h3,h4,h5⟩:=hr
 let zs:Option Nat->Option (Nat×Nat):=λi=>match i with
  |none=>G s W|some k=>match cs[k]? with
   |some ⟨X,.xl n es⟩=>(G s (Y k)).map λp=>(p.1,es.length*n)|some ⟨X,.xn es⟩=>(G s (Y k)).map λp=>(p.1,es.length*1)|_=>G s (Y k)
 let Q:Nat->Prop:=λp=>a.tmps.size<=p/\∃k lo,G s (Y k)=Y (p-a.tmps.size,lo)
 let D:Bi:=λp=>if p=s then zs else if Q p then λ_=>W else G p
 have η:D s=zs:=by simp[D]
 have I:∀p i E lo,D p i=Y (E,lo)->∃C,G p i=Y (E,C)/\C<=lo:=by
  intro p i E lo m;by_cases B:p=s
  .subst B;rw[η]at m;cases i with
   |none=>exact⟨lo,m,az _⟩|some k=>
    simp [zs]at m;split at m
    next n es hk=>obtain⟨x,_,xs,⟨z0,_,L⟩,_⟩:=h5 k _ hk;simp only[L,E?,F_,Function.comp,Prod.mk.injEq]at m;obtain⟨p,m,q,u⟩:=m;exact⟨0,by rw[L,m,<-q];rfl,y_ _⟩
    next es hk=>obtain⟨x,_,xs,⟨z0,_,L⟩,_⟩:=h5 k _ hk;simp only[L,E?,F_,Function.comp,Prod.mk.injEq]at m;obtain⟨p,m,q,u⟩:=m;exact⟨0,by rw[L,m,<-q];rfl,y_ _⟩
    .exact⟨lo,m,az _⟩
  .simp[D,ae B]at m;split at m
   .cases m
   .exact⟨lo,m,az _⟩
 have M:Bt w w (AW w0.heap.size F0 G) (AW w0.heap.size F0 D):=λE o v hc hF=>⟨hc,λhF'=>hF (AW.mono (λp i b'' lo m=>by
  obtain ⟨C,q,u⟩:=I _ _ _ _ m;exact⟨p,i,C,q,u⟩) hF')⟩
 have hrow:∀k g j E lo o,G s (Y k)=Y (g,0)->x7 a G g j=Y (E,lo)->¬AW w0.heap.size F0 D E o:=by
  intro k g j E lo o L hρ;rintro(⟨q,u⟩|⟨p,i,lo',q,u⟩)
  .exact(h.lt _ _ _ _ hρ).2.elim (λe=>U) (λe=>h.below.free _ lo _ (e lo (az _)) u)
  .obtain⟨C,e3,_⟩:=I _ _ _ _ q;obtain⟨rfl,_⟩:=h.o3 _ _ _ _ _ _ _ hρ e3;simp[D]at q;rw[ae U,ac ⟨U,k,0,by rw[y?];exact L⟩]at q;cases q
 have hrel:∀{k:Nat}{d:AR}{x:Value},cs[k]?=Y d->BW w (AW w0.heap.size F0 G) (x7 a G) (G s (Y k)) d x->BW w (AW w0.heap.size F0 D) (x7 a D) (zs (Y k)) d.rel x:=by
  intro k d x hk hd;have N:zs (Y k)=match d with
   |⟨X,.xl n es⟩=>(G s (Y k)).map λp=>(p.1,es.length*n)|⟨X,.xn es⟩=>(G s (Y k)).map λp=>(p.1,es.length*1)|_=>G s (Y k):=by
   simp only[zs,hk];obtain⟨o,t⟩:=d;cases o<;>cases t<;>rfl
  generalize hzz:zs (Y k)=z' at N;unfold AR.rel;split
  .rename_i n es;subst N;obtain⟨xs,⟨z0,δ,k2⟩,k3,k4,k5⟩:=hd;refine⟨xs,?_,A7 M _ _ k3,k4,k5⟩;have:(G s (Y k)).map (λp=>(p.1,es.length*n))=z0:=by
    rw [k2];rcases δ.2 with⟨_,_,e⟩|⟨g,cap,cur,e,_,_,_,_,_,_,e⟩
    .rw[e];rfl
    .rw[e];rfl
   show Ge w n x es.length xs ((G s (Y k)).map λp=>(p.1,es.length*n));rw[this];exact δ
  .rename_i es;subst N;obtain⟨xs,⟨z0,δ,k2⟩,k3,k4⟩:=hd;have hlen:xs.length=es.length:=by have:=δ.1;omega
   have hone:∀e∈es,e.cells.length=1:=by
    intro e he;obtain⟨j,hj⟩:=D' he;obtain⟨g,x,n,Z,_,_,rfl,_⟩:=k4 j e hj;rfl
   have hfm:∀(l:Fq),(∀e∈l,∃n Z,e=TV.list n Z)->l.flatMap TV.cells=l:=by
    intro l
    induction l with
    |nil=>intro _;rfl|cons e l ih=>
     intro hl;obtain⟨n,Z,rfl⟩:=hl e V;rw[D!,ih (λe he=>hl e (by simp[he]))];rfl
   refine ⟨xs,?_,?_,hone,k3⟩
   .have:(G s (Y k)).map (λp=>(p.1,es.length*1))=z0:=by
     rw [k2];rcases δ.2 with⟨_,_,e⟩|⟨g,cap,cur,e,_,_,_,_,_,_,e⟩
     .rw[e];rfl
     .rw[e];rfl
    show Ge w 1 x es.length xs ((G s (Y k)).map λp=>(p.1,es.length*1));rw[this];exact δ
   .rw[hfm es λe he=>by
     obtain ⟨j,hj⟩:=D' he;obtain⟨g,x,n,Z,_,_,rfl,_⟩:=k4 j e hj;exact⟨_,_,rfl⟩]
    rw [Bs];refine⟨hlen,λj e y hj hy=>?_⟩;obtain⟨g,x,n,Z,q,u,rfl,e4⟩:=k4 j e hj;rw[hy]at u;cases u;exact Xk e4 M λE lo o hb=>hrow k g j E lo o q hb
  .rename_i hne ε;have:z'=G s (Y k):=by
    rw [N];split
    .exact absurd rfl (hne _ _)
    .exact absurd rfl (ε _)
    .rfl
   rw [this];have hd2:=hd.kept M (λ_ _ _=>rfl) BY.rfl';obtain⟨o,t⟩:=d;cases o
   .exact hd2
   .cases t<;>first|exact hd2|exact absurd rfl (ε _)
 refine ⟨D,λp i p' i' E lo lo' q u=>?_,λp i E lo q=>?_,h.below,h.defers,λp m=>?_,λp m=>?_,λp=>?_⟩
 .obtain⟨_,f1,_⟩:=I _ _ _ _ q;obtain⟨_,f2,_⟩:=I _ _ _ _ u;exact h.o3 _ _ _ _ _ _ _ f1 f2
 .obtain⟨C,f1,f2⟩:=I _ _ _ _ q;exact⟨(h.lt _ _ _ _ f1).1,(h.lt _ _ _ _ f1).2.imp id λk o ho=>k o (x? f2 ho)⟩
 .rw[AB.eb,ae U];exact h.dom p m
 .rw[AB.eb];by_cases B:s=p
  .subst B;rw[ac rfl,h1];simp only[AN];refine⟨b,c,θ,rfl,h2,by simpa using h3,by rw[η];exact h4,λi d hd=>?_⟩;rw[B_]at hd;simp at hd;obtain⟨κ,R,rfl⟩:=hd;obtain⟨x,hx,hc⟩:=h5 i κ R;refine⟨x,hx,?_⟩;rw[η];exact hrel R hc
  .rw[ae B];have hGp:∀i,D p i=G p i:=λi=>by
    simp [D];rw[ae (λe=>B e.symm),ae (λe=>o?)]
   refine AN.kept' M hGp (λ_ _ _ _=>rfl) (λi g lo j L=>?_) (λ_=>BY.spot BY.rfl') (λr i k hr⟨ζ,A⟩=>?_) (λr off hr⟨cs',H⟩=>?_) (λr i hr⟨ζ,A⟩=>?_) (h.slots p m)
   .simp[x7,D];rw[ae U,ae];rintro⟨_,k,lo',e⟩;rw[y?]at e;exact B (h.o3 _ _ _ _ _ _ _ e L).1
   .by_cases J:s=r
    .subst J;exfalso;obtain⟨cs',q,u⟩:=AB.t2 A;rw[AB.eb,ac rfl]at q;cases q;rw[B_]at u;simp at u;obtain⟨κ,_,e3⟩:=u;obtain⟨o,t⟩:=κ;cases o<;>cases t<;>simp[AR.rel]at e3
    .rw[AB.Aan J]at A;exact⟨⟨ζ,A⟩,λv hv=>hv⟩
   .rw[AB.eb]at H;split at H
    next e=>subst e;exact⟨⟨cs,hs⟩,rfl⟩
    .exact⟨⟨cs',H⟩,rfl⟩
   .by_cases J:s=r
    .subst J;exfalso;cases i with
     |none=>simp[AB.wi,AB.eb]at A|some k=>
      obtain ⟨cs',q,u⟩:=AB.tg (n:=ζ.1) (es:=ζ.2) A;rw[AB.eb,ac rfl]at q;cases q;rw[B_]at u;simp at u;obtain⟨κ,_,e3⟩:=u;obtain⟨o,t⟩:=κ;cases o<;>cases t<;>simp[AR.rel]at e3
    .have:O.wi r i=Y ζ:=by
      rw [<-A];exact(AB.Aaq (by rw[AB.eb,ae J])).symm
     exact ⟨⟨ζ,this⟩,λv hv=>hv⟩
 .rw[AB.eb];split
  .intro d hd;obtain⟨κ,R,rfl⟩:=D?.1 hd;have:=hw κ R;obtain⟨o,t⟩:=κ;cases o<;>cases t<;>exact this
  .exact h.wf p
end
end Go.Sf
namespace Go.Sf
open Go.RowKit (Below)
section
variable{P:Program}{S:FuncId->Fq->A9->Prop}{F0:Nat->Nat->Prop}{w0:W0}{O:AB}{a:Act}{w:World}{G:Bi}{d:Nat}{o:Oper}{K:EV->AB->Prop}
variable{s off b:Nat}
theorem AO.Aa4(h:AO F0 w0 O a w G){cs:List AR}(η:O.get s=.bx cs){t:TV}(δ:cs[off]?=Y ⟨X,t⟩)(hd:d<a.tmps.size)(Z:slot a s=.pointer (Y ⟨b,0,W⟩)){x:Value}(hx:w.cell? ⟨b,off,W⟩=Y x){e:EV}{t':TV}(u:(e=.ow t/\t'=t/\t.AaN=T)\/(∃n es,t=.xl n es/\e=.xo n es/\t'=.undef/\O.ij d=X)\/∃es,t=.xn es/\e=.xn es/\t'=.undef/\O.ij d=X):
  B9 F0 w0 ((d,e)::(s,.bx (cs.set off ⟨T,t'⟩))::O) (a.put (Y d) x) w:=by
 have hr:=At h η V;have hw:=h.wf s;rw[η]at hw;simp only[AN]at hr;obtain⟨N,c,θ,κ,M,h3,h4,h5⟩:=hr;rw[Z]at κ;simp at κ;subst κ;obtain⟨x',hx',g⟩:=h5 off _ δ;have L:x'=x:=by
  rw [cell_of_row w b off c θ (0,0) M]at hx
  grind
 subst L;simp[BW]at g
 let I:Bi:=λp i=>if p=d then(if i=W then G s (Y off)else W)else if p=s/\i=Y off then W else G p i
 have R:∀p i N lo,I p i=Y (N,lo)->(p=d/\i=W/\G s (Y off)=Y (N,lo))\/(p≠d/\¬(p=s/\i=Y off)/\G p i=Y (N,lo)):=by
  grind
 have A:Bt w w (AW w0.heap.size F0 G) (AW w0.heap.size F0 I):=λN o v δ hF=>⟨δ,λhF'=>hF (AW.mono (λp i b'' lo ζ=>by
  grind) hF')⟩
 have C:x7 (a.put (Y d) x') I=x7 a G:=OI (Bu _ _ _) λq hq=>by
  have hsz:s<a.tmps.size:=Bw h η V
  grind
 refine ⟨I,?_,?_,h.below,g!,?_,?_,?_⟩
 .intro p i p' i' N lo lo' H e2;rcases R _ _ _ _ H with⟨rfl,rfl,f1⟩|⟨n1,n2,f1⟩<;>rcases R _ _ _ _ e2 with⟨rfl,rfl,f2⟩|⟨m1,m2,f2⟩
  .exact⟨rfl,rfl⟩
  .exact absurd ((h.o3 _ _ _ _ _ _ _ f1 f2).imp Eq.symm Eq.symm) m2
  .exact absurd (h.o3 _ _ _ _ _ _ _ f1 f2) n2
  .exact h.o3 _ _ _ _ _ _ _ f1 f2
 .intro p i N lo H;rcases R _ _ _ _ H with⟨_,_,H⟩|⟨_,_,H⟩<;>exact h.lt _ _ _ _ H
 .intro p ζ;rw[Bu]at ζ;have hsz:s<a.tmps.size:=Bw h η V;rw[AB.eb,ae U,AB.eb,ae U];exact h.dom p ζ
 .intro p ζ;rw[Bu]at ζ;rw[AB.eb];by_cases D:d=p
  .subst D;rw[ac rfl,C2 _ _ _ hd];rcases u with⟨rfl,rfl,hxl⟩|⟨n,es,rfl,rfl,rfl,_⟩|⟨es,rfl,rfl,rfl,_⟩
   .simp[AN,I];exact(g.own hxl).kept A (λ_ _ _=>rfl)
   .have:=g.kept A (λ_ _ _=>rfl) BY.rfl';simp[Et]at this;simp[AN,I];exact this
   .have:=g.kept A (λ_ _ _=>rfl) BY.rfl';simp[Et]at this;simp[AN];rw[C];simp[I];exact this
  .rw[ae D,AZ _ _ _ _ D,AB.eb];by_cases ε:s=p
   .subst ε;rw[ac rfl];have hsd:¬s=d:=λe=>D e.symm;simp only[AN];refine⟨b,c,θ,Z,M,by simpa using h3,by simp only[I];rw[ae hsd,ae V];exact h4,λi y B=>?_⟩;rw[B?]at B;by_cases hi:off=i
    .subst hi;rw[ac rfl]at B;split at B
     .simp at B;subst B;refine⟨x',hx',?_,QM g⟩;rcases u with⟨rfl,rfl,hxl⟩|⟨n,es,rfl,rfl,rfl,_⟩|⟨es,rfl,rfl,rfl,_⟩
      .exact CR A _ _ (Et.rep g (λb lo o hz ho=>QN h b lo o hz ho))
      .exact QM g
      .exact QM g
     .cases B
    .rw[ae hi]at B;obtain⟨v,H,e2⟩:=h5 i y B;refine⟨v,H,?_⟩;simp[I];rw[ae hsd,ae (by rintro⟨_,e⟩;exact hi (by simpa using e.symm)),C];exact e2.kept A (λ_ _ _=>rfl) BY.rfl'
   .rw[ae ε];refine AN.kept A (λi=>by simp[I];rw[ae (λe=>D e.symm),ae (λe=>ε e.1.symm)]) (λ_ _ _ _=>rfl) C BY.rfl' (λr i k hr⟨pp,l⟩=>?_) (λr off' hr⟨cs',m⟩=>?_) (λr i hr⟨pp,l⟩=>?_) (h.slots p ζ)
    .by_cases j:d=r
     .subst j;obtain⟨cs',H⟩:=AB.AaK l;rcases u with⟨rfl,_⟩|⟨n,es,_,rfl,_⟩|⟨es,_,rfl,_⟩<;>cases H
     .rw[AB.Aan j]at l;have E:∃p,O.nat r i=Y p:=by
       grind [AB.t2,AB.eb,AB.nat,AB.Aan]
      exact ⟨E,h.nh E (AZ _ _ _ _ j) (λ_ _ _ _=>rfl)⟩
    .rw[AB.eb]at m;by_cases j:d=r
     .rw[ac j]at m;rcases u with⟨rfl,_⟩|⟨n,es,_,rfl,_⟩|⟨es,_,rfl,_⟩<;>cases m
     .rw[ae j,AB.eb]at m;refine⟨?_,AZ _ _ _ _ j⟩;split at m
      next J=>subst J;exact⟨cs,η⟩
      .exact⟨_,m⟩
    .by_cases j:d=r
     .subst j;rcases u with⟨rfl,_⟩|⟨n,es,_,rfl,_,hno⟩|⟨es,_,rfl,_⟩
      .exact absurd rfl (AB.t1 V V l).1
      rotate_left
      .exact absurd rfl (AB.t1 V V l).1
      .have L:=AB.Aa0 d O hno p;rcases hr with hr|⟨c,hr⟩
       .exact absurd hr (L.1 i)
       .exact absurd hr (L.2 i c)
     .rw[AB.Aak j]at l;have E:∃p,O.wi r i=Y p:=by
       by_cases J:s=r
       .subst J;obtain⟨n,es⟩:=pp;cases i with
        |none=>have:=AB.x5 l;rw[AB.eb,ac rfl]at this;cases this
        |some k=>
         obtain ⟨cs'',κ,M⟩:=AB.tg l;rw[AB.eb,ac rfl]at κ;simp[EV.bx.injEq]at κ;subst κ;rw[B?]at M;split at M
         .split at M<;>simp at M
         .exact⟨(n,es),by simp[AB.wi,η,M]⟩
       .rw[AB.Aak J]at l;exact⟨pp,l⟩
      exact ⟨E,h.xv E (AZ _ _ _ _ j) (λ_ _=>rfl)⟩
 .intro p;rw[AB.eb];split
  .have:=hw _ (E_ δ);rcases u with⟨rfl,_⟩|⟨n,es,rfl,rfl,_⟩|⟨es,rfl,rfl,_⟩
   .exact this
   .exact this
   .exact this
  .rw[AB.eb];split
   .intro y B;rcases C? B with B|rfl
    .exact hw y B
    .rcases u with⟨_,rfl,_⟩|⟨n,es,_,_,rfl,_⟩|⟨es,_,_,rfl,_⟩
     .exact(hw ⟨X,_⟩ (E_ δ):_)
     .trivial
     .trivial
   .exact h.wf p
variable{x:Operand}{t:TypeId}
theorem r8(k:AO F0 w0 O a w G)(hd:d<a.tmps.size){x':AH}(l:o.op=.load t x)(u:AK x x'=X)(A:CL P t=Y T)(h:(AE.ldt x').wp S O (Y d) K):BI P F0 w0 a w o d K:=by
 simp [AE.wp]at h;split at h
 .rename_i s off B;split at h
  .rename_i cs m;split at h
   .rename_i n es q;obtain⟨b,g,j⟩:=IC k u B m;have hr:=At k m V;simp only[AN]at hr;obtain⟨H,c,θ,p,C,I,J,D⟩:=hr;rw[g]at p;simp at p;subst p;obtain⟨y,E,_⟩:=D off _ q;have e:w.cell? ⟨b,off,W⟩=Y y:=by rw[cell_of_row w b off c θ (0,0) C];exact E
    exact ⟨y,w,by simp[execOp,l,j,Instr.loadAt,Instr.sureAddr,loadVar,Cz A,e],_,_,h,k.Aa4 m q hd g e (.inl ⟨rfl,rfl,rfl⟩)⟩
   .exact h.elim
  .exact h.elim
 .exact h.elim
end
abbrev Dt:=Nat->Option Nat->Option (Nat×Nat)
def Dt.x7(Z:Dt):I5:=λg j=>Z (g+1) (Y j)
def ZF(Z:Dt)(b o:Nat):Prop:=∃q i lo,Z q i=Y (b,lo)/\lo<=o
def KF(Z:Dt):Prop:=∀q i q' i' b lo lo',Z q i=Y (b,lo)->Z q' i'=Y (b,lo')->q=q'/\i=i'
def Xu(w:World)(F:Nat->Nat->Prop)(Z:Dt)(cs:List AR)(v:Value):Prop:=
 ∃vs:Array Value,v=.agg vs/\vs.size=cs.length/\∀(i:Nat)(d:AR),cs[i]?=Y d->∃x,vs[i]?=Y x/\BW w F Z.x7 (Z 0 (Y i)) d x/\x.oneCell'=X
def dH(w:World)(F N:Nat->Nat->Prop)(cs:List AR)(v:Value):Prop:=
 ∃Z:Dt,Xu w (λb o=>F b o\/ZF Z b o) Z cs v/\KF Z/\Z 0 W=W/\∀q i b lo,Z q i=Y (b,lo)->b<w.heap.size/\N b lo
def JL(w':World)(F:Nat->Nat->Prop)(base:Nat):A9->Value->Prop
 |.sh t,v=>A1 w' F t v|.own t,v=>∃z,CD w' (λb o=>F b o\/∃lo,z=Y (b,lo)/\lo<=o) z t v/\∀b lo,z=Y (b,lo)->base<=b/\b<w'.heap.size|.tp ts,v=>∃vs,v=.tuple vs/\AQ w' F ts vs.toList|.Aa9 n es,v=>∃z xs,Ge w' n v es.length xs z/\AQ w' (λb o=>F b o\/∃lo,z=Y (b,lo)) (es.flatMap TV.cells) xs/\(∀e∈es,e.cells.length=n)/\(∀x∈xs,x.oneCell'=X)/\∀b lo,z=Y (b,lo)->base<=b/\b<w'.heap.size|.oag cs,v=>dH w' F (λb _=>base<=b) cs v|.mpr kvs ts,v=>∃(b:Nat)(vs:List Value),v=.tuple (Value.map (Y b)::vs).toArray/\base<=b/\b<w'.heap.size/\X3 w' b kvs/\AQ w' F ts vs|_,_=>False
def EB(P:Program)(f:FuncId):Bool:=
 match P.funcs[f]? with
 |some fn=>fn.name != "runtime.NumGoroutine" && fn.body.isSome
 |none=>T
def X7(P:Program)(f:FuncId)(args:Fq)(r:A9):Prop:=
 TV.tc args->EB P f=X/\∀(F0:Nat->Nat->Prop)(w:World)(vs:Array Value),AQ w F0 args vs.toList->VD w ->
  r.WF/\Calls P f vs w λe w'=>∃v,e=.returned v/\Below w.heap.size w w'/\JL w' (λb o=>b<w.heap.size/\F0 b o) w.heap.size r v
def SA(z:Option (Nat×Nat))(w w':World):Prop:=
 w'.os=w.os/\w'.tape=w.tape/\w'.output=w.output/\w.heap.size<=w'.heap.size/\∀k,k<w.heap.size->(∀lo,z≠Y (k,lo))->w'.heap[k]?=w.heap[k]?
def RY(w:World)(F:Nat->Nat->Prop):Fq->Value->Prop
 |[t],v=>A1 w F t v|us,v=>∃vs,v=.tuple vs/\AQ w F us vs.toList
def ABw(P:Program)(f:FuncId)(args:Fq)(zs':Fp)(us:Fq):Prop:=
 ∃(zs:Fp)(ts:Fq),args=.list 1 (zs.map (TV.int .i64))::ts/\EB P f=X/\TV.Aab us=X/\
  ∀(F0:Nat->Nat->Prop)(w:World)(v:Value)(vs:List Value)(z:Option (Nat×Nat)),(TV.list 1 (zs.map (TV.int .i64))).WF->TV.tc ts->K3 w 1 v zs.length (zs.map (Value.int .i64)) z->AQ w F0 ts vs->(∀b lo o,z=Y (b,lo)->lo<=o->F0 b o)->(∀b lo,z=Y (b,lo)->b<w.heap.size/\gU<=b)->VD w ->
   Calls P f (v::vs).toArray w λe w'=>(zs'.length=zs.length/\(A9.turn zs' us).WF)/\(∃r,e=.returned r/\RY w' (λ_ _=>False) us r)/\K3 w' 1 v zs.length (zs'.map (Value.int .i64)) z/\SA z w w'
def ABt(P:Program)(f:FuncId)(args:Fq)(zs':Fp):Prop:=
 ∃zs:Fp,args=[.list 1 (zs.map (TV.int .i64))]/\EB P f=X/\((TV.list 1 (zs.map (TV.int .i64))).WF->(TV.list 1 (zs'.map (TV.int .i64))).WF)/\
  ∀(w:World)(v:Value)(z:Option (Nat×Nat)),K3 w 1 v zs.length (zs.map (Value.int .i64)) z ->
   Calls P f #[v] w λe w'=>∃v',e=.returned v'/\K3 w' 1 v' zs'.length (zs'.map (Value.int .i64)) z/\SA z w w'
def O6(w:World)(F:Nat->Nat->Prop)(Z:Dt)(cs:List AR)(v:Value):Prop:=
 ∃b c θ,v=.pointer (Y ⟨b,0,W⟩)/\w.heap[b]?=Y (.cells c θ (0,0))/\c.size=cs.length/\Z 0 W=Y (b,0)/\∀(i:Nat)(d:AR),cs[i]?=Y d->∃x,c[i]?=Y x/\BW w F Z.x7 (Z 0 (Y i)) d x
structure HU(Z:Dt)(w w':World):Prop where
 os:w'.os=w.os
 tape:w'.tape=w.tape
 output:w'.output=w.output
 size:w.heap.size<=w'.heap.size
 block:∀k,k<w.heap.size->(∀q i lo,Z q i≠Y (k,lo))->w'.heap[k]?=w.heap[k]?
 cell:∀b o u,¬ZF Z b o->w.cell? ⟨b,o,W⟩=Y u->w'.cell? ⟨b,o,W⟩=Y u
def ABu(P:Program)(f:FuncId)(args us:Fq):Prop:=
 TV.tc args->(TV.Aab us=X/\TV.tc us)/\∀(w:World)(vs:Array Value),AQ w (λ_ _=>False) args vs.toList->∃r:Array Value,(callFunc f vs).run P w=.ok (.value (.tuple r)) w/\AQ w (λ_ _=>False) us r.toList
def ABs(P:Program)(f:FuncId)(args:Fq)(cs cs':List AR)(i:Nat)(us:Fq):Prop:=
 TV.tc args->(∀c∈cs,c.t.WF)->EB P f=X/\∀(F0:Nat->Nat->Prop)(w:World)(vs:Array Value)(v:Value)(Z:Dt),
  AQ w (λb o=>F0 b o\/ZF Z b o) args vs.toList->vs[i]?=Y v->O6 w (λb o=>F0 b o\/ZF Z b o) Z cs v ->
  KF Z->(∀q i b lo,Z q i=Y (b,lo)->b<w.heap.size)->(∀b o o',ZF Z b o->¬F0 b o')->ZD w (ZF Z) ->
  ((∀c∈cs',c.t.WF)/\TV.tc us)/\Calls P f vs w λe w'=>∃r Z',e=.returned r/\HU Z w w'/\O6 w' (λb o=>(b<w.heap.size/\F0 b o)\/ZF Z' b o) Z' cs' v/\
   KF Z'/\(∀q i b lo,Z' q i=Y (b,lo)->b<w'.heap.size/\(w.heap.size<=b\/∃p j lo',Z p j=Y (b,lo')/\lo'<=lo))/\
   RY w' (λb o=>(b<w.heap.size/\F0 b o)\/ZF Z' b o) us r
def cY(w':World)(F N:Nat->Nat->Prop):A9->Value->Prop
 |.sh t,v=>A1 w' F t v|.tp ts,v=>∃vs,v=.tuple vs/\AQ w' F ts vs.toList|.oag cs,v=>dH w' F N cs v|_,_=>False
def AgS(P:Program)(f:FuncId)(args:Fq)(cs:List AR)(i:Nat)(r:A9):Prop:=
 TV.tc args->(∀c∈cs,c.t.WF)->EB P f=X/\∀(F0:Nat->Nat->Prop)(w:World)(vs:Array Value)(v:Value)(Z:Dt),
  AQ w (λb o=>F0 b o\/ZF Z b o) args vs.toList->vs[i]?=Y v->Xu w (λb o=>F0 b o\/ZF Z b o) Z cs v ->
  KF Z->(∀q i b lo,Z q i=Y (b,lo)->b<w.heap.size)->(∀b o o',ZF Z b o->¬F0 b o')->ZD w (ZF Z) ->
  r.WF/\Calls P f vs w λe w'=>∃v',e=.returned v'/\HU Z w w'/\cY w' (λb o=>b<w.heap.size/\F0 b o) (λb lo=>w.heap.size<=b\/∃p j lo',Z p j=Y (b,lo')/\lo'<=lo) r v'
def AV(P:Program)(f:FuncId)(args:Fq)(r:A9):Prop:=
 match r with
 |.turn zs us=>ABw P f args zs us|.cut zs=>ABt P f args zs|.bo cs cs' i us=>ABs P f args cs cs' i us|.ext us=>ABu P f args us|.ag cs i r=>AgS P f args cs i r|r=>X7 P f args r
variable{f:FuncId}{r:A9}
theorem AV.to0{P:Program}{args:Fq}(h:AV P f args r)(e:r.plain=X):X7 P f args r:=by
 cases r<;>first|exact h|cases e
theorem AV.of0{P:Program}{args:Fq}(h:X7 P f args r)(e:r.plain=X):AV P f args r:=by
 cases r<;>first|exact h|cases e
section
variable{P:Program}{F0:Nat->Nat->Prop}{w0:W0}{O:AB}{a:Act}{w:World}{G:Bi}{d:Nat}{o:Oper}{K:EV->AB->Prop}
variable{ρ:I5}
theorem gq{F k:Nat->Nat->Prop}{z:Option (Nat×Nat)}{c:AR}{x:Value}(h:BW w F ρ z c x)(ha:Bt w w F k)(B:∀b lo o,z=Y (b,lo)->¬k b o)(η:∀g lo j b q o,z=Y (g,lo)->ρ g j=Y (b,q)->¬k b o):A1 w k c.rel.t x:=by
 obtain ⟨_|_,t⟩:=c
 .exact CR ha _ _ h.1
 .by_cases D:∃n es,t=.xl n es
  .obtain⟨n,es,rfl⟩:=D;exact Xk (h:SD w F z n es x) ha B
  .by_cases E:∃es,t=.xn es
   .obtain⟨es,rfl⟩:=E;obtain⟨xs,⟨L,I,M⟩,N,R⟩:=(h:F8 w F ρ z es x);have H:xs.length=es.length:=by have:=I.1;omega
    have m:∀e∈es,e.cells.length=1:=by
     intro e he;obtain⟨j,ε⟩:=D' he;obtain⟨g,x,n,u,_,_,rfl,_⟩:=R j e ε;rfl
    have A:∀(l:Fq),(∀e∈l,∃n u,e=TV.list n u)->l.flatMap TV.cells=l:=by
     intro l
     induction l with
     |nil=>intro _;rfl|cons e l κ=>
      intro C;obtain⟨n,u,rfl⟩:=C e V;rw[D!,κ (λe he=>C e (by simp[he]))];rfl
    have p:CD w k L (.list 1 es) x:=by
     refine ⟨xs,I,?_,m,N⟩;rw[A es λe he=>by
      grind [D']]
     grind [Bs,Xk]
    exact p.rep λb lo o hb _=>B b 0 o (by rw[M,hb];rfl)
   .have J:Et w F ρ z t x:=h;have hr:(AR.mk X t).rel=⟨X,t⟩:=by
     cases t<;>first|rfl|exact absurd ⟨_,_,rfl⟩ D|exact absurd ⟨_,rfl⟩ E
    rw [hr];have ζ:=J.kept ha (λ_ _ _=>rfl) BY.rfl'
    grind [Et.rep]
variable{r:A9}{v:Value}
theorem AO.called(h:AO F0 w0 O a w G)(hd:d<a.tmps.size){w':World}(hb:Below w.heap.size w w')(H:r.plain=X)(hr:JL w' (λb o=>b<w.heap.size/\AW w0.heap.size F0 G b o) w.heap.size r v)(B:r.WF):
  B9 F0 w0 ((d,r.ev)::O) (a.put (Y d) v) w':=by
 have old:∀(I:Option Nat->Option (Nat×Nat))b o,AW w0.heap.size F0 (Km G d I) b o->(b<w.heap.size/\AW w0.heap.size F0 G b o)\/∃i lo,I i=Y (b,lo)/\lo<=o:=by
  intro I b o hf;rcases hf with k|⟨s,i,lo,k,p⟩
  .exact .inl ⟨x! k.1 h.below.size,.inl k⟩
  .by_cases N:s=d
   .subst N;rw[CM]at k;exact .inr ⟨i,lo,k,p⟩
   .rw[BZ _ _ _ _ N]at k;exact .inl ⟨(h.lt _ _ _ _ k).1,.inr ⟨s,i,lo,k,p⟩⟩
 cases r with
 |sh t=>
  refine h.tv hb d hd t v (CR (λb o u l hf=>⟨l,λe=>?_⟩) t v hr) B;rcases old _ _ _ e with k|⟨i,lo,k,_⟩
  .exact hf k
  .cases k
 |own t=>
  obtain ⟨z,k,p⟩:=hr;refine h.ow hb d hd t v z p (k.kept (λb o u l hf=>⟨l,λe=>hf ?_⟩) (λ_ _ _=>rfl)) B;rcases old _ _ _ e with m|⟨i,lo,m,E⟩
  .exact .inl m
  .split at m
   .exact .inr ⟨lo,m,E⟩
   .cases m
 |tp ts=>
  obtain ⟨vs,k,p⟩:=hr;refine⟨_,h.quiet hb d hd (.tp ts) v (λ_=>W) V V V ?_ B⟩;simp[AN];refine⟨vs,k,A7 (λb o u l hf=>⟨l,λe=>?_⟩) _ _ p⟩;rcases old _ _ _ e with m|⟨i,lo,m,_⟩
  .exact hf m
  .cases m
 |Aa9 n es=>
  obtain ⟨z,xs,k,p,m,E,κ⟩:=hr;refine h.ow hb d hd (.list n es) v z κ ?_ B;simp[CD];refine⟨xs,k,A7 (λb o u l hf=>⟨l,λe=>hf ?_⟩) _ _ p,m,E⟩;rcases old _ _ _ e with q|⟨i,lo,q,h7⟩
  .exact .inl q
  .split at q
   .exact .inr ⟨lo,q⟩
   .cases q
 |oag cs=>
  obtain ⟨Z,⟨vs,rfl,k,p⟩,m,_,E⟩:=hr;have A:AQ w' (λb o=>b<w.heap.size/\AW w0.heap.size F0 G b o) (cs.map λc=>c.rel.t) vs.toList/\∀x∈vs.toList,x.oneCell'=X:=by
   refine ⟨?_,?_⟩
   .rw[Bs];refine⟨by simp[k],λi t x C D=>?_⟩;rw[B_]at C;simp at C;obtain⟨c,l,rfl⟩:=C;obtain⟨y,R,M,_⟩:=p i c l;rw[E',R]at D;simp at D;subst D;refine gq M (λb o u l hf=>⟨l,λe=>hf (.inl e)⟩) (λb lo o ε hf=>?_) (λg lo j b J o ε hr hf=>?_)
    .grind
    .have:=(E _ _ b J hr).2;omega
   .intro x D;obtain⟨i,hi⟩:=D' D;have L:i<cs.length:=by
     grind
    obtain ⟨y,R,_,η⟩:=p i _ (B' L)
    grind
  refine h.tv hb d hd (.agg (cs.map λc=>c.rel.t)) _ ?_ (by
   simp [TV.WF];rw[B7];intro t C;obtain⟨c,l,rfl⟩:=D?.1 C;have:=B c l;obtain⟨ζ,δ⟩:=c;cases ζ<;>cases δ<;>exact this)
  simp only[A1];refine⟨vs,rfl,A7 (λb o u l hf=>⟨l,λe=>hf ?_⟩) _ _ A.1,List.all_eq_true.2 A.2⟩;rcases old _ _ _ e with q|⟨i,lo,q,_⟩
  .exact q
  .cases q
 |turn zs=>exact hr.elim|cut zs=>exact hr.elim|bo _ _ _ _=>exact hr.elim|ext _=>exact hr.elim|ag _ _ _=>exact hr.elim|mpr _ _=>cases H
variable{f:FuncId}
theorem FG(e:EB P f=X)(vs:Array Value):(callFunc f vs).run P w=.ok (.enter f vs) w:=by
 unfold EB at e;cases hf:P.funcs[f]? with
 |none=>rw[hf]at e;cases e
 |some h=>
  rw [hf]at e;simp[bne_iff_ne]at e;have g:¬h.body=W:=by
   grind
  simp [callFunc,hf,e.1,g]
variable{Q:Exit->Act->World->Prop}
theorem ZI(q:AO F0 w0 O a w G)(hd:d<a.tmps.size)(g:o.dst=Y d){vs:Array Value}{k:Fq}(h:(execOp a.eval o).run P w=(callFunc f vs).run P w)(l:AV P f k r/\r.plain=X)(m:TV.tc k)(j:AQ w (AW w0.heap.size F0 G) k vs.toList)(A:r.WF->K r.ev O)
  {next:Act->World->Prop}(B:∀e env' a' w',K e env'->SC a d a'->B9 F0 w0 ((d,e)::env') a' w'->next a' w'):o.wp P a w next Q:=by
 obtain ⟨C,p⟩:=l.1.to0 l.2 m;obtain⟨u,p⟩:=p _ w vs j q.below.now;unfold Oper.wp;rw[h,FG C vs,Oper.upon_enter];refine p.mono ?_;rintro e w' ⟨v,rfl,hb,hr⟩;simp[g];exact B _ _ _ _ (A u) ⟨_,rfl⟩ (q.called hd hb l.2 hr u)
variable{ats:Array TypeId}
theorem pA(m:AO F0 w0 O a w G)(hd:d<a.tmps.size)(j:o.dst=Y d){xs:Array Operand}{ys:List AH}(k:o.op=.call {callee:=.value (.func f),args:=xs,argTypes:=ats})(l:Bq xs.toList ys=X)(h:(AE.call f ys).wp (AV P) O (Y d) K)
  {next:Act->World->Prop}(p:∀e env' a' w',K e env'->SC a d a'->B9 F0 w0 ((d,e)::env') a' w'->next a' w'):o.wp P a w next Q:=by
 simp [AE.wp]at h;cases g:vals O ys with
 |none=>rw[g]at h;exact h.elim|some A=>
  rw [g]at h;simp[Ay]at h;obtain⟨r,q,u⟩:=h;have:=GT m l g;refine ZI m hd j (vs:=xs.map a.eval) ?_ q this.2 u_ u p;simp[execOp,k,resolve,Act.eval,Deferred.ofValue,invoke]
variable{x:Operand}{y:AH}
theorem l8(j:AO F0 w0 O a w G)(hd:d<a.tmps.size)(g:o.dst=Y d){xs:Array Operand}{ys:List AH}(k:o.op=.call {callee:=.value x,args:=xs,argTypes:=ats})(A:AK x y=X)(l:Bq xs.toList ys=X)(h:(AE.Abm y ys).wp (AV P) O (Y d) K)
  {next:Act->World->Prop}(B:∀e env' a' w',K e env'->SC a d a'->B9 F0 w0 ((d,e)::env') a' w'->next a' w'):o.wp P a w next Q:=by
 simp [AE.wp]at h;split at h
 .rename_i f p J hf m;obtain⟨r,C,D⟩:=h;have q:=BD j A hf;have u:=GT j l m;simp[A1,TV.WF]at q;obtain⟨⟨cs,E,H⟩,I⟩:=q;refine ZI j hd g (vs:=xs.map a.eval++cs) ?_ C (Li.2 ⟨u.2,I⟩) ?_ D B
  .simp[execOp,k,resolve,E,Deferred.ofValue,invoke]
  .rw[Array.toList_append];exact JF (by simpa using u.1) H
 .exact h.elim
end
end Go.Sf
