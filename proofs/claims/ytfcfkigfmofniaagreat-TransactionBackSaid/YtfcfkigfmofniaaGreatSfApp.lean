/- Appending to a list that a slot owns. -/
import Derived.Test.YtfcfkigfmofniaaGreatSfOps1
set_option linter.all false
open Option renaming some->Y,none->W
open Bool renaming true->X,false->T
open Nat renaming add_mul->u!,zero_add->u?,mul_le_mul_right->v1,lt_or_ge->v5,lt_of_lt_of_le->v6,le_trans->v9,zero_le->v_,min_eq_left->v!,add_sub_cancel_left->v?
open List renaming eq_nil_of_length_eq_zero->w_,take_left->w!,getElem?_toArray->w?,getElem?_append_left->x_,getElem?_take_of_lt->x!,mem_append->x?,isEmpty_iff->y_,getElem?_map->y!,getElem?_eq_getElem->y?,getElem_mem->z9,getElem?_set->z_,getElem?_append_right->z!,length_singleton->z?,getElem?_drop->A_,mem_or_eq_of_mem_set->A',getElem?_eq_some_iff->A!,getElem?_of_mem->A?,flatMap_cons->B_,mem_map->B',mem_of_getElem?->B!
open Array renaming getElem?_toList->B?,length_toList->C_
open Option renaming map_map->C',map_eq_some_iff->C!
namespace Go.Sf
open Go.RowKit (Below)
structure Ic(w w':World)(z z':Option (Nat×Nat)):Prop where
 os:w'.os=w.os
 tape:w'.tape=w.tape
 output:w'.output=w.output
 size:w.heap.size<=w'.heap.size
 other:∀k,k<w.heap.size->(∀lo,z≠Y (k,lo))->w'.heap[k]?=w.heap[k]?
 cell:∀b o v,w.cell? ⟨b,o,W⟩=Y v->(∀lo,z=Y (b,lo)->o<lo)->w'.cell? ⟨b,o,W⟩=Y v
 AaT:∀b lo,z'=Y (b,lo)->b<w'.heap.size/\(w.heap.size<=b\/∃lo',z=Y (b,lo')/\lo'<=lo)
theorem Ic.refl(w:World)(z:Option (Nat×Nat))(e:∀b lo,z=Y (b,lo)->b<w.heap.size):Ic w w z z:=
 ⟨rfl,rfl,rfl,b6 _,λ_ _ _=>rfl,λ_ _ _ h _=>h,λb lo h=>⟨e b lo h,.inr ⟨lo,h,b6 _⟩⟩⟩
section
variable{P:Program}{w:World}
theorem Vx(t ty e D:TypeId)(i:TypeInfo)(E:P.underlying t=Y (.slice e))(hi:P.info? e=Y i)
  (g k l:Nat)(p:Array Value)(H:w.heap[g]?=Y (.cells p D (0,0)))
  (a:Addr)(m c:Nat)(h:List Value)(I:h.length=m*i.size)(q:∀(j:Nat)(u:Value),h[j]?=Y u->w.cell? (a.add j)=Y u)(J:∀u∈h,u.oneCell'=X)
  (A:k+m<=l)(B:k*i.size+h.length<=p.size):
  (Builtin.append_ #[t,t] ty #[.slice (Y ⟨g,0,W⟩) k l,.slice (Y a) m c]).run P w=
   .ok (.slice (Y ⟨g,0,W⟩) (k+m) l) (w.setRow g (p.toList.take (k*i.size)++h++p.toList.drop (k*i.size+h.length)).toArray):=by
 have hf:=run_firstCells_some (P:=P) w i.size m a m c h I q;have C:=run_storeCells_at P g (k*i.size) D h 0 p w H to J;simp at C;simp[Builtin.append_,run_underlying E,sizeOf,typeInfo,hi,Builtin.lenOf,A,hf,Addr.add_lit,C]
theorem Px(t ty e:TypeId)(i:TypeInfo)(z:Value)(n:Nat)(ht:P.underlying t=Y (.slice e))(hi:P.info? e=Y i)(hz:i.zero=Y z)
  (p:i.size=n)(hby:i.bytes<=4096)(hzs:z.cells.size=n)(hn:0<n)
  (v:Value)(len:Nat)(xs:List Value)(zo:Option (Nat×Nat))(q:Fd w n v len xs zo)
  (ad:Option Addr)(m c:Nat)(l:List Value)(κ:l.length=m*n)(had:ad=W->m=0)(hmc:m<=c)(η:∀a,ad=Y a->∀(j:Nat)(u:Value),l[j]?=Y u->w.cell? (a.add j)=Y u)(h1:∀u∈l,u.oneCell'=X)
  (J:len+m<=AU):
  ∃v' w' z',(Builtin.append_ #[t,t] ty #[v,.slice ad m c]).run P w=.ok v' w'/\Fd w' n v' (len+m) (xs++l) z'/\Ic w w' zo z':=by
 have D:(xs++l).length=(len+m)*n:=by rw[bk,q.1,κ,u!]
 have E:(len+m)*i.bytes<=140737488355328:=by
  calc (len+m)*i.bytes<=AU*4096:=Nat.mul_le_mul J hby
   _<=140737488355328:=a?
 have hml:len+m<=maxLen:=by simp[maxLen,AU]at *;omega
 have N:∀b lo,zo=Y (b,lo)->b<w.heap.size:=by
  intro b lo I;rcases q.2 with⟨_,_,h⟩|⟨g,cap,B,ε,_,hg,_,_,_,_,h⟩
  .rw[h]at I;cases I
  grind
 by_cases hm:m=0
 .subst hm;have hnn:l=[]:=w_ (by simpa using κ);subst hnn;refine⟨v,w,zo,?_,j_,Ic.refl w zo N⟩;have hfc:(Builtin.firstCells n 0 (.slice ad 0 c)).run P w=.ok #[] w:=by
   cases ad<;>simp[Builtin.firstCells,loadCells,loadCellsFrom]
  rcases q.2 with⟨rfl,rfl,_⟩|⟨g,cap,B,ε,rfl,hg,M,_,_,_,_⟩
  .simp[Builtin.append_,run_underlying ht,sizeOf,typeInfo,hi,p,Builtin.lenOf,hfc]
  .simp[Builtin.append_,run_underlying ht,sizeOf,typeInfo,hi,p,Builtin.lenOf,M,hfc,storeCells]
 .cases ad with
  |none=>exact absurd (had rfl) hm|some a=>
   have A:=η a rfl;have L:∀(old:Nat),old<len+m ->
     Fd (w.drew.alloc (.cells (xs.toArray++l.toArray++Builtin.zeroCells z.cells (grownCap w (len+m) old e-(len+m))) e)) n
      (.slice (Y ⟨w.heap.size,0,W⟩) (len+m) (grownCap w (len+m) old e)) (len+m) (xs++l) (Y (w.heap.size,(len+m)*n))/\
     Ic w (w.drew.alloc (.cells (xs.toArray++l.toArray++Builtin.zeroCells z.cells (grownCap w (len+m) old e-(len+m))) e)) zo (Y (w.heap.size,(len+m)*n)):=by
    intro old ho;have hge:=grownCap_ge w (len+m) old e;have ζ:grownCap w (len+m) old e<=maxLen:=grownCap_le_maxLen w (len+m) old e hml;refine⟨⟨D,.inr ⟨w.heap.size,_,_,e,rfl,heap_alloc_new w.drew _,hge,ζ,?_,?_,rfl⟩⟩,⟨rfl,rfl,rfl,V,λk hk _=>Below.heap_alloc w.drew _ k hk,λb o v M _=>?_,λb lo I=>?_⟩⟩
    .simp[Array.size_append,List.size_toArray,size_zeroCells,hzs,q.1,κ,<-u!];congr 1;omega
    .simp;rw[<-c9,<-D];exact w!
    .have I:b<w.heap.size:=World.block_lt_of_cell? w ⟨b,o,W⟩ M;rw[World.cell?_alloc_lt _ _ (a:=⟨b,o,W⟩) (by simpa using I)];simpa using M
    .simp at I;rw[<-I.1];exact⟨V,.inl (b6 _)⟩
   rcases q.2 with⟨rfl,rfl,rfl⟩|⟨g,cap,B,ε,rfl,hg,hnc,ζ,hcs,htake,rfl⟩
   .have hx:xs=[]:=w_ (by simpa using q.1);subst hx;have δ:=run_append_nil (P:=P) w t ty e i z ht hi hz a m c l (by rw[p];exact κ) A U (by simp[AU]at J;omega) (by have I:=E;simp at I;omega);have H:=L 0 U;simp only[u?,List.nil_append,Array.empty_append]at H δ|-;exact⟨_,_,_,δ,H.1,H.2⟩
   .by_cases C:len+m<=cap
    .have R:len*i.size+l.length<=B.size:=by rw[κ,hcs,p,<-u!];exact v1 _ C
     have δ:=Vx (P:=P) t ty e ε i ht hi g len cap B hg a m c l (by rw[p];exact κ) A h1 C R;rw[p]at δ R;refine⟨_,_,Y (g,(len+m)*n),δ,⟨D,.inr ⟨g,cap,_,ε,rfl,setRow_heap w g B _ ε _ hg,C,ζ,?_,?_,rfl⟩⟩,⟨rfl,rfl,rfl,V,λk _ hk=>setRow_other w g k _ (λe=>hk (len*n) (by rw[e])),λb o u M hlo=>?_,λb lo I=>?_⟩⟩
     .simp;omega
     .rw[htake,<-D];exact w!
     .by_cases hbg:b=g
      .subst hbg;have ho:=hlo (len*n) rfl;rw[cell_of_row _ b o _ ε (0,0) (setRow_heap w b B _ ε _ hg)];rw[cell_of_row w b o B ε (0,0) hg]at M;have hoc:o<B.size:=U
       rw [w?,c9,x_ an,x! ho];simpa using M
      .rw[World.cell?_of_block (w:=w) (a:=⟨b,o,W⟩) (setRow_other w g b _ (λe=>hbg e))];exact M
     .simp at I;obtain⟨rfl,rfl⟩:=I;refine⟨by simpa using N g (len*n) rfl,.inr ⟨len*n,rfl,v1 _ U⟩⟩
    .have Z:∀(j:Nat)(u:Value),xs[j]?=Y u->w.cell? ((⟨g,0,W⟩:Addr).add j)=Y u:=λj u hu=>by
      rw [Addr.add_lit,u?];exact q.cell rfl j u hu
     have δ:=run_append_grow (P:=P) w t ty e i z ht hi hz ⟨g,0,W⟩ len cap xs (by rw[p];exact q.1) Z a m c l (by rw[p];exact κ) A U (by simp[AU]at J;omega) (growslice_fits U E);have H:=L cap U;exact⟨_,_,_,δ,H.1,H.2⟩
end
end Go.Sf
namespace Go.Sf
open Go.RowKit (Below)
section
variable{P:Program}{S:FuncId->Fq->Al->Prop}{F0:Nat->Nat->Prop}{w0:W0}{O:AB}{a:Act}{w:World}{G:BH}{d:Nat}{o:Oper}{K:EV->AB->Prop}
variable{s:Nat}{v:Value}
theorem AN.app(h:AN F0 w0 O a w G)(hss:s<a.tmps.size){w':World}{z':Option (Nat×Nat)}(hf:Ic w w' (G s W) z')(hd:d<a.tmps.size){t:TV}(ht:t.WF)
  (ζ:∀F',BS w w' (AW w0.heap.size F0 G) F'->(∀b o,F' b o->(b<w0.heap.size/\F0 b o)\/(∃q i lo,G q i=Y (b,lo)/\lo<=o)\/∃lo,z'=Y (b,lo)/\lo<=o)->Bm w' F' z' t v):
  ∃J,AN F0 w0 ((d,.ow t)::Go.Sf.strip O s) (a.put (Y d) v) w' J/\BS w w' (AW w0.heap.size F0 G) (AW w0.heap.size F0 J):=by
 let J:BH:=JU (JU G s (λ_=>W)) d (λi=>if i=W then z' else W)
 have I:∀q i b lo,J q i=Y (b,lo)->(q=d/\i=W/\z'=Y (b,lo))\/(q≠d/\q≠s/\G q i=Y (b,lo)):=by
  intro q i b lo M;by_cases E:q=d
  .grind[Bt]
  .simp[J,BC _ _ _ _ E]at M;by_cases L:q=s
   .grind[Bt]
   .rw[BC _ _ _ _ L]at M
    grind
 have hne:∀q i b lo,q≠s->G q i=Y (b,lo)->∀B,G s W≠Y (b,B):=λq i b lo L m B D=>L (h.og _ _ _ _ _ _ _ m D).1;have R:BS w w' (AW w0.heap.size F0 G) (AW w0.heap.size F0 J):=by
  intro b o u hc δ;have l:∀lo,G s W=Y (b,lo)->o<lo:=λlo l=>by
   rcases v5 o lo with h|h
   .exact h
   .exact absurd (.inr ⟨s,W,lo,l,h⟩) δ
  refine ⟨hf.cell b o u hc l,?_⟩;rintro(m|⟨q,i,lo,m,D⟩)
  .exact δ (.inl m)
  .rcases I _ _ _ _ m with⟨_,_,A⟩|⟨_,_,A⟩
   .have H:=World.block_lt_of_cell? w ⟨b,o,W⟩ hc;rcases(hf.AaT b lo A).2 with κ|⟨B,κ,h4⟩
    .simp only at H;omega
    grind
   .exact δ (.inr ⟨q,i,lo,A,D⟩)
 have N:Ga F0 w0 w':=h.below.trans hf.os hf.tape hf.output hf.size (λk hk he=>hf.other k (v6 hk h.below.size) (λlo l=>(h.lt _ _ _ _ l).2.elim (λe=>U) (λe=>he lo (e lo (b6 _))))) (λb o u H he hu=>hf.cell b o u hu (λlo l=>(h.lt _ _ _ _ l).2.elim (λe=>U) (λe=>Nat.lt_of_not_le λhle=>he (e o hle))));refine⟨J,⟨?_,?_,N,g_,?_,?_,?_⟩,R⟩
 .intro q i q' i' b lo B m D;have mix:∀q i lo B,z'=Y (b,lo)->q≠s->G q i=Y (b,B)->False:=by
   intro q i lo B A L η;rcases(hf.AaT b lo A).2 with κ|⟨lo2,κ,_⟩
   .have:=(h.lt _ _ _ _ η).1;omega
   grind
  rcases I _ _ _ _ m with⟨rfl,rfl,A⟩|⟨n1,n2,A⟩<;>rcases I _ _ _ _ D with⟨rfl,rfl,η⟩|⟨m1,m2,η⟩
  .exact⟨rfl,rfl⟩
  .exact(mix _ _ _ _ A m2 η).elim
  .exact(mix _ _ _ _ η n2 A).elim
  .exact h.og _ _ _ _ _ _ _ A η
 .intro q i b lo m;rcases I _ _ _ _ m with⟨_,_,A⟩|⟨_,_,A⟩
  .have:=hf.AaT b lo A;refine⟨this.1,?_⟩;rcases this.2 with κ|⟨B,κ,h4⟩
   .exact .inl (v9 h.below.size κ)
   .exact(h.lt _ _ _ _ κ).2.imp id (λe o ho=>e o (v9 h4 ho))
  .have:=h.lt _ _ _ _ A;exact⟨v6 this.1 hf.size,this.2⟩
 .intro q M;rw[BU]at M;rw[AB.d6,az U];exact(h.strip s).dom q M
 .intro q M;rw[BU]at M;rw[AB.d6];by_cases E:d=q
  .subst E;rw[ae rfl,CS _ _ _ hd];simp[AL,J,Bt];refine ζ _ R λb o δ=>?_;rcases δ with m|⟨q,i,lo,m,D⟩
   .exact .inl m
   .rcases I _ _ _ _ m with⟨_,_,A⟩|⟨_,_,A⟩
    .exact .inr (.inr ⟨lo,A,D⟩)
    .exact .inr (.inl ⟨q,i,lo,A,D⟩)
  .rw[az E,AY _ _ _ _ E];simp[Go.Sf.strip,AB.d6];split
   .trivial
   .rename_i hsq;refine AL.kept R (λi=>?_) (λi b lo H=>hf.other b (h.lt _ _ _ _ H).1 (hne q i b lo (λe=>hsq e.symm) H)) (MW (BU _ _ _) (λq M=>by
     simp [J];rw[BC _ _ _ _ U,BC _ _ _ _ U])) (λg j b lo Z=>by
     exact hf.other b (h.lt _ _ _ _ Z).1 (hne _ _ b lo U Z)) (λr i k Z⟨p,hp⟩=>?_) (λr off Z⟨cs,C⟩=>?_) (λr i Z⟨p,hp⟩=>?_) (h.slots q M)
    .simp[J];rw[BC _ _ _ _ (λe=>E e.symm),BC _ _ _ _ (λe=>hsq e.symm)]
    .have m:=AB.ym V hp;have D:=AB.ym V m.2;exact⟨⟨p,D.2⟩,h.nh ⟨p,D.2⟩ (AY _ _ _ _ m.1) (λ_ b _ H=>hf.other b (h.lt _ _ _ _ H).1 (λlo l=>D.1 (h.og _ _ _ _ _ _ _ l H).1))⟩
    .rw[AB.d6]at C;by_cases ε:d=r
     .rw[ae ε]at C;cases C
     .rw[az ε]at C;simp[AB.d6]at C;split at C
      .cases C
      .exact⟨⟨cs,C⟩,AY _ _ _ _ ε⟩
    .have m:=AB.x4 V V hp;have D:=AB.x4 V V m.2;exact⟨⟨p,D.2⟩,h.xv ⟨p,D.2⟩ (AY _ _ _ _ m.1) (λb H=>hf.other b (h.lt _ _ _ _ H).1 (λlo l=>D.1 (h.og _ _ _ _ _ _ _ l H).1))⟩
 .intro q;rw[AB.d6];split
  .exact ht
  .exact(h.strip s).wf q
theorem AN.app'(h:AN F0 w0 O a w G){l:TV}(m:O.get s=.ow l){w':World}{z':Option (Nat×Nat)}(hf:Ic w w' (G s W) z')(hd:d<a.tmps.size){t:TV}(B:t.WF)
  (g:∀p,BS w w' (AW w0.heap.size F0 G) p->(∀b o,p b o->(b<w0.heap.size/\F0 b o)\/(∃q i lo,G q i=Y (b,lo)/\lo<=o)\/∃lo,z'=Y (b,lo)/\lo<=o)->Bm w' p z' t v):
  Bj F0 w0 ((d,.ow t)::(s,.tv l)::O) (a.put (Y d) v) w':=by
 obtain ⟨C,u,A⟩:=h.app (BV h m V) hf hd B g;have hv:=Ar h (x:=.tmp s) (y:=.s s) o2 (t:=l) (by simp[AE.val,AE.ev,m,EV.val]);have j:=BV h m V;by_cases k:d=s
 .subst k;refine⟨C,u.rem d (t:=t) (by rw[BU];exact j) ?_ B λn=>?_⟩
  .exact(Ar u (x:=.tmp d) (y:=.s d) o2 (t:=t) (by simp[AE.val,AE.ev,AB.d6,EV.val])).1
  .simp[Go.Sf.strip,AB.d6];split
   .exact .inl rfl
   .exact .inl rfl
 .refine⟨C,u.rem s (t:=l) (by rw[BU];exact j) ?_ hv.2 λn=>?_⟩
  .rw[AY _ _ _ _ k];exact By A _ _ hv.1
  .simp[Go.Sf.strip,AB.d6];split
   .exact .inl rfl
   .split
    next e=>exact .inr ⟨e.symm,rfl⟩
    .exact .inl rfl
theorem J1{l m:Fq}:TV.tl (l++m)↔TV.tl l/\TV.tl m:=by grind[Bg]
variable{x:Operand}{y:AE}{i:TypeInfo}{z:Value}{n:Nat}
theorem mP(L:AN F0 w0 O a w G)(hd:d<a.tmps.size){t e:TypeId}(M:o.op=.call {callee:=.builtin .append,args:=#[.tmp s,x],argTypes:=#[t,t]})
  (ht:P.underlying t=Y (.slice e))(hi:P.info? e=Y i)(hz:i.zero=Y z)(q:i.size=n)(N:i.bytes<=4096)(R:z.cells.size=n)(hn:0<n)
  (ε:AK x y=X)(h:(AD.app n (.s s) y).wp S O (Y d) K):At P F0 w0 a w o d K:=by
 simp [AD.wp,AE.ev]at h;split at h
 .rename_i m es m' C κ hy;obtain⟨ζ,δ,I,hK⟩:=h;subst δ;subst ζ;have p:=AZ L κ V;have A:=L.wf s;rw[κ]at A;simp[AL,Bm]at p;obtain⟨xs,h1,h2,h3,h4⟩:=p;have hv:=Ar L ε hy;simp[Af]at hv;obtain⟨⟨Z,cap,h5,h6,h7,h8⟩,h9⟩:=hv;have B:∃g:List Value,AP w (AW w0.heap.size F0 G) (C.flatMap TV.cells) g/\(∀x∈g,x.oneCell'=X)/\(∀f∈C,f.cells.length=m)/\∀b,Z=Y b->∀(j:Nat)(u:Value),g[j]?=Y u->w.cell? (b.add j)=Y u:=by
   cases Z with
   |none=>
    have:=h7 rfl;subst this;exact⟨[],rfl,V,V,V⟩
   |some b=>
    obtain ⟨k,h11⟩:=h8 b rfl;obtain⟨bb,off,sp⟩:=b;simp only at k h11;by_cases H:C=[]
    .subst H;exact⟨[],rfl,V,V,V⟩
    have k:sp=W:=k.resolve_left H;subst k;have hrow:∀(l:Fq)(off:Nat),H4 w (AW w0.heap.size F0 G) m l bb off->C0 w (AW w0.heap.size F0 G) (l.flatMap TV.cells) bb off/\∀f∈l,f.cells.length=m:=by
     intro l
     induction l with
     |nil=>intro off _;exact⟨trivial,V⟩|cons f l ih=>
      grind [QK,IS]
    grind [Sx,t5]
  obtain ⟨g,n1,n2,n3,n4⟩:=B;have η:g.length=C.length*m:=by rw[A9 n1,O2 m C n3]
  obtain ⟨v',w',z',J,r1,r2⟩:=Px (P:=P) t o.type e i z m ht hi hz q N R hn (slot a s) es.length xs (G s W) h1 Z C.length cap g η (λe=>by rw[h7 e];rfl) h6 n4 n2 I;refine⟨v',w',?_,_,_,hK,L.app' κ r2 hd ?_ λF' D hF'=>?_⟩
  .simp[execOp,M,resolve,invoke,builtin,show a.eval (.tmp s)=slot a s from rfl,h5,J]
  .simp only[EV.WF,TV.WF]at A h9|-;exact⟨by rw[bk];exact UK U,J1.2 ⟨A.2,h9.2⟩⟩
  .simp only[Bm];refine⟨xs++g,by rw[bk];exact r1,?_,?_,?_⟩
   .rw[List.flatMap_append];exact Hw (Aj D _ _ h2) (Aj D _ _ n1)
   .intro e he;rcases x?.1 he with he|he
    .exact h3 e he
    .exact n3 e he
   .intro x E;rcases x?.1 E with E|E
    .exact h4 x E
    .exact n2 x E
 .exact h.elim
end
end Go.Sf
namespace Go.Sf
open Go.RowKit (Below)
def iM:TV->Bool
 |.list _ es=>es.isEmpty|.xl _ es=>es.isEmpty|.xn es=>es.isEmpty|_=>T
def UN(c:AR)(v:Value):Bool:=if c.own then iM c.t&&L8 v else Dx c.t v&&v.oneCell'
def Oc:List AR->List Value->Bool
 |[],vs=>vs.isEmpty|c::cs,vs=>match vs with|v::vs=>UN c v&&Oc cs vs|[]=>T
section
variable{w:World}{F:Nat->Nat->Prop}
variable{ρ:Hn}{v:Value}
theorem VP{c:AR}(h:UN c v=X):A8 w F ρ W c v/\c.t.WF:=by
 obtain ⟨_|_,t⟩:=c
 .simp[UN]at h;have e:=Gr w F t v h.1;exact⟨⟨e.1,h.2⟩,e.2⟩
 .simp[UN]at h;cases t<;>simp only[iM,Bool.false_eq_true,false_and]at h
  next n es=>rw[y_]at h;obtain⟨rfl,h⟩:=h;refine⟨?_,V,trivial⟩;simp only[A8,D7,Bm];exact⟨[],⟨V,.inl ⟨JV h,rfl,rfl⟩⟩,rfl,V,V⟩
  next n es=>rw[y_]at h;obtain⟨rfl,h⟩:=h;refine⟨?_,V,trivial⟩;simp only[A8,D7];exact⟨[],⟨W,⟨V,.inl ⟨JV h,rfl,rfl⟩⟩,rfl⟩,rfl,V,V⟩
  next es=>rw[y_]at h;obtain⟨rfl,h⟩:=h;refine⟨?_,V,trivial⟩;simp[A8,D7];exact⟨[],⟨W,⟨V,.inl ⟨JV h,rfl,rfl⟩⟩,rfl⟩,V,V⟩
theorem Ns{ρ:Hn}:∀{cs:List AR}{vs:List Value},Oc cs vs=X->vs.length=cs.length/\(∀(i:Nat)(c:AR),cs[i]?=Y c->∃x,vs[i]?=Y x/\A8 w F ρ W c x)/\∀c∈cs,c.t.WF
 |[],vs,h=>by simp[Oc]at h;subst h;simp|c::cs,[],h=>by simp[Oc]at h|c::cs,v::vs,h=>by
  simp [Oc]at h;obtain⟨j,k,l⟩:=Ns (cs:=cs) (vs:=vs) h.2;have g:=VP (w:=w) (F:=F) (ρ:=ρ) h.1;refine⟨h?,λi c' e=>?_,λc' e=>?_⟩
  .cases i with
   |zero=>simp at e;subst e;exact⟨v,rfl,g.1⟩|succ i=>exact k i c' h_
  .rcases List.mem_cons.1 e with rfl|e
   .exact g.2
   .exact l c' e
end
def Ug(O:AB):Option Nat->AB
 |some q=>Go.Sf.strip O q|none=>O
theorem QP(O:AB)(q:Option Nat)(p:Nat):(Ug O q).get p=.undef\/((Ug O q).get p=O.get p/\Y p≠q):=by
 cases q with
 |none=>exact .inr ⟨rfl,V⟩|some e=>
  simp [Ug,Go.Sf.strip,AB.d6]
  grind
section
variable{P:Program}{S:FuncId->Fq->Al->Prop}{F0:Nat->Nat->Prop}{w0:W0}{O:AB}{a:Act}{w:World}{G:BH}{d:Nat}{o:Oper}{K:EV->AB->Prop}
variable{c:Array Value}{θ:TypeId}
theorem AN.box(h:AN F0 w0 O a w G)(hd:d<a.tmps.size)(j:O.jj d=X){cs:List AR}(q:c.size=cs.length)
  (u:∀l,BS w (w.alloc (.cells c θ)) (AW w0.heap.size F0 G) l->∀(i:Nat)(x:AR),cs[i]?=Y x->∃v,c[i]?=Y v/\A8 (w.alloc (.cells c θ)) l (x9 a G) W x v)(A:∀x∈cs,x.t.WF):
  Bj F0 w0 ((d,.bx cs)::O) (a.put (Y d) (.pointer (Y ⟨w.heap.size,0,W⟩))) (w.alloc (.cells c θ)):=by
 have m:Below w.heap.size w (w.alloc (.cells c θ)):=(Below.refl _ _).alloc (b6 _) _;have p:∀(i:Option Nat)b lo,(if i=W then Y (w.heap.size,0)else W)=Y (b,lo)->w.heap.size<=b/\b<(w.alloc (.cells c θ)).heap.size:=by
  intro i b lo hi;split at hi
  .simp at hi;rw[<-hi.1];exact⟨b6 _,V⟩
  .cases hi
 have k:=KH (F0:=F0) (w0:=w0) (G:=G) m d (λi=>if i=W then Y (w.heap.size,0)else W) (λi b lo hi=>(p i b lo hi).1);refine⟨_,h.quiet m d hd (.bx cs) _ (λi=>if i=W then Y (w.heap.size,0)else W) p (λi D b lo B e g=>?_) (λ_=>j) ?_ A⟩
 .split at e
  .split at g
   .simp_all
   .cases g
  .cases e
 .simp only[AL];refine⟨_,c,θ,rfl,heap_alloc_new w _,q,by rw[Bt];simp,λi x C=>?_⟩;obtain⟨v,e,g⟩:=u _ k i x C;refine⟨v,e,?_⟩;rw[Bt,MW (BU _ _ _) (λs E=>BC _ _ _ _ U)];simpa using g
variable{x:Operand}{y:AE}{t:TypeId}
theorem jv(m:AN F0 w0 O a w G)(hd:d<a.tmps.size)(j:o.op=.box t x)(k:AK x y=X)(h:(AD.AaF y).wp S O (Y d) K):At P F0 w0 a w o d K:=by
 simp [AD.wp]at h;split at h
 .rename_i u I hv e;simp at e;subst e;obtain⟨l,E⟩:=h;have A:=Ar m k hv;have p:=GG A.1;have B:=A9 p.1;refine⟨_,_,by simp[execOp,j,Instr.box,newVar,newRow],_,_,E,m.box hd l (c:=(a.eval x).cells) (θ:=t) to (λH q i c g=>?_) (λc g=>?_)⟩
  .rw[y!]at g;simp at g;obtain⟨J,L,rfl⟩:=g;have C:i<u.cells.length:=by
    grind
   have D:(a.eval x).cells.toList[i]?=Y ((a.eval x).cells.toList[i]' U):=y? U;refine⟨(a.eval x).cells.toList[i]' U,by rw[<-B?];exact D,?_,p.2 _ (z9 _)⟩
   grind [By,BQ]
  grind [Bg,Hh]
 .exact h.elim
variable{i:TypeInfo}{z:Value}
theorem mO(k:AN F0 w0 O a w G)(hd:d<a.tmps.size){cs:List AR}(g:o.op=.alloc t)(hi:P.info? t=Y i)(l:i.zero=Y z)(e:Oc cs z.cells.toList=X)(h:(AD.alc cs).wp S O (Y d) K):At P F0 w0 a w o d K:=by
 simp [AD.wp]at h;obtain⟨j,p⟩:=h;refine⟨_,_,?_,_,_,p,k.box hd j (c:=z.cells) (θ:=t) (by have:=(Ns (w:=w) (F:=λ_ _=>False) (ρ:=λ_ _=>W) e).1;simpa using this) (λA _ i c m=>?_) (Ns (w:=w) (F:=λ_ _=>False) (ρ:=λ_ _=>W) e).2.2⟩
 .simp[execOp,g,Instr.alloc,zeroValue,typeInfo,hi,l,newVar,newRow]
 .obtain⟨x,q,u⟩:=(Ns e).2.1 i c m;exact⟨x,j_,u⟩
variable{s off:Nat}
theorem Gp(j:AN F0 w0 O a w G)(g:AK x y=X)(e:y.place O=Y (s,off)){cs:List AR}(k:O.get s=.bx cs):
  ∃b,slot a s=.pointer (Y ⟨b,0,W⟩)/\a.eval x=.pointer (Y ⟨b,off,W⟩):=by
 cases y with
 |c t=>simp[AE.place]at e|s n=>
  cases x<;>simp[AK]at g;subst g;rename_i n;simp[AE.place]at e;have h:=AZ j k V;simp only[AL]at h;obtain⟨b,c,θ,m,_⟩:=h;split at e
  next q l he=>simp at e;obtain⟨rfl,rfl⟩:=e;have h:=AZ j he V;simp only[AL]at h;obtain⟨p,u,A⟩:=h ⟨cs,k⟩;exact⟨p,u,A⟩
  next cs' he=>simp at e;obtain⟨rfl,rfl⟩:=e;exact⟨b,m,m⟩
  .cases e
variable{b:Nat}
theorem AN.AaV(h:AN F0 w0 O a w G){cs cs':List AR}(hs:O.get s=.bx cs)(R:slot a s=.pointer (Y ⟨b,0,W⟩)){c c':Array Value}(D:w.heap[b]?=Y (.cells c θ (0,0)))
  {q:Option Nat}(hqs:q≠Y s)(hqlt:∀p,q=Y p->p<a.tmps.size){zs:Option Nat->Option (Nat×Nat)}(hzb:zs W=Y (b,0))
  (hz:∀i m lo,i≠W->zs i=Y (m,lo)->G s i=Y (m,lo)\/∃q',q=Y q'/\∃j,G q' j=Y (m,lo))
  (hzu:∀i η m lo ε,zs i=Y (m,lo)->zs η=Y (m,ε)->i=η)
  (hl:c'.size=cs'.length)(hcs:∀F' w',BS w w' (AW w0.heap.size F0 G) F'->(∀k,k≠b->w'.heap[k]?=w.heap[k]?)->BA w w' (x9 a G)->∀(i:Nat)(x:AR),cs'[i]?=Y x->∃v,c'[i]?=Y v/\A8 w' F' (x9 a G) (zs (Y i)) x v)
  (hw:∀x∈cs',x.t.WF)(hxx:∀(k:Nat)(t:TV),t.zK=X->cs'[k]?=Y ⟨X,t⟩->(O.noX s (Y k)=X\/(cs[k]?=Y ⟨X,t⟩/\c'[k]?=c[k]?))):
  ∃ζ,AN F0 w0 ((s,.bx cs')::Ug O q) a (w.setRow b c') ζ/\BS w (w.setRow b c') (AW w0.heap.size F0 G) (AW w0.heap.size F0 ζ):=by
 have hx:∀(k n:Nat)(es:Fq),cs'[k]?=Y ⟨X,.xl n es⟩->(O.noX s (Y k)=X\/((∃p,O.x5 s (Y k)=Y p)/\c'[k]?=c[k]?)):=λk n es hk=>
  (hxx k _ rfl hk).imp id λ⟨A,J⟩=>⟨⟨(n,es),by simp[AB.x5,hs,A]⟩,J⟩
 have hxn:∀(k:Nat)(es:Fq),cs'[k]?=Y ⟨X,.xn es⟩->(O.noX s (Y k)=X\/((∃p,O.nat s k=Y p)/\c'[k]?=c[k]?)):=λk es hk=>
  (hxx k _ rfl hk).imp id λ⟨A,J⟩=>⟨⟨es,by simp[AB.nat,hs,A]⟩,J⟩
 have hsz:s<a.tmps.size:=BV h hs V;have M:G s W=Y (b,0):=by
  have:=AZ h hs V
  grind [AL,t5]
 let ζ:BH:=λp=>if p=s then zs else if Y p=q then(λ_=>W)else G p
 have H:ζ s=zs:=by simp[ζ]
 have u:∀p i m lo,ζ p i=Y (m,lo)->∃δ η,G δ η=Y (m,lo)/\(δ=p\/Y δ=q)/\(p≠s->δ=p/\η=i):=by
  intro p i m lo hp;by_cases B:p=s
  .subst B;rw[H]at hp;by_cases hi:i=W
   .grind
   grind
  grind
 have hqout:∀p i m lo,ζ p i=Y (m,lo)->Y p≠q:=by
  grind
 have l:∀k,k≠b->(w.setRow b c').heap[k]?=w.heap[k]?:=λk hk=>setRow_other w b k _ hk;have hag:BS w (w.setRow b c') (AW w0.heap.size F0 G) (AW w0.heap.size F0 ζ):=by
  intro m o v hc hF;have hbb:m≠b:=λe=>hF (.inr ⟨s,W,0,by rw[e];exact M,v_ _⟩);refine⟨by rw[World.cell?_of_block (w:=w) (a:=⟨m,o,W⟩) (l m hbb)];exact hc,λhF'=>hF ?_⟩;rcases hF' with A|⟨p,i,lo,A,J⟩
  .exact .inl A
  .obtain⟨δ,η,h3,_⟩:=u p i m lo A;exact .inr ⟨δ,η,lo,h3,J⟩
 have hbelow:Ga F0 w0 (w.setRow b c'):=h.below.but rfl rfl rfl V (Z:=λk=>k=b) (λk hk=>by rw[hk];exact(h.lt _ _ _ _ M).2.imp id (λe o=>e o (v_ _))) (λk _ hk=>l k hk);have hrs:BA w (w.setRow b c') (x9 a G):=λg j m lo hr=>l m (h.AaQ hsz M hr);have hrho:x9 a ζ=x9 a G:=MW rfl λp hp=>by
  grind
 refine ⟨ζ,⟨?_,?_,hbelow,h.defers,?_,?_,?_⟩,hag⟩
 .intro p i δ η m lo ε A J;by_cases B:p=s<;>by_cases L:δ=s
  .subst B;subst L;rw[H]at A J;exact⟨rfl,hzu i η m lo ε A J⟩
  .obtain⟨r,j,N,I,_⟩:=u p i m lo A;obtain⟨r',j',e3,_,e4⟩:=u δ η m ε J;obtain⟨rfl,rfl⟩:=e4 L;obtain⟨rfl,_⟩:=h.og _ _ _ _ _ _ _ N e3;rcases I with I|I
   .exact absurd (I.trans B) L
   .exact absurd I (hqout _ _ _ _ J)
  .obtain⟨r,j,N,I,_⟩:=u δ η m ε J;obtain⟨r',j',e3,_,e4⟩:=u p i m lo A;obtain⟨rfl,rfl⟩:=e4 B;obtain⟨rfl,_⟩:=h.og _ _ _ _ _ _ _ N e3;rcases I with I|I
   .exact absurd (I.trans L) B
   .exact absurd I (hqout _ _ _ _ A)
  .obtain⟨r,j,N,_,I⟩:=u p i m lo A;obtain⟨r',j',e3,_,e4⟩:=u δ η m ε J;obtain⟨rfl,rfl⟩:=I B;obtain⟨rfl,rfl⟩:=e4 L;exact h.og _ _ _ _ _ _ _ N e3
 .intro p i m lo A;obtain⟨r,j,N,_⟩:=u p i m lo A;have:=h.lt _ _ _ _ N;exact⟨so,this.2⟩
 .intro p hp;rw[AB.d6,az U];cases q with
  |none=>exact h.dom p hp|some q'=>exact(h.strip q').dom p hp
 .intro p hp;rw[AB.d6];by_cases B:s=p
  .subst B;rw[ae rfl];simp only[AL];refine⟨b,c',θ,R,setRow_heap w b c c' θ (0,0) D,hl,by rw[H];exact hzb,λi x hx=>?_⟩;obtain⟨v,A,J⟩:=hcs _ _ hag l hrs i x hx;exact⟨v,A,by rw[H,hrho];exact J⟩
  .rw[az B];have hcase:=QP O q p;rcases hcase with he|⟨he,hpq⟩<;>rw[he]
   .trivial
   .have hGp:∀i,ζ p i=G p i:=λi=>by simp[ζ];rw[az (λe=>B e.symm),az hpq]
    refine AL.kept hag hGp (λi m lo hb'=>l m (λe=>B (h.og _ _ _ _ _ _ _ M (e▸hb')).1)) hrho hrs (λr i k hr⟨pp,κ⟩=>?_) (λr off hr⟨cs'',C⟩=>⟨?_,rfl⟩) (λr i hr⟨pp,κ⟩=>?_) (h.slots p hp)
    .by_cases E:s=r
     .subst E;obtain⟨cs'',A,J⟩:=AB.wi κ;rw[AB.d6,ae rfl]at A;simp[EV.bx.injEq]at A;subst A;rcases hxn i pp J with h3|⟨h3,h4⟩
      .exact absurd hr (AB.noX_nh h3 p i (.inr rfl) k)
      .refine⟨h3,λv hv=>?_⟩;obtain⟨m,c0,T0,x0,N,I,e3,e4⟩:=hv;rw[R]at N;simp at N;subst N;rw[D]at I;cases I;obtain⟨es0,hes0⟩:=h3;obtain⟨cs0,f1,f2⟩:=AB.wi hes0;have hr0:=h.slots s hsz;rw[f1]at hr0;simp only[AL]at hr0;obtain⟨b2,c2,T2,g1,g2,_,_,g5⟩:=hr0;rw[R]at g1;simp at g1;subst g1;rw[D]at g2;cases g2;obtain⟨x1,k1,k2⟩:=g5 i _ f2;rw[e3]at k1;simp at k1;subst k1;refine⟨_,_,_,x0,R,setRow_heap w _ _ c' _ (0,0) D,h4.trans e3,e4.kept λg len cap e=>?_⟩;subst e;have hgz:=E4.nil_or k2;exact l g (λe=>by
        have:=(h.og _ _ _ _ _ _ _ M (e▸hgz)).2;cases this)
     .rw[AB.y4 E]at κ;have hp2:O.nat r i=Y pp:=by
       grind [QP,AB.nat_undef,AB.zk]
      exact ⟨⟨pp,hp2⟩,h.nh ⟨pp,hp2⟩ rfl (λj m _ hb'=>l m (λe=>E (h.og _ _ _ _ _ _ _ M (e▸hb')).1))⟩
    .rw[AB.d6]at C;split at C
     next E=>subst E;exact⟨cs,hs⟩
     .rcases QP O q r with he|⟨he,_⟩<;>rw[he]at C
      .cases C
      .exact⟨_,C⟩
    .by_cases E:s=r
     .subst E;obtain⟨n,es⟩:=pp;cases i with
      |none=>have:=AB.x8 κ;rw[AB.d6,ae rfl]at this;cases this
      |some k=>
       obtain ⟨cs'',A,J⟩:=AB.tn κ;rw[AB.d6,ae rfl]at A;simp[EV.bx.injEq]at A;subst A;rcases hx k n es J with h3|⟨h3,h4⟩
       .have h5:=AB.noX_spec h3 p k (.inr rfl);rcases hr with hr|⟨c,hr⟩
        .exact absurd hr h5.1
        .exact absurd hr (h5.2 c)
       .refine⟨h3,λv hv=>?_⟩;obtain⟨m,c0,T0,N,I,e3⟩:=hv;rw[R]at N;simp at N;subst N;rw[D]at I;cases I;exact⟨_,_,_,R,setRow_heap w _ _ c' _ (0,0) D,h4.trans e3⟩
     .rw[AB.yx E]at κ;have hp2:O.x5 r i=Y pp:=by
       grind [QP,AB.zI,AB.y9]
      exact ⟨⟨pp,hp2⟩,h.xv ⟨pp,hp2⟩ rfl (λm hb'=>l m (λe=>E (h.og _ _ _ _ _ _ _ M (e▸hb')).1))⟩
 .intro p;rw[AB.d6];split
  .exact hw
  .cases q with
   |none=>exact h.wf p|some q'=>exact(h.strip q').wf p
end
end Go.Sf
namespace Go.Sf
open Go.RowKit (Below)
def HD(P:Program)(F0:Nat->Nat->Prop)(w0:W0)(a:Act)(w:World)(o:Oper)(K:EV->AB->Prop):Prop:=
 ∃w',(execOp a.eval o).run P w=.ok .skip w'/\∃env',K .undef env'/\Bj F0 w0 env' a w'
section
variable{P:Program}{S:FuncId->Fq->Al->Prop}{F0:Nat->Nat->Prop}{w0:W0}{O:AB}{a:Act}{w:World}{G:BH}{d:Nat}{o:Oper}{K:EV->AB->Prop}
variable{s b:Nat}{θ:TypeId}
theorem AN.rebox_n(h:AN F0 w0 O a w G){cs cs':List AR}(C:O.get s=.bx cs)(j:slot a s=.pointer (Y ⟨b,0,W⟩)){c c':Array Value}(g:w.heap[b]?=Y (.cells c θ (0,0)))
  {zs:Option Nat->Option (Nat×Nat)}(l:zs W=Y (b,0))
  (D:∀i e lo,i≠W->zs i=Y (e,lo)->G s i=Y (e,lo))
  (m:∀i A e lo u,zs i=Y (e,lo)->zs A=Y (e,u)->i=A)
  (E:c'.size=cs'.length)(p:∀B w',BS w w' (AW w0.heap.size F0 G) B->(∀k,k≠b->w'.heap[k]?=w.heap[k]?)->BA w w' (x9 a G)->∀(i:Nat)(x:AR),cs'[i]?=Y x->∃v,c'[i]?=Y v/\A8 w' B (x9 a G) (zs (Y i)) x v)
  (H:∀x∈cs',x.t.WF)(I:∀(k:Nat)(t:TV),t.zK=X->cs'[k]?=Y ⟨X,t⟩->(O.noX s (Y k)=X\/(cs[k]?=Y ⟨X,t⟩/\c'[k]?=c[k]?))):
  Bj F0 w0 ((s,.bx cs')::O) a (w.setRow b c'):=by
 obtain ⟨M,N,_⟩:=h.AaV C j g (q:=W) V V l (λi e lo J L=>.inl (D i e lo J L)) m E p H I;exact⟨M,N⟩
theorem AN.rebox_q(h:AN F0 w0 O a w G){cs cs':List AR}(N:O.get s=.bx cs)(A:slot a s=.pointer (Y ⟨b,0,W⟩)){c c':Array Value}(m:w.heap[b]?=Y (.cells c θ (0,0)))
  {q:Nat}{u:TV}(g:O.get q=.ow u)(B:q≠s){zs:Option Nat->Option (Nat×Nat)}(C:zs W=Y (b,0))
  (R:∀i l lo,i≠W->zs i=Y (l,lo)->G s i=Y (l,lo)\/∃J,Y q=Y J/\∃j,G J j=Y (l,lo))
  (D:∀i L l lo H,zs i=Y (l,lo)->zs L=Y (l,H)->i=L)
  (ε:c'.size=cs'.length)(E:∀M w',BS w w' (AW w0.heap.size F0 G) M->(∀k,k≠b->w'.heap[k]?=w.heap[k]?)->BA w w' (x9 a G)->∀(i:Nat)(x:AR),cs'[i]?=Y x->∃v,c'[i]?=Y v/\A8 w' M (x9 a G) (zs (Y i)) x v)
  (κ:∀x∈cs',x.t.WF)(η:∀(k:Nat)(t:TV),t.zK=X->cs'[k]?=Y ⟨X,t⟩->(O.noX s (Y k)=X\/(cs[k]?=Y ⟨X,t⟩/\c'[k]?=c[k]?))):
  Bj F0 w0 ((s,.bx cs')::(q,.tv u)::O) a (w.setRow b c'):=by
 obtain ⟨δ,Z,I⟩:=h.AaV N A m (q:=Y q) to (λp ζ=>by cases ζ;exact BV h g V) C R D ε E κ η;have hv:=Ar h (x:=.tmp q) (y:=.s q) o2 (t:=u) (by simp[AE.val,AE.ev,g,EV.val]);refine⟨δ,Z.rem q (t:=u) (BV h g V) (By I _ _ hv.1) hv.2 λn=>?_⟩;simp[Ug,Go.Sf.strip,AB.d6];split
 .exact .inl rfl
 .split
  next e=>exact .inr ⟨e.symm,rfl⟩
  .exact .inl rfl
variable{t:TypeId}{n:Nat}
theorem dt(B:AN F0 w0 O a w G){x v:Operand}{x' v':AE}(hop:o.op=.store t x v)(hx:AK x x'=X)(hv:AK v v'=X)(hn:Ce P t=Y n)(h:(AD.st n x' v').wp S O W K):HD P F0 w0 a w o K:=by
 simp only[AD.wp]at h;split at h
 .rename_i s off hp;split at h
  .rename_i cs hs;obtain⟨b,Z,hadr⟩:=Gp B hx hp hs;have hr:=AZ B hs V;simp only[AL]at hr;obtain⟨L,c,θ,h1,h2,h3,h4,h5⟩:=hr;rw[Z]at h1;simp at h1;subst h1;have hw:=B.wf s;rw[hs]at hw;have hst:∀(vs:List Value),vs.length=n->(a.eval v).cells.toList=vs->off+n<=c.size->(∀y∈vs,y.oneCell'=X)->(execOp a.eval o).run P w=.ok .skip (w.setRow b (c.toList.take off++vs++c.toList.drop (off+n)).toArray):=by
    intro vs hl ζ hle ho;have N:=run_storeCells_at P b off θ vs 0 c w h2 U ho;simp at N;have hsz:(a.eval v).cells.size=n:=by rw[<-C_,ζ,hl]
    rw [hl]at N;simp[execOp,hop,hadr,Instr.storeAt,Instr.sureAddr,storeVar,Bv hn,hsz,ζ,N]
   split at h
   ·
    rename_i u H;cases v' with
    |c t=>exact h.elim|s q=>
     simp only at h;obtain⟨ε,hn1,η,hK⟩:=h;subst hn1;cases v<;>simp[AK]at hv;subst hv;rename_i q;simp[AE.ev]at H;have E:=AZ B H V;simp[AL]at E;have hqw:=B.wf q;rw[H]at hqw;have R:=U9 E;have δ:(a.eval (.tmp q)).cells.toList=[slot a q]:=by
      have:a.eval (.tmp q)=slot a q:=rfl;rw[this];cases hsq:slot a q<;>rw[hsq]at R<;>first|rfl|simp[Value.oneCell']at R
     refine ⟨_,hst [slot a q] rfl δ U (by simpa using R),_,hK,?_⟩
     let zs:Option Nat->Option (Nat×Nat):=λi=>match i with|none=>Y (b,0)|some j=>if j=off then G q W else G s (Y j)
     refine B.rebox_q hs Z h2 H (λe=>ε e) (zs:=zs) rfl ?_ ?_ ?_ ?_ ?_ ?_
     .intro i L lo hi κ;cases i with
      |none=>exact absurd rfl hi|some j=>
       simp [zs]at κ;split at κ
       .exact .inr ⟨q,rfl,W,κ⟩
       .exact .inl κ
     .intro i i' L lo D g p;have zn:∀j L lo D,zs (Y j)=Y (L,lo)->zs W=Y (L,D)->False:=by
       intro j L lo D g p;simp[zs]at p;obtain⟨rfl,_⟩:=p;simp[zs]at g;split at g
       .exact ε (B.og _ _ _ _ _ _ _ g h4).1
       .have:=(B.og _ _ _ _ _ _ _ g h4).2;cases this
      cases i with
      |none=>cases i' with
       |none=>rfl|some j=>exact(zn j _ _ _ p g).elim
      |some j=>cases i' with
       |none=>exact(zn j _ _ _ g p).elim|some j'=>
        simp [zs]at g p;split at g<;>split at p
        next e3 e4=>rw[e3,e4]
        .exact absurd (B.og _ _ _ _ _ _ _ g p).1 ε
        .exact absurd (B.og _ _ _ _ _ _ _ p g).1 ε
        .exact(B.og _ _ _ _ _ _ _ g p).2
     .simp;omega
     .intro F' w' I C M i y l;rw[z_]at l;by_cases hi:off=i
      .subst hi;rw[ae rfl,ae η]at l;simp at l;subst l;refine⟨slot a q,?_,?_⟩
       .rw[w?,c9,z! an];simp;rw[v! U,Nat.sub_self];rfl
       .simp[A8,zs];exact E.c.kept I (λk lo m=>C k (λe=>ε (B.og _ _ _ _ _ _ _ (e▸m) h4).1)) M
      .rw[az hi]at l;obtain⟨vv,g,p⟩:=h5 i y l;refine⟨vv,?_,?_⟩
       .rw[w?];rcases v5 i off with A|hge
        .rw[c9,x_ an,x! A];simpa using g
        .rw[z! an];simp only[bk,cE,C_,z?];rw[v! U,A_,show off+1+(i-(off+1))=i from U];simpa using g
       .have hi':¬i=off:=λe=>hi e.symm;simp[zs];rw[az hi'];exact p.kept I (λk lo m=>C k (λe=>k!)) M
     .intro y l;rcases A' l with l|rfl
      .exact hw y l
      .exact hqw
     .intro k tx htx m;rw[z_]at m;by_cases hi:off=k
      .rw[ae hi]at m;rw[ae U]at m;simp[AR.mk.injEq]at m;subst m;cases u<;>first|(simp[Bm]at E;done)|(simp[TV.zK]at htx;done)
      .rw[az hi]at m;refine .inr ⟨m,?_⟩;have hkc:k<c.size:=by
        have:=(A!.1 m).1;omega
       rw [w?];rcases v5 k off with A|hge
       .rw[c9,x_ an,x! A,B?]
       .rw[z! an];simp only[bk,cE,C_,z?];rw[v! U,A_,show off+1+(k-(off+1))=k from U,B?]
   ·
    rename_i u H;obtain⟨hun,η,hK⟩:=h;have hvv:=Ww B hv H;have ζ:=GG hvv.1;have J:=A9 ζ.1;refine⟨_,hst _ U rfl U ζ.2,_,hK,?_⟩
    let zs:Option Nat->Option (Nat×Nat):=λi=>match i with|none=>Y (b,0)|some j=>if off<=j/\j<off+n then W else G s (Y j)
    refine B.rebox_n hs Z h2 (zs:=zs) rfl ?_ ?_ ?_ ?_ ?_ ?_
    .intro i L lo hi κ;cases i with
     |none=>exact absurd rfl hi|some j=>
      simp only[zs]at κ;split at κ
      .cases κ
      .exact κ
    .intro i i' L lo D g p;have zn:∀j L lo D,zs (Y j)=Y (L,lo)->zs W=Y (L,D)->False:=by
      intro j L lo D g p;simp[zs]at p;obtain⟨rfl,_⟩:=p;simp only[zs]at g;split at g
      .cases g
      .have:=(B.og _ _ _ _ _ _ _ g h4).2;cases this
     cases i with
     |none=>cases i' with
      |none=>rfl|some j=>exact(zn j _ _ _ p g).elim
     |some j=>cases i' with
      |none=>exact(zn j _ _ _ g p).elim|some j'=>
       simp only[zs]at g p;split at g<;>split at p
       .cases g
       .cases g
       .cases p
       .exact(B.og _ _ _ _ _ _ _ g p).2
    .simp at J|-;omega
    .intro F' w' I C M i y l;rw[w?];rcases v5 i off with A|hge
     .rw[c9,x_ an,x! A]at l;obtain⟨vv,g,p⟩:=h5 i y l;refine⟨vv,?_,?_⟩
      .rw[c9,x_ an,x! A];simpa using g
      .simp[zs];rw[az U];exact p.kept I (λk lo m=>C k (λe=>k!)) M
     .rcases v5 i (off+n)with A|hge2
      .rw[c9,z! an,x_ an]at l;simp[y!]at l;rw[v! U]at l;obtain⟨tt,htt,rfl⟩:=l;have hx':(a.eval v).cells.toList[i-off]?=Y ((a.eval v).cells.toList[i-off]' U):=y? U;refine⟨(a.eval v).cells.toList[i-off]' U,?_,?_⟩
       .rw[c9,z! an,x_ (by simp at J|-;omega)];simp only[cE,C_];rw[v! U];exact hx'
       .exact⟨By I _ _ (((BQ _ _).1 ζ.1).2 _ tt _ htt hx'),ζ.2 _ (z9 _)⟩
      .rw[z! an]at l;simp[A_]at l;rw[v! U,show off+n+(i-(off+u.cells.length))=i from U]at l;obtain⟨vv,g,p⟩:=h5 i y l;refine⟨vv,?_,?_⟩
       .rw[z! (by simp at J|-;omega)];simp[A_]at J|-;rw[v! U,show off+n+(i-(off+(a.eval v).cells.size))=i from U];simpa using g
       .simp[zs];rw[az U];exact p.kept I (λk lo m=>C k (λe=>k!)) M
    .intro y l;rcases x?.1 l with l|l
     .rcases x?.1 l with l|l
      .exact hw y (List.mem_of_mem_take l)
      .simp at l;obtain⟨tt,htt,rfl⟩:=l;exact Bg.1 (Hh hvv.2) tt htt
     .exact hw y (List.mem_of_mem_drop l)
    .intro k tx htx m;have hlen:(cs.take off++u.cells.map (λt=>(⟨T,t⟩:AR))++cs.drop (off+n)).length=cs.length:=by
      simp;omega
     have hkl:k<cs.length:=by rw[<-hlen];exact(A!.1 m).1
     rw [w?];rcases v5 k off with A|hge
     .rw[c9,x_ an,x! A]at m;refine .inr ⟨m,?_⟩;rw[c9,x_ an,x! A,B?]
     .rcases v5 k (off+n)with A|hge2
      .rw[c9,z! an,x_ an,y!]at m;simp[AR.mk.injEq,exists_false]at m
      .rw[z! an]at m;simp[A_]at m;rw[v! U,show off+n+(k-(off+u.cells.length))=k from U]at m;refine .inr ⟨m,?_⟩;rw[z! (by simp at J|-;omega)];simp only[bk,cE,C_,A_]at J|-;rw[v! U,show off+n+(k-(off+(a.eval v).cells.size))=k from U,B?]
   .exact h.elim
  .exact h.elim
 .exact h.elim
theorem AN.frz(h:AN F0 w0 O a w G){cs:List AR}(J:O.get s=.bx cs):Bj F0 w0 ((s,.tv (.pt (cs.map (·.t))))::O) a w:=by
 have hsz:s<a.tmps.size:=BV h J V;have E:=AZ h J V;have hw:=h.wf s;rw[J]at hw;simp only[AL]at E;obtain⟨b,c,θ,h1,h2,h3,η,h5⟩:=E
 let D:BH:=JU G s (λ_=>W)
 have l:∀p i B lo,D p i=Y (B,lo)->p≠s/\G p i=Y (B,lo):=by
  intro p i B lo m;by_cases g:p=s
  .grind[Bt]
  .simp[D,BC _ _ _ _ g]at m;exact⟨g,m⟩
 have H:BS w w (AW w0.heap.size F0 G) (AW w0.heap.size F0 D):=λB o v ζ δ=>⟨ζ,λL=>δ (AW.mono (λp i Z lo m=>⟨p,i,lo,(l _ _ _ _ m).2,b6 _⟩) L)⟩;refine⟨D,λp i p' i' B lo lo' C M=>h.og _ _ _ _ _ _ _ (l _ _ _ _ C).2 (l _ _ _ _ M).2,λp i B lo C=>h.lt _ _ _ _ (l _ _ _ _ C).2,h.below,h.defers,λp m=>?_,λp m=>?_,λp=>?_⟩
 .rw[AB.d6,az U];exact h.dom p m
 .rw[AB.d6];by_cases g:s=p
  .subst g;rw[ae rfl,h1];simp only[AL,Af];refine⟨b,0,rfl,?_⟩;rw[IS];intro i t R;rw[y!]at R;simp at R;obtain⟨cell,A,rfl⟩:=R;obtain⟨x,hx,I⟩:=h5 i cell A;refine⟨x,?_,?_,GW I,By H _ _ (Vd h I)⟩
   .rw[u?,cell_of_row w b i c θ (0,0) h2];exact hx
   .rintro(⟨C,ε⟩|⟨p,j,lo,C,_⟩)
    .exact(h.lt _ _ _ _ η).2.elim (λe=>U) (λe=>h.below.free _ 0 _ (e 0 (v_ 0)) ε)
    .obtain⟨M,e3⟩:=l _ _ _ _ C;exact M (h.og _ _ _ _ _ _ _ e3 η).1
  .rw[az g];refine AL.kept H (λi=>by simp[D];rw[BC _ _ _ _ (λe=>g e.symm)]) (λ_ _ _ _=>rfl) (MW rfl λq hq=>by simp[D];rw[BC _ _ _ _ U]) BA.rfl' (λr i k E⟨N,u⟩=>⟨⟨N,(AB.ym V u).2⟩,λ_ hv=>hv⟩) (λr off E⟨cs',κ⟩=>?_) (λr i E⟨N,u⟩=>⟨⟨N,(AB.x4 V V u).2⟩,λ_ hv=>hv⟩) (h.slots p m)
   grind [AB.d6]
 .rw[AB.d6];split
  .grind[EV.WF,TV.WF,Bg]
  .exact h.wf p
theorem Vv{w:World}{F g:Nat->Nat->Prop}{z:Option (Nat×Nat)}{j:Fq}{x:Value}(h:Qb w F z n j x)(k:BS w w F g)(l:∀b lo o,z=Y (b,lo)->¬g b o):Af w g (.list n j) x:=by
 obtain ⟨ys,⟨p,q,u⟩,A,B,C⟩:=h;have e:Bm w g p (.list n j) x:=⟨ys,q,Aj k _ _ A,B,C⟩;exact e.rep λb lo o m _=>l b 0 o (by rw[u,m];rfl)
theorem AN.rls(h:AN F0 w0 O a w G){cs:List AR}(hs:O.get s=.bx cs):Bj F0 w0 ((s,.bx (cs.map AR.rel))::O) a w:=by
 classical
 have hsz:s<a.tmps.size:=BV h hs V;have hr:=AZ h hs V;have hw:=h.wf s;rw[hs]at hw;simp only[AL]at hr;obtain⟨b,c,θ,h1,h2,h3,h4,h5⟩:=hr
 let zs:Option Nat->Option (Nat×Nat):=λi=>match i with
  |none=>G s W|some k=>match cs[k]? with
   |some ⟨X,.xl n es⟩=>(G s (Y k)).map λp=>(p.1,es.length*n)|some ⟨X,.xn es⟩=>(G s (Y k)).map λp=>(p.1,es.length*1)|_=>G s (Y k)
 let Q:Nat->Prop:=λp=>a.tmps.size<=p/\∃k lo,G s (Y k)=Y (p-a.tmps.size,lo)
 let D:BH:=λp=>if p=s then zs else if Q p then λ_=>W else G p
 have η:D s=zs:=by simp[D]
 have I:∀p i E lo,D p i=Y (E,lo)->∃C,G p i=Y (E,C)/\C<=lo:=by
  intro p i E lo m;by_cases B:p=s
  .subst B;rw[η]at m;cases i with
   |none=>exact⟨lo,m,b6 _⟩|some k=>
    simp [zs]at m;split at m
    next n es hk=>obtain⟨x,_,xs,⟨z0,_,L⟩,_⟩:=h5 k _ hk;simp only[L,C',C!,Function.comp,Prod.mk.injEq]at m;obtain⟨p,m,q,u⟩:=m;exact⟨0,by rw[L,m,<-q];rfl,v_ _⟩
    next es hk=>obtain⟨x,_,xs,⟨z0,_,L⟩,_⟩:=h5 k _ hk;simp only[L,C',C!,Function.comp,Prod.mk.injEq]at m;obtain⟨p,m,q,u⟩:=m;exact⟨0,by rw[L,m,<-q];rfl,v_ _⟩
    .exact⟨lo,m,b6 _⟩
  .simp[D,az B]at m;split at m
   .cases m
   .exact⟨lo,m,b6 _⟩
 have M:BS w w (AW w0.heap.size F0 G) (AW w0.heap.size F0 D):=λE o v hc hF=>⟨hc,λhF'=>hF (AW.mono (λp i b'' lo m=>by
  obtain ⟨C,q,u⟩:=I _ _ _ _ m;exact⟨p,i,C,q,u⟩) hF')⟩
 have hrow:∀k g j E lo o,G s (Y k)=Y (g,0)->x9 a G g j=Y (E,lo)->¬AW w0.heap.size F0 D E o:=by
  intro k g j E lo o L hρ;rintro(⟨q,u⟩|⟨p,i,lo',q,u⟩)
  .exact(h.lt _ _ _ _ hρ).2.elim (λe=>U) (λe=>h.below.free _ lo _ (e lo (b6 _)) u)
  .obtain⟨C,e3,_⟩:=I _ _ _ _ q;obtain⟨rfl,_⟩:=h.og _ _ _ _ _ _ _ hρ e3;simp[D]at q;rw[az U,ae ⟨U,k,0,by rw[v?];exact L⟩]at q;cases q
 have hrel:∀{k:Nat}{d:AR}{x:Value},cs[k]?=Y d->A8 w (AW w0.heap.size F0 G) (x9 a G) (G s (Y k)) d x->A8 w (AW w0.heap.size F0 D) (x9 a D) (zs (Y k)) d.rel x:=by
  intro k d x hk hd;have N:zs (Y k)=match d with
   |⟨X,.xl n es⟩=>(G s (Y k)).map λp=>(p.1,es.length*n)|⟨X,.xn es⟩=>(G s (Y k)).map λp=>(p.1,es.length*1)|_=>G s (Y k):=by
   simp only[zs,hk];obtain⟨o,t⟩:=d;cases o<;>cases t<;>rfl
  generalize hzz:zs (Y k)=z' at N;unfold AR.rel;split
  .rename_i n es;subst N;obtain⟨xs,⟨z0,δ,k2⟩,k3,k4,k5⟩:=hd;refine⟨xs,?_,Aj M _ _ k3,k4,k5⟩;have:(G s (Y k)).map (λp=>(p.1,es.length*n))=z0:=by
    rw [k2];rcases δ.2 with⟨_,_,e⟩|⟨g,cap,cur,e,_,_,_,_,_,_,e⟩
    .rw[e];rfl
    .rw[e];rfl
   show Fd w n x es.length xs ((G s (Y k)).map λp=>(p.1,es.length*n));rw[this];exact δ
  .rename_i es;subst N;obtain⟨xs,⟨z0,δ,k2⟩,k3,k4⟩:=hd;have hlen:xs.length=es.length:=by have:=δ.1;omega
   have hone:∀e∈es,e.cells.length=1:=by
    intro e he;obtain⟨j,hj⟩:=A? he;obtain⟨g,x,n,Z,_,_,rfl,_⟩:=k4 j e hj;rfl
   have hfm:∀(l:Fq),(∀e∈l,∃n Z,e=TV.list n Z)->l.flatMap TV.cells=l:=by
    intro l
    induction l with
    |nil=>intro _;rfl|cons e l ih=>
     intro hl;obtain⟨n,Z,rfl⟩:=hl e V;rw[B_,ih (λe he=>hl e (by simp[he]))];rfl
   refine ⟨xs,?_,?_,hone,k3⟩
   .have:(G s (Y k)).map (λp=>(p.1,es.length*1))=z0:=by
     rw [k2];rcases δ.2 with⟨_,_,e⟩|⟨g,cap,cur,e,_,_,_,_,_,_,e⟩
     .rw[e];rfl
     .rw[e];rfl
    show Fd w 1 x es.length xs ((G s (Y k)).map λp=>(p.1,es.length*1));rw[this];exact δ
   .rw[hfm es λe he=>by
     obtain ⟨j,hj⟩:=A? he;obtain⟨g,x,n,Z,_,_,rfl,_⟩:=k4 j e hj;exact⟨_,_,rfl⟩]
    rw [BQ];refine⟨hlen,λj e y hj hy=>?_⟩;obtain⟨g,x,n,Z,q,u,rfl,e4⟩:=k4 j e hj;rw[hy]at u;cases u;exact Vv e4 M λE lo o hb=>hrow k g j E lo o q hb
  .rename_i hne ε;have:z'=G s (Y k):=by
    rw [N];split
    .exact absurd rfl (hne _ _)
    .exact absurd rfl (ε _)
    .rfl
   rw [this];have hd2:=hd.kept M (λ_ _ _=>rfl) BA.rfl';obtain⟨o,t⟩:=d;cases o
   .exact hd2
   .cases t<;>first|exact hd2|exact absurd rfl (ε _)
 refine ⟨D,λp i p' i' E lo lo' q u=>?_,λp i E lo q=>?_,h.below,h.defers,λp m=>?_,λp m=>?_,λp=>?_⟩
 .obtain⟨_,f1,_⟩:=I _ _ _ _ q;obtain⟨_,f2,_⟩:=I _ _ _ _ u;exact h.og _ _ _ _ _ _ _ f1 f2
 .obtain⟨C,f1,f2⟩:=I _ _ _ _ q;exact⟨(h.lt _ _ _ _ f1).1,(h.lt _ _ _ _ f1).2.imp id λk o ho=>k o (v9 f2 ho)⟩
 .rw[AB.d6,az U];exact h.dom p m
 .rw[AB.d6];by_cases B:s=p
  .subst B;rw[ae rfl,h1];simp only[AL];refine⟨b,c,θ,rfl,h2,by simpa using h3,by rw[η];exact h4,λi d hd=>?_⟩;rw[y!]at hd;simp at hd;obtain⟨κ,R,rfl⟩:=hd;obtain⟨x,hx,hc⟩:=h5 i κ R;refine⟨x,hx,?_⟩;rw[η];exact hrel R hc
  .rw[az B];have hGp:∀i,D p i=G p i:=λi=>by
    simp [D];rw[az (λe=>B e.symm),az (λe=>n_)]
   refine AL.kept' M hGp (λ_ _ _ _=>rfl) (λi g lo j L=>?_) (λ_=>BA.spot BA.rfl') (λr i k hr⟨ζ,A⟩=>?_) (λr off hr⟨cs',H⟩=>?_) (λr i hr⟨ζ,A⟩=>?_) (h.slots p m)
   .simp[x9,D];rw[az U,az];rintro⟨_,k,lo',e⟩;rw[v?]at e;exact B (h.og _ _ _ _ _ _ _ e L).1
   .by_cases J:s=r
    .subst J;exfalso;obtain⟨cs',q,u⟩:=AB.wi A;rw[AB.d6,ae rfl]at q;cases q;rw[y!]at u;simp at u;obtain⟨κ,_,e3⟩:=u;obtain⟨o,t⟩:=κ;cases o<;>cases t<;>simp[AR.rel]at e3
    .rw[AB.y4 J]at A;exact⟨⟨ζ,A⟩,λv hv=>hv⟩
   .rw[AB.d6]at H;split at H
    next e=>subst e;exact⟨⟨cs,hs⟩,rfl⟩
    .exact⟨⟨cs',H⟩,rfl⟩
   .by_cases J:s=r
    .subst J;exfalso;cases i with
     |none=>simp[AB.x5,AB.d6]at A|some k=>
      obtain ⟨cs',q,u⟩:=AB.tn (n:=ζ.1) (es:=ζ.2) A;rw[AB.d6,ae rfl]at q;cases q;rw[y!]at u;simp at u;obtain⟨κ,_,e3⟩:=u;obtain⟨o,t⟩:=κ;cases o<;>cases t<;>simp[AR.rel]at e3
    .have:O.x5 r i=Y ζ:=by
      rw [<-A];exact(AB.y9 (by rw[AB.d6,az J])).symm
     exact ⟨⟨ζ,this⟩,λv hv=>hv⟩
 .rw[AB.d6];split
  .intro d hd;obtain⟨κ,R,rfl⟩:=B'.1 hd;have:=hw κ R;obtain⟨o,t⟩:=κ;cases o<;>cases t<;>exact this
  .exact h.wf p
end
end Go.Sf
namespace Go.Sf
open Go.RowKit (Below)
section
variable{P:Program}{S:FuncId->Fq->Al->Prop}{F0:Nat->Nat->Prop}{w0:W0}{O:AB}{a:Act}{w:World}{G:BH}{d:Nat}{o:Oper}{K:EV->AB->Prop}
variable{s off b:Nat}
theorem AN.z5(h:AN F0 w0 O a w G){cs:List AR}(ζ:O.get s=.bx cs){t:TV}(Z:cs[off]?=Y ⟨X,t⟩)(hd:d<a.tmps.size)(hsl:slot a s=.pointer (Y ⟨b,0,W⟩)){x:Value}(hx:w.cell? ⟨b,off,W⟩=Y x){e:EV}{t':TV}(u:(e=.ow t/\t'=t/\t.zK=T)\/(∃n es,t=.xl n es/\e=.xo n es/\t'=.undef/\O.jj d=X)\/∃es,t=.xn es/\e=.xn es/\t'=.undef/\O.jj d=X):
  Bj F0 w0 ((d,e)::(s,.bx (cs.set off ⟨T,t'⟩))::O) (a.put (Y d) x) w:=by
 have H:=AZ h ζ V;have hw:=h.wf s;rw[ζ]at hw;simp only[AL]at H;obtain⟨R,c,θ,η,N,h3,h4,h5⟩:=H;rw[hsl]at η;simp at η;subst η;obtain⟨x',hx',g⟩:=h5 off _ Z;have M:x'=x:=by
  rw [cell_of_row w b off c θ (0,0) N]at hx
  grind
 subst M;simp[A8]at g
 let J:BH:=λp i=>if p=d then(if i=W then G s (Y off)else W)else if p=s/\i=Y off then W else G p i
 have ε:∀p i R lo,J p i=Y (R,lo)->(p=d/\i=W/\G s (Y off)=Y (R,lo))\/(p≠d/\¬(p=s/\i=Y off)/\G p i=Y (R,lo)):=by
  grind
 have A:BS w w (AW w0.heap.size F0 G) (AW w0.heap.size F0 J):=λR o v Z hF=>⟨Z,λhF'=>hF (AW.mono (λp i b'' lo δ=>by
  grind) hF')⟩
 have C:x9 (a.put (Y d) x') J=x9 a G:=MW (BU _ _ _) λq hq=>by
  have hsz:s<a.tmps.size:=BV h ζ V
  grind
 refine ⟨J,?_,?_,h.below,g_,?_,?_,?_⟩
 .intro p i p' i' R lo lo' I e2;rcases ε _ _ _ _ I with⟨rfl,rfl,f1⟩|⟨n1,n2,f1⟩<;>rcases ε _ _ _ _ e2 with⟨rfl,rfl,f2⟩|⟨m1,m2,f2⟩
  .exact⟨rfl,rfl⟩
  .exact absurd ((h.og _ _ _ _ _ _ _ f1 f2).imp Eq.symm Eq.symm) m2
  .exact absurd (h.og _ _ _ _ _ _ _ f1 f2) n2
  .exact h.og _ _ _ _ _ _ _ f1 f2
 .intro p i R lo I;rcases ε _ _ _ _ I with⟨_,_,I⟩|⟨_,_,I⟩<;>exact h.lt _ _ _ _ I
 .intro p δ;rw[BU]at δ;have hsz:s<a.tmps.size:=BV h ζ V;rw[AB.d6,az U,AB.d6,az U];exact h.dom p δ
 .intro p δ;rw[BU]at δ;rw[AB.d6];by_cases D:d=p
  .subst D;rw[ae rfl,CS _ _ _ hd];rcases u with⟨rfl,rfl,hxl⟩|⟨n,es,rfl,rfl,rfl,_⟩|⟨es,rfl,rfl,rfl,_⟩
   .simp[AL,J];exact(g.own hxl).kept A (λ_ _ _=>rfl)
   .have:=g.kept A (λ_ _ _=>rfl) BA.rfl';simp[D7]at this;simp[AL,J];exact this
   .have:=g.kept A (λ_ _ _=>rfl) BA.rfl';simp[D7]at this;simp[AL];rw[C];simp[J];exact this
  .rw[az D,AY _ _ _ _ D,AB.d6];by_cases κ:s=p
   .subst κ;rw[ae rfl];have hsd:¬s=d:=λe=>D e.symm;simp only[AL];refine⟨b,c,θ,hsl,N,by simpa using h3,by simp only[J];rw[az hsd,az V];exact h4,λi y B=>?_⟩;rw[z_]at B;by_cases hi:off=i
    .subst hi;rw[ae rfl]at B;split at B
     .simp at B;subst B;refine⟨x',hx',?_,Od g⟩;rcases u with⟨rfl,rfl,hxl⟩|⟨n,es,rfl,rfl,rfl,_⟩|⟨es,rfl,rfl,rfl,_⟩
      .exact By A _ _ (D7.rep g (λb lo o hz ho=>Oe h b lo o hz ho))
      .exact Od g
      .exact Od g
     .cases B
    .rw[az hi]at B;obtain⟨v,I,e2⟩:=h5 i y B;refine⟨v,I,?_⟩;simp[J];rw[az hsd,az (by rintro⟨_,e⟩;exact hi (by simpa using e.symm)),C];exact e2.kept A (λ_ _ _=>rfl) BA.rfl'
   .rw[az κ];refine AL.kept A (λi=>by simp[J];rw[az (λe=>D e.symm),az (λe=>κ e.1.symm)]) (λ_ _ _ _=>rfl) C BA.rfl' (λr i k H⟨pp,l⟩=>?_) (λr off' H⟨cs',m⟩=>?_) (λr i H⟨pp,l⟩=>?_) (h.slots p δ)
    .by_cases j:d=r
     .subst j;obtain⟨cs',I⟩:=AB.zF l;rcases u with⟨rfl,_⟩|⟨n,es,_,rfl,_⟩|⟨es,_,rfl,_⟩<;>cases I
     .rw[AB.y4 j]at l;have E:∃p,O.nat r i=Y p:=by
       grind [AB.wi,AB.d6,AB.nat,AB.y4]
      exact ⟨E,h.nh E (AY _ _ _ _ j) (λ_ _ _ _=>rfl)⟩
    .rw[AB.d6]at m;by_cases j:d=r
     .rw[ae j]at m;rcases u with⟨rfl,_⟩|⟨n,es,_,rfl,_⟩|⟨es,_,rfl,_⟩<;>cases m
     .rw[az j,AB.d6]at m;refine⟨?_,AY _ _ _ _ j⟩;split at m
      next L=>subst L;exact⟨cs,ζ⟩
      .exact⟨_,m⟩
    .by_cases j:d=r
     .subst j;rcases u with⟨rfl,_⟩|⟨n,es,_,rfl,_,hno⟩|⟨es,_,rfl,_⟩
      .exact absurd rfl (AB.x4 V V l).1
      rotate_left
      .exact absurd rfl (AB.x4 V V l).1
      .have M:=AB.z7 d O hno p;rcases H with H|⟨c,H⟩
       .exact absurd H (M.1 i)
       .exact absurd H (M.2 i c)
     .rw[AB.yx j]at l;have E:∃p,O.x5 r i=Y p:=by
       by_cases L:s=r
       .subst L;obtain⟨n,es⟩:=pp;cases i with
        |none=>have:=AB.x8 l;rw[AB.d6,ae rfl]at this;cases this
        |some k=>
         obtain ⟨cs'',η,N⟩:=AB.tn l;rw[AB.d6,ae rfl]at η;simp[EV.bx.injEq]at η;subst η;rw[z_]at N;split at N
         .split at N<;>simp at N
         .exact⟨(n,es),by simp[AB.x5,ζ,N]⟩
       .rw[AB.yx L]at l;exact⟨pp,l⟩
      exact ⟨E,h.xv E (AY _ _ _ _ j) (λ_ _=>rfl)⟩
 .intro p;rw[AB.d6];split
  .have:=hw _ (B! Z);rcases u with⟨rfl,_⟩|⟨n,es,rfl,rfl,_⟩|⟨es,rfl,rfl,_⟩
   .exact this
   .exact this
   .exact this
  .rw[AB.d6];split
   .intro y B;rcases A' B with B|rfl
    .exact hw y B
    .rcases u with⟨_,rfl,_⟩|⟨n,es,_,_,rfl,_⟩|⟨es,_,_,rfl,_⟩
     .exact(hw ⟨X,_⟩ (B! Z):_)
     .trivial
     .trivial
   .exact h.wf p
variable{x:Operand}{t:TypeId}
theorem md(k:AN F0 w0 O a w G)(hd:d<a.tmps.size){x':AE}(l:o.op=.load t x)(A:AK x x'=X)(B:Bs P t=Y T)(h:(AD.ldt x').wp S O (Y d) K):At P F0 w0 a w o d K:=by
 simp [AD.wp]at h;split at h
 .rename_i s off C;split at h
  .rename_i cs m;split at h
   .rename_i n es q;obtain⟨b,g,j⟩:=Gp k A C m;have u:=AZ k m V;simp only[AL]at u;obtain⟨I,c,θ,p,D,J,L,E⟩:=u;rw[g]at p;simp at p;subst p;obtain⟨y,H,_⟩:=E off _ q;have e:w.cell? ⟨b,off,W⟩=Y y:=by rw[cell_of_row w b off c θ (0,0) D];exact H
    exact ⟨y,w,by simp[execOp,l,j,Instr.loadAt,Instr.sureAddr,loadVar,CO B,e],_,_,h,k.z5 m q hd g e (.inl ⟨rfl,rfl,rfl⟩)⟩
   .exact h.elim
  .exact h.elim
 .exact h.elim
end
abbrev DC:=Nat->Option Nat->Option (Nat×Nat)
def DC.x9(Z:DC):Hn:=λg j=>Z (g+1) (Y j)
def ZF(Z:DC)(b o:Nat):Prop:=∃q i lo,Z q i=Y (b,lo)/\lo<=o
def Iw(Z:DC):Prop:=∀q i q' i' b lo lo',Z q i=Y (b,lo)->Z q' i'=Y (b,lo')->q=q'/\i=i'
def V5(w:World)(F:Nat->Nat->Prop)(Z:DC)(cs:List AR)(v:Value):Prop:=
 ∃vs:Array Value,v=.agg vs/\vs.size=cs.length/\∀(i:Nat)(d:AR),cs[i]?=Y d->∃x,vs[i]?=Y x/\A8 w F Z.x9 (Z 0 (Y i)) d x/\x.oneCell'=X
def Zf(w:World)(F N:Nat->Nat->Prop)(cs:List AR)(v:Value):Prop:=
 ∃Z:DC,V5 w (λb o=>F b o\/ZF Z b o) Z cs v/\Iw Z/\Z 0 W=W/\∀q i b lo,Z q i=Y (b,lo)->b<w.heap.size/\N b lo
def H5(w':World)(F:Nat->Nat->Prop)(base:Nat):Al->Value->Prop
 |.sh t,v=>Af w' F t v|.own t,v=>∃z,Bm w' (λb o=>F b o\/∃lo,z=Y (b,lo)/\lo<=o) z t v/\∀b lo,z=Y (b,lo)->base<=b/\b<w'.heap.size|.tp ts,v=>∃vs,v=.tuple vs/\AP w' F ts vs.toList|.Aai n es,v=>∃z xs,Fd w' n v es.length xs z/\AP w' (λb o=>F b o\/∃lo,z=Y (b,lo)) (es.flatMap TV.cells) xs/\(∀e∈es,e.cells.length=n)/\(∀x∈xs,x.oneCell'=X)/\∀b lo,z=Y (b,lo)->base<=b/\b<w'.heap.size|.yy cs,v=>Zf w' F (λb _=>base<=b) cs v|.mpr kvs ts,v=>∃(b:Nat)(vs:List Value),v=.tuple (Value.map (Y b)::vs).toArray/\base<=b/\b<w'.heap.size/\WB w' b kvs/\AP w' F ts vs|_,_=>False
def Dl(P:Program)(f:FuncId):Bool:=
 match P.funcs[f]? with
 |some fn=>fn.name != "runtime.NumGoroutine" && fn.body.isSome
 |none=>T
def WH(P:Program)(f:FuncId)(args:Fq)(r:Al):Prop:=
 TV.tl args->Dl P f=X/\∀(F0:Nat->Nat->Prop)(w:World)(vs:Array Value),AP w F0 args vs.toList->Tp w ->
  r.WF/\Calls P f vs w λe w'=>∃v,e=.returned v/\Below w.heap.size w w'/\H5 w' (λb o=>b<w.heap.size/\F0 b o) w.heap.size r v
def QZ(z:Option (Nat×Nat))(w w':World):Prop:=
 w'.os=w.os/\w'.tape=w.tape/\w'.output=w.output/\w.heap.size<=w'.heap.size/\∀k,k<w.heap.size->(∀lo,z≠Y (k,lo))->w'.heap[k]?=w.heap[k]?
def P5(w:World)(F:Nat->Nat->Prop):Fq->Value->Prop
 |[t],v=>Af w F t v|us,v=>∃vs,v=.tuple vs/\AP w F us vs.toList
def xG(P:Program)(f:FuncId)(args:Fq)(zs':Fp)(us:Fq):Prop:=
 ∃(zs:Fp)(ts:Fq),args=.list 1 (zs.map (TV.int .i64))::ts/\Dl P f=X/\TV.yl us=X/\
  ∀(F0:Nat->Nat->Prop)(w:World)(v:Value)(vs:List Value)(z:Option (Nat×Nat)),(TV.list 1 (zs.map (TV.int .i64))).WF->TV.tl ts->Jc w 1 v zs.length (zs.map (Value.int .i64)) z->AP w F0 ts vs->(∀b lo o,z=Y (b,lo)->lo<=o->F0 b o)->(∀b lo,z=Y (b,lo)->b<w.heap.size/\bl<=b)->Tp w ->
   Calls P f (v::vs).toArray w λe w'=>(zs'.length=zs.length/\(Al.turn zs' us).WF)/\(∃r,e=.returned r/\P5 w' (λ_ _=>False) us r)/\Jc w' 1 v zs.length (zs'.map (Value.int .i64)) z/\QZ z w w'
def xD(P:Program)(f:FuncId)(args:Fq)(zs':Fp):Prop:=
 ∃zs:Fp,args=[.list 1 (zs.map (TV.int .i64))]/\Dl P f=X/\((TV.list 1 (zs.map (TV.int .i64))).WF->(TV.list 1 (zs'.map (TV.int .i64))).WF)/\
  ∀(w:World)(v:Value)(z:Option (Nat×Nat)),Jc w 1 v zs.length (zs.map (Value.int .i64)) z ->
   Calls P f #[v] w λe w'=>∃v',e=.returned v'/\Jc w' 1 v' zs'.length (zs'.map (Value.int .i64)) z/\QZ z w w'
def NO(w:World)(F:Nat->Nat->Prop)(Z:DC)(cs:List AR)(v:Value):Prop:=
 ∃b c θ,v=.pointer (Y ⟨b,0,W⟩)/\w.heap[b]?=Y (.cells c θ (0,0))/\c.size=cs.length/\Z 0 W=Y (b,0)/\∀(i:Nat)(d:AR),cs[i]?=Y d->∃x,c[i]?=Y x/\A8 w F Z.x9 (Z 0 (Y i)) d x
structure GK(Z:DC)(w w':World):Prop where
 os:w'.os=w.os
 tape:w'.tape=w.tape
 output:w'.output=w.output
 size:w.heap.size<=w'.heap.size
 block:∀k,k<w.heap.size->(∀q i lo,Z q i≠Y (k,lo))->w'.heap[k]?=w.heap[k]?
 cell:∀b o u,¬ZF Z b o->w.cell? ⟨b,o,W⟩=Y u->w'.cell? ⟨b,o,W⟩=Y u
def xE(P:Program)(f:FuncId)(args us:Fq):Prop:=
 TV.tl args->(TV.yl us=X/\TV.tl us)/\∀(w:World)(vs:Array Value),AP w (λ_ _=>False) args vs.toList->∃r:Array Value,(callFunc f vs).run P w=.ok (.value (.tuple r)) w/\AP w (λ_ _=>False) us r.toList
def xC(P:Program)(f:FuncId)(args:Fq)(cs cs':List AR)(i:Nat)(us:Fq):Prop:=
 TV.tl args->(∀c∈cs,c.t.WF)->Dl P f=X/\∀(F0:Nat->Nat->Prop)(w:World)(vs:Array Value)(v:Value)(Z:DC),
  AP w (λb o=>F0 b o\/ZF Z b o) args vs.toList->vs[i]?=Y v->NO w (λb o=>F0 b o\/ZF Z b o) Z cs v ->
  Iw Z->(∀q i b lo,Z q i=Y (b,lo)->b<w.heap.size)->(∀b o o',ZF Z b o->¬F0 b o')->XT w (ZF Z) ->
  ((∀c∈cs',c.t.WF)/\TV.tl us)/\Calls P f vs w λe w'=>∃r Z',e=.returned r/\GK Z w w'/\NO w' (λb o=>(b<w.heap.size/\F0 b o)\/ZF Z' b o) Z' cs' v/\
   Iw Z'/\(∀q i b lo,Z' q i=Y (b,lo)->b<w'.heap.size/\(w.heap.size<=b\/∃p j lo',Z p j=Y (b,lo')/\lo'<=lo))/\
   P5 w' (λb o=>(b<w.heap.size/\F0 b o)\/ZF Z' b o) us r
def ZM(w':World)(F N:Nat->Nat->Prop):Al->Value->Prop
 |.sh t,v=>Af w' F t v|.tp ts,v=>∃vs,v=.tuple vs/\AP w' F ts vs.toList|.yy cs,v=>Zf w' F N cs v|_,_=>False
def xr(P:Program)(f:FuncId)(args:Fq)(cs:List AR)(i:Nat)(r:Al):Prop:=
 TV.tl args->(∀c∈cs,c.t.WF)->Dl P f=X/\∀(F0:Nat->Nat->Prop)(w:World)(vs:Array Value)(v:Value)(Z:DC),
  AP w (λb o=>F0 b o\/ZF Z b o) args vs.toList->vs[i]?=Y v->V5 w (λb o=>F0 b o\/ZF Z b o) Z cs v ->
  Iw Z->(∀q i b lo,Z q i=Y (b,lo)->b<w.heap.size)->(∀b o o',ZF Z b o->¬F0 b o')->XT w (ZF Z) ->
  r.WF/\Calls P f vs w λe w'=>∃v',e=.returned v'/\GK Z w w'/\ZM w' (λb o=>b<w.heap.size/\F0 b o) (λb lo=>w.heap.size<=b\/∃p j lo',Z p j=Y (b,lo')/\lo'<=lo) r v'
def AX(P:Program)(f:FuncId)(args:Fq)(r:Al):Prop:=
 match r with
 |.turn zs us=>xG P f args zs us|.cut zs=>xD P f args zs|.bo cs cs' i us=>xC P f args cs cs' i us|.ext us=>xE P f args us|.ag cs i r=>xr P f args cs i r|r=>WH P f args r
variable{f:FuncId}{r:Al}
theorem AX.to0{P:Program}{args:Fq}(h:AX P f args r)(e:r.plain=X):WH P f args r:=by
 cases r<;>first|exact h|cases e
theorem AX.of0{P:Program}{args:Fq}(h:WH P f args r)(e:r.plain=X):AX P f args r:=by
 cases r<;>first|exact h|cases e
section
variable{P:Program}{F0:Nat->Nat->Prop}{w0:W0}{O:AB}{a:Act}{w:World}{G:BH}{d:Nat}{o:Oper}{K:EV->AB->Prop}
variable{ρ:Hn}
theorem b7{F k:Nat->Nat->Prop}{z:Option (Nat×Nat)}{c:AR}{x:Value}(h:A8 w F ρ z c x)(q:BS w w F k)(C:∀b lo o,z=Y (b,lo)->¬k b o)(Z:∀g lo j b u o,z=Y (g,lo)->ρ g j=Y (b,u)->¬k b o):Af w k c.rel.t x:=by
 obtain ⟨_|_,t⟩:=c
 .exact By q _ _ h.1
 .by_cases E:∃n es,t=.xl n es
  .obtain⟨n,es,rfl⟩:=E;exact Vv (h:Qb w F z n es x) q C
  .by_cases H:∃es,t=.xn es
   .obtain⟨es,rfl⟩:=H;obtain⟨xs,⟨R,J,ε⟩,κ,η⟩:=(h:E4 w F ρ z es x);have I:xs.length=es.length:=by have:=J.1;omega
    have m:∀e∈es,e.cells.length=1:=by
     intro e he;obtain⟨j,ζ⟩:=A? he;obtain⟨g,x,n,A,_,_,rfl,_⟩:=η j e ζ;rfl
    have B:∀(l:Fq),(∀e∈l,∃n A,e=TV.list n A)->l.flatMap TV.cells=l:=by
     intro l
     induction l with
     |nil=>intro _;rfl|cons e l δ=>
      intro D;obtain⟨n,A,rfl⟩:=D e V;rw[B_,δ (λe he=>D e (by simp[he]))];rfl
    have p:Bm w k R (.list 1 es) x:=by
     refine ⟨xs,J,?_,m,κ⟩;rw[B es λe he=>by
      grind [A?]]
     grind [BQ,Vv]
    exact p.rep λb lo o L _=>C b 0 o (by rw[ε,L];rfl)
   .have M:D7 w F ρ z t x:=h;have N:(AR.mk X t).rel=⟨X,t⟩:=by
     cases t<;>first|rfl|exact absurd ⟨_,_,rfl⟩ E|exact absurd ⟨_,rfl⟩ H
    rw [N];have h3:=M.kept q (λ_ _ _=>rfl) BA.rfl'
    grind [D7.rep]
variable{r:Al}{v:Value}
theorem AN.called(h:AN F0 w0 O a w G)(hd:d<a.tmps.size){w':World}(C:Below w.heap.size w w')(J:r.plain=X)(m:H5 w' (λb o=>b<w.heap.size/\AW w0.heap.size F0 G b o) w.heap.size r v)(D:r.WF):
  Bj F0 w0 ((d,r.ev)::O) (a.put (Y d) v) w':=by
 have old:∀(L:Option Nat->Option (Nat×Nat))b o,AW w0.heap.size F0 (JU G d L) b o->(b<w.heap.size/\AW w0.heap.size F0 G b o)\/∃i lo,L i=Y (b,lo)/\lo<=o:=by
  intro L b o hf;rcases hf with k|⟨s,i,lo,k,q⟩
  .exact .inl ⟨v6 k.1 h.below.size,.inl k⟩
  .by_cases ε:s=d
   .subst ε;rw[Bt]at k;exact .inr ⟨i,lo,k,q⟩
   .rw[BC _ _ _ _ ε]at k;exact .inl ⟨(h.lt _ _ _ _ k).1,.inr ⟨s,i,lo,k,q⟩⟩
 cases r with
 |sh t=>
  refine h.tv C d hd t v (By (λb o u l hf=>⟨l,λe=>?_⟩) t v m) D;rcases old _ _ _ e with k|⟨i,lo,k,_⟩
  .exact hf k
  .cases k
 |own t=>
  obtain ⟨z,k,q⟩:=m;refine h.ow C d hd t v z q (k.kept (λb o u l hf=>⟨l,λe=>hf ?_⟩) (λ_ _ _=>rfl)) D;rcases old _ _ _ e with p|⟨i,lo,p,I⟩
  .exact .inl p
  .split at p
   .exact .inr ⟨lo,p,I⟩
   .cases p
 |tp ts=>
  obtain ⟨vs,k,q⟩:=m;refine⟨_,h.quiet C d hd (.tp ts) v (λ_=>W) V V V ?_ D⟩;simp[AL];refine⟨vs,k,Aj (λb o u l hf=>⟨l,λe=>?_⟩) _ _ q⟩;rcases old _ _ _ e with p|⟨i,lo,p,_⟩
  .exact hf p
  .cases p
 |Aai n es=>
  obtain ⟨z,xs,k,q,p,I,ζ⟩:=m;refine h.ow C d hd (.list n es) v z ζ ?_ D;simp[Bm];refine⟨xs,k,Aj (λb o u l hf=>⟨l,λe=>hf ?_⟩) _ _ q,p,I⟩;rcases old _ _ _ e with A|⟨i,lo,A,h7⟩
  .exact .inl A
  .split at A
   .exact .inr ⟨lo,A⟩
   .cases A
 |yy cs=>
  obtain ⟨Z,⟨vs,rfl,k,q⟩,p,_,I⟩:=m;have B:AP w' (λb o=>b<w.heap.size/\AW w0.heap.size F0 G b o) (cs.map λc=>c.rel.t) vs.toList/\∀x∈vs.toList,x.oneCell'=X:=by
   refine ⟨?_,?_⟩
   .rw[BQ];refine⟨by simp[k],λi t x E H=>?_⟩;rw[y!]at E;simp at E;obtain⟨c,l,rfl⟩:=E;obtain⟨y,κ,R,_⟩:=q i c l;rw[B?,κ]at H;simp at H;subst H;refine b7 R (λb o u l hf=>⟨l,λe=>hf (.inl e)⟩) (λb lo o η hf=>?_) (λg lo j b M o η m hf=>?_)
    .grind
    .have:=(I _ _ b M m).2;omega
   .intro x H;obtain⟨i,hi⟩:=A? H;have N:i<cs.length:=by
     grind
    obtain ⟨y,κ,_,δ⟩:=q i _ (y? N)
    grind
  refine h.tv C d hd (.agg (cs.map λc=>c.rel.t)) _ ?_ (by
   simp [TV.WF];rw[Bg];intro t E;obtain⟨c,l,rfl⟩:=B'.1 E;have:=D c l;obtain⟨o',t'⟩:=c;cases o'<;>cases t'<;>exact this)
  simp only[Af];refine⟨vs,rfl,Aj (λb o u l hf=>⟨l,λe=>hf ?_⟩) _ _ B.1,List.all_eq_true.2 B.2⟩;rcases old _ _ _ e with A|⟨i,lo,A,_⟩
  .exact A
  .cases A
 |turn zs=>exact m.elim|cut zs=>exact m.elim|bo _ _ _ _=>exact m.elim|ext _=>exact m.elim|ag _ _ _=>exact m.elim|mpr _ _=>cases J
variable{f:FuncId}
theorem ER(e:Dl P f=X)(vs:Array Value):(callFunc f vs).run P w=.ok (.enter f vs) w:=by
 unfold Dl at e;cases hf:P.funcs[f]? with
 |none=>rw[hf]at e;cases e
 |some h=>
  rw [hf]at e;simp[bne_iff_ne]at e;have g:¬h.body=W:=by
   grind
  simp [callFunc,hf,e.1,g]
variable{Q:Exit->Act->World->Prop}
theorem XX(q:AN F0 w0 O a w G)(hd:d<a.tmps.size)(g:o.dst=Y d){vs:Array Value}{k:Fq}(h:(execOp a.eval o).run P w=(callFunc f vs).run P w)(l:AX P f k r/\r.plain=X)(m:TV.tl k)(j:AP w (AW w0.heap.size F0 G) k vs.toList)(A:r.WF->K r.ev O)
  {next:Act->World->Prop}(B:∀e env' a' w',K e env'->Qa a d a'->Bj F0 w0 ((d,e)::env') a' w'->next a' w'):o.wp P a w next Q:=by
 obtain ⟨C,p⟩:=l.1.to0 l.2 m;obtain⟨u,p⟩:=p _ w vs j q.below.now;unfold Oper.wp;rw[h,ER C vs,Oper.upon_enter];refine p.mono ?_;rintro e w' ⟨v,rfl,D,E⟩;simp[g];exact B _ _ _ _ (A u) ⟨_,rfl⟩ (q.called hd D l.2 E u)
variable{ats:Array TypeId}
theorem jy(m:AN F0 w0 O a w G)(hd:d<a.tmps.size)(j:o.dst=Y d){xs:Array Operand}{ys:List AE}(k:o.op=.call {callee:=.value (.func f),args:=xs,argTypes:=ats})(l:BO xs.toList ys=X)(h:(AD.call f ys).wp (AX P) O (Y d) K)
  {next:Act->World->Prop}(p:∀e env' a' w',K e env'->Qa a d a'->Bj F0 w0 ((d,e)::env') a' w'->next a' w'):o.wp P a w next Q:=by
 simp [AD.wp]at h;cases g:vals O ys with
 |none=>rw[g]at h;exact h.elim|some A=>
  rw [g]at h;simp[Ad]at h;obtain⟨r,q,u⟩:=h;have:=FT m l g;refine XX m hd j (vs:=xs.map a.eval) ?_ q this.2 so u p;simp[execOp,k,resolve,Act.eval,Deferred.ofValue,invoke]
variable{x:Operand}{y:AE}
theorem gJ(j:AN F0 w0 O a w G)(hd:d<a.tmps.size)(g:o.dst=Y d){xs:Array Operand}{ys:List AE}(k:o.op=.call {callee:=.value x,args:=xs,argTypes:=ats})(A:AK x y=X)(l:BO xs.toList ys=X)(h:(AD.Aas y ys).wp (AX P) O (Y d) K)
  {next:Act->World->Prop}(B:∀e env' a' w',K e env'->Qa a d a'->Bj F0 w0 ((d,e)::env') a' w'->next a' w'):o.wp P a w next Q:=by
 simp [AD.wp]at h;split at h
 .rename_i f p J hf m;obtain⟨r,C,D⟩:=h;have q:=Ar j A hf;have u:=FT j l m;simp[Af,TV.WF]at q;obtain⟨⟨cs,E,H⟩,I⟩:=q;refine XX j hd g (vs:=xs.map a.eval++cs) ?_ C (J1.2 ⟨u.2,I⟩) ?_ D B
  .simp[execOp,k,resolve,E,Deferred.ofValue,invoke]
  .rw[Array.toList_append];exact Hw (by simpa using u.1) H
 .exact h.elim
end
end Go.Sf
