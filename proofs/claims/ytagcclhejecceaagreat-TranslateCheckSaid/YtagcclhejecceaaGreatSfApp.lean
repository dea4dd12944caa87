/- Appending to a list that a slot owns. -/
import Derived.Test.YtagcclhejecceaaGreatSfOps1
set_option linter.all false
namespace Go.Sf
open Go.RowKit (Below)
structure IG(w w':World)(z z':Option (Nat×Nat)):Prop where
 os:w'.os=w.os
 tape:w'.tape=w.tape
 output:w'.output=w.output
 size:w.heap.size<=w'.heap.size
 other:∀k,k<w.heap.size->(∀lo,z≠some (k,lo))->w'.heap[k]?=w.heap[k]?
 cell:∀b o v,w.cell? ⟨b,o,none⟩=some v->(∀lo,z=some (b,lo)->o<lo)->w'.cell? ⟨b,o,none⟩=some v
 yV:∀b lo,z'=some (b,lo)->b<w'.heap.size/\(w.heap.size<=b\/∃lo',z=some (b,lo')/\lo'<=lo)
theorem IG.refl(w:World)(z:Option (Nat×Nat))(e:∀b lo,z=some (b,lo)->b<w.heap.size):IG w w z z:=
 ⟨rfl,rfl,rfl,az _,fun _ _ _=>rfl,fun _ _ _ h _=>h,fun b lo h=>⟨e b lo h,.inr ⟨lo,h,az _⟩⟩⟩
section
variable{P:Program}{w:World}
theorem VQ(t ty e D:TypeId)(i:TypeInfo)(E:P.underlying t=some (.slice e))(hi:P.info? e=some i)
  (g k l:Nat)(p:Array Value)(H:w.heap[g]?=some (.cells p D (0,0)))
  (a:Addr)(m c:Nat)(h:List Value)(I:h.length=m*i.size)(q:∀(j:Nat)(u:Value),h[j]?=some u->w.cell? (a.add j)=some u)(J:∀u∈h,u.oneCell'=true)
  (A:k+m<=l)(B:k*i.size+h.length<=p.size):
  (Builtin.append_ #[t,t] ty #[.slice (some ⟨g,0,none⟩) k l,.slice (some a) m c]).run P w=
   .ok (.slice (some ⟨g,0,none⟩) (k+m) l) (w.setRow g (p.toList.take (k*i.size)++h++p.toList.drop (k*i.size+h.length)).toArray):=by
 have hf:=run_firstCells_some (P:=P) w i.size m a m c h I q;have C:=run_storeCells_at P g (k*i.size) D h 0 p w H (by simpa using B) J;simp at C;simp[Builtin.append_,run_underlying E,sizeOf,typeInfo,hi,Builtin.lenOf,A,hf,Addr.add_lit,C]
theorem Oo(t ty e:TypeId)(i:TypeInfo)(z:Value)(n:Nat)(ht:P.underlying t=some (.slice e))(hi:P.info? e=some i)(hz:i.zero=some z)
  (p:i.size=n)(hby:i.bytes<=4096)(hzs:z.cells.size=n)(hn:0<n)
  (v:Value)(len:Nat)(xs:List Value)(zo:Option (Nat×Nat))(q:FW w n v len xs zo)
  (ad:Option Addr)(m c:Nat)(l:List Value)(V:l.length=m*n)(had:ad=none->m=0)(hmc:m<=c)(W:∀a,ad=some a->∀(j:Nat)(u:Value),l[j]?=some u->w.cell? (a.add j)=some u)(h1:∀u∈l,u.oneCell'=true)
  (J:len+m<=Aj):
  ∃v' w' z',(Builtin.append_ #[t,t] ty #[v,.slice ad m c]).run P w=.ok v' w'/\FW w' n v' (len+m) (xs++l) z'/\IG w w' zo z':=by
 have D:(xs++l).length=(len+m)*n:=by rw[bk,q.1,V,Nat.add_mul]
 have E:(len+m)*i.bytes<=140737488355328:=by
  calc (len+m)*i.bytes<=Aj*4096:=Nat.mul_le_mul J hby
   _<=140737488355328:=by decide
 have hml:len+m<=maxLen:=by simp[maxLen,Aj]at *;omega
 have N:∀b lo,zo=some (b,lo)->b<w.heap.size:=by
  intro b lo I;rcases q.2 with⟨_,_,h⟩|⟨g,cap,B,R,_,hg,_,_,_,_,h⟩
  .rw[h]at I;cases I
  grind
 by_cases hm:m=0
 .subst hm;have hnn:l=[]:=List.eq_nil_of_length_eq_zero (by simpa using V);subst hnn;refine⟨v,w,zo,?_,by simpa using q,IG.refl w zo N⟩;have hfc:(Builtin.firstCells n 0 (.slice ad 0 c)).run P w=.ok #[] w:=by
   cases ad<;>simp[Builtin.firstCells,loadCells,loadCellsFrom]
  rcases q.2 with⟨rfl,rfl,_⟩|⟨g,cap,B,R,rfl,hg,M,_,_,_,_⟩
  .simp[Builtin.append_,run_underlying ht,sizeOf,typeInfo,hi,p,Builtin.lenOf,hfc]
  .simp[Builtin.append_,run_underlying ht,sizeOf,typeInfo,hi,p,Builtin.lenOf,M,hfc,storeCells]
 .cases ad with
  |none=>exact absurd (had rfl) hm|some a=>
   have A:=W a rfl;have L:∀(old:Nat),old<len+m ->
     FW (w.drew.alloc (.cells (xs.toArray++l.toArray++Builtin.zeroCells z.cells (grownCap w (len+m) old e-(len+m))) e)) n
      (.slice (some ⟨w.heap.size,0,none⟩) (len+m) (grownCap w (len+m) old e)) (len+m) (xs++l) (some (w.heap.size,(len+m)*n))/\
     IG w (w.drew.alloc (.cells (xs.toArray++l.toArray++Builtin.zeroCells z.cells (grownCap w (len+m) old e-(len+m))) e)) zo (some (w.heap.size,(len+m)*n)):=by
    intro old ho;have hge:=grownCap_ge w (len+m) old e;have X:grownCap w (len+m) old e<=maxLen:=grownCap_le_maxLen w (len+m) old e hml;refine⟨⟨D,.inr ⟨w.heap.size,_,_,e,rfl,heap_alloc_new w.drew _,hge,X,?_,?_,rfl⟩⟩,⟨rfl,rfl,rfl,by simp,fun k hk _=>Below.heap_alloc w.drew _ k hk,fun b o v M _=>?_,fun b lo I=>?_⟩⟩
    .simp[Array.size_append,List.size_toArray,size_zeroCells,hzs,q.1,V,<-Nat.add_mul];congr 1;omega
    .simp;rw[<-c8,<-D];exact List.take_left
    .have I:b<w.heap.size:=World.block_lt_of_cell? w ⟨b,o,none⟩ M;rw[World.cell?_alloc_lt _ _ (a:=⟨b,o,none⟩) (by simpa using I)];simpa using M
    .simp at I;rw[<-I.1];exact⟨by simp,.inl (az _)⟩
   rcases q.2 with⟨rfl,rfl,rfl⟩|⟨g,cap,B,R,rfl,hg,hnc,X,hcs,htake,rfl⟩
   .have hx:xs=[]:=List.eq_nil_of_length_eq_zero (by simpa using q.1);subst hx;have Y:=run_append_nil (P:=P) w t ty e i z ht hi hz a m c l (by rw[p];exact V) A (by omega) (by simp[Aj]at J;omega) (by have I:=E;simp at I;omega);have H:=L 0 (by omega);simp only[Nat.zero_add,List.nil_append,Array.empty_append]at H Y|-;exact⟨_,_,_,Y,H.1,H.2⟩
   .by_cases C:len+m<=cap
    .have O:len*i.size+l.length<=B.size:=by rw[V,hcs,p,<-Nat.add_mul];exact Nat.mul_le_mul_right _ C
     have Y:=VQ (P:=P) t ty e R i ht hi g len cap B hg a m c l (by rw[p];exact V) A h1 C O;rw[p]at Y O;refine⟨_,_,some (g,(len+m)*n),Y,⟨D,.inr ⟨g,cap,_,R,rfl,setRow_heap w g B _ R _ hg,C,X,?_,?_,rfl⟩⟩,⟨rfl,rfl,rfl,by simp,fun k _ hk=>setRow_other w g k _ (fun e=>hk (len*n) (by rw[e])),fun b o u M hlo=>?_,fun b lo I=>?_⟩⟩
     .simp;omega
     .rw[htake,<-D];exact List.take_left
     .by_cases hbg:b=g
      .subst hbg;have ho:=hlo (len*n) rfl;rw[cell_of_row _ b o _ R (0,0) (setRow_heap w b B _ R _ hg)];rw[cell_of_row w b o B R (0,0) hg]at M;have hoc:o<B.size:=by omega
       rw [List.getElem?_toArray,c8,List.getElem?_append_left (by simp;omega),List.getElem?_take_of_lt ho];simpa using M
      .rw[World.cell?_of_block (w:=w) (a:=⟨b,o,none⟩) (setRow_other w g b _ (fun e=>hbg e))];exact M
     .simp at I;obtain⟨rfl,rfl⟩:=I;refine⟨by simpa using N g (len*n) rfl,.inr ⟨len*n,rfl,Nat.mul_le_mul_right _ (by omega)⟩⟩
    .have Z:∀(j:Nat)(u:Value),xs[j]?=some u->w.cell? ((⟨g,0,none⟩:Addr).add j)=some u:=fun j u hu=>by
      rw [Addr.add_lit,Nat.zero_add];exact q.cell rfl j u hu
     have Y:=run_append_grow (P:=P) w t ty e i z ht hi hz ⟨g,0,none⟩ len cap xs (by rw[p];exact q.1) Z a m c l (by rw[p];exact V) A (by omega) (by simp[Aj]at J;omega) (growslice_fits (by omega) E);have H:=L cap (by omega);exact⟨_,_,_,Y,H.1,H.2⟩
end
end Go.Sf
namespace Go.Sf
open Go.RowKit (Below)
section
variable{P:Program}{S:FuncId->Fq->Am->Prop}{F0:Nat->Nat->Prop}{w0:W0}{U:AB}{a:Act}{w:World}{G:BP}{d:Nat}{o:Oper}{K:EV->AB->Prop}
variable{s:Nat}{v:Value}
theorem AO.app(h:AO F0 w0 U a w G)(hss:s<a.tmps.size){w':World}{z':Option (Nat×Nat)}(hf:IG w w' (G s none) z')(hd:d<a.tmps.size){t:TV}(ht:t.WF)
  (X:∀F',BY w w' (AS w0.heap.size F0 G) F'->(∀b o,F' b o->(b<w0.heap.size/\F0 b o)\/(∃q i lo,G q i=some (b,lo)/\lo<=o)\/∃lo,z'=some (b,lo)/\lo<=o)->Bi w' F' z' t v):
  ∃J,AO F0 w0 ((d,.ow t)::Go.Sf.strip U s) (a.put (some d) v) w' J/\BY w w' (AS w0.heap.size F0 G) (AS w0.heap.size F0 J):=by
 let J:BP:=IU (IU G s (fun _=>none)) d (fun i=>if i=none then z' else none)
 have I:∀q i b lo,J q i=some (b,lo)->(q=d/\i=none/\z'=some (b,lo))\/(q≠d/\q≠s/\G q i=some (b,lo)):=by
  intro q i b lo M;by_cases E:q=d
  .grind[Bq]
  .simp[J,A9 _ _ _ _ E]at M;by_cases L:q=s
   .grind[Bq]
   .rw[A9 _ _ _ _ L]at M
    grind
 have hne:∀q i b lo,q≠s->G q i=some (b,lo)->∀B,G s none≠some (b,B):=fun q i b lo L m B D=>L (h.ne _ _ _ _ _ _ _ m D).1;have O:BY w w' (AS w0.heap.size F0 G) (AS w0.heap.size F0 J):=by
  intro b o u hc Y;have l:∀lo,G s none=some (b,lo)->o<lo:=fun lo l=>by
   rcases Nat.lt_or_ge o lo with h|h
   .exact h
   .exact absurd (.inr ⟨s,none,lo,l,h⟩) Y
  refine ⟨hf.cell b o u hc l,?_⟩;rintro(m|⟨q,i,lo,m,D⟩)
  .exact Y (.inl m)
  .rcases I _ _ _ _ m with⟨_,_,A⟩|⟨_,_,A⟩
   .have H:=World.block_lt_of_cell? w ⟨b,o,none⟩ hc;rcases(hf.yV b lo A).2 with V|⟨B,V,h4⟩
    .simp only at H;omega
    grind
   .exact Y (.inr ⟨q,i,lo,A,D⟩)
 have N:GZ F0 w0 w':=h.below.trans hf.os hf.tape hf.output hf.size (fun k hk he=>hf.other k (Nat.lt_of_lt_of_le hk h.below.size) (fun lo l=>(h.lt _ _ _ _ l).2.elim (fun e=>by omega) (fun e=>he lo (e lo (az _))))) (fun b o u H he hu=>hf.cell b o u hu (fun lo l=>(h.lt _ _ _ _ l).2.elim (fun e=>by omega) (fun e=>Nat.lt_of_not_le fun hle=>he (e o hle))));refine⟨J,⟨?_,?_,N,by rw[EY];exact h.defers,?_,?_,?_⟩,O⟩
 .intro q i q' i' b lo B m D;have mix:∀q i lo B,z'=some (b,lo)->q≠s->G q i=some (b,B)->False:=by
   intro q i lo B A L W;rcases(hf.yV b lo A).2 with V|⟨lo2,V,_⟩
   .have:=(h.lt _ _ _ _ W).1;omega
   grind
  rcases I _ _ _ _ m with⟨rfl,rfl,A⟩|⟨n1,n2,A⟩<;>rcases I _ _ _ _ D with⟨rfl,rfl,W⟩|⟨m1,m2,W⟩
  .exact⟨rfl,rfl⟩
  .exact(mix _ _ _ _ A m2 W).elim
  .exact(mix _ _ _ _ W n2 A).elim
  .exact h.ne _ _ _ _ _ _ _ A W
 .intro q i b lo m;rcases I _ _ _ _ m with⟨_,_,A⟩|⟨_,_,A⟩
  .have:=hf.yV b lo A;refine⟨this.1,?_⟩;rcases this.2 with V|⟨B,V,h4⟩
   .exact .inl (Nat.le_trans h.below.size V)
   .exact(h.lt _ _ _ _ V).2.imp id (fun e o ho=>e o (Nat.le_trans h4 ho))
  .have:=h.lt _ _ _ _ A;exact⟨Nat.lt_of_lt_of_le this.1 hf.size,this.2⟩
 .intro q M;rw[Bc]at M;rw[AB.d4,ae (by omega)];exact(h.strip s).dom q M
 .intro q M;rw[Bc]at M;rw[AB.d4];by_cases E:d=q
  .subst E;rw[a6 rfl,Ce _ _ _ hd];simp[AK,J,Bq];refine X _ O fun b o Y=>?_;rcases Y with m|⟨q,i,lo,m,D⟩
   .exact .inl m
   .rcases I _ _ _ _ m with⟨_,_,A⟩|⟨_,_,A⟩
    .exact .inr (.inr ⟨lo,A,D⟩)
    .exact .inr (.inl ⟨q,i,lo,A,D⟩)
  .rw[ae E,AV _ _ _ _ E];simp[Go.Sf.strip,AB.d4];split
   .trivial
   .rename_i hsq;refine AK.kept O (fun i=>?_) (fun i b lo H=>hf.other b (h.lt _ _ _ _ H).1 (hne q i b lo (fun e=>hsq e.symm) H)) (Kd (Bc _ _ _) (fun q M=>by
     simp [J];rw[A9 _ _ _ _ (by omega),A9 _ _ _ _ (by omega)])) (fun g j b lo Z=>by
     exact hf.other b (h.lt _ _ _ _ Z).1 (hne _ _ b lo (by omega) Z)) (fun r i k Z⟨p,hp⟩=>?_) (fun r off Z⟨cs,C⟩=>?_) (fun r i Z⟨p,hp⟩=>?_) (h.slots q M)
    .simp[J];rw[A9 _ _ _ _ (fun e=>E e.symm),A9 _ _ _ _ (fun e=>hsq e.symm)]
    .have m:=AB.ws (by simp) hp;have D:=AB.ws (by simp) m.2;exact⟨⟨p,D.2⟩,h.nh ⟨p,D.2⟩ (AV _ _ _ _ m.1) (fun _ b _ H=>hf.other b (h.lt _ _ _ _ H).1 (fun lo l=>D.1 (h.ne _ _ _ _ _ _ _ l H).1))⟩
    .rw[AB.d4]at C;by_cases R:d=r
     .rw[a6 R]at C;cases C
     .rw[ae R]at C;simp[AB.d4]at C;split at C
      .cases C
      .exact⟨⟨cs,C⟩,AV _ _ _ _ R⟩
    .have m:=AB.t5 (by simp) (by simp) hp;have D:=AB.t5 (by simp) (by simp) m.2;exact⟨⟨p,D.2⟩,h.xv ⟨p,D.2⟩ (AV _ _ _ _ m.1) (fun b H=>hf.other b (h.lt _ _ _ _ H).1 (fun lo l=>D.1 (h.ne _ _ _ _ _ _ _ l H).1))⟩
 .intro q;rw[AB.d4];split
  .exact ht
  .exact(h.strip s).wf q
theorem AO.app'(h:AO F0 w0 U a w G){l:TV}(m:U.get s=.ow l){w':World}{z':Option (Nat×Nat)}(hf:IG w w' (G s none) z')(hd:d<a.tmps.size){t:TV}(B:t.WF)
  (g:∀p,BY w w' (AS w0.heap.size F0 G) p->(∀b o,p b o->(b<w0.heap.size/\F0 b o)\/(∃q i lo,G q i=some (b,lo)/\lo<=o)\/∃lo,z'=some (b,lo)/\lo<=o)->Bi w' p z' t v):
  Bm F0 w0 ((d,.ow t)::(s,.tv l)::U) (a.put (some d) v) w':=by
 obtain ⟨C,u,A⟩:=h.app (Ba h m (by simp)) hf hd B g;have hv:=Au h (x:=.tmp s) (y:=.s s) (by simp[AI]) (t:=l) (by simp[AF.val,AF.ev,m,EV.val]);have j:=Ba h m (by simp);by_cases k:d=s
 .subst k;refine⟨C,u.rem d (t:=t) (by rw[Bc];exact j) ?_ B fun n=>?_⟩
  .exact(Au u (x:=.tmp d) (y:=.s d) (by simp[AI]) (t:=t) (by simp[AF.val,AF.ev,AB.d4,EV.val])).1
  .simp[Go.Sf.strip,AB.d4];split
   .exact .inl rfl
   .exact .inl rfl
 .refine⟨C,u.rem s (t:=l) (by rw[Bc];exact j) ?_ hv.2 fun n=>?_⟩
  .rw[AV _ _ _ _ k];exact B5 A _ _ hv.1
  .simp[Go.Sf.strip,AB.d4];split
   .exact .inl rfl
   .split
    .rename_i e;exact .inr ⟨e.symm,rfl⟩
    .exact .inl rfl
theorem JV{l m:Fq}:TV.tn (l++m)↔TV.tn l/\TV.tn m:=by grind[Bj]
variable{x:Operand}{y:AF}{i:TypeInfo}{z:Value}{n:Nat}
theorem jm(L:AO F0 w0 U a w G)(hd:d<a.tmps.size){t e:TypeId}(M:o.op=.call {callee:=.builtin .append,args:=#[.tmp s,x],argTypes:=#[t,t]})
  (ht:P.underlying t=some (.slice e))(hi:P.info? e=some i)(hz:i.zero=some z)(q:i.size=n)(N:i.bytes<=4096)(O:z.cells.size=n)(hn:0<n)
  (R:AI x y=true)(h:(AE.app n (.s s) y).wp S U (some d) K):Ax P F0 w0 a w o d K:=by
 simp [AE.wp,AF.ev]at h;split at h
 .rename_i m es m' C V hy;obtain⟨X,Y,I,hK⟩:=h;subst Y;subst X;have p:=AW L V (by simp);have A:=L.wf s;rw[V]at A;simp[AK,Bi]at p;obtain⟨xs,h1,h2,h3,h4⟩:=p;have hv:=Au L R hy;simp[Ah]at hv;obtain⟨⟨Z,cap,h5,h6,h7,h8⟩,h9⟩:=hv;have B:∃g:List Value,AQ w (AS w0.heap.size F0 G) (C.flatMap TV.cells) g/\(∀x∈g,x.oneCell'=true)/\(∀f∈C,f.cells.length=m)/\∀b,Z=some b->∀(j:Nat)(u:Value),g[j]?=some u->w.cell? (b.add j)=some u:=by
   cases Z with
   |none=>
    have:=h7 rfl;subst this;exact⟨[],rfl,by simp,by simp,by simp⟩
   |some b=>
    obtain ⟨k,h11⟩:=h8 b rfl;obtain⟨bb,off,sp⟩:=b;simp only at k h11;by_cases H:C=[]
    .subst H;exact⟨[],rfl,by simp,by simp,by simp⟩
    have k:sp=none:=k.resolve_left H;subst k;have hrow:∀(l:Fq)(off:Nat),Hs w (AS w0.heap.size F0 G) m l bb off->C8 w (AS w0.heap.size F0 G) (l.flatMap TV.cells) bb off/\∀f∈l,f.cells.length=m:=by
     intro l
     induction l with
     |nil=>intro off _;exact⟨trivial,by simp⟩|cons f l ih=>
      grind [O6,IA]
    grind [Rf,tg]
  obtain ⟨g,n1,n2,n3,n4⟩:=B;have W:g.length=C.length*m:=by rw[BE n1,N5 m C n3]
  obtain ⟨v',w',z',J,r1,r2⟩:=Oo (P:=P) t o.type e i z m ht hi hz q N O hn (slot a s) es.length xs (G s none) h1 Z C.length cap g W (fun e=>by rw[h7 e];rfl) h6 n4 n2 I;refine⟨v',w',?_,_,_,hK,L.app' V r2 hd ?_ fun F' D hF'=>?_⟩
  .simp[execOp,M,resolve,invoke,builtin,show a.eval (.tmp s)=slot a s from rfl,h5,J]
  .simp only[EV.WF,TV.WF]at A h9|-;exact⟨by rw[bk];exact Sj (by omega),JV.2 ⟨A.2,h9.2⟩⟩
  .simp only[Bi];refine⟨xs++g,by rw[bk];exact r1,?_,?_,?_⟩
   .rw[List.flatMap_append];exact Ho (Ak D _ _ h2) (Ak D _ _ n1)
   .intro e he;rcases List.mem_append.1 he with he|he
    .exact h3 e he
    .exact n3 e he
   .intro x E;rcases List.mem_append.1 E with E|E
    .exact h4 x E
    .exact n2 x E
 .exact h.elim
end
end Go.Sf
namespace Go.Sf
open Go.RowKit (Below)
def fE:TV->Bool
 |.list _ es=>es.isEmpty|.xl _ es=>es.isEmpty|.xn es=>es.isEmpty|_=>false
def So(c:AN)(v:Value):Bool:=if c.own then fE c.t&&LQ v else D2 c.t v&&v.oneCell'
def Nk:List AN->List Value->Bool
 |[],vs=>vs.isEmpty|c::cs,vs=>match vs with|v::vs=>So c v&&Nk cs vs|[]=>false
section
variable{w:World}{F:Nat->Nat->Prop}
variable{ρ:G6}{v:Value}
theorem Um{c:AN}(h:So c v=true):BA w F ρ none c v/\c.t.WF:=by
 obtain ⟨_|_,t⟩:=c
 .simp[So]at h;have e:=Gs w F t v h.1;exact⟨⟨e.1,h.2⟩,e.2⟩
 .simp[So]at h;cases t<;>simp only[fE,Bool.false_eq_true,false_and]at h
  .rename_i n es;rw[List.isEmpty_iff]at h;obtain⟨rfl,h⟩:=h;refine⟨?_,by simp,trivial⟩;simp only[BA,D0,Bi];exact⟨[],⟨by simp,.inl ⟨I2 h,rfl,rfl⟩⟩,rfl,by simp,by simp⟩
  .rename_i n es;rw[List.isEmpty_iff]at h;obtain⟨rfl,h⟩:=h;refine⟨?_,by simp,trivial⟩;simp only[BA,D0];exact⟨[],⟨none,⟨by simp,.inl ⟨I2 h,rfl,rfl⟩⟩,rfl⟩,rfl,by simp,by simp⟩
  .rename_i es;rw[List.isEmpty_iff]at h;obtain⟨rfl,h⟩:=h;refine⟨?_,by simp,trivial⟩;simp[BA,D0];exact⟨[],⟨none,⟨by simp,.inl ⟨I2 h,rfl,rfl⟩⟩,rfl⟩,by simp,by simp⟩
theorem My{ρ:G6}:∀{cs:List AN}{vs:List Value},Nk cs vs=true->vs.length=cs.length/\(∀(i:Nat)(c:AN),cs[i]?=some c->∃x,vs[i]?=some x/\BA w F ρ none c x)/\∀c∈cs,c.t.WF
 |[],vs,h=>by simp[Nk]at h;subst h;simp|c::cs,[],h=>by simp[Nk]at h|c::cs,v::vs,h=>by
  simp [Nk]at h;obtain⟨j,k,l⟩:=My (cs:=cs) (vs:=vs) h.2;have g:=Um (w:=w) (F:=F) (ρ:=ρ) h.1;refine⟨by simp[j],fun i c' e=>?_,fun c' e=>?_⟩
  .cases i with
   |zero=>simp at e;subst e;exact⟨v,rfl,g.1⟩|succ i=>exact k i c' (by simpa using e)
  .rcases List.mem_cons.1 e with rfl|e
   .exact g.2
   .exact l c' e
end
def S7(U:AB):Option Nat->AB
 |some q=>Go.Sf.strip U q|none=>U
theorem PE(U:AB)(q:Option Nat)(p:Nat):(S7 U q).get p=.undef\/((S7 U q).get p=U.get p/\some p≠q):=by
 cases q with
 |none=>exact .inr ⟨rfl,by simp⟩|some e=>
  simp [S7,Go.Sf.strip,AB.d4]
  grind
section
variable{P:Program}{S:FuncId->Fq->Am->Prop}{F0:Nat->Nat->Prop}{w0:W0}{U:AB}{a:Act}{w:World}{G:BP}{d:Nat}{o:Oper}{K:EV->AB->Prop}
variable{c:Array Value}{T:TypeId}
theorem AO.box(h:AO F0 w0 U a w G)(hd:d<a.tmps.size)(j:U.f0 d=true){cs:List AN}(q:c.size=cs.length)
  (u:∀l,BY w (w.alloc (.cells c T)) (AS w0.heap.size F0 G) l->∀(i:Nat)(x:AN),cs[i]?=some x->∃v,c[i]?=some v/\BA (w.alloc (.cells c T)) l (wk a G) none x v)(A:∀x∈cs,x.t.WF):
  Bm F0 w0 ((d,.bx cs)::U) (a.put (some d) (.pointer (some ⟨w.heap.size,0,none⟩))) (w.alloc (.cells c T)):=by
 have m:Below w.heap.size w (w.alloc (.cells c T)):=(Below.refl _ _).alloc (az _) _;have p:∀(i:Option Nat)b lo,(if i=none then some (w.heap.size,0)else none)=some (b,lo)->w.heap.size<=b/\b<(w.alloc (.cells c T)).heap.size:=by
  intro i b lo hi;split at hi
  .simp at hi;rw[<-hi.1];exact⟨az _,by simp⟩
  .cases hi
 have k:=Jk (F0:=F0) (w0:=w0) (G:=G) m d (fun i=>if i=none then some (w.heap.size,0)else none) (fun i b lo hi=>(p i b lo hi).1);refine⟨_,h.quiet m d hd (.bx cs) _ (fun i=>if i=none then some (w.heap.size,0)else none) p (fun i D b lo B e g=>?_) (fun _=>j) ?_ A⟩
 .split at e
  .split at g
   .simp_all
   .cases g
  .cases e
 .simp only[AK];refine⟨_,c,T,rfl,heap_alloc_new w _,q,by rw[Bq];simp,fun i x C=>?_⟩;obtain⟨v,e,g⟩:=u _ k i x C;refine⟨v,e,?_⟩;rw[Bq,Kd (Bc _ _ _) (fun s E=>A9 _ _ _ _ (by omega))];simpa using g
variable{x:Operand}{y:AF}{t:TypeId}
theorem gO(m:AO F0 w0 U a w G)(hd:d<a.tmps.size)(j:o.op=.box t x)(k:AI x y=true)(h:(AE.yK y).wp S U (some d) K):Ax P F0 w0 a w o d K:=by
 simp [AE.wp]at h;split at h
 .rename_i u I hv e;simp at e;subst e;obtain⟨l,E⟩:=h;have A:=Au m k hv;have p:=GA A.1;have B:=BE p.1;refine⟨_,_,by simp[execOp,j,Instr.box,newVar,newRow],_,_,E,m.box hd l (c:=(a.eval x).cells) (T:=t) (by simpa using B) (fun H q i c g=>?_) (fun c g=>?_)⟩
  .rw[List.getElem?_map]at g;simp at g;obtain⟨J,L,rfl⟩:=g;have C:i<u.cells.length:=by
    grind
   have D:(a.eval x).cells.toList[i]?=some ((a.eval x).cells.toList[i]'(by omega)):=List.getElem?_eq_getElem (by omega);refine⟨(a.eval x).cells.toList[i]'(by omega),by rw[<-Array.getElem?_toList];exact D,?_,p.2 _ (List.getElem_mem _)⟩
   grind [B5,BZ]
  grind [Bj,Hc]
 .exact h.elim
variable{i:TypeInfo}{z:Value}
theorem jk(k:AO F0 w0 U a w G)(hd:d<a.tmps.size){cs:List AN}(g:o.op=.alloc t)(hi:P.info? t=some i)(l:i.zero=some z)(e:Nk cs z.cells.toList=true)(h:(AE.yY cs).wp S U (some d) K):Ax P F0 w0 a w o d K:=by
 simp [AE.wp]at h;obtain⟨j,p⟩:=h;refine⟨_,_,?_,_,_,p,k.box hd j (c:=z.cells) (T:=t) (by have:=(My (w:=w) (F:=fun _ _=>False) (ρ:=fun _ _=>none) e).1;simpa using this) (fun A _ i c m=>?_) (My (w:=w) (F:=fun _ _=>False) (ρ:=fun _ _=>none) e).2.2⟩
 .simp[execOp,g,Instr.alloc,zeroValue,typeInfo,hi,l,newVar,newRow]
 .obtain⟨x,q,u⟩:=(My e).2.1 i c m;exact⟨x,by simpa using q,u⟩
variable{s off:Nat}
theorem Gn(j:AO F0 w0 U a w G)(g:AI x y=true)(e:y.place U=some (s,off)){cs:List AN}(k:U.get s=.bx cs):
  ∃b,slot a s=.pointer (some ⟨b,0,none⟩)/\a.eval x=.pointer (some ⟨b,off,none⟩):=by
 cases y with
 |c t=>simp[AF.place]at e|s n=>
  cases x<;>simp[AI]at g;subst g;rename_i n;simp[AF.place]at e;have h:=AW j k (by simp);simp only[AK]at h;obtain⟨b,c,T,m,_⟩:=h;split at e
  .rename_i q l he;simp at e;obtain⟨rfl,rfl⟩:=e;have h:=AW j he (by simp);simp only[AK]at h;obtain⟨p,u,A⟩:=h ⟨cs,k⟩;exact⟨p,u,A⟩
  .rename_i cs' he;simp at e;obtain⟨rfl,rfl⟩:=e;exact⟨b,m,m⟩
  .cases e
variable{b:Nat}
theorem AO.y5(h:AO F0 w0 U a w G){cs cs':List AN}(hs:U.get s=.bx cs)(O:slot a s=.pointer (some ⟨b,0,none⟩)){c c':Array Value}(D:w.heap[b]?=some (.cells c T (0,0)))
  {q:Option Nat}(hqs:q≠some s)(hqlt:∀p,q=some p->p<a.tmps.size){zs:Option Nat->Option (Nat×Nat)}(hzb:zs none=some (b,0))
  (hz:∀i m lo,i≠none->zs i=some (m,lo)->G s i=some (m,lo)\/∃q',q=some q'/\∃j,G q' j=some (m,lo))
  (hzu:∀i W m lo R,zs i=some (m,lo)->zs W=some (m,R)->i=W)
  (hl:c'.size=cs'.length)(hcs:∀F' w',BY w w' (AS w0.heap.size F0 G) F'->(∀k,k≠b->w'.heap[k]?=w.heap[k]?)->BD w w' (wk a G)->∀(i:Nat)(x:AN),cs'[i]?=some x->∃v,c'[i]?=some v/\BA w' F' (wk a G) (zs (some i)) x v)
  (hw:∀x∈cs',x.t.WF)(hxx:∀(k:Nat)(t:TV),t.xh=true->cs'[k]?=some ⟨true,t⟩->(U.yp s (some k)=true\/(cs[k]?=some ⟨true,t⟩/\c'[k]?=c[k]?))):
  ∃X,AO F0 w0 ((s,.bx cs')::S7 U q) a (w.setRow b c') X/\BY w (w.setRow b c') (AS w0.heap.size F0 G) (AS w0.heap.size F0 X):=by
 have hx:∀(k n:Nat)(es:Fq),cs'[k]?=some ⟨true,.xl n es⟩->(U.yp s (some k)=true\/((∃p,U.tl s (some k)=some p)/\c'[k]?=c[k]?)):=fun k n es hk=>
  (hxx k _ rfl hk).imp id fun⟨A,J⟩=>⟨⟨(n,es),by simp[AB.tl,hs,A]⟩,J⟩
 have hxn:∀(k:Nat)(es:Fq),cs'[k]?=some ⟨true,.xn es⟩->(U.yp s (some k)=true\/((∃p,U.nat s k=some p)/\c'[k]?=c[k]?)):=fun k es hk=>
  (hxx k _ rfl hk).imp id fun⟨A,J⟩=>⟨⟨es,by simp[AB.nat,hs,A]⟩,J⟩
 have hsz:s<a.tmps.size:=Ba h hs (by simp);have M:G s none=some (b,0):=by
  have:=AW h hs (by simp)
  grind [AK,tg]
 let X:BP:=fun p=>if p=s then zs else if some p=q then(fun _=>none)else G p
 have H:X s=zs:=by simp[X]
 have u:∀p i m lo,X p i=some (m,lo)->∃Y W,G Y W=some (m,lo)/\(Y=p\/some Y=q)/\(p≠s->Y=p/\W=i):=by
  intro p i m lo hp;by_cases B:p=s
  .subst B;rw[H]at hp;by_cases hi:i=none
   .grind
   grind
  grind
 have hqout:∀p i m lo,X p i=some (m,lo)->some p≠q:=by
  grind
 have l:∀k,k≠b->(w.setRow b c').heap[k]?=w.heap[k]?:=fun k hk=>setRow_other w b k _ hk;have hag:BY w (w.setRow b c') (AS w0.heap.size F0 G) (AS w0.heap.size F0 X):=by
  intro m o v hc hF;have hbb:m≠b:=fun e=>hF (.inr ⟨s,none,0,by rw[e];exact M,Nat.zero_le _⟩);refine⟨by rw[World.cell?_of_block (w:=w) (a:=⟨m,o,none⟩) (l m hbb)];exact hc,fun hF'=>hF ?_⟩;rcases hF' with A|⟨p,i,lo,A,J⟩
  .exact .inl A
  .obtain⟨Y,W,h3,_⟩:=u p i m lo A;exact .inr ⟨Y,W,lo,h3,J⟩
 have hbelow:GZ F0 w0 (w.setRow b c'):=h.below.but rfl rfl rfl (by simp) (Z:=fun k=>k=b) (fun k hk=>by rw[hk];exact(h.lt _ _ _ _ M).2.imp id (fun e o=>e o (Nat.zero_le _))) (fun k _ hk=>l k hk);have hrs:BD w (w.setRow b c') (wk a G):=fun g j m lo hr=>l m (h.yS hsz M hr);have hrho:wk a X=wk a G:=Kd rfl fun p hp=>by
  grind
 refine ⟨X,⟨?_,?_,hbelow,h.defers,?_,?_,?_⟩,hag⟩
 .intro p i Y W m lo R A J;by_cases B:p=s<;>by_cases L:Y=s
  .subst B;subst L;rw[H]at A J;exact⟨rfl,hzu i W m lo R A J⟩
  .obtain⟨r,j,N,I,_⟩:=u p i m lo A;obtain⟨r',j',e3,_,e4⟩:=u Y W m R J;obtain⟨rfl,rfl⟩:=e4 L;obtain⟨rfl,_⟩:=h.ne _ _ _ _ _ _ _ N e3;rcases I with I|I
   .exact absurd (I.trans B) L
   .exact absurd I (hqout _ _ _ _ J)
  .obtain⟨r,j,N,I,_⟩:=u Y W m R J;obtain⟨r',j',e3,_,e4⟩:=u p i m lo A;obtain⟨rfl,rfl⟩:=e4 B;obtain⟨rfl,_⟩:=h.ne _ _ _ _ _ _ _ N e3;rcases I with I|I
   .exact absurd (I.trans L) B
   .exact absurd I (hqout _ _ _ _ A)
  .obtain⟨r,j,N,_,I⟩:=u p i m lo A;obtain⟨r',j',e3,_,e4⟩:=u Y W m R J;obtain⟨rfl,rfl⟩:=I B;obtain⟨rfl,rfl⟩:=e4 L;exact h.ne _ _ _ _ _ _ _ N e3
 .intro p i m lo A;obtain⟨r,j,N,_⟩:=u p i m lo A;have:=h.lt _ _ _ _ N;exact⟨by simpa using this.1,this.2⟩
 .intro p hp;rw[AB.d4,ae (by omega)];cases q with
  |none=>exact h.dom p hp|some q'=>exact(h.strip q').dom p hp
 .intro p hp;rw[AB.d4];by_cases B:s=p
  .subst B;rw[a6 rfl];simp only[AK];refine⟨b,c',T,O,setRow_heap w b c c' T (0,0) D,hl,by rw[H];exact hzb,fun i x hx=>?_⟩;obtain⟨v,A,J⟩:=hcs _ _ hag l hrs i x hx;exact⟨v,A,by rw[H,hrho];exact J⟩
  .rw[ae B];have hcase:=PE U q p;rcases hcase with he|⟨he,hpq⟩<;>rw[he]
   .trivial
   .have hGp:∀i,X p i=G p i:=fun i=>by simp[X];rw[ae (fun e=>B e.symm),ae hpq]
    refine AK.kept hag hGp (fun i m lo hb'=>l m (fun e=>B (h.ne _ _ _ _ _ _ _ M (e▸hb')).1)) hrho hrs (fun r i k hr⟨pp,V⟩=>?_) (fun r off hr⟨cs'',C⟩=>⟨?_,rfl⟩) (fun r i hr⟨pp,V⟩=>?_) (h.slots p hp)
    .by_cases E:s=r
     .subst E;obtain⟨cs'',A,J⟩:=AB.wd V;rw[AB.d4,a6 rfl]at A;simp[EV.bx.injEq]at A;subst A;rcases hxn i pp J with h3|⟨h3,h4⟩
      .exact absurd hr (AB.noX_nh h3 p i (.inr rfl) k)
      .refine⟨h3,fun v hv=>?_⟩;obtain⟨m,c0,T0,x0,N,I,e3,e4⟩:=hv;rw[O]at N;simp at N;subst N;rw[D]at I;cases I;obtain⟨es0,hes0⟩:=h3;obtain⟨cs0,f1,f2⟩:=AB.wd hes0;have hr0:=h.slots s hsz;rw[f1]at hr0;simp only[AK]at hr0;obtain⟨b2,c2,T2,g1,g2,_,_,g5⟩:=hr0;rw[O]at g1;simp at g1;subst g1;rw[D]at g2;cases g2;obtain⟨x1,k1,k2⟩:=g5 i _ f2;rw[e3]at k1;simp at k1;subst k1;refine⟨_,_,_,x0,O,setRow_heap w _ _ c' _ (0,0) D,h4.trans e3,e4.kept fun g len cap e=>?_⟩;subst e;have hgz:=E1.nil_or k2;exact l g (fun e=>by
        have:=(h.ne _ _ _ _ _ _ _ M (e▸hgz)).2;cases this)
     .rw[AB.wO E]at V;have hp2:U.nat r i=some pp:=by
       grind [PE,AB.nat_undef,AB.w7]
      exact ⟨⟨pp,hp2⟩,h.nh ⟨pp,hp2⟩ rfl (fun j m _ hb'=>l m (fun e=>E (h.ne _ _ _ _ _ _ _ M (e▸hb')).1))⟩
    .rw[AB.d4]at C;split at C
     .rename_i E;subst E;exact⟨cs,hs⟩
     .rcases PE U q r with he|⟨he,_⟩<;>rw[he]at C
      .cases C
      .exact⟨_,C⟩
    .by_cases E:s=r
     .subst E;obtain⟨n,es⟩:=pp;cases i with
      |none=>have:=AB.wj V;rw[AB.d4,a6 rfl]at this;cases this
      |some k=>
       obtain ⟨cs'',A,J⟩:=AB.wa V;rw[AB.d4,a6 rfl]at A;simp[EV.bx.injEq]at A;subst A;rcases hx k n es J with h3|⟨h3,h4⟩
       .have h5:=AB.noX_spec h3 p k (.inr rfl);rcases hr with hr|⟨c,hr⟩
        .exact absurd hr h5.1
        .exact absurd hr (h5.2 c)
       .refine⟨h3,fun v hv=>?_⟩;obtain⟨m,c0,T0,N,I,e3⟩:=hv;rw[O]at N;simp at N;subst N;rw[D]at I;cases I;exact⟨_,_,_,O,setRow_heap w _ _ c' _ (0,0) D,h4.trans e3⟩
     .rw[AB.wJ E]at V;have hp2:U.tl r i=some pp:=by
       grind [PE,AB.xA,AB.wR]
      exact ⟨⟨pp,hp2⟩,h.xv ⟨pp,hp2⟩ rfl (fun m hb'=>l m (fun e=>E (h.ne _ _ _ _ _ _ _ M (e▸hb')).1))⟩
 .intro p;rw[AB.d4];split
  .exact hw
  .cases q with
   |none=>exact h.wf p|some q'=>exact(h.strip q').wf p
end
end Go.Sf
namespace Go.Sf
open Go.RowKit (Below)
def G7(P:Program)(F0:Nat->Nat->Prop)(w0:W0)(a:Act)(w:World)(o:Oper)(K:EV->AB->Prop):Prop:=
 ∃w',(execOp a.eval o).run P w=.ok .skip w'/\∃env',K .undef env'/\Bm F0 w0 env' a w'
section
variable{P:Program}{S:FuncId->Fq->Am->Prop}{F0:Nat->Nat->Prop}{w0:W0}{U:AB}{a:Act}{w:World}{G:BP}{d:Nat}{o:Oper}{K:EV->AB->Prop}
variable{s b:Nat}{T:TypeId}
theorem AO.rebox_n(h:AO F0 w0 U a w G){cs cs':List AN}(C:U.get s=.bx cs)(j:slot a s=.pointer (some ⟨b,0,none⟩)){c c':Array Value}(g:w.heap[b]?=some (.cells c T (0,0)))
  {zs:Option Nat->Option (Nat×Nat)}(l:zs none=some (b,0))
  (D:∀i e lo,i≠none->zs i=some (e,lo)->G s i=some (e,lo))
  (m:∀i A e lo u,zs i=some (e,lo)->zs A=some (e,u)->i=A)
  (E:c'.size=cs'.length)(p:∀B w',BY w w' (AS w0.heap.size F0 G) B->(∀k,k≠b->w'.heap[k]?=w.heap[k]?)->BD w w' (wk a G)->∀(i:Nat)(x:AN),cs'[i]?=some x->∃v,c'[i]?=some v/\BA w' B (wk a G) (zs (some i)) x v)
  (H:∀x∈cs',x.t.WF)(I:∀(k:Nat)(t:TV),t.xh=true->cs'[k]?=some ⟨true,t⟩->(U.yp s (some k)=true\/(cs[k]?=some ⟨true,t⟩/\c'[k]?=c[k]?))):
  Bm F0 w0 ((s,.bx cs')::U) a (w.setRow b c'):=by
 obtain ⟨M,N,_⟩:=h.y5 C j g (q:=none) (by simp) (by simp) l (fun i e lo J L=>.inl (D i e lo J L)) m E p H I;exact⟨M,N⟩
theorem AO.rebox_q(h:AO F0 w0 U a w G){cs cs':List AN}(N:U.get s=.bx cs)(A:slot a s=.pointer (some ⟨b,0,none⟩)){c c':Array Value}(m:w.heap[b]?=some (.cells c T (0,0)))
  {q:Nat}{u:TV}(g:U.get q=.ow u)(B:q≠s){zs:Option Nat->Option (Nat×Nat)}(C:zs none=some (b,0))
  (O:∀i l lo,i≠none->zs i=some (l,lo)->G s i=some (l,lo)\/∃J,some q=some J/\∃j,G J j=some (l,lo))
  (D:∀i L l lo H,zs i=some (l,lo)->zs L=some (l,H)->i=L)
  (R:c'.size=cs'.length)(E:∀M w',BY w w' (AS w0.heap.size F0 G) M->(∀k,k≠b->w'.heap[k]?=w.heap[k]?)->BD w w' (wk a G)->∀(i:Nat)(x:AN),cs'[i]?=some x->∃v,c'[i]?=some v/\BA w' M (wk a G) (zs (some i)) x v)
  (V:∀x∈cs',x.t.WF)(W:∀(k:Nat)(t:TV),t.xh=true->cs'[k]?=some ⟨true,t⟩->(U.yp s (some k)=true\/(cs[k]?=some ⟨true,t⟩/\c'[k]?=c[k]?))):
  Bm F0 w0 ((s,.bx cs')::(q,.tv u)::U) a (w.setRow b c'):=by
 obtain ⟨Y,Z,I⟩:=h.y5 N A m (q:=some q) (by simpa using B) (fun p X=>by cases X;exact Ba h g (by simp)) C O D R E V W;have hv:=Au h (x:=.tmp q) (y:=.s q) (by simp[AI]) (t:=u) (by simp[AF.val,AF.ev,g,EV.val]);refine⟨Y,Z.rem q (t:=u) (Ba h g (by simp)) (B5 I _ _ hv.1) hv.2 fun n=>?_⟩;simp[S7,Go.Sf.strip,AB.d4];split
 .exact .inl rfl
 .split
  .rename_i e;exact .inr ⟨e.symm,rfl⟩
  .exact .inl rfl
variable{t:TypeId}{n:Nat}
theorem cI(B:AO F0 w0 U a w G){x v:Operand}{x' v':AF}(hop:o.op=.store t x v)(hx:AI x x'=true)(hv:AI v v'=true)(hn:Cn P t=some n)(h:(AE.st n x' v').wp S U none K):G7 P F0 w0 a w o K:=by
 simp only[AE.wp]at h;split at h
 .rename_i s off hp;split at h
  .rename_i cs hs;obtain⟨b,Z,hadr⟩:=Gn B hx hp hs;have hr:=AW B hs (by simp);simp only[AK]at hr;obtain⟨L,c,T,h1,h2,h3,h4,h5⟩:=hr;rw[Z]at h1;simp at h1;subst h1;have hw:=B.wf s;rw[hs]at hw;have hst:∀(vs:List Value),vs.length=n->(a.eval v).cells.toList=vs->off+n<=c.size->(∀y∈vs,y.oneCell'=true)->(execOp a.eval o).run P w=.ok .skip (w.setRow b (c.toList.take off++vs++c.toList.drop (off+n)).toArray):=by
    intro vs hl X hle ho;have N:=run_storeCells_at P b off T vs 0 c w h2 (by omega) ho;simp at N;have hsz:(a.eval v).cells.size=n:=by rw[<-Array.length_toList,X,hl]
    rw [hl]at N;simp[execOp,hop,hadr,Instr.storeAt,Instr.sureAddr,storeVar,B2 hn,hsz,X,N]
   split at h
   ·
    rename_i u H;cases v' with
    |c t=>exact h.elim|s q=>
     simp only at h;obtain⟨R,hn1,W,hK⟩:=h;subst hn1;cases v<;>simp[AI]at hv;subst hv;rename_i q;simp[AF.ev]at H;have E:=AW B H (by simp);simp[AK]at E;have hqw:=B.wf q;rw[H]at hqw;have O:=UM E;have Y:(a.eval (.tmp q)).cells.toList=[slot a q]:=by
      have:a.eval (.tmp q)=slot a q:=rfl;rw[this];cases hsq:slot a q<;>rw[hsq]at O<;>first|rfl|simp[Value.oneCell']at O
     refine ⟨_,hst [slot a q] rfl Y (by omega) (by simpa using O),_,hK,?_⟩
     let zs:Option Nat->Option (Nat×Nat):=fun i=>match i with|none=>some (b,0)|some j=>if j=off then G q none else G s (some j)
     refine B.rebox_q hs Z h2 H (fun e=>R e) (zs:=zs) rfl ?_ ?_ ?_ ?_ ?_ ?_
     .intro i L lo hi V;cases i with
      |none=>exact absurd rfl hi|some j=>
       simp [zs]at V;split at V
       .exact .inr ⟨q,rfl,none,V⟩
       .exact .inl V
     .intro i i' L lo D g p;have zn:∀j L lo D,zs (some j)=some (L,lo)->zs none=some (L,D)->False:=by
       intro j L lo D g p;simp[zs]at p;obtain⟨rfl,_⟩:=p;simp[zs]at g;split at g
       .exact R (B.ne _ _ _ _ _ _ _ g h4).1
       .have:=(B.ne _ _ _ _ _ _ _ g h4).2;cases this
      cases i with
      |none=>cases i' with
       |none=>rfl|some j=>exact(zn j _ _ _ p g).elim
      |some j=>cases i' with
       |none=>exact(zn j _ _ _ g p).elim|some j'=>
        simp [zs]at g p;split at g<;>split at p
        .rename_i e3 e4;rw[e3,e4]
        .exact absurd (B.ne _ _ _ _ _ _ _ g p).1 R
        .exact absurd (B.ne _ _ _ _ _ _ _ p g).1 R
        .exact(B.ne _ _ _ _ _ _ _ g p).2
     .simp;omega
     .intro F' w' I C M i y l;rw[List.getElem?_set]at l;by_cases hi:off=i
      .subst hi;rw[a6 rfl,a6 W]at l;simp at l;subst l;refine⟨slot a q,?_,?_⟩
       .rw[List.getElem?_toArray,c8,List.getElem?_append_right (by simp;omega)];simp;rw[Nat.min_eq_left (by omega),Nat.sub_self];rfl
       .simp[BA,zs];exact E.c.kept I (fun k lo m=>C k (fun e=>R (B.ne _ _ _ _ _ _ _ (e▸m) h4).1)) M
      .rw[ae hi]at l;obtain⟨vv,g,p⟩:=h5 i y l;refine⟨vv,?_,?_⟩
       .rw[List.getElem?_toArray];rcases Nat.lt_or_ge i off with A|hge
        .rw[c8,List.getElem?_append_left (by simp;omega),List.getElem?_take_of_lt A];simpa using g
        .rw[List.getElem?_append_right (by simp;omega)];simp only[bk,bq,Array.length_toList,List.length_singleton];rw[Nat.min_eq_left (by omega),List.getElem?_drop,show off+1+(i-(off+1))=i from by omega];simpa using g
       .have hi':¬i=off:=fun e=>hi e.symm;simp[zs];rw[ae hi'];exact p.kept I (fun k lo m=>C k (fun e=>by have:=(B.ne _ _ _ _ _ _ _ (e▸m) h4).2;cases this)) M
     .intro y l;rcases List.mem_or_eq_of_mem_set l with l|rfl
      .exact hw y l
      .exact hqw
     .intro k tx htx m;rw[List.getElem?_set]at m;by_cases hi:off=k
      .rw[a6 hi]at m;rw[a6 (by omega)]at m;simp[AN.mk.injEq]at m;subst m;cases u<;>first|(simp[Bi]at E;done)|(simp[TV.xh]at htx;done)
      .rw[ae hi]at m;refine .inr ⟨m,?_⟩;have hkc:k<c.size:=by
        have:=(List.getElem?_eq_some_iff.1 m).1;omega
       rw [List.getElem?_toArray];rcases Nat.lt_or_ge k off with A|hge
       .rw[c8,List.getElem?_append_left (by simp;omega),List.getElem?_take_of_lt A,Array.getElem?_toList]
       .rw[List.getElem?_append_right (by simp;omega)];simp only[bk,bq,Array.length_toList,List.length_singleton];rw[Nat.min_eq_left (by omega),List.getElem?_drop,show off+1+(k-(off+1))=k from by omega,Array.getElem?_toList]
   ·
    rename_i u H;obtain⟨hun,W,hK⟩:=h;have hvv:=WG B hv H;have X:=GA hvv.1;have J:=BE X.1;refine⟨_,hst _ (by omega) rfl (by omega) X.2,_,hK,?_⟩
    let zs:Option Nat->Option (Nat×Nat):=fun i=>match i with|none=>some (b,0)|some j=>if off<=j/\j<off+n then none else G s (some j)
    refine B.rebox_n hs Z h2 (zs:=zs) rfl ?_ ?_ ?_ ?_ ?_ ?_
    .intro i L lo hi V;cases i with
     |none=>exact absurd rfl hi|some j=>
      simp only[zs]at V;split at V
      .cases V
      .exact V
    .intro i i' L lo D g p;have zn:∀j L lo D,zs (some j)=some (L,lo)->zs none=some (L,D)->False:=by
      intro j L lo D g p;simp[zs]at p;obtain⟨rfl,_⟩:=p;simp only[zs]at g;split at g
      .cases g
      .have:=(B.ne _ _ _ _ _ _ _ g h4).2;cases this
     cases i with
     |none=>cases i' with
      |none=>rfl|some j=>exact(zn j _ _ _ p g).elim
     |some j=>cases i' with
      |none=>exact(zn j _ _ _ g p).elim|some j'=>
       simp only[zs]at g p;split at g<;>split at p
       .cases g
       .cases g
       .cases p
       .exact(B.ne _ _ _ _ _ _ _ g p).2
    .simp at J|-;omega
    .intro F' w' I C M i y l;rw[List.getElem?_toArray];rcases Nat.lt_or_ge i off with A|hge
     .rw[c8,List.getElem?_append_left (by simp;omega),List.getElem?_take_of_lt A]at l;obtain⟨vv,g,p⟩:=h5 i y l;refine⟨vv,?_,?_⟩
      .rw[c8,List.getElem?_append_left (by simp;omega),List.getElem?_take_of_lt A];simpa using g
      .simp[zs];rw[ae (by omega)];exact p.kept I (fun k lo m=>C k (fun e=>by have:=(B.ne _ _ _ _ _ _ _ (e▸m) h4).2;cases this)) M
     .rcases Nat.lt_or_ge i (off+n)with A|hge2
      .rw[c8,List.getElem?_append_right (by simp;omega),List.getElem?_append_left (by simp;omega)]at l;simp[List.getElem?_map]at l;rw[Nat.min_eq_left (by omega)]at l;obtain⟨tt,htt,rfl⟩:=l;have hx':(a.eval v).cells.toList[i-off]?=some ((a.eval v).cells.toList[i-off]'(by omega)):=List.getElem?_eq_getElem (by omega);refine⟨(a.eval v).cells.toList[i-off]'(by omega),?_,?_⟩
       .rw[c8,List.getElem?_append_right (by simp;omega),List.getElem?_append_left (by simp at J|-;omega)];simp only[bq,Array.length_toList];rw[Nat.min_eq_left (by omega)];exact hx'
       .exact⟨B5 I _ _ (((BZ _ _).1 X.1).2 _ tt _ htt hx'),X.2 _ (List.getElem_mem _)⟩
      .rw[List.getElem?_append_right (by simp;omega)]at l;simp[List.getElem?_drop]at l;rw[Nat.min_eq_left (by omega),show off+n+(i-(off+u.cells.length))=i from by omega]at l;obtain⟨vv,g,p⟩:=h5 i y l;refine⟨vv,?_,?_⟩
       .rw[List.getElem?_append_right (by simp at J|-;omega)];simp[List.getElem?_drop]at J|-;rw[Nat.min_eq_left (by omega),show off+n+(i-(off+(a.eval v).cells.size))=i from by omega];simpa using g
       .simp[zs];rw[ae (by omega)];exact p.kept I (fun k lo m=>C k (fun e=>by have:=(B.ne _ _ _ _ _ _ _ (e▸m) h4).2;cases this)) M
    .intro y l;rcases List.mem_append.1 l with l|l
     .rcases List.mem_append.1 l with l|l
      .exact hw y (List.mem_of_mem_take l)
      .simp at l;obtain⟨tt,htt,rfl⟩:=l;exact Bj.1 (Hc hvv.2) tt htt
     .exact hw y (List.mem_of_mem_drop l)
    .intro k tx htx m;have hlen:(cs.take off++u.cells.map (fun t=>(⟨false,t⟩:AN))++cs.drop (off+n)).length=cs.length:=by
      simp;omega
     have hkl:k<cs.length:=by rw[<-hlen];exact(List.getElem?_eq_some_iff.1 m).1
     rw [List.getElem?_toArray];rcases Nat.lt_or_ge k off with A|hge
     .rw[c8,List.getElem?_append_left (by simp;omega),List.getElem?_take_of_lt A]at m;refine .inr ⟨m,?_⟩;rw[c8,List.getElem?_append_left (by simp;omega),List.getElem?_take_of_lt A,Array.getElem?_toList]
     .rcases Nat.lt_or_ge k (off+n)with A|hge2
      .rw[c8,List.getElem?_append_right (by simp;omega),List.getElem?_append_left (by simp;omega),List.getElem?_map]at m;simp[AN.mk.injEq,exists_false]at m
      .rw[List.getElem?_append_right (by simp;omega)]at m;simp[List.getElem?_drop]at m;rw[Nat.min_eq_left (by omega),show off+n+(k-(off+u.cells.length))=k from by omega]at m;refine .inr ⟨m,?_⟩;rw[List.getElem?_append_right (by simp at J|-;omega)];simp only[bk,bq,Array.length_toList,List.getElem?_drop]at J|-;rw[Nat.min_eq_left (by omega),show off+n+(k-(off+(a.eval v).cells.size))=k from by omega,Array.getElem?_toList]
   .exact h.elim
  .exact h.elim
 .exact h.elim
theorem AO.ze(h:AO F0 w0 U a w G){cs:List AN}(J:U.get s=.bx cs):Bm F0 w0 ((s,.tv (.pt (cs.map (·.t))))::U) a w:=by
 have hsz:s<a.tmps.size:=Ba h J (by simp);have E:=AW h J (by simp);have hw:=h.wf s;rw[J]at hw;simp only[AK]at E;obtain⟨b,c,T,h1,h2,h3,W,h5⟩:=E
 let D:BP:=IU G s (fun _=>none)
 have l:∀p i B lo,D p i=some (B,lo)->p≠s/\G p i=some (B,lo):=by
  intro p i B lo m;by_cases g:p=s
  .grind[Bq]
  .simp[D,A9 _ _ _ _ g]at m;exact⟨g,m⟩
 have H:BY w w (AS w0.heap.size F0 G) (AS w0.heap.size F0 D):=fun B o v X Y=>⟨X,fun L=>Y (AS.mono (fun p i Z lo m=>⟨p,i,lo,(l _ _ _ _ m).2,az _⟩) L)⟩;refine⟨D,fun p i p' i' B lo lo' C M=>h.ne _ _ _ _ _ _ _ (l _ _ _ _ C).2 (l _ _ _ _ M).2,fun p i B lo C=>h.lt _ _ _ _ (l _ _ _ _ C).2,h.below,h.defers,fun p m=>?_,fun p m=>?_,fun p=>?_⟩
 .rw[AB.d4,ae (by omega)];exact h.dom p m
 .rw[AB.d4];by_cases g:s=p
  .subst g;rw[a6 rfl,h1];simp only[AK,Ah];refine⟨b,0,rfl,?_⟩;rw[IA];intro i t O;rw[List.getElem?_map]at O;simp at O;obtain⟨cell,A,rfl⟩:=O;obtain⟨x,hx,I⟩:=h5 i cell A;refine⟨x,?_,?_,GU I,B5 H _ _ (Uz h I)⟩
   .rw[Nat.zero_add,cell_of_row w b i c T (0,0) h2];exact hx
   .rintro(⟨C,R⟩|⟨p,j,lo,C,_⟩)
    .exact(h.lt _ _ _ _ W).2.elim (fun e=>by omega) (fun e=>h.below.free _ 0 _ (e 0 (Nat.zero_le 0)) R)
    .obtain⟨M,e3⟩:=l _ _ _ _ C;exact M (h.ne _ _ _ _ _ _ _ e3 W).1
  .rw[ae g];refine AK.kept H (fun i=>by simp[D];rw[A9 _ _ _ _ (fun e=>g e.symm)]) (fun _ _ _ _=>rfl) (Kd rfl fun q hq=>by simp[D];rw[A9 _ _ _ _ (by omega)]) BD.rfl' (fun r i k E⟨N,u⟩=>⟨⟨N,(AB.ws (by simp) u).2⟩,fun _ hv=>hv⟩) (fun r off E⟨cs',V⟩=>?_) (fun r i E⟨N,u⟩=>⟨⟨N,(AB.t5 (by simp) (by simp) u).2⟩,fun _ hv=>hv⟩) (h.slots p m)
   grind [AB.d4]
 .rw[AB.d4];split
  .grind[EV.WF,TV.WF,Bj]
  .exact h.wf p
theorem VO{w:World}{F g:Nat->Nat->Prop}{z:Option (Nat×Nat)}{j:Fq}{x:Value}(h:PW w F z n j x)(k:BY w w F g)(l:∀b lo o,z=some (b,lo)->¬g b o):Ah w g (.list n j) x:=by
 obtain ⟨ys,⟨p,q,u⟩,A,B,C⟩:=h;have e:Bi w g p (.list n j) x:=⟨ys,q,Ak k _ _ A,B,C⟩;exact e.zw fun b lo o m _=>l b 0 o (by rw[u,m];rfl)
theorem AO.zk(h:AO F0 w0 U a w G){cs:List AN}(hs:U.get s=.bx cs):Bm F0 w0 ((s,.bx (cs.map AN.rel))::U) a w:=by
 classical
 have hsz:s<a.tmps.size:=Ba h hs (by simp);have hr:=AW h hs (by simp);have hw:=h.wf s;rw[hs]at hw;simp only[AK]at hr;obtain⟨b,c,T,h1,h2,h3,h4,h5⟩:=hr
 let zs:Option Nat->Option (Nat×Nat):=fun i=>match i with
  |none=>G s none|some k=>match cs[k]? with
   |some ⟨true,.xl n es⟩=>(G s (some k)).map fun p=>(p.1,es.length*n)|some ⟨true,.xn es⟩=>(G s (some k)).map fun p=>(p.1,es.length*1)|_=>G s (some k)
 let Q:Nat->Prop:=fun p=>a.tmps.size<=p/\∃k lo,G s (some k)=some (p-a.tmps.size,lo)
 let D:BP:=fun p=>if p=s then zs else if Q p then fun _=>none else G p
 have W:D s=zs:=by simp[D]
 have I:∀p i E lo,D p i=some (E,lo)->∃C,G p i=some (E,C)/\C<=lo:=by
  intro p i E lo m;by_cases B:p=s
  .subst B;rw[W]at m;cases i with
   |none=>exact⟨lo,m,az _⟩|some k=>
    simp [zs]at m;split at m
    .rename_i n es hk;obtain⟨x,_,xs,⟨z0,_,L⟩,_⟩:=h5 k _ hk;simp only[L,Option.map_map,Option.map_eq_some_iff,Function.comp,Prod.mk.injEq]at m;obtain⟨p,m,q,u⟩:=m;exact⟨0,by rw[L,m,<-q];rfl,Nat.zero_le _⟩
    .rename_i es hk;obtain⟨x,_,xs,⟨z0,_,L⟩,_⟩:=h5 k _ hk;simp only[L,Option.map_map,Option.map_eq_some_iff,Function.comp,Prod.mk.injEq]at m;obtain⟨p,m,q,u⟩:=m;exact⟨0,by rw[L,m,<-q];rfl,Nat.zero_le _⟩
    .exact⟨lo,m,az _⟩
  .simp[D,ae B]at m;split at m
   .cases m
   .exact⟨lo,m,az _⟩
 have M:BY w w (AS w0.heap.size F0 G) (AS w0.heap.size F0 D):=fun E o v hc hF=>⟨hc,fun hF'=>hF (AS.mono (fun p i b'' lo m=>by
  obtain ⟨C,q,u⟩:=I _ _ _ _ m;exact⟨p,i,C,q,u⟩) hF')⟩
 have hrow:∀k g j E lo o,G s (some k)=some (g,0)->wk a G g j=some (E,lo)->¬AS w0.heap.size F0 D E o:=by
  intro k g j E lo o L hρ;rintro(⟨q,u⟩|⟨p,i,lo',q,u⟩)
  .exact(h.lt _ _ _ _ hρ).2.elim (fun e=>by omega) (fun e=>h.below.free _ lo _ (e lo (az _)) u)
  .obtain⟨C,e3,_⟩:=I _ _ _ _ q;obtain⟨rfl,_⟩:=h.ne _ _ _ _ _ _ _ hρ e3;simp[D]at q;rw[ae (by omega),a6 ⟨by omega,k,0,by rw[Nat.add_sub_cancel_left];exact L⟩]at q;cases q
 have hrel:∀{k:Nat}{d:AN}{x:Value},cs[k]?=some d->BA w (AS w0.heap.size F0 G) (wk a G) (G s (some k)) d x->BA w (AS w0.heap.size F0 D) (wk a D) (zs (some k)) d.rel x:=by
  intro k d x hk hd;have N:zs (some k)=match d with
   |⟨true,.xl n es⟩=>(G s (some k)).map fun p=>(p.1,es.length*n)|⟨true,.xn es⟩=>(G s (some k)).map fun p=>(p.1,es.length*1)|_=>G s (some k):=by
   simp only[zs,hk];obtain⟨o,t⟩:=d;cases o<;>cases t<;>rfl
  generalize hzz:zs (some k)=z' at N;unfold AN.rel;split
  .rename_i n es;subst N;obtain⟨xs,⟨z0,Y,k2⟩,k3,k4,k5⟩:=hd;refine⟨xs,?_,Ak M _ _ k3,k4,k5⟩;have:(G s (some k)).map (fun p=>(p.1,es.length*n))=z0:=by
    rw [k2];rcases Y.2 with⟨_,_,e⟩|⟨g,cap,cur,e,_,_,_,_,_,_,e⟩
    .rw[e];rfl
    .rw[e];rfl
   show FW w n x es.length xs ((G s (some k)).map fun p=>(p.1,es.length*n));rw[this];exact Y
  .rename_i es;subst N;obtain⟨xs,⟨z0,Y,k2⟩,k3,k4⟩:=hd;have hlen:xs.length=es.length:=by have:=Y.1;omega
   have hone:∀e∈es,e.cells.length=1:=by
    intro e he;obtain⟨j,hj⟩:=List.getElem?_of_mem he;obtain⟨g,x,n,Z,_,_,rfl,_⟩:=k4 j e hj;rfl
   have hfm:∀(l:Fq),(∀e∈l,∃n Z,e=TV.list n Z)->l.flatMap TV.cells=l:=by
    intro l
    induction l with
    |nil=>intro _;rfl|cons e l ih=>
     intro hl;obtain⟨n,Z,rfl⟩:=hl e (by simp);rw[List.flatMap_cons,ih (fun e he=>hl e (by simp[he]))];rfl
   refine ⟨xs,?_,?_,hone,k3⟩
   .have:(G s (some k)).map (fun p=>(p.1,es.length*1))=z0:=by
     rw [k2];rcases Y.2 with⟨_,_,e⟩|⟨g,cap,cur,e,_,_,_,_,_,_,e⟩
     .rw[e];rfl
     .rw[e];rfl
    show FW w 1 x es.length xs ((G s (some k)).map fun p=>(p.1,es.length*1));rw[this];exact Y
   .rw[hfm es fun e he=>by
     obtain ⟨j,hj⟩:=List.getElem?_of_mem he;obtain⟨g,x,n,Z,_,_,rfl,_⟩:=k4 j e hj;exact⟨_,_,rfl⟩]
    rw [BZ];refine⟨hlen,fun j e y hj hy=>?_⟩;obtain⟨g,x,n,Z,q,u,rfl,e4⟩:=k4 j e hj;rw[hy]at u;cases u;exact VO e4 M fun E lo o hb=>hrow k g j E lo o q hb
  .rename_i hne R;have:z'=G s (some k):=by
    rw [N];split
    .exact absurd rfl (hne _ _)
    .exact absurd rfl (R _)
    .rfl
   rw [this];have hd2:=hd.kept M (fun _ _ _=>rfl) BD.rfl';obtain⟨o,t⟩:=d;cases o
   .exact hd2
   .cases t<;>first|exact hd2|exact absurd rfl (R _)
 refine ⟨D,fun p i p' i' E lo lo' q u=>?_,fun p i E lo q=>?_,h.below,h.defers,fun p m=>?_,fun p m=>?_,fun p=>?_⟩
 .obtain⟨_,f1,_⟩:=I _ _ _ _ q;obtain⟨_,f2,_⟩:=I _ _ _ _ u;exact h.ne _ _ _ _ _ _ _ f1 f2
 .obtain⟨C,f1,f2⟩:=I _ _ _ _ q;exact⟨(h.lt _ _ _ _ f1).1,(h.lt _ _ _ _ f1).2.imp id fun k o ho=>k o (Nat.le_trans f2 ho)⟩
 .rw[AB.d4,ae (by omega)];exact h.dom p m
 .rw[AB.d4];by_cases B:s=p
  .subst B;rw[a6 rfl,h1];simp only[AK];refine⟨b,c,T,rfl,h2,by simpa using h3,by rw[W];exact h4,fun i d hd=>?_⟩;rw[List.getElem?_map]at hd;simp at hd;obtain⟨V,O,rfl⟩:=hd;obtain⟨x,hx,hc⟩:=h5 i V O;refine⟨x,hx,?_⟩;rw[W];exact hrel O hc
  .rw[ae B];have hGp:∀i,D p i=G p i:=fun i=>by
    simp [D];rw[ae (fun e=>B e.symm),ae (fun e=>by have:=e.1;omega)]
   refine AK.kept' M hGp (fun _ _ _ _=>rfl) (fun i g lo j L=>?_) (fun _=>BD.spot BD.rfl') (fun r i k hr⟨X,A⟩=>?_) (fun r off hr⟨cs',H⟩=>?_) (fun r i hr⟨X,A⟩=>?_) (h.slots p m)
   .simp[wk,D];rw[ae (by omega),ae];rintro⟨_,k,lo',e⟩;rw[Nat.add_sub_cancel_left]at e;exact B (h.ne _ _ _ _ _ _ _ e L).1
   .by_cases J:s=r
    .subst J;exfalso;obtain⟨cs',q,u⟩:=AB.wd A;rw[AB.d4,a6 rfl]at q;cases q;rw[List.getElem?_map]at u;simp at u;obtain⟨V,_,e3⟩:=u;obtain⟨o,t⟩:=V;cases o<;>cases t<;>simp[AN.rel]at e3
    .rw[AB.wO J]at A;exact⟨⟨X,A⟩,fun v hv=>hv⟩
   .rw[AB.d4]at H;split at H
    .rename_i e;subst e;exact⟨⟨cs,hs⟩,rfl⟩
    .exact⟨⟨cs',H⟩,rfl⟩
   .by_cases J:s=r
    .subst J;exfalso;cases i with
     |none=>simp[AB.tl,AB.d4]at A|some k=>
      obtain ⟨cs',q,u⟩:=AB.wa (n:=X.1) (es:=X.2) A;rw[AB.d4,a6 rfl]at q;cases q;rw[List.getElem?_map]at u;simp at u;obtain⟨V,_,e3⟩:=u;obtain⟨o,t⟩:=V;cases o<;>cases t<;>simp[AN.rel]at e3
    .have:U.tl r i=some X:=by
      rw [<-A];exact(AB.wR (by rw[AB.d4,ae J])).symm
     exact ⟨⟨X,this⟩,fun v hv=>hv⟩
 .rw[AB.d4];split
  .intro d hd;obtain⟨V,O,rfl⟩:=List.mem_map.1 hd;have:=hw V O;obtain⟨o,t⟩:=V;cases o<;>cases t<;>exact this
  .exact h.wf p
end
end Go.Sf
namespace Go.Sf
open Go.RowKit (Below)
section
variable{P:Program}{S:FuncId->Fq->Am->Prop}{F0:Nat->Nat->Prop}{w0:W0}{U:AB}{a:Act}{w:World}{G:BP}{d:Nat}{o:Oper}{K:EV->AB->Prop}
variable{s off b:Nat}
theorem AO.xL(h:AO F0 w0 U a w G){cs:List AN}(X:U.get s=.bx cs){t:TV}(Z:cs[off]?=some ⟨true,t⟩)(hd:d<a.tmps.size)(hsl:slot a s=.pointer (some ⟨b,0,none⟩)){x:Value}(hx:w.cell? ⟨b,off,none⟩=some x){e:EV}{t':TV}(u:(e=.ow t/\t'=t/\t.xh=false)\/(∃n es,t=.xl n es/\e=.xo n es/\t'=.undef/\U.f0 d=true)\/∃es,t=.xn es/\e=.xn es/\t'=.undef/\U.f0 d=true):
  Bm F0 w0 ((d,e)::(s,.bx (cs.set off ⟨false,t'⟩))::U) (a.put (some d) x) w:=by
 have H:=AW h X (by simp);have hw:=h.wf s;rw[X]at hw;simp only[AK]at H;obtain⟨O,c,T,W,N,h3,h4,h5⟩:=H;rw[hsl]at W;simp at W;subst W;obtain⟨x',hx',g⟩:=h5 off _ Z;have M:x'=x:=by
  rw [cell_of_row w b off c T (0,0) N]at hx
  grind
 subst M;simp[BA]at g
 let J:BP:=fun p i=>if p=d then(if i=none then G s (some off)else none)else if p=s/\i=some off then none else G p i
 have R:∀p i O lo,J p i=some (O,lo)->(p=d/\i=none/\G s (some off)=some (O,lo))\/(p≠d/\¬(p=s/\i=some off)/\G p i=some (O,lo)):=by
  grind
 have A:BY w w (AS w0.heap.size F0 G) (AS w0.heap.size F0 J):=fun O o v Z hF=>⟨Z,fun hF'=>hF (AS.mono (fun p i b'' lo Y=>by
  grind) hF')⟩
 have C:wk (a.put (some d) x') J=wk a G:=Kd (Bc _ _ _) fun q hq=>by
  have hsz:s<a.tmps.size:=Ba h X (by simp)
  grind
 refine ⟨J,?_,?_,h.below,by rw[EY];exact h.defers,?_,?_,?_⟩
 .intro p i p' i' O lo lo' I e2;rcases R _ _ _ _ I with⟨rfl,rfl,f1⟩|⟨n1,n2,f1⟩<;>rcases R _ _ _ _ e2 with⟨rfl,rfl,f2⟩|⟨m1,m2,f2⟩
  .exact⟨rfl,rfl⟩
  .exact absurd ((h.ne _ _ _ _ _ _ _ f1 f2).imp Eq.symm Eq.symm) m2
  .exact absurd (h.ne _ _ _ _ _ _ _ f1 f2) n2
  .exact h.ne _ _ _ _ _ _ _ f1 f2
 .intro p i O lo I;rcases R _ _ _ _ I with⟨_,_,I⟩|⟨_,_,I⟩<;>exact h.lt _ _ _ _ I
 .intro p Y;rw[Bc]at Y;have hsz:s<a.tmps.size:=Ba h X (by simp);rw[AB.d4,ae (by omega),AB.d4,ae (by omega)];exact h.dom p Y
 .intro p Y;rw[Bc]at Y;rw[AB.d4];by_cases D:d=p
  .subst D;rw[a6 rfl,Ce _ _ _ hd];rcases u with⟨rfl,rfl,hxl⟩|⟨n,es,rfl,rfl,rfl,_⟩|⟨es,rfl,rfl,rfl,_⟩
   .simp[AK,J];exact(g.own hxl).kept A (fun _ _ _=>rfl)
   .have:=g.kept A (fun _ _ _=>rfl) BD.rfl';simp[D0]at this;simp[AK,J];exact this
   .have:=g.kept A (fun _ _ _=>rfl) BD.rfl';simp[D0]at this;simp[AK];rw[C];simp[J];exact this
  .rw[ae D,AV _ _ _ _ D,AB.d4];by_cases V:s=p
   .subst V;rw[a6 rfl];have hsd:¬s=d:=fun e=>D e.symm;simp only[AK];refine⟨b,c,T,hsl,N,by simpa using h3,by simp only[J];rw[ae hsd,ae (by simp)];exact h4,fun i y B=>?_⟩;rw[List.getElem?_set]at B;by_cases hi:off=i
    .subst hi;rw[a6 rfl]at B;split at B
     .simp at B;subst B;refine⟨x',hx',?_,Nl g⟩;rcases u with⟨rfl,rfl,hxl⟩|⟨n,es,rfl,rfl,rfl,_⟩|⟨es,rfl,rfl,rfl,_⟩
      .exact B5 A _ _ (D0.zw g (fun b lo o hz ho=>Nn h b lo o hz ho))
      .exact Nl g
      .exact Nl g
     .cases B
    .rw[ae hi]at B;obtain⟨v,I,e2⟩:=h5 i y B;refine⟨v,I,?_⟩;simp[J];rw[ae hsd,ae (by rintro⟨_,e⟩;exact hi (by simpa using e.symm)),C];exact e2.kept A (fun _ _ _=>rfl) BD.rfl'
   .rw[ae V];refine AK.kept A (fun i=>by simp[J];rw[ae (fun e=>D e.symm),ae (fun e=>V e.1.symm)]) (fun _ _ _ _=>rfl) C BD.rfl' (fun r i k H⟨pp,l⟩=>?_) (fun r off' H⟨cs',m⟩=>?_) (fun r i H⟨pp,l⟩=>?_) (h.slots p Y)
    .by_cases j:d=r
     .subst j;obtain⟨cs',I⟩:=AB.xy l;rcases u with⟨rfl,_⟩|⟨n,es,_,rfl,_⟩|⟨es,_,rfl,_⟩<;>cases I
     .rw[AB.wO j]at l;have E:∃p,U.nat r i=some p:=by
       grind [AB.wd,AB.d4,AB.nat,AB.wO]
      exact ⟨E,h.nh E (AV _ _ _ _ j) (fun _ _ _ _=>rfl)⟩
    .rw[AB.d4]at m;by_cases j:d=r
     .rw[a6 j]at m;rcases u with⟨rfl,_⟩|⟨n,es,_,rfl,_⟩|⟨es,_,rfl,_⟩<;>cases m
     .rw[ae j,AB.d4]at m;refine⟨?_,AV _ _ _ _ j⟩;split at m
      .rename_i L;subst L;exact⟨cs,X⟩
      .exact⟨_,m⟩
    .by_cases j:d=r
     .subst j;rcases u with⟨rfl,_⟩|⟨n,es,_,rfl,_,hno⟩|⟨es,_,rfl,_⟩
      .exact absurd rfl (AB.t5 (by simp) (by simp) l).1
      rotate_left
      .exact absurd rfl (AB.t5 (by simp) (by simp) l).1
      .have M:=AB.xM d U hno p;rcases H with H|⟨c,H⟩
       .exact absurd H (M.1 i)
       .exact absurd H (M.2 i c)
     .rw[AB.wJ j]at l;have E:∃p,U.tl r i=some p:=by
       by_cases L:s=r
       .subst L;obtain⟨n,es⟩:=pp;cases i with
        |none=>have:=AB.wj l;rw[AB.d4,a6 rfl]at this;cases this
        |some k=>
         obtain ⟨cs'',W,N⟩:=AB.wa l;rw[AB.d4,a6 rfl]at W;simp[EV.bx.injEq]at W;subst W;rw[List.getElem?_set]at N;split at N
         .split at N<;>simp at N
         .exact⟨(n,es),by simp[AB.tl,X,N]⟩
       .rw[AB.wJ L]at l;exact⟨pp,l⟩
      exact ⟨E,h.xv E (AV _ _ _ _ j) (fun _ _=>rfl)⟩
 .intro p;rw[AB.d4];split
  .have:=hw _ (List.mem_of_getElem? Z);rcases u with⟨rfl,_⟩|⟨n,es,rfl,rfl,_⟩|⟨es,rfl,rfl,_⟩
   .exact this
   .exact this
   .exact this
  .rw[AB.d4];split
   .intro y B;rcases List.mem_or_eq_of_mem_set B with B|rfl
    .exact hw y B
    .rcases u with⟨_,rfl,_⟩|⟨n,es,_,_,rfl,_⟩|⟨es,_,_,rfl,_⟩
     .exact(hw ⟨true,_⟩ (List.mem_of_getElem? Z):_)
     .trivial
     .trivial
   .exact h.wf p
variable{x:Operand}{t:TypeId}
theorem j6(k:AO F0 w0 U a w G)(hd:d<a.tmps.size){x':AF}(l:o.op=.load t x)(A:AI x x'=true)(B:Bv P t=some false)(h:(AE.zL x').wp S U (some d) K):Ax P F0 w0 a w o d K:=by
 simp [AE.wp]at h;split at h
 .rename_i s off C;split at h
  .rename_i cs m;split at h
   .rename_i n es q;obtain⟨b,g,j⟩:=Gn k A C m;have u:=AW k m (by simp);simp only[AK]at u;obtain⟨I,c,T,p,D,J,L,E⟩:=u;rw[g]at p;simp at p;subst p;obtain⟨y,H,_⟩:=E off _ q;have e:w.cell? ⟨b,off,none⟩=some y:=by rw[cell_of_row w b off c T (0,0) D];exact H
    exact ⟨y,w,by simp[execOp,l,j,Instr.loadAt,Instr.sureAddr,loadVar,Cc B,e],_,_,h,k.xL m q hd g e (.inl ⟨rfl,rfl,rfl⟩)⟩
   .exact h.elim
  .exact h.elim
 .exact h.elim
end
abbrev DM:=Nat->Option Nat->Option (Nat×Nat)
def DM.wk(Z:DM):G6:=fun g j=>Z (g+1) (some j)
def ZF(Z:DM)(b o:Nat):Prop:=∃q i lo,Z q i=some (b,lo)/\lo<=o
def IW(Z:DM):Prop:=∀q i q' i' b lo lo',Z q i=some (b,lo)->Z q' i'=some (b,lo')->q=q'/\i=i'
def VX(w:World)(F:Nat->Nat->Prop)(Z:DM)(cs:List AN)(v:Value):Prop:=
 ∃vs:Array Value,v=.agg vs/\vs.size=cs.length/\∀(i:Nat)(d:AN),cs[i]?=some d->∃x,vs[i]?=some x/\BA w F Z.wk (Z 0 (some i)) d x/\x.oneCell'=true
def QZ(w:World)(F N:Nat->Nat->Prop)(cs:List AN)(v:Value):Prop:=
 ∃Z:DM,VX w (fun b o=>F b o\/ZF Z b o) Z cs v/\IW Z/\Z 0 none=none/\∀q i b lo,Z q i=some (b,lo)->b<w.heap.size/\N b lo
def Ht(w':World)(F:Nat->Nat->Prop)(base:Nat):Am->Value->Prop
 |.sh t,v=>Ah w' F t v|.own t,v=>∃z,Bi w' (fun b o=>F b o\/∃lo,z=some (b,lo)/\lo<=o) z t v/\∀b lo,z=some (b,lo)->base<=b/\b<w'.heap.size|.tp ts,v=>∃vs,v=.tuple vs/\AQ w' F ts vs.toList|.x5 n es,v=>∃z xs,FW w' n v es.length xs z/\AQ w' (fun b o=>F b o\/∃lo,z=some (b,lo)) (es.flatMap TV.cells) xs/\(∀e∈es,e.cells.length=n)/\(∀x∈xs,x.oneCell'=true)/\∀b lo,z=some (b,lo)->base<=b/\b<w'.heap.size|.wQ cs,v=>QZ w' F (fun b _=>base<=b) cs v|.mpr kvs ts,v=>∃(b:Nat)(vs:List Value),v=.tuple (Value.map (some b)::vs).toArray/\base<=b/\b<w'.heap.size/\Vc w' b kvs/\AQ w' F ts vs|_,_=>False
def DO(P:Program)(f:FuncId):Bool:=
 match P.funcs[f]? with
 |some fn=>fn.name != "runtime.NumGoroutine" && fn.body.isSome
 |none=>false
def Vf(P:Program)(f:FuncId)(args:Fq)(r:Am):Prop:=
 TV.tn args->DO P f=true/\∀(F0:Nat->Nat->Prop)(w:World)(vs:Array Value),AQ w F0 args vs.toList->Rv w ->
  r.WF/\Calls P f vs w fun e w'=>∃v,e=.returned v/\Below w.heap.size w w'/\Ht w' (fun b o=>b<w.heap.size/\F0 b o) w.heap.size r v
def PT(z:Option (Nat×Nat))(w w':World):Prop:=
 w'.os=w.os/\w'.tape=w.tape/\w'.output=w.output/\w.heap.size<=w'.heap.size/\∀k,k<w.heap.size->(∀lo,z≠some (k,lo))->w'.heap[k]?=w.heap[k]?
def Ow(w:World)(F:Nat->Nat->Prop):Fq->Value->Prop
 |[t],v=>Ah w F t v|us,v=>∃vs,v=.tuple vs/\AQ w F us vs.toList
def uV(P:Program)(f:FuncId)(args:Fq)(zs':Fp)(us:Fq):Prop:=
 ∃(zs:Fp)(ts:Fq),args=.list 1 (zs.map (TV.int .i64))::ts/\DO P f=true/\TV.wv us=true/\
  ∀(F0:Nat->Nat->Prop)(w:World)(v:Value)(vs:List Value)(z:Option (Nat×Nat)),(TV.list 1 (zs.map (TV.int .i64))).WF->TV.tn ts->I6 w 1 v zs.length (zs.map (Value.int .i64)) z->AQ w F0 ts vs->(∀b lo o,z=some (b,lo)->lo<=o->F0 b o)->(∀b lo,z=some (b,lo)->b<w.heap.size/\aI<=b)->Rv w ->
   Calls P f (v::vs).toArray w fun e w'=>(zs'.length=zs.length/\(Am.turn zs' us).WF)/\(∃r,e=.returned r/\Ow w' (fun _ _=>False) us r)/\I6 w' 1 v zs.length (zs'.map (Value.int .i64)) z/\PT z w w'
def uQ(P:Program)(f:FuncId)(args:Fq)(zs':Fp):Prop:=
 ∃zs:Fp,args=[.list 1 (zs.map (TV.int .i64))]/\DO P f=true/\((TV.list 1 (zs.map (TV.int .i64))).WF->(TV.list 1 (zs'.map (TV.int .i64))).WF)/\
  ∀(w:World)(v:Value)(z:Option (Nat×Nat)),I6 w 1 v zs.length (zs.map (Value.int .i64)) z ->
   Calls P f #[v] w fun e w'=>∃v',e=.returned v'/\I6 w' 1 v' zs'.length (zs'.map (Value.int .i64)) z/\PT z w w'
def MY(w:World)(F:Nat->Nat->Prop)(Z:DM)(cs:List AN)(v:Value):Prop:=
 ∃b c T,v=.pointer (some ⟨b,0,none⟩)/\w.heap[b]?=some (.cells c T (0,0))/\c.size=cs.length/\Z 0 none=some (b,0)/\∀(i:Nat)(d:AN),cs[i]?=some d->∃x,c[i]?=some x/\BA w F Z.wk (Z 0 (some i)) d x
structure GI(Z:DM)(w w':World):Prop where
 os:w'.os=w.os
 tape:w'.tape=w.tape
 output:w'.output=w.output
 size:w.heap.size<=w'.heap.size
 block:∀k,k<w.heap.size->(∀q i lo,Z q i≠some (k,lo))->w'.heap[k]?=w.heap[k]?
 cell:∀b o u,¬ZF Z b o->w.cell? ⟨b,o,none⟩=some u->w'.cell? ⟨b,o,none⟩=some u
def uR(P:Program)(f:FuncId)(args us:Fq):Prop:=
 TV.tn args->(TV.wv us=true/\TV.tn us)/\∀(w:World)(vs:Array Value),AQ w (fun _ _=>False) args vs.toList->∃r:Array Value,(callFunc f vs).run P w=.ok (.value (.tuple r)) w/\AQ w (fun _ _=>False) us r.toList
def uP(P:Program)(f:FuncId)(args:Fq)(cs cs':List AN)(i:Nat)(us:Fq):Prop:=
 TV.tn args->(∀c∈cs,c.t.WF)->DO P f=true/\∀(F0:Nat->Nat->Prop)(w:World)(vs:Array Value)(v:Value)(Z:DM),
  AQ w (fun b o=>F0 b o\/ZF Z b o) args vs.toList->vs[i]?=some v->MY w (fun b o=>F0 b o\/ZF Z b o) Z cs v ->
  IW Z->(∀q i b lo,Z q i=some (b,lo)->b<w.heap.size)->(∀b o o',ZF Z b o->¬F0 b o')->Wg w (ZF Z) ->
  ((∀c∈cs',c.t.WF)/\TV.tn us)/\Calls P f vs w fun e w'=>∃r Z',e=.returned r/\GI Z w w'/\MY w' (fun b o=>(b<w.heap.size/\F0 b o)\/ZF Z' b o) Z' cs' v/\
   IW Z'/\(∀q i b lo,Z' q i=some (b,lo)->b<w'.heap.size/\(w.heap.size<=b\/∃p j lo',Z p j=some (b,lo')/\lo'<=lo))/\
   Ow w' (fun b o=>(b<w.heap.size/\F0 b o)\/ZF Z' b o) us r
def YM(w':World)(F N:Nat->Nat->Prop):Am->Value->Prop
 |.sh t,v=>Ah w' F t v|.tp ts,v=>∃vs,v=.tuple vs/\AQ w' F ts vs.toList|.wQ cs,v=>QZ w' F N cs v|_,_=>False
def vE(P:Program)(f:FuncId)(args:Fq)(cs:List AN)(i:Nat)(r:Am):Prop:=
 TV.tn args->(∀c∈cs,c.t.WF)->DO P f=true/\∀(F0:Nat->Nat->Prop)(w:World)(vs:Array Value)(v:Value)(Z:DM),
  AQ w (fun b o=>F0 b o\/ZF Z b o) args vs.toList->vs[i]?=some v->VX w (fun b o=>F0 b o\/ZF Z b o) Z cs v ->
  IW Z->(∀q i b lo,Z q i=some (b,lo)->b<w.heap.size)->(∀b o o',ZF Z b o->¬F0 b o')->Wg w (ZF Z) ->
  r.WF/\Calls P f vs w fun e w'=>∃v',e=.returned v'/\GI Z w w'/\YM w' (fun b o=>b<w.heap.size/\F0 b o) (fun b lo=>w.heap.size<=b\/∃p j lo',Z p j=some (b,lo')/\lo'<=lo) r v'
def AR(P:Program)(f:FuncId)(args:Fq)(r:Am):Prop:=
 match r with
 |.turn zs us=>uV P f args zs us|.cut zs=>uQ P f args zs|.bo cs cs' i us=>uP P f args cs cs' i us|.ext us=>uR P f args us|.ag cs i r=>vE P f args cs i r|r=>Vf P f args r
variable{f:FuncId}{r:Am}
theorem AR.to0{P:Program}{args:Fq}(h:AR P f args r)(e:r.plain=true):Vf P f args r:=by
 cases r<;>first|exact h|cases e
theorem AR.of0{P:Program}{args:Fq}(h:Vf P f args r)(e:r.plain=true):AR P f args r:=by
 cases r<;>first|exact h|cases e
section
variable{P:Program}{F0:Nat->Nat->Prop}{w0:W0}{U:AB}{a:Act}{w:World}{G:BP}{d:Nat}{o:Oper}{K:EV->AB->Prop}
variable{ρ:G6}
theorem aS{F k:Nat->Nat->Prop}{z:Option (Nat×Nat)}{c:AN}{x:Value}(h:BA w F ρ z c x)(q:BY w w F k)(C:∀b lo o,z=some (b,lo)->¬k b o)(Z:∀g lo j b u o,z=some (g,lo)->ρ g j=some (b,u)->¬k b o):Ah w k c.rel.t x:=by
 obtain ⟨_|_,t⟩:=c
 .exact B5 q _ _ h.1
 .by_cases E:∃n es,t=.xl n es
  .obtain⟨n,es,rfl⟩:=E;exact VO (h:PW w F z n es x) q C
  .by_cases H:∃es,t=.xn es
   .obtain⟨es,rfl⟩:=H;obtain⟨xs,⟨O,J,R⟩,V,W⟩:=(h:E1 w F ρ z es x);have I:xs.length=es.length:=by have:=J.1;omega
    have m:∀e∈es,e.cells.length=1:=by
     intro e he;obtain⟨j,X⟩:=List.getElem?_of_mem he;obtain⟨g,x,n,A,_,_,rfl,_⟩:=W j e X;rfl
    have B:∀(l:Fq),(∀e∈l,∃n A,e=TV.list n A)->l.flatMap TV.cells=l:=by
     intro l
     induction l with
     |nil=>intro _;rfl|cons e l Y=>
      intro D;obtain⟨n,A,rfl⟩:=D e (by simp);rw[List.flatMap_cons,Y (fun e he=>D e (by simp[he]))];rfl
    have p:Bi w k O (.list 1 es) x:=by
     refine ⟨xs,J,?_,m,V⟩;rw[B es fun e he=>by
      grind [List.getElem?_of_mem]]
     grind [BZ,VO]
    exact p.zw fun b lo o L _=>C b 0 o (by rw[R,L];rfl)
   .have M:D0 w F ρ z t x:=h;have N:(AN.mk true t).rel=⟨true,t⟩:=by
     cases t<;>first|rfl|exact absurd ⟨_,_,rfl⟩ E|exact absurd ⟨_,rfl⟩ H
    rw [N];have h3:=M.kept q (fun _ _ _=>rfl) BD.rfl'
    grind [D0.zw]
variable{r:Am}{v:Value}
theorem AO.called(h:AO F0 w0 U a w G)(hd:d<a.tmps.size){w':World}(C:Below w.heap.size w w')(J:r.plain=true)(m:Ht w' (fun b o=>b<w.heap.size/\AS w0.heap.size F0 G b o) w.heap.size r v)(D:r.WF):
  Bm F0 w0 ((d,r.ev)::U) (a.put (some d) v) w':=by
 have old:∀(L:Option Nat->Option (Nat×Nat))b o,AS w0.heap.size F0 (IU G d L) b o->(b<w.heap.size/\AS w0.heap.size F0 G b o)\/∃i lo,L i=some (b,lo)/\lo<=o:=by
  intro L b o hf;rcases hf with k|⟨s,i,lo,k,q⟩
  .exact .inl ⟨Nat.lt_of_lt_of_le k.1 h.below.size,.inl k⟩
  .by_cases R:s=d
   .subst R;rw[Bq]at k;exact .inr ⟨i,lo,k,q⟩
   .rw[A9 _ _ _ _ R]at k;exact .inl ⟨(h.lt _ _ _ _ k).1,.inr ⟨s,i,lo,k,q⟩⟩
 cases r with
 |sh t=>
  refine h.tv C d hd t v (B5 (fun b o u l hf=>⟨l,fun e=>?_⟩) t v m) D;rcases old _ _ _ e with k|⟨i,lo,k,_⟩
  .exact hf k
  .cases k
 |own t=>
  obtain ⟨z,k,q⟩:=m;refine h.ow C d hd t v z q (k.kept (fun b o u l hf=>⟨l,fun e=>hf ?_⟩) (fun _ _ _=>rfl)) D;rcases old _ _ _ e with p|⟨i,lo,p,I⟩
  .exact .inl p
  .split at p
   .exact .inr ⟨lo,p,I⟩
   .cases p
 |tp ts=>
  obtain ⟨vs,k,q⟩:=m;refine⟨_,h.quiet C d hd (.tp ts) v (fun _=>none) (by simp) (by simp) (by simp) ?_ D⟩;simp[AK];refine⟨vs,k,Ak (fun b o u l hf=>⟨l,fun e=>?_⟩) _ _ q⟩;rcases old _ _ _ e with p|⟨i,lo,p,_⟩
  .exact hf p
  .cases p
 |x5 n es=>
  obtain ⟨z,xs,k,q,p,I,X⟩:=m;refine h.ow C d hd (.list n es) v z X ?_ D;simp[Bi];refine⟨xs,k,Ak (fun b o u l hf=>⟨l,fun e=>hf ?_⟩) _ _ q,p,I⟩;rcases old _ _ _ e with A|⟨i,lo,A,h7⟩
  .exact .inl A
  .split at A
   .exact .inr ⟨lo,A⟩
   .cases A
 |wQ cs=>
  obtain ⟨Z,⟨vs,rfl,k,q⟩,p,_,I⟩:=m;have B:AQ w' (fun b o=>b<w.heap.size/\AS w0.heap.size F0 G b o) (cs.map fun c=>c.rel.t) vs.toList/\∀x∈vs.toList,x.oneCell'=true:=by
   refine ⟨?_,?_⟩
   .rw[BZ];refine⟨by simp[k],fun i t x E H=>?_⟩;rw[List.getElem?_map]at E;simp at E;obtain⟨c,l,rfl⟩:=E;obtain⟨y,V,O,_⟩:=q i c l;rw[Array.getElem?_toList,V]at H;simp at H;subst H;refine aS O (fun b o u l hf=>⟨l,fun e=>hf (.inl e)⟩) (fun b lo o W hf=>?_) (fun g lo j b M o W m hf=>?_)
    .grind
    .have:=(I _ _ b M m).2;omega
   .intro x H;obtain⟨i,hi⟩:=List.getElem?_of_mem H;have N:i<cs.length:=by
     grind
    obtain ⟨y,V,_,Y⟩:=q i _ (List.getElem?_eq_getElem N)
    grind
  refine h.tv C d hd (.agg (cs.map fun c=>c.rel.t)) _ ?_ (by
   simp [TV.WF];rw[Bj];intro t E;obtain⟨c,l,rfl⟩:=List.mem_map.1 E;have:=D c l;obtain⟨o',t'⟩:=c;cases o'<;>cases t'<;>exact this)
  simp only[Ah];refine⟨vs,rfl,Ak (fun b o u l hf=>⟨l,fun e=>hf ?_⟩) _ _ B.1,List.all_eq_true.2 B.2⟩;rcases old _ _ _ e with A|⟨i,lo,A,_⟩
  .exact A
  .cases A
 |turn zs=>exact m.elim|cut zs=>exact m.elim|bo _ _ _ _=>exact m.elim|ext _=>exact m.elim|ag _ _ _=>exact m.elim|mpr _ _=>cases J
variable{f:FuncId}
theorem EU(e:DO P f=true)(vs:Array Value):(callFunc f vs).run P w=.ok (.enter f vs) w:=by
 unfold DO at e;cases hf:P.funcs[f]? with
 |none=>rw[hf]at e;cases e
 |some h=>
  rw [hf]at e;simp[bne_iff_ne]at e;have g:¬h.body=none:=by
   grind
  simp [callFunc,hf,e.1,g]
variable{Q:Exit->Act->World->Prop}
theorem Wj(q:AO F0 w0 U a w G)(hd:d<a.tmps.size)(g:o.dst=some d){vs:Array Value}{k:Fq}(h:(execOp a.eval o).run P w=(callFunc f vs).run P w)(l:AR P f k r/\r.plain=true)(m:TV.tn k)(j:AQ w (AS w0.heap.size F0 G) k vs.toList)(A:r.WF->K r.ev U)
  {next:Act->World->Prop}(B:∀e env' a' w',K e env'->PU a d a'->Bm F0 w0 ((d,e)::env') a' w'->next a' w'):o.wp P a w next Q:=by
 obtain ⟨C,p⟩:=l.1.to0 l.2 m;obtain⟨u,p⟩:=p _ w vs j q.below.now;unfold Oper.wp;rw[h,EU C vs,Oper.upon_enter];refine p.mono ?_;rintro e w' ⟨v,rfl,D,E⟩;simp[g];exact B _ _ _ _ (A u) ⟨_,rfl⟩ (q.called hd D l.2 E u)
variable{ys:List AF}{ats:Array TypeId}
theorem gR(m:AO F0 w0 U a w G)(hd:d<a.tmps.size)(j:o.dst=some d){xs:Array Operand}(k:o.op=.call {callee:=.value (.func f),args:=xs,argTypes:=ats})(l:BX xs.toList ys=true)(h:(AE.call f ys).wp (AR P) U (some d) K)
  {next:Act->World->Prop}(p:∀e env' a' w',K e env'->PU a d a'->Bm F0 w0 ((d,e)::env') a' w'->next a' w'):o.wp P a w next Q:=by
 simp [AE.wp]at h;cases g:vals U ys with
 |none=>rw[g]at h;exact h.elim|some A=>
  rw [g]at h;simp[AX]at h;obtain⟨r,q,u⟩:=h;have:=FO m l g;refine Wj m hd j (vs:=xs.map a.eval) ?_ q this.2 (by simpa using this.1) u p;simp[execOp,k,resolve,Act.eval,Deferred.ofValue,invoke]
variable{x:Operand}{y:AF}
theorem eG(j:AO F0 w0 U a w G)(hd:d<a.tmps.size)(g:o.dst=some d){xs:Array Operand}(k:o.op=.call {callee:=.value x,args:=xs,argTypes:=ats})(A:AI x y=true)(l:BX xs.toList ys=true)(h:(AE.ye y ys).wp (AR P) U (some d) K)
  {next:Act->World->Prop}(B:∀e env' a' w',K e env'->PU a d a'->Bm F0 w0 ((d,e)::env') a' w'->next a' w'):o.wp P a w next Q:=by
 simp [AE.wp]at h;split at h
 .rename_i f p J hf m;obtain⟨r,C,D⟩:=h;have q:=Au j A hf;have u:=FO j l m;simp[Ah,TV.WF]at q;obtain⟨⟨cs,E,H⟩,I⟩:=q;refine Wj j hd g (vs:=xs.map a.eval++cs) ?_ C (JV.2 ⟨u.2,I⟩) ?_ D B
  .simp[execOp,k,resolve,E,Deferred.ofValue,invoke]
  .rw[Array.toList_append];exact Ho (by simpa using u.1) H
 .exact h.elim
end
end Go.Sf
