/- Lists that nobody else reads: stores into them, appends, calls that turn them. -/
import Derived.Test.YtfcfkigfmofniaaGreatSfApp
import Derived.Lib.AppendZerosOnto
set_option linter.all false
namespace Go.Sf
open Go.RowKit (Below)
def Rs:Operand->Bool
 |.const v=>L8 v|_=>false
variable{α:Type}
theorem bV{a:Array α}{x:α}(h:a.toList=[x]):a=#[x]:=by
 cases a;simp_all
section flat
variable{w w':World}{F F':Nat->Nat->Prop}
mutual
theorem Ss:∀(t:TV),t.flat=true->∀v,Af w F t v->Af w' F' t v
 |.int _ _,_,_,h=>h|.bool _,_,_,h=>h|.str _,_,_,h=>h|.agg cs,hf,v,h=>by
  have:=GB cs (by simpa[TV.flat]using hf)
  grind [Af]
 |.undef,hf,_,_=>by simp[TV.flat]at hf|.xl _ _,hf,_,_=>by simp[TV.flat]at hf|.nil,hf,_,_=>by simp[TV.flat]at hf|.list _ _,hf,_,_=>by simp[TV.flat]at hf|.pt _,hf,_,_=>by simp[TV.flat]at hf|.zc _ _,hf,_,_=>by simp[TV.flat]at hf
theorem GB:∀(ts:Fq),TV.ye ts=true->∀vs,AP w F ts vs->AP w' F' ts vs
 |[],_,vs,h=>h|t::ts,hf,vs,h=>by
  simp [TV.ye]at hf;simp[AP]at h|-;obtain⟨v,r,g,j,k⟩:=h;exact⟨v,r,g,Ss t hf.1 v j,GB ts hf.2 r k⟩
end
theorem T3:∀(xs ys:Fq),TV.ye (xs++ys)=(TV.ye xs&&TV.ye ys)
 |[],ys=>by simp[TV.ye]|x::xs,ys=>by simp[TV.ye,T3 xs ys,Bool.and_assoc]
theorem bm(t:TV)(h:t.flat=true):TV.ye t.cells=true:=by
 cases t<;>simp_all[TV.flat,TV.cells,TV.ye]
theorem Mb:∀(es:Fq),TV.ye es=true->TV.ye (es.flatMap TV.cells)=true
 |[],_=>rfl|e::es,h=>by
  simp [TV.ye]at h;rw[List.flatMap_cons,T3,bm e h.1,Mb es h.2];rfl
end flat
section
variable{P:Program}{S:FuncId->Fq->Al->Prop}{F0:Nat->Nat->Prop}{w0:W0}{O:AB}{a:Act}{w:World}{G:BH}{d:Nat}{o:Oper}{K:EV->AB->Prop}
variable{q n:Nat}
theorem AB.xat_of_xo{O:AB}{es:Fq}(h:O.get q=.xo n es):O.x4 q none=some (n,es):=by simp[AB.x4,h]
variable{x:Operand}{y:AE}
theorem OL(k:AN F0 w0 O a w G)(g:AK x y=true){p:(Nat×Option Nat)×Nat×Fq}(h:y.ya O=some p):O.x4 p.1.1 p.1.2=some (p.2.1,p.2.2)/\XV a w p.1.1 p.1.2 (a.eval x):=by
 cases y with
 |c t=>simp[AE.ya]at h|s m=>
  have l:x=.tmp m:=by
   cases x<;>simp[AK]at g;rw[g]
  subst l;simp only[AE.ya]at h;split at h
  .rename_i n es he;simp only[tn]at h;subst h;exact⟨by simp only[AB.x4,he],rfl⟩
  .rename_i q i he;split at h
   .rename_i u j;simp only[tn]at h;subst h;have:=AZ k he (by simp);simp only[AL]at this;exact⟨j,this ⟨_,j⟩⟩
   .cases h
  .cases h
variable{i:Option Nat}{v:Value}
theorem Om{es:Fq}(h:AN F0 w0 O a w G)(g:O.x4 q i=some (n,es))(hv:XV a w q i v):
  (TV.list n es).WF/\∃xs,JY w n v es.length xs (G q i)/\AP w (AW w0.heap.size F0 G) (es.flatMap TV.cells) xs/\(∀e∈es,e.cells.length=n)/\∀x∈xs,x.oneCell'=true:=by
 cases i with
 |none=>
  have g:=AB.x6 g;have j:=AZ h g (by simp);have l:=h.wf q;rw[g]at l;simp only[AL]at j;simp only[XV]at hv;rw[hv];exact⟨l,j⟩
 |some k=>
  obtain ⟨cs,u,A⟩:=AB.tl g;have j:=AZ h u (by simp);have l:=h.wf q;rw[u]at l;simp only[AL]at j;obtain⟨b,c,T,D,E,L,M,H⟩:=j;obtain⟨N,c',R,m,B,C⟩:=hv;rw[D]at m;simp only[Value.pointer.injEq,tn,Addr.mk.injEq,and_true,and_self]at m;subst m;rw[E]at B;cases B;obtain⟨x,I,J⟩:=H k _ A;rw[I]at C;cases C;exact⟨l _ (List.mem_of_getElem? A),J⟩
theorem nx{es:Fq}(h:AN F0 w0 O a w G)(k:O.x4 q i=some (n,es))(hv:XV a w q i v):∀b lo,G q i=some (b,lo)->lo=0:=by
 intro b lo g;obtain⟨_,xs,⟨z0,_,j⟩,_⟩:=Om h k hv;rw[j]at g;cases z0 with
 |none=>simp at g|some p=>simp at g;exact g.2.symm
theorem fz{es:Fq}(h:AN F0 w0 O a w G)(u:O.x4 q i=some (n,es))(hv:XV a w q i v)(k:es≠[]):
  ∃g cap j e xs,v=.slice (some ⟨g,0,none⟩) es.length cap/\w.heap[g]?=some (.cells j e (0,0))/\es.length<=cap/\cap<=maxLen/\j.size=cap*n/\j.toList.take (es.length*n)=xs/\G q i=some (g,0)/\AP w (AW w0.heap.size F0 G) (es.flatMap TV.cells) xs/\(∀e∈es,e.cells.length=n)/\(∀x∈xs,x.oneCell'=true)/\xs.length=es.length*n:=by
 obtain ⟨_,xs,⟨z0,m,l⟩,A,B,C⟩:=Om h u hv;rcases m.2 with⟨_,D,_⟩|⟨g,cap,j,e,E,H,I,J,L,M,N⟩
 .exact absurd (List.eq_nil_of_length_eq_zero D) k
 .exact⟨g,cap,j,e,xs,E,H,I,J,L,M,by rw[l,N];rfl,A,B,C,m.1⟩
theorem AN.rexo(h:AN F0 w0 O a w G){es:Fq}(L:O.x4 q i=some (n,es))(hv:XV a w q i v){w':World}(hb:QR (G q i) w w'){es':Fq}{xs':List Value}(M:JY w' n v es'.length xs' (G q i))
  (W:BS w w' (AW w0.heap.size F0 G) (AW w0.heap.size F0 G)->AP w' (AW w0.heap.size F0 G) (es'.flatMap TV.cells) xs')(hn:∀e∈es',e.cells.length=n)(h1:∀x∈xs',x.oneCell'=true)(hw:(TV.list n es').WF):
  AN F0 w0 (O.ym q i n es') a w' G:=by
 obtain ⟨b1,b2,b3,b4,b5⟩:=hb;have hz0:=nx h L hv;have U:BS w w' (AW w0.heap.size F0 G) (AW w0.heap.size F0 G):=by
  intro b o u hc hF;refine⟨?_,hF⟩;have V:b<w.heap.size:=by
   grind [Nat.lt_or_ge,World.cell?,Array.getElem?_eq_none]
  rw [World.cell?_of_block (w:=w) (a:=⟨b,o,none⟩) (b5 b V (fun lo B=>hF (.inr ⟨q,i,lo,B,by rw[hz0 b lo B];exact Nat.zero_le _⟩)))];exact hc
 have I:GX F0 w0 w':=h.below.but b1 b2 b3 b4 (Z:=fun k=>∃lo,G q i=some (k,lo)) (fun b⟨lo,B⟩=>(h.lt _ _ _ _ B).2.imp id (fun e o=>e o (by rw[hz0 b lo B];exact Nat.zero_le _))) (fun k hk B=>b5 k (Nat.lt_of_lt_of_le hk h.below.size) (fun lo e=>B ⟨lo,e⟩));have V:∀s i b lo,G s i=some (b,lo)->b<w'.heap.size/\(w0.heap.size<=b\/∀o,lo<=o->w0.E b o):=fun s i b lo H=>⟨Nat.lt_of_lt_of_le (h.lt s i b lo H).1 b4,(h.lt s i b lo H).2⟩;have hxv:∀r j,(∃m,O.x4 r j=some m)->∀v,XV a w r j v->XV a w' r j v:=by
  intro r j Y;cases j with
  |none=>exact fun v hv=>hv|some k=>
   refine h.xv Y rfl (fun b hb=>b5 b (h.lt _ _ _ _ hb).1 (fun lo B=>?_));obtain⟨rfl,rfl⟩:=h.ns _ _ _ _ _ _ _ B hb;have h1:=AB.x6 L
   grind [AB.tl]
 have hqsz:q<a.tmps.size:=by
  cases i with
  |none=>exact h.lts (by rw[AB.x6 L];simp)|some k=>obtain⟨cs,H,_⟩:=AB.tl L;exact h.lts (by rw[H];simp)
 have hrs:BA w w' (x8 a G):=by
  intro g j b lo hr;exact b5 b (h.lt _ _ _ _ hr).1 (fun lo' B=>h.AaD hqsz B hr rfl)
 have hnh:∀r j,(∃m,O.nat r j=some m)->∀k v,NH a w r j k v->NH a w' r j k v:=by
  intro r j Y k;refine h.nh Y rfl (fun l b hl hb=>b5 b (h.lt _ _ _ _ hb).1 (fun lo B=>?_));obtain⟨rfl,rfl⟩:=h.ns _ _ _ _ _ _ _ B hb;obtain⟨es1,Y⟩:=Y;obtain⟨cs,C,N⟩:=AB.x3 Y;rcases hl with rfl|rfl
  .rw[AB.x6 L]at C;cases C
  grind [AB.tl]
 have oth:∀(p:Nat)(e:EV),p<a.tmps.size->p≠q->(∀j,(∃m,AB.nat ((q,e)::O) q j=some m)->∃m,O.nat q j=some m)->(∀cs,e=.bx cs->∃cs',O.get q=.bx cs')->(∀j,(∃m,AB.x4 ((q,e)::O) q j=some m)->∃m,O.x4 q j=some m)->AL a w' (AW w0.heap.size F0 G) G ((q,e)::O) p (O.get p) (slot a p):=by
  intro p e R hpq hnt hbx hxa;refine AL.kept U (fun _=>rfl) (fun j b lo B=>b5 b (h.lt _ _ _ _ B).1 (fun lo' hz'=>hpq (h.ns _ _ _ _ _ _ _ B hz').1)) rfl hrs (fun r j k _⟨m,A⟩=>?_) (fun r off _⟨cs,hcs⟩=>?_) (fun r j _⟨m,A⟩=>?_) (h.slots p R)
  .have Y:∃m,O.nat r j=some m:=by
    by_cases hqr:q=r
    .subst hqr;exact hnt j ⟨m,A⟩
    grind [AB.yv]
   grind
  .grind[AB.d6]
  .have Y:∃m,O.x4 r j=some m:=by
    by_cases hqr:q=r
    .subst hqr;exact hxa j ⟨m,A⟩
    grind [AB.yq]
   grind
 cases i with
 |none=>
  have L:=AB.x6 L;have hsz:=BU h L (by simp);refine⟨h.ns,V,I,h.defers,fun p R=>?_,fun p R=>?_,fun p=>?_⟩
  .simp only[AB.ym];rw[AB.d6,az (by omega)];exact h.dom p R
  .simp only[AB.ym];rw[AB.d6];by_cases D:q=p
   .subst D;rw[ae rfl];simp only[AL];simp only[XV]at hv;rw[hv]at M;exact⟨xs',M,W U,hn,h1⟩
   .rw[az D];refine oth p _ R (fun e=>D e.symm) (fun j⟨m,A⟩=>by obtain⟨cs,e⟩:=AB.zp A;cases e) (by simp) (fun j⟨m,A⟩=>?_);cases j with
    |none=>exact⟨(n,es),by simp only[AB.x4,L]⟩|some k=>
     obtain ⟨n1,es1⟩:=m;obtain⟨cs,C,_⟩:=AB.tl A;rw[AB.d6,ae rfl]at C;cases C
  .simp only[AB.ym];rw[AB.d6];split
   .exact hw
   .exact h.wf p
 |some k=>
  obtain ⟨cs,H,hk⟩:=AB.tl L;have hsz:=BU h H (by simp);have hwc:=h.wf q;rw[H]at hwc;have hr:=AZ h H (by simp);simp only[AL]at hr;obtain⟨b,c,T,e1,e2,e3,e4,e5⟩:=hr;obtain⟨b',c',T',f1,f2,f3⟩:=hv;rw[e1]at f1;simp only[Value.pointer.injEq,tn,Addr.mk.injEq,and_true,and_self]at f1;subst f1;rw[e2]at f2;cases f2;have hbb:w'.heap[b]?=w.heap[b]?:=b5 b (h.lt _ _ _ _ e4).1 (fun lo B=>by
   have:=(h.ns _ _ _ _ _ _ _ B e4).2;cases this)
  refine ⟨h.ns,V,I,h.defers,fun p R=>?_,fun p R=>?_,fun p=>?_⟩
  .simp only[AB.ym,H];rw[AB.d6,az (by omega)];exact h.dom p R
  .simp only[AB.ym,H];rw[AB.d6];by_cases D:q=p
   .subst D;rw[ae rfl];simp only[AL];refine⟨b,c,T,e1,by rw[hbb];exact e2,by simpa using e3,e4,fun j d X=>?_⟩;rw[List.getElem?_set]at X;by_cases J:k=j
    .subst J;rw[ae rfl]at X;split at X
     .simp only[tn]at X;subst X;exact⟨v,f3,xs',M,W U,hn,h1⟩
     .cases X
    .rw[az J]at X;obtain⟨x,g1,g2⟩:=e5 j d X;exact⟨x,g1,g2.kept U (fun b lo B=>b5 b (h.lt _ _ _ _ B).1 (fun lo' hz'=>J (by
      have:=(h.ns _ _ _ _ _ _ _ hz' B).2;simpa using this))) hrs⟩
   .rw[az D];refine oth p _ R (fun e=>D e.symm) (fun j⟨m,A⟩=>?_) (fun _ _=>⟨cs,H⟩) (fun j⟨m,A⟩=>?_)
    .obtain⟨cs',C,N⟩:=AB.x3 A;rw[AB.d6,ae rfl]at C;simp only[EV.bx.injEq]at C;subst C;rw[List.getElem?_set]at N;split at N
     .split at N<;>simp at N
     .exact⟨m,by simp only[AB.nat,H,N]⟩
    obtain ⟨n1,es1⟩:=m;cases j with
    |none=>have C:=AB.x6 A;rw[AB.d6,ae rfl]at C;cases C
    |some j=>
     obtain ⟨cs',C,N⟩:=AB.tl A;rw[AB.d6,ae rfl]at C;simp only[EV.bx.injEq]at C;subst C;rw[List.getElem?_set]at N;by_cases J:k=j
     .subst J;exact⟨(n,es),L⟩
     .rw[az J]at N;exact⟨(n1,es1),by simp only[AB.x4,H,N]⟩
  .simp only[AB.ym,H];rw[AB.d6];split
   .intro y hy;rcases List.mem_or_eq_of_mem_set hy with hy|rfl
    .exact hwc y hy
    .exact hw
   .exact h.wf p
theorem AN.xgo(h:AN F0 w0 O a w G){es:Fq}(hq:O.get q=.xo n es)(hd:d<a.tmps.size)(hdq:d≠q){w':World}{e:EV}{z':Option (Nat×Nat)}
  (b1:w'.os=w.os)(b2:w'.tape=w.tape)(b3:w'.output=w.output)(b4:w.heap.size<=w'.heap.size)(X:∀k,k<w.heap.size->(∀lo,G q none≠some (k,lo))->w'.heap[k]?=w.heap[k]?)
  (m:∀b lo,z'=some (b,lo)->b<w'.heap.size/\(w.heap.size<=b\/∃l,G q none=some (b,l)))
  (Y:∀cs,e≠.bx cs)(hno:(∃n es,e=.xo n es)->O.gt d=true)
  (hrep:∀(F':Nat->Nat->Prop)(I:BH)(env':AB)(a':Act),BS w w' (AW w0.heap.size F0 G) F'->I d none=z'->(∀b o,F' b o->b<w.heap.size\/∃lo,z'=some (b,lo))->AL a' w' F' I env' d e v)(hw:e.WF):
  Bg F0 w0 ((d,e)::(q,.undef)::O) (a.put (some d) v) w':=by
 let I:BH:=JQ (JQ G q (fun _=>none)) d (fun i=>if i=none then z' else none)
 have U:=nx h (AB.xat_of_xo hq) (v:=slot a q) rfl;have H:∀p i b lo,I p i=some (b,lo)->(p=d/\i=none/\z'=some (b,lo))\/(p≠d/\p≠q/\G p i=some (b,lo)):=by
  intro p i b lo T;by_cases C:p=d
  .grind[Bs]
  .simp[I,BC _ _ _ _ C]at T;by_cases hpq:p=q
   .grind[Bs]
   .rw[BC _ _ _ _ hpq]at T
    grind
 have hag:BS w w' (AW w0.heap.size F0 G) (AW w0.heap.size F0 I):=by
  intro b o u hc hF;have hlt:b<w.heap.size:=World.block_lt_of_cell? w ⟨b,o,none⟩ hc;have hnz:∀lo,G q none≠some (b,lo):=fun lo D=>hF (.inr ⟨q,none,lo,D,by rw[U b lo D];exact Nat.zero_le _⟩);refine⟨?_,?_⟩
  .grind[World.cell?_of_block]
  .rintro(M|⟨p,i,lo,M,R⟩)
   .exact hF (.inl M)
   .rcases H _ _ _ _ M with⟨_,_,L⟩|⟨_,_,L⟩
    .grind
    .exact hF (.inr ⟨p,i,lo,L,R⟩)
 refine ⟨I,?_,?_,h.below.but b1 b2 b3 b4 (Z:=fun k=>∃lo,G q none=some (k,lo)) (fun b⟨lo,D⟩=>(h.lt _ _ _ _ D).2.imp id (fun e o=>e o (by rw[U b lo D];exact Nat.zero_le _))) (fun k hk D=>X k (Nat.lt_of_lt_of_le hk h.below.size) (fun lo e=>D ⟨lo,e⟩)),by rw[EO];exact h.defers,?_,?_,?_⟩
 .intro p i p' i' b lo l L e2;have other:∀p i lo l,z'=some (b,lo)->p≠q->G p i=some (b,l)->False:=by
   intro p i lo l E W f3;rcases(m _ _ E).2 with V|⟨lo'',V⟩
   .have:=(h.lt _ _ _ _ f3).1;omega
   .exact W (h.ns _ _ _ _ _ _ _ f3 V).1
  rcases H _ _ _ _ L with⟨rfl,rfl,E⟩|⟨n1,n2,E⟩<;>rcases H _ _ _ _ e2 with⟨rfl,rfl,W⟩|⟨m1,m2,W⟩
  .exact⟨rfl,rfl⟩
  .exact(other _ _ _ _ E m2 W).elim
  .exact(other _ _ _ _ W n2 E).elim
  .exact h.ns _ _ _ _ _ _ _ E W
 .intro p i b lo L;rcases H _ _ _ _ L with⟨_,_,E⟩|⟨_,_,E⟩
  .refine⟨(m _ _ E).1,?_⟩;rcases(m _ _ E).2 with V|⟨l,V⟩
   .exact .inl (Nat.le_trans h.below.size V)
   .exact(h.lt _ _ _ _ V).2.imp id (fun e o _=>e o (by rw[U _ _ V];exact Nat.zero_le _))
  .exact⟨Nat.lt_of_lt_of_le (h.lt _ _ _ _ E).1 b4,(h.lt _ _ _ _ E).2⟩
 .intro p T;rw[BT]at T;have:=BU h hq (by simp);rw[AB.d6,az (by omega),AB.d6,az (by omega)];exact h.dom p T
 .intro p T;rw[BT]at T;rw[AB.d6];by_cases C:d=p
  .subst C;rw[ae rfl,CS _ _ _ hd];refine hrep _ _ _ _ hag (by simp[I,Bs]) fun b o hf=>?_;rcases hf with M|⟨p,i,lo,M,_⟩
   .exact .inl (Nat.lt_of_lt_of_le M.1 h.below.size)
   .rcases H _ _ _ _ M with⟨_,_,L⟩|⟨_,_,L⟩
    .exact .inr ⟨lo,L⟩
    .exact .inl (h.lt _ _ _ _ L).1
  .rw[az C,AY _ _ _ _ C,AB.d6];split
   .trivial
   .rename_i hqp;refine AL.kept hag (fun i=>by simp[I];rw[BC _ _ _ _ (fun e=>C e.symm),BC _ _ _ _ (fun e=>hqp e.symm)]) (fun i b lo D=>X b (h.lt _ _ _ _ D).1 (fun l m=>hqp (h.ns _ _ _ _ _ _ _ m D).1)) (MW (BT _ _ _) fun r J=>by
     have:=BU h hq (by simp);simp[I];rw[BC _ _ _ _ (by omega),BC _ _ _ _ (by omega)]) (fun g j b lo J=>by
     exact X b (h.lt _ _ _ _ J).1 (fun l D=>h.AaD (BU h hq (by simp)) D J rfl)) (fun r i k J⟨pp,N⟩=>?_) (fun r off _⟨cs,A⟩=>?_) (fun r i J⟨pp,N⟩=>?_) (h.slots p T)
    .have M:=AB.yg Y N;have R:=AB.yg (by simp) M.2;exact⟨⟨pp,R.2⟩,h.nh ⟨pp,R.2⟩ (AY _ _ _ _ M.1) (fun _ b _ hb=>X b (h.lt _ _ _ _ hb).1 (fun l m=>R.1 (h.ns _ _ _ _ _ _ _ m hb).1))⟩
    .rw[AB.d6]at A;by_cases B:d=r
     .rw[ae B]at A;exact absurd A (Y cs)
     .rw[az B,AB.d6]at A;split at A
      .cases A
      .exact⟨⟨cs,A⟩,AY _ _ _ _ B⟩
    .by_cases B:d=r
     .subst B;have hno':O.gt d=true:=by
       grind [AB.zI]
      have hx:=AB.zJ d O hno' p;rcases J with J|⟨c,J⟩
      .exact absurd J (hx.1 i)
      .exact absurd J (hx.2 i c)
     .rw[AB.yq B]at N;have R:=AB.t5 (by simp) (by simp) N;exact⟨⟨pp,R.2⟩,h.xv ⟨pp,R.2⟩ (AY _ _ _ _ B) (fun b hb=>X b (h.lt _ _ _ _ hb).1 (fun l m=>R.1 (h.ns _ _ _ _ _ _ _ m hb).1))⟩
 .intro p;rw[AB.d6];split
  .exact hw
  .rw[AB.d6];split
   .trivial
   .exact h.wf p
variable{s:Nat}
theorem bS(j:AN F0 w0 O a w G)(hd:d<a.tmps.size)(g:o.op=.move (.tmp s)\/o.op=.assign (.tmp s))(h:(AD.xal s).wp S O (some d) K):At P F0 w0 a w o d K:=by
 simp only[AD.wp]at h;split at h
 .rename_i n es l;refine⟨slot a s,w,by rcases g with g|g<;>simp[execOp,g,show a.eval (.tmp s)=slot a s from rfl],_,_,h,_,j.quiet (Below.refl _ _) d hd (.la s none) _ (fun _=>none) (by simp) (by simp) (by simp) ?_ trivial⟩;simp only[AL];rintro⟨p,k⟩;have m:=AB.t5 (by simp) (by simp) k
  grind [XV,AY]
 .exact h.elim
variable{t e:TypeId}
theorem jq(j:AN F0 w0 O a w G)(hd:d<a.tmps.size)(k:o.op=.call {callee:=.builtin .len,args:=#[x],argTypes:=#[t]})(l:AK x y=true)
  (he:P.underlying t=some (.slice e))(h:(AD.Aas y).wp S O (some d) K):At P F0 w0 a w o d K:=by
 simp only[AD.wp]at h;cases m:y.ya O with
 |none=>rw[m]at h;exact h.elim|some p=>
  rw [m]at h;simp only[Ad]at h;obtain⟨B,C⟩:=OL j l m;obtain⟨D,E⟩:=Om j B C;simp only[TV.WF,Ji]at D;obtain⟨xs,⟨z0,H,_⟩,_⟩:=E;have hv:∃u cap,a.eval x=.slice u p.2.2.length cap:=by
   rcases H.2 with⟨A,I,_⟩|⟨g,cap,_,_,A,_⟩
   .grind
   .exact⟨_,_,A⟩
  obtain ⟨u,cap,hv⟩:=hv;refine CL j hd (v:=.int .i64 p.2.2.length) (t:=.int .i64 p.2.2.length) ?_ rfl ⟨by simp only[IntKind.min,IntKind.signed,IntKind.bits,if_true];omega,by simp only[IntKind.max_i64];omega⟩ h;simp[execOp,k,resolve,invoke,builtin,Builtin.len_,run_underlying he,hv,goInt]
theorem mq(l:AN F0 w0 O a w G)(hd:d<a.tmps.size){x i:Operand}{y j:AE}(E:o.op=.indexAddr t x i)(H:AK x y=true)(u:AK i j=true)(C:It P t=some n)(h:(AD.xia y j n).wp S O (some d) K):At P F0 w0 a w o d K:=by
 simp only[AD.wp]at h;cases I:y.ya O with
 |none=>rw[I]at h;exact h.elim|some p=>
  obtain ⟨⟨q,V⟩,m,es⟩:=p;rw[I]at h;simp only[Ad]at h;split at h
  .rename_i k D T;obtain⟨⟨_,rfl⟩,W,M,X⟩:=h;obtain⟨Y,N⟩:=OL l H I;have A:=Ar l u T;simp only[Af]at A;obtain⟨g,cap,cur,e,xs,R,_⟩:=fz l Y N (by rintro rfl;simp at M;omega);unfold It at C;split at C
   .rename_i el U;have J:0<=D/\D<(es.length:Int):=⟨W,M⟩;refine⟨.pointer (some ⟨g,D.toNat*m,none⟩),w,?_,_,_,X,_,l.quiet (Below.refl _ _) d hd (.lp q V (D.toNat*m)) _ (fun _=>none) (by simp) (by simp) (by simp) ?_ trivial⟩
    .simp[execOp,E,R,A.1,Instr.indexAt,asIntOf,run_underlying U,J,Bv C,Addr.add_lit]
    .simp only[AL];rintro⟨pp,L⟩;have B:=AB.t5 (by simp) (by simp) L;exact⟨g,_,_,l.xv ⟨_,B.2⟩ (AY _ _ _ _ B.1) (fun _ _=>rfl) _ (by rw[<-R];exact N),rfl⟩
   .cases C
  .exact h.elim
theorem eW(k:AN F0 w0 O a w G)(h:AK x y=true){q c:Nat}{p:Nat×Fq}(j:y.ev O=.lp q i c)(l:O.x4 q i=some p):∃g len cap,XV a w q i (.slice (some ⟨g,0,none⟩) len cap)/\a.eval x=.pointer (some ⟨g,c,none⟩):=by
 cases y with
 |c t=>simp[AE.ev]at j|s m=>
  have u:x=.tmp m:=by
   cases x<;>simp[AK]at h;rw[h]
  subst u;simp only[AE.ev]at j;have:=AZ k j (by simp);simp only[AL]at this;exact this ⟨p,l⟩
theorem mn(l:AN F0 w0 O a w G)(hd:d<a.tmps.size){f k:Nat}(m:o.op=.fieldAddr t x f)(u:AK x y=true)(B:PN P t f=some k)(h:(AD.xfa y k).wp S O (some d) K):At P F0 w0 a w o d K:=by
 simp only[AD.wp]at h;split at h
 .rename_i q i c C;split at h
  .rename_i I D;obtain⟨g,len,cap,E,H⟩:=eW l u C D;refine⟨.pointer (some ⟨g,c+k,none⟩),w,by simp[execOp,m,H,UY B],_,_,h,_,l.quiet (Below.refl _ _) d hd (.lp q i (c+k)) _ (fun _=>none) (by simp) (by simp) (by simp) ?_ trivial⟩;simp only[AL];rintro⟨J,A⟩;have j:=AB.t5 (by simp) (by simp) A;exact⟨g,_,_,l.xv ⟨_,j.2⟩ (AY _ _ _ _ j.1) (fun _ _=>rfl) _ E,rfl⟩
  .exact h.elim
 .exact h.elim
theorem mu(l:AN F0 w0 O a w G)(hd:d<a.tmps.size)(m:o.op=.load t x)(u:AK x y=true)(J:Br P t=some false)(h:(AD.xld y).wp S O (some d) K):At P F0 w0 a w o d K:=by
 simp [AD.wp]at h;split at h
 .rename_i q i c L;split at h
  .rename_i M A;obtain⟨n,es⟩:=M;simp only at h;cases k:(es.flatMap TV.cells)[c]? with
   |none=>rw[k]at h;exact h.elim|some t'=>
    rw [k]at h;simp[Ad]at h;have B:es≠[]:=by rintro rfl;simp at k
    obtain ⟨g,len,cap,D,U⟩:=eW l u L A;obtain⟨g',E,C,e,xs,H,V,f3,f4,f5,f6,f7,I,f9,W,X⟩:=fz l A D B;simp at H;obtain⟨rfl,rfl,rfl⟩:=H;have N:c<(es.flatMap TV.cells).length:=by
     grind
    have R:=A9 I;obtain⟨y,Y⟩:∃y,xs[c]?=some y:=⟨_,List.getElem?_eq_getElem (by omega)⟩;have j:w.cell? ⟨g,c,none⟩=some y:=by
     rw [cell_of_row w g c C e (0,0) V]
     grind
    have T:=(Om l A D).1;refine CL l hd (v:=y) ?_ (((BQ _ _).1 I).2 c t' _ k Y) ?_ h
    .simp[execOp,m,U,Instr.loadAt,Instr.sureAddr,loadVar,CO J,j]
    .have:=T.2;rw[Bc]at this;have hm:=List.mem_of_getElem? k
     grind [Bc,Hd]
  .exact h.elim
 .exact h.elim
theorem cJ{t:TV}(h:TV.tg t.cells):t.WF:=by
 cases t<;>simp[TV.cells,TV.tg]at h<;>first|exact h|(simp[TV.WF];exact h)
theorem bX{es:Fq}(h:TV.tg es):TV.tg (es.flatMap TV.cells):=by grind[Bc,Hd]
theorem Ue:∀{es:Fq},TV.tg (es.flatMap TV.cells)->TV.tg es
 |[],_=>trivial|e::es,h=>by
  rw [List.flatMap_cons]at h;rw[Jx]at h;exact⟨cJ h.1,Ue h.2⟩
variable{ts:Fq}
theorem cA{w:World}{F:Nat->Nat->Prop}{xs:List Value}(h:AP w F ts xs)(c:Nat):AP w F (ts.take c) (xs.take c):=by
 rw [BQ]at h|-
 grind
theorem b9{w:World}{F:Nat->Nat->Prop}{xs:List Value}(h:AP w F ts xs)(c:Nat):AP w F (ts.drop c) (xs.drop c):=by
 rw [BQ]at h|-
 grind
theorem mw(C:AN F0 w0 O a w G){x v:Operand}{x' W:AE}{m:Nat}(H:o.op=.store t x v)(X:AK x x'=true)(hv:AK v W=true)(hn:Ce P t=some m)(h:(AD.xst x' W m).wp S O none K):G7 P F0 w0 a w o K:=by
 simp [AD.wp]at h;split at h
 .rename_i q i c hy;split at h
  .rename_i n es u E hu;obtain⟨⟨h1,h0⟩,Y,es',h3,B,h5,hK⟩:=h;obtain⟨g,len,cap,T,e2⟩:=eW C X hy E;have D:=(Om C E T).1;have I:=Ar C hv (t:=u) (by simp[AE.val,hu,EV.val]);have h6:TV.tg es':=by
    have h7:=bX D.2
    grind [TV.tg,TV.cells,Bc,List.mem_of_mem_take,Hd,List.mem_of_mem_drop,Ue]
   have J:es≠[]:=by rintro rfl;simp at Y;omega
   obtain ⟨g',cap',j,e,xs,f1,f2,f3,f4,f5,f6,f7,f8,f9,f10,U⟩:=fz C E T J;simp at f1;obtain⟨rfl,rfl,rfl⟩:=f1;obtain⟨k2,k3⟩:=GD I.1;obtain⟨ys,V⟩:∃ys,(a.eval v).cells.toList=ys:=⟨_,rfl⟩;rw[V]at k2 k3;have A:ys.length=m:=by rw[A9 k2,h1]
   have hcc:c+m<=j.size:=by rw[f5];exact Nat.le_trans Y (Nat.mul_le_mul_right _ f3)
   have l:=run_storeCells_at P g c e ys 0 j w f2 (by omega) k3;simp at l;have L:(a.eval v).cells.size=m:=by rw[<-Array.length_toList,V,A]
   have M:(execOp a.eval o).run P w=.ok .skip (w.setRow g (j.toList.take c++ys++j.toList.drop (c+m)).toArray):=by
    rw [A]at l;simp[execOp,H,e2,Instr.storeAt,Instr.sureAddr,storeVar,Bv hn,L,V,l]
   refine ⟨_,M,_,hK,G,?_⟩;have N:xs.length=es.length*n:=U;refine C.rexo E T (w':=w.setRow g (j.toList.take c++ys++j.toList.drop (c+m)).toArray) (xs':=xs.take c++ys++xs.drop (c+m)) ⟨rfl,rfl,rfl,by simp,fun k _ hk=>setRow_other w g k _ (fun e=>hk 0 (by rw[e];exact f7))⟩ ⟨some (g,es.length*n),⟨by simp[A,N,B];omega,.inr ⟨g,cap,_,e,by rw[B],setRow_heap w g j _ e _ f2,by rw[B];exact f3,f4,?_,?_,by rw[B]⟩⟩,by rw[f7];rfl⟩ (fun hag=>?_) h5 (fun x X=>?_) ⟨by rw[B];exact D.1,h6⟩
   .grind
   .rw[B,<-f6];have R:c<=j.toList.length:=by rw[Array.length_toList];omega
    have hA:(j.toList.take c++ys).length=c+m:=by rw[bk,cE,A,Nat.min_eq_left R]
    show (j.toList.take c++ys++j.toList.drop (c+m)).take (es.length*n)=_
    grind [List.take_append,List.take_of_length_le,Nat.min_eq_left,List.drop_take]
   .grind[Aj,Hs,cA,b9]
   grind
  .exact h.elim
 .exact h.elim
theorem bQ(l:AN F0 w0 O a w G)(hd:d<a.tmps.size)(g:o.op=.move (.tmp s)\/o.op=.assign (.tmp s))(h:(AD.rel s).wp S O (some d) K):At P F0 w0 a w o d K:=by
 simp [AD.wp]at h;split at h
 .rename_i J n es k m;simp at k;subst k;obtain⟨u,E⟩:=h;have A:=AZ l m (by simp);have B:=l.wf s;rw[m]at B;simp[AL]at A;obtain⟨xs,⟨z0,L,j⟩,M,N,R⟩:=A;refine⟨slot a s,w,by rcases g with g|g<;>simp[execOp,g,show a.eval (.tmp s)=slot a s from rfl],_,_,E,l.xgo m hd u (z':=z0) rfl rfl rfl (b6 _) (fun _ _ _=>rfl) (fun b lo C=>?_) (by simp) (by simp) (fun F' H env' a' D I _=>?_) B⟩
  .rw[C]at j;exact⟨(l.lt _ _ _ _ j).1,.inr ⟨_,j⟩⟩
  grind [AL,Bl,Aj]
 .exact h.elim
theorem bR(k:AN F0 w0 O a w G)(hd:d<a.tmps.size)(g:o.op=.move (.tmp s)\/o.op=.assign (.tmp s))(h:(AD.tkx s).wp S O (some d) K):At P F0 w0 a w o d K:=by
 simp [AD.wp]at h;split at h
 .rename_i J n es j l;simp at j;subst j;obtain⟨m,u,E⟩:=h;have B:=AZ k l (by simp);have C:=k.wf s;rw[l]at C;simp[AL]at B;obtain⟨xs,L,M,N,R⟩:=B;refine⟨slot a s,w,by rcases g with g|g<;>simp[execOp,g,show a.eval (.tmp s)=slot a s from rfl],_,_,E,k.xgo l hd u (z':=G s none) rfl rfl rfl (b6 _) (fun _ _ _=>rfl) (fun b lo A=>⟨(k.lt _ _ _ _ A).1,.inr ⟨_,A⟩⟩) (by simp) (fun _=>m) (fun F' H env' a' D I _=>?_) C⟩
  grind [AL,Aj]
 .exact h.elim
theorem AN.AaU(h:AN F0 w0 O a w G){w':World}(A:Below w.heap.size w w')(hd:d<a.tmps.size)(u:O.gt d=true){es:Fq}{z:Option (Nat×Nat)}{xs:List Value}(j:FW w' n v es.length xs z)
  (B:∀b lo,z=some (b,lo)->w.heap.size<=b/\b<w'.heap.size)
  (k:∀F',(∀b o,F' b o->(b<w.heap.size/\AW w0.heap.size F0 G b o)\/∃lo,z=some (b,lo))->AP w' F' (es.flatMap TV.cells) xs)(C:∀e∈es,e.cells.length=n)(D:∀x∈xs,x.oneCell'=true)(E:(TV.list n es).WF):
  Bg F0 w0 ((d,.xo n es)::O) (a.put (some d) v) w':=by
 refine ⟨_,h.quiet A d hd (.xo n es) v (fun i=>if i=none then z.map (fun p=>(p.1,0))else none) (fun i b lo hi=>?_) (fun i I b lo H g m=>?_) (fun _=>u) ?_ E⟩
 .split at hi
  .cases z with
   |none=>simp at hi|some p=>
    simp at hi;exact hi.1▸B p.1 p.2 rfl
  .cases hi
 .split at g
  .split at m
   .simp_all
   .cases m
  .cases g
 .simp[AL];refine⟨xs,⟨z,j,by rw[Bs];simp⟩,k _ (fun b o hf=>?_),C,D⟩;rcases hf with hf|⟨p,i,lo,g,m⟩
  .exact .inl ⟨Nat.lt_of_lt_of_le hf.1 h.below.size,.inl hf⟩
  .by_cases l:p=d
   .subst l;rw[Bs]at g;split at g
    .cases z with
     |none=>simp at g|some q=>
      simp at g;exact .inr ⟨q.2,by rw[<-g.1]⟩
    .cases g
   .rw[BC _ _ _ _ l]at g;exact .inl ⟨(h.lt _ _ _ _ g).1,.inr ⟨p,i,lo,g,m⟩⟩
theorem Yt(k:AN F0 w0 O a w G)(hd:d<a.tmps.size)(g:o.op=.move x\/o.op=.assign x)(l:∃v,x=.const v/\L8 v=true)(h:(AD.Aaf n).wp S O (some d) K):At P F0 w0 a w o d K:=by
 simp [AD.wp]at h;obtain⟨j,m⟩:=h;obtain⟨v,rfl,hv⟩:=l;have hv:=JR hv;subst hv;refine⟨.slice none 0 0,w,by rcases g with g|g<;>simp[execOp,g,Act.eval],_,_,m,k.AaU (Below.refl _ _) hd j (z:=none) (xs:=[]) ⟨by simp,.inl ⟨rfl,rfl,rfl⟩⟩ (by simp) (fun _ _=>rfl) (by simp) (by simp) ⟨by simp,trivial⟩⟩
variable{f:FuncId}{ats:Array TypeId}{Q:Exit->Act->World->Prop}
theorem fk(D:AN F0 w0 O a w G)(hd:d<a.tmps.size)(l:o.dst=some d){xs:Array Operand}{ys:List AE}(N:o.op=.call {callee:=.value (.func f),args:=xs,argTypes:=ats})(R:BO xs.toList ys=true)(h:(AD.zl f ys).wp (AX P) O (some d) K)
  {next:Act->World->Prop}(X:∀e env' a' w',K e env'->QS a d a'->Bg F0 w0 ((d,e)::env') a' w'->next a' w'):o.wp P a w next Q:=by
 simp [AD.wp]at h;obtain⟨V,h⟩:=h;cases j:vals O ys with
 |none=>rw[j]at h;exact h.elim|some ts=>
  rw [j]at h;simp[Ad]at h;obtain⟨n,es,A,hK⟩:=h;have hv:=FM D R j;have m:(execOp a.eval o).run P w=(callFunc f (xs.map a.eval)).run P w:=by simp[execOp,N,resolve,Act.eval,Deferred.ofValue,invoke]
  have key:Di P f=true/\(TV.list n es).WF/\Calls P f (xs.map a.eval) w fun e w'=>∃v z g,e=.returned v/\Below w.heap.size w w'/\FW w' n v es.length g z/\(∀F',(∀b o,F' b o->(b<w.heap.size/\AW w0.heap.size F0 G b o)\/∃lo,z=some (b,lo))->AP w' F' (es.flatMap TV.cells) g)/\(∀e∈es,e.cells.length=n)/\(∀x∈g,x.oneCell'=true)/\∀b lo,z=some (b,lo)->w.heap.size<=b/\b<w'.heap.size:=by
   rcases A with A|⟨A,hfl⟩
   .obtain⟨B,W⟩:=(A.to0 rfl) hv.2;obtain⟨k,C⟩:=W (AW w0.heap.size F0 G) w (xs.map a.eval) (by simpa using hv.1) D.below.now;refine⟨B,k,C.mono ?_⟩;rintro e w' ⟨v,rfl,E,z,g,H,I,J,L,M⟩;exact⟨v,z,g,rfl,E,H,fun F' T=>Aj (fun b o u Y hf=>⟨Y,fun U=>hf (T b o U)⟩) _ _ I,J,L,M⟩
   .obtain⟨B,W⟩:=(A.to0 rfl) hv.2;obtain⟨k,C⟩:=W (AW w0.heap.size F0 G) w (xs.map a.eval) (by simpa using hv.1) D.below.now;refine⟨B,k,C.mono ?_⟩;rintro e w' ⟨v,rfl,E,z,⟨g,H,I,J,L⟩,M⟩
    grind [GB,Mb]
  obtain ⟨B,k,C⟩:=key;unfold Oper.wp;rw[m,EL B _,Oper.upon_enter];refine C.mono ?_;rintro e w' ⟨v,z,g,rfl,E,H,I,J,L,M⟩;simp[l];exact X _ _ _ _ (hK k) ⟨_,rfl⟩ (D.AaU E hd V H M I J L k)
theorem fh(k:AN F0 w0 O a w G)(hd:d<a.tmps.size)(B:o.dst=some d){xs:List Operand}{ys:List AE}(L:o.op=.call {callee:=.value (.func f),args:=(x::xs).toArray,argTypes:=ats})(M:AK x y=true)(C:BO xs ys=true)(h:(AD.zj f y ys).wp (AX P) O (some d) K)
  {next:Act->World->Prop}(hn:∀e env' a' w',K e env'->QS a d a'->Bg F0 w0 ((d,e)::env') a' w'->next a' w'):o.wp P a w next Q:=by
 simp only[AD.wp]at h;cases R:y.ya O with
 |none=>rw[R]at h;exact h.elim|some p=>
  obtain ⟨⟨q,i⟩,m,es⟩:=p;rw[R]at h;simp only[Ad]at h;obtain⟨rfl,h⟩:=h;cases l:vals O ys with
  |none=>rw[l]at h;exact h.elim|some ts=>
  rw [l]at h;obtain⟨zs,u,E,rfl,⟨A,ts2,g,hc,H,hS⟩,hK⟩:=h;simp only[List.cons.injEq,TV.list.injEq,true_and]at g;obtain⟨g,rfl⟩:=g;have T:A=zs:=by
   have:=congrArg (List.map fun t=>match t with|.int _ n=>n|_=>0) g;simpa[List.map_map,Function.comp_def]using this.symm
  subst T;obtain⟨hq,hx⟩:=OL k M R;obtain⟨X,xs',h1,h2,h3,h4⟩:=Om k hq hx;obtain⟨hv,Y⟩:=FM k C l;have U:xs'=A.map (Value.int .i64):=by
   have:∀(zs:Fp)(xs:List Value),AP w (AW w0.heap.size F0 G) ((zs.map (TV.int .i64)).flatMap TV.cells) xs->xs=zs.map (Value.int .i64):=by
    intro zs
    induction zs with
    |nil=>intro xs h;exact h|cons z zs ih=>
     grind [TV.cells,List.singleton_append,AP,Af]
   exact this A xs' h2
  subst U;have D:(execOp a.eval o).run P w=(callFunc f (a.eval x::xs.map a.eval).toArray).run P w:=by simp[execOp,L,resolve,Act.eval,Deferred.ofValue,invoke]
  unfold Oper.wp;rw[D,EL hc _,Oper.upon_enter];refine(hS _ w (a.eval x) _ (G q i) X Y (by simpa using h1) hv (fun b lo o J N=>.inr ⟨q,i,lo,J,N⟩) (fun b lo J=>⟨(k.lt _ _ _ _ J).1,k.low J⟩) k.below.now).mono ?_;rintro e w' ⟨⟨I,j⟩,⟨r,rfl,hu⟩,r1,r2⟩;simp only[B];have V:=k.rexo hq hx r2 (es':=u.map (TV.int .i64)) (xs':=u.map (Value.int .i64)) (by rw[c8,I];exact r1) (fun _=>?_) (by simp[TV.cells]) (by simp[Value.oneCell']) j.1
  .have W:∀F,Pz w' F E r:=fun F=>by
    rcases E with _|⟨t,_|⟨t',E⟩⟩
    .exact hu
    .exact Ss t (by simpa[TV.ye]using H) _ hu
    .obtain⟨vs,e1,e2⟩:=hu;exact⟨vs,e1,GB _ H _ e2⟩
   rcases E with _|⟨t,_|⟨t',E⟩⟩
   all_goals
    refine hn _ _ _ _ (hK j) ⟨_,rfl⟩ ⟨_,V.quiet (Below.refl _ _) d hd (EV.ofs _) _ (fun _=>none) (by simp[EV.ofs]) (by simp[EV.ofs]) (by simp[EV.ofs]) ?_ ?_⟩
    .simp only[EV.ofs,AL];exact W _
    .first|exact trivial|exact j.2.1|exact j.2
  .have:∀(zs:Fp),AP w' (AW w0.heap.size F0 G) ((zs.map (TV.int .i64)).flatMap TV.cells) (zs.map (Value.int .i64)):=by
    intro zs
    induction zs with
    |nil=>rfl|cons z zs ih=>
     grind [TV.cells,List.singleton_append,AP,Af]
   exact this u
theorem YM{w:World}{F:Nat->Nat->Prop}:∀(zs:Fp),AP w F ((zs.map (TV.int .i64)).flatMap TV.cells) (zs.map (Value.int .i64))
 |[]=>rfl|z::zs=>by
  simp only[List.map_cons,List.flatMap_cons,TV.cells,List.singleton_append,AP,Af];exact⟨_,_,rfl,rfl,YM zs⟩
theorem Ym{w:World}{F:Nat->Nat->Prop}:∀(zs:Fp)(xs:List Value),AP w F ((zs.map (TV.int .i64)).flatMap TV.cells) xs->xs=zs.map (Value.int .i64)
 |[],xs,h=>h|z::zs,xs,h=>by
  simp [TV.cells,AP,Af]at h;obtain⟨v,r,rfl,rfl,h⟩:=h;rw[Ym zs r h];rfl
theorem fb(j:AN F0 w0 O a w G)(hd:d<a.tmps.size)(l:o.dst=some d)(C:o.op=.call {callee:=.value (.func f),args:=#[x],argTypes:=ats})(D:AK x y=true)(h:(AD.zO f y).wp (AX P) O (some d) K)
  {next:Act->World->Prop}(X:∀e env' a' w',K e env'->QS a d a'->Bg F0 w0 ((d,e)::env') a' w'->next a' w'):o.wp P a w next Q:=by
 simp only[AD.wp]at h;cases H:y.ya O with
 |none=>rw[H]at h;exact h.elim|some p=>
  obtain ⟨⟨q,i⟩,m,es⟩:=p;rw[H]at h;simp only[Ad]at h;obtain⟨⟨L,rfl⟩,rfl,M,zs,N,rfl,⟨R,A,hc,g,hS⟩,hK⟩:=h;simp only[List.cons.injEq,TV.list.injEq,true_and,and_true]at A;have I:R=zs:=by
   have:=congrArg (List.map fun t=>match t with|.int _ n=>n|_=>0) A;simpa[List.map_map,Function.comp_def]using this.symm
  subst I;obtain⟨B,V⟩:=OL j D H;replace B:=AB.x6 B;simp only[XV]at V;replace g:=g (by have:=j.wf q;rw[B]at this;exact this);have U:=AZ j B (by simp);simp only[AL]at U;obtain⟨xs,h1,h2,h3,h4⟩:=U;have J:=Ym _ _ h2;subst J;have u:(execOp a.eval o).run P w=(callFunc f #[slot a q]).run P w:=by simp[execOp,C,resolve,Act.eval,Deferred.ofValue,invoke,<-V]
  unfold Oper.wp;rw[u,EL hc _,Oper.upon_enter];refine(hS w (slot a q) (G q none) (by simpa using h1)).mono ?_;rintro e w' ⟨v',rfl,r1,r2⟩;simp only[l];obtain⟨b1,b2,b3,W,b5⟩:=r2;refine X _ _ _ _ (hK g) ⟨_,rfl⟩ (j.xgo B hd (fun e=>L e.symm) (z':=G q none) b1 b2 b3 W (fun k E Y=>b5 k E Y) (fun b lo T=>⟨Nat.lt_of_lt_of_le (j.lt _ _ _ _ T).1 W,.inr ⟨_,T⟩⟩) (by simp) (fun _=>M) (fun F' G' env' a' hag hG _=>?_) g);simp only[AL];rw[hG];exact⟨_,by simpa using r1,YM N,by simp[TV.cells],by simp[Value.oneCell']⟩
variable{z:Value}
theorem jX(Y:AN F0 w0 O a w G)(hd:d<a.tmps.size){i:TypeInfo}(hop:o.op=.call {callee:=.builtin .append,args:=#[.tmp s,x],argTypes:=#[t,t]})
  (ht:P.underlying t=some (.slice e))(hi:P.info? e=some i)(A:i.zero=some z)(E:i.size=n)(hby:i.bytes<=4096)(hzs:z.cells.size=n)(hn:0<n)
  (hok:AK x y=true)(h:(AD.zY n s y).wp S O (some d) K):At P F0 w0 a w o d K:=by
 simp only[AD.wp]at h;split at h
 .rename_i d' m es m' J N hs hy;simp only[tn]at N;subst N;obtain⟨hm1,hm2,U,hno,hds,hK⟩:=h;subst hm2;subst hm1;have D:=AZ Y hs (by simp);have H:=Y.wf s;rw[hs]at H;simp only[AL]at D;obtain⟨xs,⟨z0,h1,V⟩,h2,h3,h4⟩:=D;have hv:=Ar Y hok hy;simp only[Af]at hv;obtain⟨⟨ad,cap,h5,h6,h7,h8⟩,h9⟩:=hv;have I:∃g:List Value,AP w (AW w0.heap.size F0 G) (J.flatMap TV.cells) g/\(∀x∈g,x.oneCell'=true)/\(∀f∈J,f.cells.length=m)/\∀b,ad=some b->∀(j:Nat)(u:Value),g[j]?=some u->w.cell? (b.add j)=some u:=by
   cases ad with
   |none=>
    have:=h7 rfl;subst this;exact⟨[],rfl,by simp,by simp,by simp⟩
   |some b=>
    obtain ⟨C,h11⟩:=h8 b rfl;obtain⟨bb,B,sp⟩:=b;simp only at C h11;by_cases T:J=[]
    .subst T;exact⟨[],rfl,by simp,by simp,by simp⟩
    have C:sp=none:=C.resolve_left T;subst C;have hrow:∀(l:Fq)(B:Nat),Hw w (AW w0.heap.size F0 G) m l bb B->C0 w (AW w0.heap.size F0 G) (l.flatMap TV.cells) bb B/\∀f∈l,f.cells.length=m:=by
     intro l
     induction l with
     |nil=>intro B _;exact⟨trivial,by simp⟩|cons f l ih=>
      grind [QC,IL]
    grind [Su,tn]
  obtain ⟨g,n1,n2,n3,n4⟩:=I;have hnl:g.length=J.length*m:=by rw[A9 n1,Oy m J n3]
  obtain ⟨v',w',z',W,r1,L⟩:=Ps (P:=P) t o.type e i z m ht hi A E hby hzs hn (slot a s) es.length xs z0 h1 ad J.length cap g hnl (fun e=>by rw[h7 e];rfl) h6 n4 n2 U;have hnz:∀k,(∀lo,G s none≠some (k,lo))->∀lo,z0≠some (k,lo):=fun k hk lo A=>hk 0 (by rw[V,A];rfl);refine⟨v',w',?_,_,_,hK,Y.xgo hs hd hds (z':=z'.map fun p=>(p.1,0)) L.os L.tape L.output L.size (fun k hk A=>L.other k hk (hnz k A)) (fun b lo A=>?_) (by simp) (fun _=>hno) (fun F' G' env' a' M hG _=>?_) ?_⟩
  .simp[execOp,hop,resolve,invoke,builtin,show a.eval (.tmp s)=slot a s from rfl,h5,W]
  .cases z' with
   |none=>simp at A|some p=>
    simp only[Option.map_some,tn,Prod.mk.injEq]at A;obtain⟨k1,X⟩:=L.AaG p.1 p.2 rfl;rw[<-A.1];refine⟨k1,?_⟩;rcases X with X|⟨lo',X,_⟩
    .exact .inl X
    .exact .inr ⟨0,by rw[V,X];rfl⟩
  .simp only[AL];rw[hG];refine⟨xs++g,⟨z',by rw[bk];exact r1,rfl⟩,?_,?_,?_⟩
   .rw[List.flatMap_append];exact Hs (Aj M _ _ h2) (Aj M _ _ n1)
   .intro e he;rcases List.mem_append.1 he with he|he
    .exact h3 e he
    .exact n3 e he
   .intro x R;rcases List.mem_append.1 R with R|R
    .exact h4 x R
    .exact n2 x R
  .simp only[EV.WF,TV.WF]at H h9|-;exact⟨by rw[bk];exact UF (by omega),Jx.2 ⟨H.2,h9.2⟩⟩
 .exact h.elim
variable{z0:Value}
theorem mW(V:AN F0 w0 O a w G)(hd:d<a.tmps.size){x x':Operand}{ty e:TypeId}{l:TypeInfo}{t:TV}(D:o.op=.makeSlice ty x x')(W:AK x y=true)(E:AK x' y=true)
  (A:P.underlying ty=some (.slice e))(H:P.info? e=some l)(T:l.zero=some z)(hs:l.size=1)(X:l.bytes<=4096)(Y:z.cells=#[z0])(hc:Ds t z0=true)(h1c:z0.oneCell'=true)(I:t.cells=[t])
  (h:(AD.z8 1 [t] y).wp S O (some d) K):At P F0 w0 a w o d K:=by
 simp [AD.wp]at h;split at h
 .rename_i d' ik j J hy;simp[tn]at J;subst J;obtain⟨hno,h0,hmax,hK⟩:=h;have hv:=(Ar V W hy).1;have B:=(Ar V E hy).1;simp[Af]at hv B;obtain⟨m,rfl⟩:∃m:Nat,j=m:=⟨j.toNat,by omega⟩;have hm:m<=4096:=by omega
  have hw1:IntKind.i64.wrap (m:Int)=m:=by
   have e1:(2:Int)^ 64=18446744073709551616:=by decide
   have e2:(2:Int)^ (64-1)=9223372036854775808:=by decide
   simp [IntKind.wrap,IntKind.bits,IntKind.signed,Bool.true_and,yf,e1,e2,ge_iff_le];split<;>omega
  have U:m*l.bytes<=16777216:=by
   calc m*l.bytes<=4096*4096:=Nat.mul_le_mul hm X
    _=16777216:=by decide
  have g:(Array.range m).map (fun q=>([z0]:List Value)[q % 1]?.getD default)=Array.replicate m z0:=by
   grind
  have L:¬(281474976710656<(l.bytes:Int)*(m:Int)):=by
   grind
  have C:¬(m*l.bytes>roomBytes):=by
   have:roomBytes≥16777216:=by decide
   omega
  have M:¬((m:Int)<0):=by omega
  have N:(execOp a.eval o).run P w=.ok (.value (.slice (some ⟨w.heap.size,0,none⟩) m m)) (w.alloc (.cells (Array.replicate m z0) e)):=by
   by_cases R:m=0
   .subst R;have hw0:IntKind.i64.wrap 0=0:=by decide
    simp [execOp,D,hv,B,Instr.makeSlice,run_underlying A,asInt,asIntOf,typeInfo,H,hw0,askRoom,sizeOf,hs,newRow]
    grind
   .simp[execOp,D,hv,B,Instr.makeSlice,run_underlying A,asInt,asIntOf,typeInfo,H,hw1,askRoom,sizeOf,hs,newRow,L,C,M,R,zeroValue,T,Y,g]
  have hb:Below w.heap.size w (w.alloc (.cells (Array.replicate m z0) e)):=(Below.refl _ _).alloc (b6 _) _;have hcr:=Gp (w.alloc (.cells (Array.replicate m z0) e)) (fun _ _=>False) t z0 hc;have hfm:∀k,(List.replicate k t).flatMap TV.cells=List.replicate k t:=by
   intro k
   induction k with
   |zero=>rfl|succ k ih=>rw[List.replicate_succ,List.flatMap_cons,ih,I];rfl
  simp [Int.toNat_natCast]at hK;refine⟨_,_,N,_,_,hK,V.AaU hb hd hno (z:=some (w.heap.size,m*1)) (xs:=List.replicate m z0) ⟨by simp,.inr ⟨w.heap.size,m,_,e,by simp,heap_alloc_new w _,by simp,by simp[maxLen];omega,by simp,by simp,by simp⟩⟩ (fun b lo T=>?_) (fun F' _=>?_) (fun u A=>?_) (fun v hv=>?_) ⟨by simp[List.length_replicate,Ji];omega,?_⟩⟩
  .simp[tn,Prod.mk.injEq]at T;rw[<-T.1];exact⟨b6 _,by simp⟩
  .rw[hfm,BQ];refine⟨by simp,fun i u v A hv=>?_⟩;rw[List.eq_of_mem_replicate (List.mem_of_getElem? A),List.eq_of_mem_replicate (List.mem_of_getElem? hv)];exact(Gp _ F' t z0 hc).1
  .rw[List.eq_of_mem_replicate A,I];rfl
  .rw[List.eq_of_mem_replicate hv];exact h1c
  .rw[Bc];intro u A;rw[List.eq_of_mem_replicate A];exact hcr.2
 .exact h.elim
def eh(P:Program)(t:TypeId)(f k n:Nat)(agg:Bool):Bool:=
 match P.underlying t with
 |some (.struct fs)=>(match fs[f]? with
  |some x=>x.offset==k&&Ce P x.type==some n&&Br P x.type==some agg|none=>false)
 |_=>false
theorem jh(C:AN F0 w0 O a w G)(hd:d<a.tmps.size){f k n:Nat}{agg:Bool}(A:o.op=.field t x f)(D:AK x y=true)(hf:eh P t f k n agg=true)(h:(AD.AaE y k n agg).wp S O (some d) K):At P F0 w0 a w o d K:=by
 simp only[AD.wp]at h;split at h
 .rename_i cs R;obtain⟨W,g⟩:=h;have hv:=Ar C D R;simp only[Af,TV.WF]at hv;obtain⟨⟨vs,L,H,X⟩,M⟩:=hv;unfold eh at hf;split at hf
  .rename_i V I;split at hf
   .rename_i j B;simp only[sr,beq_iff_eq]at hf;obtain⟨⟨rfl,U⟩,N⟩:=hf;have J:=A9 H;rw[BQ]at H;rw[Bc]at M;cases agg with
    |true=>
     simp only[if_true]at g;refine CL C hd (v:=.agg (vs.extract j.offset (j.offset+n))) (t:=.agg ((cs.drop j.offset).take n)) ?_ ?_ ?_ g
     .simp[execOp,A,L,Instr.field,run_underlying I,B,part,CO N,Bv U,asAgg]
     .simp only[Af];refine⟨_,rfl,?_,?_⟩
      .rw[BQ]
       grind
      grind
     .simp only[TV.WF];rw[Bc]
      grind
    |false=>
     simp only[Bool.false_eq_true,if_false]at g;cases E:cs.drop j.offset with
     |nil=>rw[E]at g;simp[Gc,Ad]at g|cons u r=>
      rw [E]at g;simp only[Gc,Ad]at g;have m:cs[j.offset]?=some u:=by
       have:=congrArg (fun l=>l[0]?) E;simpa[List.getElem?_drop]using this
      have T:j.offset<cs.length:=(List.getElem?_eq_some_iff.1 m).1;obtain⟨v,hv⟩:∃v,vs.toList[j.offset]?=some v:=⟨_,List.getElem?_eq_getElem (by omega)⟩;refine CL C hd (v:=v) (t:=u) ?_ (H.2 _ u v m hv) (M u (List.mem_of_getElem? m)) g;rw[Array.getElem?_toList]at hv;simp[execOp,A,L,Instr.field,run_underlying I,B,part,CO N,asAgg,hv]
   .cases hf
  .cases hf
 .exact h.elim
def ky(P:Program)(ty:TypeId)(n:Nat)(zero:Fq):Bool:=
 match P.underlying ty,zero with
 |some (.slice e),[t]=>(match P.info? e with
  |some ie=>(match ie.zero with
   |some z=>(match z.cells.toList with
    |[z0]=>n==1&&ie.size==1&&decide (ie.bytes<=4096)&&Ds t z0&&z0.oneCell'&&(match t with|.int _ _=>true|.bool _=>true|.str _=>true|_=>false)
    |_=>false)
   |none=>false)
  |none=>false)
 |_,_=>false
theorem pv(A:AN F0 w0 O a w G)(hd:d<a.tmps.size){x x':Operand}{ty:TypeId}{zero:Fq}(k:o.op=.makeSlice ty x x')(l:AK x y=true)(j:AK x' y=true)(g:ky P ty n zero=true)
  (h:(AD.z8 n zero y).wp S O (some d) K):At P F0 w0 a w o d K:=by
 unfold ky at g;split at g
 .rename_i e t B;split at g
  .rename_i L m;split at g
   .rename_i z C;split at g
    .rename_i z0 u;simp[yf]at g;obtain⟨⟨⟨⟨⟨rfl,D⟩,E⟩,H⟩,I⟩,J⟩:=g;exact mW A hd k l j B m C D E (bV u) H I (by cases t<;>first|rfl|cases J) h
    .cases g
   .cases g
  .cases g
 .cases g
theorem rd{args:Fq}{t:TV}(h:AX P f args (.own t)):AX P f args (.sh t):=by
 intro l;obtain⟨A,B⟩:=h l;refine⟨A,fun F0 w vs hv j=>?_⟩;obtain⟨C,D⟩:=B F0 w vs hv j;refine⟨C,D.mono ?_⟩;rintro e w' ⟨v,rfl,E,z,H,J⟩;refine⟨v,rfl,E,?_⟩;have m:=Bl.rep H (fun b lo o I ho=>by
  grind)
 exact By (fun b o u k hf=>⟨k,fun g=>hf (.inl g)⟩) _ _ m
theorem PV(h:v.oneCell'=true):v.cells=#[v]:=by
 cases v<;>first|rfl|simp[Value.oneCell']at h
theorem ml(u:AN F0 w0 O a w G){x v:Operand}(hop:o.op=.store t x v)(C:AK x (.s s)=true)(hv:AK v (.s q)=true)(hn:Ce P t=some n)(h:(AD.stx n s q).wp S O none K):G7 P F0 w0 a w o K:=by
 simp only[AD.wp]at h;split at h
 .rename_i cs ds hs hq;obtain⟨J,⟨V,D⟩,ho,hK⟩:=h;have hp:(AE.s s).place O=some (s,0):=by simp[AE.place,hs]
  revert hp ho hK
  suffices key:∀g,g+n<=cs.length->K .undef ((s,.bx (cs.take g++ds++cs.drop (g+n)))::(q,.undef)::O)->(AE.s s).place O=some (s,g)->G7 P F0 w0 a w o K from key 0
  .intro g ho hK hp;have hvq:v=.tmp q:=by
    cases v<;>simp[AK]at hv;rw[hv]
   subst hvq;obtain⟨b,hsl,hadr⟩:=Gm u C hp hs;have hr:=AZ u hs (by simp);simp only[AL]at hr;obtain⟨Y,c,T,h1,h2,h3,h4,h5⟩:=hr;rw[hsl]at h1;simp only[Value.pointer.injEq,tn,Addr.mk.injEq,and_true,and_self]at h1;subst h1;have hrq:=AZ u hq (by simp);simp only[AL]at hrq;obtain⟨vs,B,m,e3⟩:=hrq;have U:=u.wf s;rw[hs]at U;have hwq:=u.wf q;rw[hq]at hwq;have hone:∀y∈vs.toList,y.oneCell'=true:=by
    intro y E;obtain⟨i,hi⟩:=List.getElem?_of_mem E;have l:i<ds.length:=by have:=(List.getElem?_eq_some_iff.1 hi).1;simpa[m]using this
    obtain ⟨x,C,hc⟩:=e3 i _ (List.getElem?_eq_getElem l);rw[Array.getElem?_toList,C]at hi;simp only[tn]at hi;subst hi;exact GT hc
   have hev:a.eval (.tmp q)=.agg vs:=B;have hst:(execOp a.eval o).run P w=.ok .skip (w.setRow b (c.toList.take g++vs.toList++c.toList.drop (g+n)).toArray):=by
    have hln:vs.toList.length=n:=by rw[Array.length_toList,m,V]
    have I:=run_storeCells_at P b g T vs.toList 0 c w h2 (by rw[hln];omega) hone;simp only[Nat.add_zero]at I;rw[hln]at I;simp[execOp,hop,hadr,hev,Instr.storeAt,Instr.sureAddr,storeVar,Bv hn,Value.cells,show vs.size=n by rw[m,V],I]
   have hvl:vs.toList.length=n:=by rw[Array.length_toList,m,V]
   let zs:Option Nat->Option (Nat×Nat):=fun i=>match i with|none=>some (b,0)|some j=>if g<=j/\j<g+n then G q (some (j-g))else G s (some j)
   refine Exists.elim (u.AaH hs hsl h2 (cs':=cs.take g++ds++cs.drop (g+n)) (c':=(c.toList.take g++vs.toList++c.toList.drop (g+n)).toArray) (q:=some q) (by simpa using J) (fun p hp=>by cases hp;exact BU u hq (by simp)) (zs:=zs) rfl ?_ ?_ ?_ ?_ ?_ ?_) (fun G' h'=>⟨_,hst,_,hK,G',h'.1⟩)
   .intro i Y lo hi hz;cases i with
    |none=>exact absurd rfl hi|some j=>
     simp only[zs]at hz;split at hz
     .exact .inr ⟨q,rfl,_,hz⟩
     .exact .inl hz
   .intro i i' Y lo M B m;have zn:∀j Y lo M,zs (some j)=some (Y,lo)->zs none=some (Y,M)->False:=by
     intro j Y lo M B m;simp only[zs,tn,Prod.mk.injEq]at m;obtain⟨rfl,_⟩:=m;simp only[zs]at B;split at B
     .exact J (u.ns _ _ _ _ _ _ _ B h4).1
     .have:=(u.ns _ _ _ _ _ _ _ B h4).2;cases this
    cases i with
    |none=>cases i' with
     |none=>rfl|some j=>exact(zn j _ _ _ m B).elim
    |some j=>cases i' with
     |none=>exact(zn j _ _ _ B m).elim|some j'=>
      simp only[zs]at B m;split at B<;>split at m
      .have:=(u.ns _ _ _ _ _ _ _ B m).2;simp only[tn]at this;rw[show j=j' by omega]
      .exact absurd (u.ns _ _ _ _ _ _ _ B m).1 J
      .exact absurd (u.ns _ _ _ _ _ _ _ m B).1 J
      .exact(u.ns _ _ _ _ _ _ _ B m).2
   .simp only[List.size_toArray,bk,cE,List.length_drop,Array.length_toList];omega
   .intro F' w' N H R i y E;have hco:∀j,g+n<=j->cs[j]?=some y->i=j->∃v,c[j]?=some v/\A8 w' F' (x8 a G) (G s (some j)) y v:=by
     intro j hj hc hij;obtain⟨v,W,X⟩:=h5 j y hc;exact⟨v,W,X.kept N (fun k lo A=>H k (fun e=>by have:=(u.ns _ _ _ _ _ _ _ (e▸A) h4).2;cases this)) R⟩
    rcases Nat.lt_or_ge i g with l|hge
    .rw[c9,List.getElem?_append_left (by simp;omega),List.getElem?_take,ae l]at E;obtain⟨v,W,X⟩:=h5 i y E;refine⟨v,?_,?_⟩
     .rw[List.getElem?_toArray,c9,List.getElem?_append_left (by simp;omega),List.getElem?_take,ae l,Array.getElem?_toList];exact W
     .simp only[zs,az (show¬(g<=i/\i<g+n)by omega)];exact X.kept N (fun k lo A=>H k (fun e=>by have:=(u.ns _ _ _ _ _ _ _ (e▸A) h4).2;cases this)) R
    .rcases Nat.lt_or_ge i (g+n)with l|L
     .rw[c9,List.getElem?_append_right (by simp;omega),List.getElem?_append_left (by simp;omega)]at E;simp only[cE]at E;rw[Nat.min_eq_left (by omega)]at E;obtain⟨v,W,X⟩:=e3 (i-g) y E;refine⟨v,?_,?_⟩
      .rw[List.getElem?_toArray,c9,List.getElem?_append_right (by simp;omega),List.getElem?_append_left (by simp;omega)];simp only[cE,Array.length_toList];rw[Nat.min_eq_left (by omega),Array.getElem?_toList];exact W
      .simp only[zs,ae (show g<=i/\i<g+n by omega)];exact X.kept N (fun k lo A=>H k (fun e=>J (u.ns _ _ _ _ _ _ _ (e▸A) h4).1)) R
     .rw[List.getElem?_append_right (by simp;omega)]at E;simp only[bk,cE]at E;rw[Nat.min_eq_left (by omega),V,List.getElem?_drop,show g+n+(i-(g+n))=i from by omega]at E;obtain⟨v,W,X⟩:=hco i L E rfl;refine⟨v,?_,?_⟩
      .rw[List.getElem?_toArray,List.getElem?_append_right (by simp;omega)];simp only[bk,cE,Array.length_toList];rw[Nat.min_eq_left (by omega),m,V,List.getElem?_drop,show g+n+(i-(g+n))=i from by omega,Array.getElem?_toList];exact W
      .simp only[zs,az (show¬(g<=i/\i<g+n)by omega)];exact X
   .intro x C;rcases List.mem_append.1 C with C|C
    .rcases List.mem_append.1 C with C|C
     .exact U x (List.mem_of_mem_take C)
     .exact hwq x C
    .exact U x (List.mem_of_mem_drop C)
   .intro k tx htx A;have hkl:k<cs.length:=by
     have:=(List.getElem?_eq_some_iff.1 A).1;simp only[bk,cE,List.length_drop]at this;omega
    rw [List.getElem?_toArray];rcases Nat.lt_or_ge k g with l|hge
    .rw[c9,List.getElem?_append_left (by simp;omega),List.getElem?_take_of_lt l]at A;refine .inr ⟨A,?_⟩;rw[c9,List.getElem?_append_left (by simp;omega),List.getElem?_take_of_lt l,Array.getElem?_toList]
    .rcases Nat.lt_or_ge k (g+n)with l|L
     .rw[c9,List.getElem?_append_right (by simp;omega),List.getElem?_append_left (by simp;omega)]at A;rw[Bool.or_eq_true]at D;rcases D with D|D
      .have:=List.all_eq_true.1 D _ (List.mem_of_getElem? A);simp[htx]at this
      .exact .inl (AB.noX_all D)
     .rw[List.getElem?_append_right (by simp;omega)]at A;simp only[bk,cE,List.getElem?_drop]at A;rw[Nat.min_eq_left (by omega),V,show g+n+(k-(g+n))=k from by omega]at A;refine .inr ⟨A,?_⟩;rw[List.getElem?_append_right (by simp;omega)];simp only[bk,cE,Array.length_toList,List.getElem?_drop];rw[Nat.min_eq_left (by omega),m,V,show g+n+(k-(g+n))=k from by omega,Array.getElem?_toList]
 .exact h.elim
def Jz(a:Act)(w:World)(G:BH)(d:Nat)(Z:DB):BH:=fun p=>if p=d then Z 0 else if a.tmps.size+w.heap.size<=p then(fun i=>match i with|some j=>Z (p-a.tmps.size+1) (some j)|none=>none)else G p
variable{Z:DB}{p:Nat}
theorem OM{a:Act}{w:World}{G:BH}{d:Nat}{b lo:Nat}(h:Jz a w G d Z p i=some (b,lo)):(p=d/\Z 0 i=some (b,lo))\/(p≠d/\a.tmps.size+w.heap.size<=p/\Z (p-a.tmps.size+1) i=some (b,lo))\/(p≠d/\¬a.tmps.size+w.heap.size<=p/\G p i=some (b,lo)):=by
 simp [Jz]at h
 grind
theorem AN.quiet2{w':World}(h:AN F0 w0 O a w G)(I:Below w.heap.size w w')(d:Nat)(hd:d<a.tmps.size)(e:EV)(v:Value)
  (Z:DB)(M:∀q i b lo,Z q i=some (b,lo)->w.heap.size<=b/\b<w'.heap.size)(C:Ir Z)
  (J:(∃cs,e=.bx cs)\/(∃n es,e=.xo n es)->O.gt d=true)
  (R:BS w w' (AW w0.heap.size F0 G) (AW w0.heap.size F0 (Jz a w G d Z))->AL (a.put (some d) v) w' (AW w0.heap.size F0 (Jz a w G d Z)) (Jz a w G d Z) ((d,e)::O) d e v)(V:e.WF):
  AN F0 w0 ((d,e)::O) (a.put (some d) v) w' (Jz a w G d Z):=by
 have U:BS w w' (AW w0.heap.size F0 G) (AW w0.heap.size F0 (Jz a w G d Z)):=by
  intro b o u hc hf;have hlt:b<w.heap.size:=World.block_lt_of_cell? w ⟨b,o,none⟩ hc;refine⟨by rw[I.cell (p:=⟨b,o,none⟩) hlt];exact hc,fun W=>hf ?_⟩;rcases W with h|⟨s,i,lo,T,h2⟩
  .exact .inl h
  .rcases OM T with⟨_,e⟩|⟨_,_,e⟩|⟨_,_,e⟩
   .grind
   .grind
   .exact .inr ⟨s,i,lo,e,h2⟩
 have X:∀s,s<a.tmps.size->s≠d->Jz a w G d Z s=G s:=by
  grind [Jz]
 refine ⟨?_,?_,h.below.go I,by rw[EO];exact h.defers,?_,?_,?_⟩
 .intro s i s' i' b lo lo' T h2;rcases OM T with⟨e1,A⟩|⟨e1,e3,A⟩|⟨e1,e3,A⟩<;>rcases OM h2 with⟨e2,B⟩|⟨e2,e4,B⟩|⟨e2,e4,B⟩
  .exact⟨by rw[e1,e2],(C _ _ _ _ _ _ _ A B).2⟩
  .have:=(C _ _ _ _ _ _ _ A B).1;omega
  .have:=(M _ _ _ _ A).1;have:=(h.lt _ _ _ _ B).1;omega
  .have:=(C _ _ _ _ _ _ _ A B).1;omega
  .obtain⟨g1,g2⟩:=C _ _ _ _ _ _ _ A B;exact⟨by omega,g2⟩
  .have:=(M _ _ _ _ A).1;have:=(h.lt _ _ _ _ B).1;omega
  .have:=(M _ _ _ _ B).1;have:=(h.lt _ _ _ _ A).1;omega
  .have:=(M _ _ _ _ B).1;have:=(h.lt _ _ _ _ A).1;omega
  .exact h.ns _ _ _ _ _ _ _ A B
 .intro s i b lo T;rcases OM T with⟨_,f⟩|⟨_,_,f⟩|⟨_,_,f⟩
  .have:=M _ _ _ _ f;exact⟨this.2,.inl (Nat.le_trans h.below.size this.1)⟩
  .have:=M _ _ _ _ f;exact⟨this.2,.inl (Nat.le_trans h.below.size this.1)⟩
  .have:=h.lt _ _ _ _ f;exact⟨Nat.lt_of_lt_of_le this.1 I.size,this.2⟩
 .intro s N;rw[BT]at N;rw[AB.d6,az (by omega)];exact h.dom s N
 .intro s N;rw[BT]at N;rw[AB.d6];by_cases H:d=s
  .subst H;rw[ae rfl,CS _ _ _ hd];exact R U
  .rw[az H,AY _ _ _ _ H];refine AL.kept' U (fun i=>by rw[X s N (fun e=>H e.symm)]) (fun i b lo X=>I.block b (h.lt s i b lo X).1) (fun i g lo j hg=>?_) (fun _=>BA.spot (h.zU I)) (fun q i k D⟨p,E⟩=>?_) (fun q Y D⟨cs,m⟩=>?_) (fun q i D⟨p,E⟩=>?_) (h.slots s N)
   .have:=(h.lt _ _ _ _ hg).1;simp[x8,BT,Jz];rw[az (by omega),az (by omega)]
   .by_cases l:d=q
    .subst l;exact absurd D (AB.Aah d O (J (.inl (AB.zp E))) s i k)
    .rw[AB.yv l]at E;exact⟨⟨p,E⟩,h.nh ⟨p,E⟩ (AY _ _ _ _ l) (fun j b _ L=>I.block b (h.lt _ _ _ _ L).1)⟩
   .rw[AB.d6]at m;by_cases l:d=q
    .subst l;rw[ae rfl]at m;exact absurd D (AB.zB d O (J (.inl ⟨cs,m⟩)) s Y)
    .rw[az l]at m;exact⟨⟨cs,m⟩,AY _ _ _ _ l⟩
   .by_cases l:d=q
    .subst l;have hx:=AB.zJ d O (J (AB.zI E)) s;rcases D with D|⟨c,D⟩
     .exact absurd D (hx.1 i)
     .exact absurd D (hx.2 i c)
    .rw[AB.yq l]at E;exact⟨⟨p,E⟩,h.xv ⟨p,E⟩ (AY _ _ _ _ l) (fun b L=>I.block b (h.lt _ _ _ _ L).1)⟩
 .intro s;rw[AB.d6];split
  .exact V
  .exact h.wf s
theorem fe(m:AN F0 w0 O a w G)(hd:d<a.tmps.size)(A:o.dst=some d){xs:Array Operand}{ys:List AE}(C:o.op=.call {callee:=.value (.func f),args:=xs,argTypes:=ats})(D:BO xs.toList ys=true)(h:(AD.zV f ys).wp (AX P) O (some d) K)
  {next:Act->World->Prop}(N:∀e env' a' w',K e env'->QS a d a'->Bg F0 w0 ((d,e)::env') a' w'->next a' w'):o.wp P a w next Q:=by
 simp only[AD.wp]at h;cases l:vals O ys with
 |none=>rw[l]at h;exact h.elim|some ts=>
  rw [l]at h;simp only[Ad]at h;obtain⟨cs,U,V⟩:=h;have hv:=FM m D l;have B:(execOp a.eval o).run P w=(callFunc f (xs.map a.eval)).run P w:=by simp[execOp,C,resolve,Act.eval,Deferred.ofValue,invoke]
  obtain ⟨W,X⟩:=(U.to0 rfl) hv.2;obtain⟨M,Y⟩:=X (AW w0.heap.size F0 G) w (xs.map a.eval) (by simpa using hv.1) m.below.now;unfold Oper.wp;rw[B,EL W _,Oper.upon_enter];refine Y.mono ?_;rintro e w' ⟨v,rfl,hb,Z,⟨vs,rfl,r1,r2⟩,r3,r5,I⟩;simp only[A];refine N _ _ _ _ (V M) ⟨_,rfl⟩ ⟨_,m.quiet2 hb d hd (.yr cs) _ Z (fun q i b lo L=>⟨(I q i b lo L).2,(I q i b lo L).1⟩) r3 (by simp) (fun R=>?_) M⟩;simp only[AL];refine⟨vs,rfl,r1,fun i c E=>?_⟩;obtain⟨x,k1,k2,_⟩:=r2 i c E;refine⟨x,k1,?_⟩;have H:Jz a w G d Z d (some i)=Z 0 (some i):=by simp[Jz]
  rw [H];refine(k2.kept (fun b o u E hf=>⟨E,fun k=>hf ?_⟩) (fun _ _ _=>rfl) BA.rfl').x8 (fun g lo j T=>?_)
  .rcases k with k|⟨p,j,lo,e1,J⟩
   .exact .inl ⟨Nat.lt_of_lt_of_le k.1 m.below.size,.inl k⟩
   .rcases OM e1 with⟨_,e⟩|⟨_,_,e⟩|⟨_,_,e⟩
    .exact .inr ⟨_,_,lo,e,J⟩
    .exact .inr ⟨_,_,lo,e,J⟩
    .exact .inl ⟨(m.lt _ _ _ _ e).1,.inr ⟨p,j,lo,e,J⟩⟩
  .have:=(I _ _ _ _ T).2;simp only[x8,BT,Jz,DB.x8];rw[az (by omega),ae (by omega)];simp only[Nat.add_sub_cancel_left]
theorem cH(C:AN F0 w0 O a w G)(hd:d<a.tmps.size)(l:o.dst=some d){xs:Array Operand}{ys:List AE}(D:o.op=.call {callee:=.value (.func f),args:=xs,argTypes:=ats})(E:BO xs.toList ys=true)(h:(AD.zi f ys).wp (AX P) O (some d) K)
  {next:Act->World->Prop}(U:∀e env' a' w',K e env'->QS a d a'->Bg F0 w0 ((d,e)::env') a' w'->next a' w'):o.wp P a w next Q:=by
 simp only[AD.wp]at h;cases k:vals O ys with
 |none=>rw[k]at h;exact h.elim|some ts=>
  rw [k]at h;simp only[Ad]at h;obtain⟨cs,Y,hX,hK⟩:=h;have hv:=FM C E k;have u:(execOp a.eval o).run P w=(callFunc f (xs.map a.eval)).run P w:=by simp[execOp,D,resolve,Act.eval,Deferred.ofValue,invoke]
  obtain ⟨h2,h3⟩:=(Y.to0 rfl) hv.2;obtain⟨R,h5⟩:=h3 (AW w0.heap.size F0 G) w (xs.map a.eval) (by simpa using hv.1) C.below.now;unfold Oper.wp;rw[u,EL h2 _,Oper.upon_enter];refine h5.mono ?_;rintro e w' ⟨v,rfl,hb,Z,⟨vs,rfl,r1,r2⟩,r3,r5,T⟩;simp only[l]
  let B:DB:=fun q i=>(Z q i).map fun p=>(p.1,0)
  have J:∀{q i b lo},B q i=some (b,lo)->∃g,Z q i=some (b,g)/\lo=0:=by
   grind [Option.map_eq_some_iff]
  have W:(EV.yr (cs.map AR.toX)).WF:=by
   intro c m;obtain⟨M,j,rfl⟩:=List.mem_map.1 m;obtain⟨n,es,e0,_⟩:=hX M j;have:=R _ j;rw[e0]at this|-;exact this
  refine U _ _ _ _ (hK R) ⟨_,rfl⟩ ⟨_,C.quiet2 hb d hd (.yr (cs.map AR.toX)) _ B (fun q i b lo A=>?_) (fun q i q' i' b lo g H I=>?_) (by simp) (fun V=>?_) W⟩
  .obtain⟨g,A,_⟩:=J A;exact⟨(T q i b g A).2,(T q i b g A).1⟩
  .obtain⟨_,H,_⟩:=J H;obtain⟨_,I,_⟩:=J I;exact r3 _ _ _ _ _ _ _ H I
  simp only[AL];refine⟨vs,rfl,by simpa using r1,fun i c m=>?_⟩;rw[List.getElem?_map]at m;simp only[Option.map_eq_some_iff]at m;obtain⟨M,j,rfl⟩:=m;obtain⟨n,es,rfl,N⟩:=hX M (List.mem_of_getElem? j);obtain⟨x,k1,k2,_⟩:=r2 i _ j;refine⟨x,k1,?_⟩;have L:Jz a w G d B d (some i)=B 0 (some i):=by simp[Jz]
  rw [L];have X:Bl w' _ (Z 0 (some i)) (.list n es) x:=k2;obtain⟨us,m1,m2,m3,m4⟩:=X;exact⟨us,⟨_,m1,rfl⟩,GB _ (Mb _ N) _ m2,m3,m4⟩
def ZC(P:Program)(t:TypeId):Bool:=match P.underlying t with|some (.slice _)=>true|_=>false
theorem kf(h:Rs x=true):x=.const (.slice none 0 0):=by
 cases x<;>simp[Rs]at h
 grind [JR]
variable{t':TypeId}
theorem Yr(B:AN F0 w0 O a w G)(hd:d<a.tmps.size){x z:Operand}(k:o.op=.binOp .eql t x z t')(C:Rs z=true)(l:ZC P t=true){j:Option Addr}{n cap:Nat}(m:a.eval x=.slice j n cap)(h:K (.tv (.bool j.isNone)) O):At P F0 w0 a w o d K:=by
 have u:=kf C;subst u;unfold ZC at l;split at l
 .rename_i e D;refine CL B hd (v:=.bool j.isNone) (t:=.bool j.isNone) ?_ rfl trivial h;have he:∀d,(Op.equalIn (d+1) t (.slice j n cap) (.slice none 0 0)).run P w=.ok j.isNone w:=by
   intro d;cases j<;>simp[Op.equalIn,run_underlying D]
  have A:(Op.equalIn 10000 t (.slice j n cap) (.slice none 0 0)).run P w=.ok j.isNone w:=he 9999;have H:(eqGuard .eql t x (.const (.slice none 0 0)) (.slice j n cap) (.slice none 0 0)).run P w=.ok () w:=by
   simp [eqGuard]
  have I:(binOp .eql t (.slice j n cap) (.slice none 0 0)).run P w=.ok (.bool j.isNone) w:=by
   have e:(binOp .eql t (.slice j n cap) (.slice none 0 0)).run P w=((Op.equalIn 10000 t (.slice j n cap) (.slice none 0 0)).run P w).andThen fun b w'=>.ok (.bool b) w':=by
    simp only[binOp];simp[Op.equal,Op.maxDepth]
   rw [e,A];rfl
  have J:a.eval (.const (.slice none 0 0))=.slice none 0 0:=rfl;have L:∀(g b:Sem Unit)(r:Sem Value),g.run P w=.ok () w->r.run P w=.ok (.bool j.isNone) w->(do let r <-(do g;r:Sem Value);pure (Next.value r):Sem Next).run P w=.ok (.value (.bool j.isNone)) w:=by
   intro g b r m E;simp[m,E]
  simp only[execOp,k,m,J];exact L _ (pure ()) _ H I
 .cases l
theorem mN(k:AN F0 w0 O a w G)(hd:d<a.tmps.size){x z:Operand}(g:o.op=.binOp .eql t x z t')(j:AK x y=true)(m:Rs z=true)(u:ZC P t=true)(h:(AD.isn y).wp S O (some d) K):At P F0 w0 a w o d K:=by
 simp only[AD.wp]at h;split at h
 .rename_i n es l;have hv:=(Ar k j l).1;simp only[Af]at hv;obtain⟨D,cap,B,E,C,H⟩:=hv;exact Yr k hd g m u B (h _ fun A=>C (by simpa using A))
 .rename_i l;have hv:=(Ar k j l).1;simp only[Af]at hv;exact Yr k hd g m u hv h
 .exact h.elim
end
end Go.Sf
namespace Go.Sf
open Go.RowKit (Below)
section
variable{P:Program}{S:FuncId->Fq->Al->Prop}{F0:Nat->Nat->Prop}{w0:W0}{O:AB}{a:Act}{w:World}{G:BH}{d:Nat}{o:Oper}{K:EV->AB->Prop}
variable{x:Operand}{y:AE}{t:TypeId}
theorem mO(A:AN F0 w0 O a w G)(hd:d<a.tmps.size)(B:o.op=.load t x)(C:AK x y=true)(L:Br P t=some false)(h:(AD.lac y).wp S O (some d) K):At P F0 w0 a w o d K:=by
 simp [AD.wp]at h;split at h
 .rename_i s g j;have N:y.place O=some (s,g):=by
   cases y with
   |c t=>simp[AE.ev]at j|s n=>simp[AE.ev]at j;simp[AE.place,j]
  split at h
  .rename_i p M;obtain⟨n,es⟩:=p;obtain⟨cs,I,R⟩:=AB.tl M;obtain⟨b,m,u⟩:=Gm A C N I;have H:=AZ A I (by simp);simp only[AL]at H;obtain⟨V,c,T,D,J,W,X,U⟩:=H;rw[m]at D;simp at D;subst D;obtain⟨v,hv,Y⟩:=U g _ R;have k:w.cell? ⟨b,g,none⟩=some v:=by rw[cell_of_row w b g c T (0,0) J];exact hv
   refine ⟨v,w,by simp[execOp,B,u,Instr.loadAt,Instr.sureAddr,loadVar,CO L,k],_,_,h,_,A.quiet (Below.refl _ _) d hd (.la s (some g)) _ (fun _=>none) (by simp) (by simp) (by simp) ?_ trivial⟩;simp only[AL];rintro⟨pp,E⟩;have l:=AB.t5 (by simp) (by simp) E;exact A.xv ⟨_,l.2⟩ (AY _ _ _ _ l.1) (fun _ _=>rfl) _ ⟨b,c,T,m,J,hv⟩
  .exact h.elim
 .exact h.elim
theorem mI(A:AN F0 w0 O a w G)(hd:d<a.tmps.size)(C:o.op=.load t x)(D:AK x y=true)(R:Br P t=some false)(h:(AD.ctk y).wp S O (some d) K):At P F0 w0 a w o d K:=by
 simp [AD.wp]at h;split at h
 .rename_i Y s j E U;simp at E;subst E;split at h
  .rename_i cs B;split at h
   .rename_i n es H;obtain⟨m,J⟩:=h;obtain⟨b,k,l⟩:=Gm A D U B;have I:=AZ A B (by simp);simp only[AL]at I;obtain⟨V,c,T,u,L,W,X,M⟩:=I;rw[k]at u;simp at u;subst u;obtain⟨y,N,_⟩:=M j _ H;have g:w.cell? ⟨b,j,none⟩=some y:=by rw[cell_of_row w b j c T (0,0) L];exact N
    exact ⟨y,w,by simp[execOp,C,l,Instr.loadAt,Instr.sureAddr,loadVar,CO R,g],_,_,J,A.zQ B H hd k g (.inr (.inl ⟨n,es,rfl,rfl,rfl,m⟩))⟩
   .rename_i es H;obtain⟨m,J⟩:=h;obtain⟨b,k,l⟩:=Gm A D U B;have I:=AZ A B (by simp);simp only[AL]at I;obtain⟨V,c,T,u,L,W,X,M⟩:=I;rw[k]at u;simp at u;subst u;obtain⟨y,N,_⟩:=M j _ H;have g:w.cell? ⟨b,j,none⟩=some y:=by rw[cell_of_row w b j c T (0,0) L];exact N
    exact ⟨y,w,by simp[execOp,C,l,Instr.loadAt,Instr.sureAddr,loadVar,CO R,g],_,_,J,A.zQ B H hd k g (.inr (.inr ⟨es,rfl,rfl,rfl,m⟩))⟩
   .exact h.elim
  .exact h.elim
 .exact h.elim
variable{q:Nat}
theorem mH(m:AN F0 w0 O a w G){x v:Operand}{x':AE}(hop:o.op=.store t x v)(hx:AK x x'=true)(hv:AK v (.s q)=true)(hn:Ce P t=some 1)(h:(AD.cpt x' q).wp S O none K):G7 P F0 w0 a w o K:=by
 simp [AD.wp]at h
 suffices key:∀(X:TV)(s g:Nat),x'.place O=some (s,g)->O.get q≠.undef->(∀cs,O.get q≠.bx cs)->D1 w (AW w0.heap.size F0 G) (x8 a G) (G q none) X (slot a q)->X.WF->∀cs,O.get s=.bx cs->O.noX s (some g)=true->g<cs.length->K .undef ((s,.bx (cs.set g ⟨true,X⟩))::(q,.undef)::O)->G7 P F0 w0 a w o K by
  split at h
  .rename_i s g n es U I;split at h
   .rename_i cs J;have l:=AZ m I (by simp);have u:=m.wf q;rw[I]at u;exact key (.xl n es) s g U (by rw[I];simp) (by rw[I];simp) l u cs J h.1 h.2.1 h.2.2
   .exact h.elim
  .rename_i s g es U I;split at h
   .rename_i cs J;have l:=AZ m I (by simp);have u:=m.wf q;rw[I]at u;exact key (.xn es) s g U (by rw[I];simp) (by rw[I];simp) l u cs J h.1 h.2.1 h.2.2
   .exact h.elim
  .exact h.elim
 intro X s g U hqu hqb l u cs J hno Y hK;obtain⟨b,hsl,hadr⟩:=Gm m hx U J;have hr:=AZ m J (by simp);simp only[AL]at hr;obtain⟨W,c,T,h1,h2,h3,h4,h5⟩:=hr;rw[hsl]at h1;simp at h1;subst h1;have hw:=m.wf s;rw[J]at hw;have C:q≠s:=fun e=>hqb cs (by rw[e];exact J);have hvq:v=.tmp q:=by
  cases v<;>simp[AK]at hv;rw[hv]
 subst hvq;have N:(slot a q).oneCell'=true:=Oa l;have D:(a.eval (.tmp q)).cells.toList=[slot a q]:=by
  have:a.eval (.tmp q)=slot a q:=rfl;rw[this,PV N]
 have hst:(execOp a.eval o).run P w=.ok .skip (w.setRow b (c.toList.take g++[slot a q]++c.toList.drop (g+1)).toArray):=by
  have E:=run_storeCells_at P b g T [slot a q] 0 c w h2 (by simp;omega) (by simpa using N);simp only[Nat.add_zero]at E;have hsz:(a.eval (.tmp q)).cells.size=1:=by rw[<-Array.length_toList,D];rfl
  simp at E;simp[execOp,hop,hadr,Instr.storeAt,Instr.sureAddr,storeVar,Bv hn,hsz,D,E]
 let zs:Option Nat->Option (Nat×Nat):=fun i=>match i with|none=>some (b,0)|some j=>if j=g then G q none else G s (some j)
 refine Exists.elim (m.AaH J hsl h2 (cs':=cs.set g ⟨true,X⟩) (c':=(c.toList.take g++[slot a q]++c.toList.drop (g+1)).toArray) (q:=some q) (by simpa using C) (fun p U=>by cases U;exact m.lts hqu) (zs:=zs) rfl ?_ ?_ ?_ ?_ ?_ ?_) (fun G' h'=>⟨_,hst,_,hK,G',h'.1⟩)
 .intro i W lo hi hz;cases i with
  |none=>exact absurd rfl hi|some j=>
   simp [zs]at hz;split at hz
   .exact .inr ⟨q,rfl,none,hz⟩
   .exact .inl hz
 .intro i i' W lo R A B;have zn:∀j W lo R,zs (some j)=some (W,lo)->zs none=some (W,R)->False:=by
   intro j W lo R A B;simp[zs]at B;obtain⟨rfl,_⟩:=B;simp[zs]at A;split at A
   .exact C (m.ns _ _ _ _ _ _ _ A h4).1
   .have:=(m.ns _ _ _ _ _ _ _ A h4).2;cases this
  cases i with
  |none=>cases i' with
   |none=>rfl|some j=>exact(zn j _ _ _ B A).elim
  |some j=>cases i' with
   |none=>exact(zn j _ _ _ A B).elim|some j'=>
    simp [zs]at A B;split at A<;>split at B
    .rename_i e3 e4;rw[e3,e4]
    .exact absurd (m.ns _ _ _ _ _ _ _ A B).1 C
    .exact absurd (m.ns _ _ _ _ _ _ _ B A).1 C
    .exact(m.ns _ _ _ _ _ _ _ A B).2
 .simp;omega
 .intro F' w' hag M hrs i y H;rw[List.getElem?_set]at H;by_cases hi:g=i
  .subst hi;rw[ae rfl,ae Y]at H;simp at H;subst H;refine⟨slot a q,?_,?_⟩
   .rw[List.getElem?_toArray,c9,List.getElem?_append_right (by simp;omega)];simp;rw[Nat.min_eq_left (by omega),Nat.sub_self];rfl
   .simp[A8,zs];exact l.kept hag (fun k lo L=>M k (fun e=>C (m.ns _ _ _ _ _ _ _ (e▸L) h4).1)) hrs
  .rw[az hi]at H;obtain⟨vv,A,B⟩:=h5 i y H;refine⟨vv,?_,?_⟩
   .rw[List.getElem?_toArray];rcases Nat.lt_or_ge i g with V|hge
    .rw[c9,List.getElem?_append_left (by simp;omega),List.getElem?_take_of_lt V];simpa using A
    .rw[List.getElem?_append_right (by simp;omega)];simp only[bk,cE,Array.length_toList,List.length_singleton];rw[Nat.min_eq_left (by omega),List.getElem?_drop,show g+1+(i-(g+1))=i from by omega];simpa using A
   .have hi':¬i=g:=fun e=>hi e.symm;simp[zs];rw[az hi'];exact B.kept hag (fun k lo L=>M k (fun e=>by have:=(m.ns _ _ _ _ _ _ _ (e▸L) h4).2;cases this)) hrs
 .intro y H;rcases List.mem_or_eq_of_mem_set H with H|rfl
  .exact hw y H
  .exact u
 .intro k tx htx L;rw[List.getElem?_set]at L;by_cases hi:g=k
  .subst hi;exact .inl hno
  .rw[az hi]at L;refine .inr ⟨L,?_⟩;have hkc:k<c.size:=by
    have:=(List.getElem?_eq_some_iff.1 L).1;omega
   rw [List.getElem?_toArray];rcases Nat.lt_or_ge k g with V|hge
   .rw[c9,List.getElem?_append_left (by simp;omega),List.getElem?_take_of_lt V,Array.getElem?_toList]
   .rw[List.getElem?_append_right (by simp;omega)];simp only[bk,cE,Array.length_toList,List.length_singleton];rw[Nat.min_eq_left (by omega),List.getElem?_drop,show g+1+(k-(g+1))=k from by omega,Array.getElem?_toList]
variable{s n:Nat}
theorem mJ(B:AN F0 w0 O a w G)(hd:d<a.tmps.size){hi:Operand}{E:AE}(hop:o.op=.slice t (.tmp s) none (some hi) none)(hh:AK hi E=true)(D:It P t=some n)(h:(AD.cut n s E).wp S O (some d) K):At P F0 w0 a w o d K:=by
 simp [AD.wp]at h;split at h
 .rename_i d' m es k hb L hs hv;simp at L;subst L;obtain⟨⟨hm,W,X⟩,h0,h2,hK⟩:=h;subst hm;have hr:=AZ B hs (by simp);have hw:=B.wf s;rw[hs]at hw;simp[AL]at hr;obtain⟨xs,⟨z0,k1,k2⟩,k3,k4,k5⟩:=hr;have b2:=(Ar B hh hv).1;simp[Af]at b2;unfold It at D;split at D
  .rename_i e hu;obtain⟨j,rfl⟩:∃j:Nat,hb=j:=⟨hb.toNat,by omega⟩;simp at hK;have T:j<=es.length:=by omega
   have hlx:=k1.1;have key:∀(Y:Option Addr)(cap:Nat),slot a s=.slice Y es.length cap->es.length<=cap->(execOp a.eval o).run P w=.ok (.value (.slice (if cap=0 then Y else Y.map (·.add (0*m))) (j-0) (cap-0))) w:=by
    intro Y cap M N;have U:=Sv (P:=P) (w:=w) (isS:=true) (lo:=none) (hi:=some (a.eval hi)) (l:=0) (h:=(j:Int)) (len:=es.length) (cap:=cap) (by omega) (by omega) h2 N (.inl ⟨rfl,rfl⟩) (.inr ⟨k,by rw[b2]⟩);simp[execOp,hop,Instr.sliceAt,Instr.slice,run_underlying hu,show a.eval (.tmp s)=slot a s from rfl,M,U,Bv D]
   have A:∀F' C env'(a':Act)(v:Value),BS w w (AW w0.heap.size F0 G) F'->C d none=G s none->JY w m v (es.take j).length (xs.take (j*m)) (G s none)->AL a' w F' C env' d (.xo m (es.take j)) v:=by
    intro F' C env' a' v u J H;simp only[AL];rw[J];refine⟨xs.take (j*m),H,?_,fun e he=>k4 e (List.mem_of_mem_take he),fun x H=>k5 x (List.mem_of_mem_take H)⟩;have hfl:∀(l:Fq)(j:Nat),(∀e∈l,e.cells.length=m)->(l.take j).flatMap TV.cells=(l.flatMap TV.cells).take (j*m):=by
     intro l
     induction l with
     |nil=>intro j _;simp|cons e l ih=>
      intro j R;cases j with
      |zero=>simp|succ j=>
       rw [List.take_succ_cons,List.flatMap_cons,List.flatMap_cons,ih j (fun x H=>R x (by simp[H])),List.take_append,R e (by simp)];have h1:(j+1)*m=m+j*m:=by rw[Nat.add_mul];omega
       have h2:e.cells.take (m+j*m)=e.cells:=List.take_of_length_le (by rw[R e (by simp)];omega);rw[h1,h2,show m+j*m-m=j*m from by omega]
    grind [BQ,Aj,cE]
   have V:(EV.xo m (es.take j)).WF:=by
    simp only[EV.WF,TV.WF]at hw|-;refine⟨by simp;omega,?_⟩;rw[Bc]at hw|-;exact fun t D=>hw.2 t (List.mem_of_mem_take D)
   have hjm:j*m<=es.length*m:=Nat.mul_le_mul_right _ T;rcases k1.2 with⟨M,N,e3⟩|⟨g,cap,cur,ty,M,N,e3,e4,e5,e6,e7⟩
   .have hes:es=[]:=List.eq_nil_of_length_eq_zero N;subst hes;have hj:j=0:=by simpa using T
    subst hj;refine⟨_,w,key none 0 (by simpa using M) (by simp),_,_,hK,B.xgo hs hd X (z':=G s none) rfl rfl rfl (b6 _) (fun _ _ _=>rfl) (fun b lo I=>⟨(B.lt _ _ _ _ I).1,.inr ⟨lo,I⟩⟩) (by simp) (fun _=>W) (fun F' C env' a' u J _=>A F' C env' a' _ u J ?_) V⟩;refine⟨none,⟨by simp,.inl ⟨by simp,by simp,rfl⟩⟩,?_⟩;rw[k2,e3]
   .refine⟨_,w,key _ _ M e3,_,_,hK,B.xgo hs hd X (z':=G s none) rfl rfl rfl (b6 _) (fun _ _ _=>rfl) (fun b lo I=>⟨(B.lt _ _ _ _ I).1,.inr ⟨lo,I⟩⟩) (by simp) (fun _=>W) (fun F' C env' a' u J _=>A F' C env' a' _ u J ?_) V⟩;have R:(es.take j).length=j:=by rw[cE];omega
    rw [R];refine⟨some (g,j*m),⟨by rw[cE,hlx];omega,.inr ⟨g,cap,cur,ty,?_,N,by omega,e4,e5,?_,rfl⟩⟩,?_⟩
    .simp only[Nat.zero_mul,Nat.sub_zero,Option.map_some,Addr.add_zero'];split<;>rfl
    .rw[<-e6,List.take_take,Nat.min_eq_left hjm]
    .rw[k2,e7];rfl
  .cases D
 .exact h.elim
variable{v:Value}
theorem Yz{F:Nat->Nat->Prop}{es:Fq}{xs:List Value}{z:Option (Nat×Nat)}(h:JY w n v es.length xs z)(g:AP w F (es.flatMap TV.cells) xs)(j:∀e∈es,e.cells.length=n)(k:∀x∈xs,x.oneCell'=true):Af w (fun _ _=>False) (.list n es) v:=by
 obtain ⟨z0,m,_⟩:=h;refine Bl.rep (z:=z0) ?_ (fun _ _ _ _ _ h=>h);simp[Bl];exact⟨xs,m,Aj (fun b o u l _=>⟨l,fun h=>h⟩) _ _ g,j,k⟩
theorem XZ{F:Nat->Nat->Prop}:BS w w F (fun _ _=>False):=fun _ _ _ g _=>⟨g,fun h=>h⟩
variable{c:AR}
theorem oY(h:c.t.WF):c.Aam.WF:=by
 obtain ⟨_|_,t⟩:=c
 .exact h
 .cases t<;>exact h
variable{i:Option Nat}
theorem km(j:AN F0 w0 O a w G){ρ:Hk}{x:Value}(h:A8 w (AW w0.heap.size F0 G) ρ (G s i) c x):Af w (fun _ _=>False) c.Aam x:=by
 by_cases g:∃n es,c=⟨true,.xl n es⟩
 .obtain⟨n,es,rfl⟩:=g;simp[A8,D1]at h;obtain⟨xs,k,l,m,u⟩:=h;exact Yz k l m u
 .have:c.Aam=c.t:=by
   obtain ⟨_|_,t⟩:=c
   .rfl
   .cases t<;>first|rfl|exact absurd ⟨_,_,rfl⟩ g
  rw [this];exact By XZ _ _ (VU j h)
variable{b:Nat}
theorem aC(u:AN F0 w0 O a w G){cs:List AR}(B:O.get s=.bx cs)(l:slot a s=.pointer (some ⟨b,0,none⟩))(g:Nat):C0 w (fun _ _=>False) ((cs.drop g).map AR.Aam) b g:=by
 have k:=AZ u B (by simp);simp only[AL]at k;obtain⟨H,c,T,m,C,I,J,D⟩:=k;rw[l]at m;simp at m;subst m;rw[IL];intro i t A;simp[List.getElem?_map,List.getElem?_drop]at A;obtain⟨cell,j,rfl⟩:=A;obtain⟨x,E,k⟩:=D _ cell j;exact⟨x,by rw[cell_of_row w b (g+i) c T (0,0) C];exact E,fun h=>h,GT k,km u k⟩
theorem aD{cs:List AR}(h:∀c∈cs,c.t.WF):TV.tg (cs.map AR.Aam):=by grind[Bc,oY]
theorem ku(j:AN F0 w0 O a w G)(g:AK x y=true){t:TV}(h:y.Aaz O=some t):Af w (fun _ _=>False) t (a.eval x)/\t.WF:=by
 unfold AE.Aaz at h;split at h
 .rename_i p H;simp at h;subst h;obtain⟨A,D⟩:=OL j g H
  grind [Om,Yz]
 .have C:∀e,y.ev O=e->(∀t,e≠.tv t)->∃n,y=.s n/\x=.tmp n/\O.get n=e:=by
   intro e he B;cases y with
   |c t=>exact absurd he.symm (B t)|s n=>
    cases x<;>simp[AK]at g;subst g;exact⟨_,rfl,rfl,he⟩
  split at h
  .rename_i cs he;simp at h;subst h;obtain⟨n,rfl,rfl,k⟩:=C _ he (by simp);have m:=AZ j k (by simp);have u:=j.wf n;rw[k]at u;simp only[AL]at m;obtain⟨b,c,T,A,_⟩:=m;refine⟨?_,aD u⟩;simp[Af];exact⟨b,0,A,by simpa using aC j k A 0⟩
  .rename_i q l he;split at h
   .rename_i cs k;simp only[tn]at h;subst h;obtain⟨n,rfl,rfl,I⟩:=C _ he (by simp);have m:=AZ j I (by simp);simp only[AL]at m;obtain⟨b,A,D⟩:=m ⟨cs,k⟩;have u:=j.wf q;rw[k]at u;refine⟨?_,aD (fun c E=>u c (List.mem_of_mem_drop E))⟩;simp only[Af];exact⟨b,l,D,aC j k A l⟩
   .cases h
  .have:=Ar j g (t:=t) h;exact⟨By XZ _ _ this.1,this.2⟩
theorem YQ(j:AN F0 w0 O a w G):∀{xs:List Operand}{ys:List AE},BO xs ys=true->∀{ts:Fq},yZ O ys=some ts->AP w (fun _ _=>False) ts (xs.map a.eval)/\TV.tg ts
 |[],[],_,ts,hv=>by simp[yZ]at hv;subst hv;exact⟨rfl,trivial⟩|[],_::_,g,_,_=>by simp[BO]at g|_::_,[],g,_,_=>by simp[BO]at g|x::xs,y::ys,g,ts,hv=>by
  simp [BO]at g;simp[yZ]at hv;split at hv
  .rename_i t m u h;simp at hv;subst hv;have k:=ku j g.1 u;have l:=YQ j g.2 h;exact⟨⟨_,_,rfl,k.1,l.1⟩,k.2,l.2⟩
  .cases hv
variable{r:Al}
theorem jK{w':World}{F F':Nat->Nat->Prop}{base:Nat}(g:r.Aaq=true)(h:Hx w' F base r v):Hx w' F' base r v:=by
 cases r with
 |sh t=>exact Ss t g v h|tp ts=>obtain⟨vs,k,j⟩:=h;exact⟨vs,k,GB ts g _ j⟩
 |own t=>
  obtain ⟨z,k,j⟩:=h;refine⟨z,?_,j⟩;cases t<;>simp[Al.Aaq]at g
  grind [Bl,GB,Mb]
 |_=>simp[Al.Aaq]at g
theorem VD(h:r.Aaq=true):r.plain=true:=by
 cases r<;>first|rfl|(simp[Al.Aaq]at h)
variable{f:FuncId}{ats:Array TypeId}{Q:Exit->Act->World->Prop}
theorem fg(l:AN F0 w0 O a w G)(hd:d<a.tmps.size)(j:o.dst=some d){xs:Array Operand}{ys:List AE}(m:o.op=.call {callee:=.value (.func f),args:=xs,argTypes:=ats})(u:BO xs.toList ys=true)(h:(AD.zx f ys).wp (AX P) O (some d) K)
  {next:Act->World->Prop}(D:∀e env' a' w',K e env'->QS a d a'->Bg F0 w0 ((d,e)::env') a' w'->next a' w'):o.wp P a w next Q:=by
 simp [AD.wp]at h;cases g:yZ O ys with
 |none=>rw[g]at h;exact h.elim|some ts=>
  rw [g]at h;simp[Ad]at h;obtain⟨r,⟨E,A⟩,H⟩:=h;have hv:=YQ l u g;have k:(execOp a.eval o).run P w=(callFunc f (xs.map a.eval)).run P w:=by simp[execOp,m,resolve,Act.eval,Deferred.ofValue,invoke]
  obtain ⟨I,B⟩:=(E.to0 (VD A)) hv.2;obtain⟨C,B⟩:=B (fun _ _=>False) w (xs.map a.eval) (by simpa using hv.1) l.below.now;unfold Oper.wp;rw[k,EL I _,Oper.upon_enter];refine B.mono ?_;rintro e w' ⟨v,rfl,J,L⟩;simp[j];exact D _ _ _ _ (H C) ⟨_,rfl⟩ (l.called hd J (VD A) (jK A L) C)
theorem Ma:∀{g:List (Option AR)}{ts:Fq}{cs:List AR},D2 g ts=some cs->cs.length=ts.length/\∀(i:Nat)(c:AR),cs[i]?=some c->∃t,ts[i]?=some t/\(c=⟨false,t⟩\/(t=.nil/\∃n,c=⟨true,.list n []⟩\/c=⟨true,.xl n []⟩\/c=⟨true,.xn []⟩))
 |[],[],cs,h=>by simp[D2]at h;subst h;simp|[],_::_,cs,h=>by simp[D2]at h|none::g,[],cs,h=>by simp[D2]at h|some _::g,[],cs,h=>by simp[D2]at h|none::g,t::ts,cs,h=>by
  simp [D2]at h;split at h
  .rename_i cs' k;simp at h;subst h;obtain⟨l,m⟩:=Ma k
   grind
  .cases h
 |some A::g,t::ts,cs,h=>by
  cases t<;>simp[D2]at h<;>try cases h
  have key:∃cs' j,D2 g ts=some cs'/\cs=j::cs'/\∃n,j=⟨true,.list n []⟩\/j=⟨true,.xl n []⟩\/j=⟨true,.xn []⟩:=by
   grind
  obtain ⟨cs',j,k,rfl,u⟩:=key;obtain⟨l,m⟩:=Ma k
  grind
theorem je(H:AN F0 w0 O a w G)(hd:d<a.tmps.size){I:List (Option AR)}(k:o.op=.box t x)(l:AK x y=true)(h:(AD.Aal I y).wp S O (some d) K):At P F0 w0 a w o d K:=by
 simp [AD.wp]at h;split at h
 .rename_i u Y hv j;simp at j;subst j;cases A:D2 I u.cells with
  |none=>rw[A]at h;exact h.elim|some cs=>
   rw [A]at h;simp[Ad]at h;obtain⟨C,V⟩:=h;obtain⟨W,D⟩:=Ma A;have N:=Ar H l hv;have B:=GD N.1;have R:=A9 B.1;refine⟨_,_,by simp[execOp,k,Instr.box,newVar,newRow],_,_,V,H.box hd C (c:=(a.eval x).cells) (T:=t) (by rw[W];simpa using R) (fun F' m i c J=>?_) (fun c J=>?_)⟩
   .obtain⟨X,M,E⟩:=D i c J;have U:i<u.cells.length:=(List.getElem?_eq_some_iff.1 M).1;have L:(a.eval x).cells.toList[i]?=some ((a.eval x).cells.toList[i]'(by omega)):=List.getElem?_eq_getElem (by omega);have g:=((BQ _ _).1 B.1).2 i X _ M L;refine⟨(a.eval x).cells.toList[i]'(by omega),by rw[<-Array.getElem?_toList];exact L,?_⟩;rcases E with rfl|⟨rfl,n,rfl|rfl|rfl⟩
    .exact⟨By m _ _ g,B.2 _ (List.getElem_mem _)⟩
    .simp[Af]at g;simp only[A8,D1,Bl];exact⟨[],⟨by simp,.inl ⟨g,rfl,rfl⟩⟩,rfl,by simp,by simp⟩
    .simp[Af]at g;simp only[A8,D1];exact⟨[],⟨none,⟨by simp,.inl ⟨g,rfl,rfl⟩⟩,rfl⟩,rfl,by simp,by simp⟩
    .simp[Af]at g;simp[A8,D1];exact⟨[],⟨none,⟨by simp,.inl ⟨g,rfl,rfl⟩⟩,rfl⟩,by simp,by simp⟩
   grind [List.getElem?_of_mem,Bc,Hd,List.mem_of_getElem?,TV.WF,TV.tg]
 .exact h.elim
theorem Xv(k:AN F0 w0 O a w G):∀{i:Nat}{xs:List Operand}{ys:List AE},BO xs ys=true->∀{ts:Fq},H6 O i ys=some ts->(∀x,xs[i]?=some x->(a.eval x).oneCell'=true)->AP w (AW w0.heap.size F0 G) ts (xs.map a.eval)/\TV.tg ts
 |i,[],[],_,ts,hv,_=>by cases i<;>simp[H6]at hv<;>subst hv<;>exact⟨rfl,trivial⟩
 |_,[],_::_,g,_,_,_=>by simp[BO]at g|_,_::_,[],g,_,_,_=>by simp[BO]at g|0,x::xs,y::ys,g,ts,hv,ho=>by
  simp [BO]at g;simp[H6]at hv;split at hv
  .rename_i l h;simp at hv;subst hv;have j:=FM k g.2 h;exact⟨⟨_,_,rfl,by simp[Af];exact ho x rfl,j.1⟩,trivial,j.2⟩
  .cases hv
 |i+1,x::xs,y::ys,g,ts,hv,ho=>by
  simp [BO]at g;simp[H6]at hv;split at hv
  .rename_i t l A h;simp at hv;subst hv;have m:=Ar k g.1 A;have j:=Xv k g.2 h (fun x u=>ho x (by simpa using u));exact⟨⟨_,_,rfl,m.1,j.1⟩,m.2,j.2⟩
  .cases hv
noncomputable def Be(a:Act)(G:BH)(s:Nat):DB:=open Classical in fun q i=>if q=0 then G s i else if∃k lo,G s k=some (q-1,lo)then(match i with|some j=>G (a.tmps.size+(q-1)) (some j)|none=>none)else none
theorem Uf{a:Act}{G:BH}{b lo:Nat}(h:Be a G s q i=some (b,lo)):(q=0/\G s i=some (b,lo))\/(q≠0/\(∃k g,G s k=some (q-1,g))/\G (a.tmps.size+(q-1)) i=some (b,lo)):=by
 simp [Be]at h;split at h
 .grind
 .rename_i e;split at h
  .grind
  .cases h
theorem Cy{a:Act}{G:BH}:Be a G s 0=G s:=by
 funext i;simp[Be]
theorem Oo{a:Act}{G:BH}{s g lo:Nat}{k:Option Nat}(h:G s k=some (g,lo))(j:Nat):(Be a G s).x8 g j=x8 a G g j:=by
 simp only[DB.x8,Be,x8];rw[az (by omega),ae ⟨k,lo,by simpa using h⟩];rfl
theorem JW(h:AN F0 w0 O a w G)(B:s<a.tmps.size):Ir (Be a G s):=by
 intro q i C D b lo m u A;rcases Uf u with⟨k,g⟩|⟨k,_,g⟩<;>rcases Uf A with⟨l,j⟩|⟨l,_,j⟩
 .exact⟨by rw[k,l],(h.ns _ _ _ _ _ _ _ g j).2⟩
 .have:=(h.ns _ _ _ _ _ _ _ g j).1;omega
 .have:=(h.ns _ _ _ _ _ _ _ g j).1;omega
 .have:=h.ns _ _ _ _ _ _ _ g j
  grind
theorem B2{b lo:Nat}(l:Be a G s q i=some (b,lo)):∃p j,G p j=some (b,lo)/\(p=s\/∃g k h,p=a.tmps.size+g/\G s k=some (g,h)):=by grind[Uf]
noncomputable def B9(a:Act)(G:BH)(s d:Nat)(Z:DB):BH:=open Classical in fun p=>if p=d then Z 0 else if p=s then fun _=>none else
 if a.tmps.size<=p/\∃k lo,Z 0 k=some (p-a.tmps.size,lo)then(fun i=>match i with|some j=>Z (p-a.tmps.size+1) (some j)|none=>none)else
 if a.tmps.size<=p/\∃k lo,G s k=some (p-a.tmps.size,lo)then fun _=>none else G p
variable{Z:DB}{p:Nat}
theorem PE{a:Act}{G:BH}{s d:Nat}{b lo:Nat}(h:B9 a G s d Z p i=some (b,lo)):
  (p=d/\Z 0 i=some (b,lo))\/(p≠d/\a.tmps.size<=p/\Z (p-a.tmps.size+1) i=some (b,lo))\/(p≠d/\p≠s/\¬(a.tmps.size<=p/\∃k lo,G s k=some (p-a.tmps.size,lo))/\G p i=some (b,lo)):=by
 simp [B9]at h;split at h
 .rename_i e;exact .inl ⟨e,h⟩
 .rename_i e;split at h
  .cases h
  .rename_i g;split at h
   .rename_i l;cases i with
    |none=>cases h
    |some j=>exact .inr (.inl ⟨e,l.1,h⟩)
   .split at h
    .cases h
    .rename_i m;exact .inr (.inr ⟨e,g,m,h⟩)
theorem AN.zg(h:AN F0 w0 O a w G){s d:Nat}(hsz:s<a.tmps.size)(hd:d<a.tmps.size){w':World}(X:GI (Be a G s) w w'){env':AB}{a':Act}(ha':a'.tmps.size=a.tmps.size)(had:a'.defers=a.defers)
  (hzu:Ir Z)(hz:∀q i b lo,Z q i=some (b,lo)->b<w'.heap.size/\(w.heap.size<=b\/∃p j l,Be a G s p j=some (b,l)/\l<=lo))
  (hdom:∀p,a.tmps.size<=p->env'.get p=.undef)(hwf:∀p,(env'.get p).WF)
  (D:∀p,p≠d->p≠s->slot a' p=slot a p)(N:∀p,p≠d->p≠s->env'.get p=O.get p)(hgs:s≠d->env'.get s=.undef)
  (m:O.gt d=true\/(d=s/\(∃cs0,O.get s=.bx cs0)/\O.noX s none=true/\(∀n es,env'.get d≠.xo n es)/\slot a' s=slot a s)\/((∀cs,env'.get d≠.bx cs)/\∀n es,env'.get d≠.xo n es))
  (hrep:∀F',(∀b o,F' b o->(b<w.heap.size/\AW w0.heap.size F0 G b o/\¬ZF (Be a G s) b o)\/ZF Z b o)->AL a' w' F' (B9 a G s d Z) env' d (env'.get d) (slot a' d)):
  AN F0 w0 env' a' w' (B9 a G s d Z)/\∀b o,AW w0.heap.size F0 (B9 a G s d Z) b o->(b<w.heap.size/\AW w0.heap.size F0 G b o/\¬ZF (Be a G s) b o)\/ZF Z b o:=by
 have W:∀p i b lo,p≠s->¬(a.tmps.size<=p/\∃k lo,G s k=some (p-a.tmps.size,lo))->G p i=some (b,lo)->∀q j l,Be a G s q j≠some (b,l):=by
  intro p i b lo I hn A q j l H;obtain⟨p',j',R,V⟩:=B2 H;obtain⟨rfl,_⟩:=h.ns _ _ _ _ _ _ _ A R;rcases V with V|⟨g,k,lo0,rfl,f3⟩
  .exact I V
  .exact hn ⟨by omega,k,lo0,by rw[Nat.add_sub_cancel_left];exact f3⟩
 have hE:∀b o,b<w0.heap.size->ZF (Be a G s) b o->w0.E b o:=fun b o hlt⟨q,i,lo,A,H⟩=>by
  obtain ⟨p,j,R,_⟩:=B2 A;exact(h.lt _ _ _ _ R).2.elim (fun e=>by omega) (fun e=>e o H)
 have hforb:∀b o,AW w0.heap.size F0 (B9 a G s d Z) b o->(b<w0.heap.size/\F0 b o)\/(∃p i lo,p≠s/\¬(a.tmps.size<=p/\∃k lo,G s k=some (p-a.tmps.size,lo))/\G p i=some (b,lo)/\lo<=o)\/ZF Z b o:=by
  rintro b o (A|⟨p,i,lo,A,H⟩)
  .exact .inl A
  .rcases PE A with⟨_,e⟩|⟨_,_,e⟩|⟨_,e1,e2,e3⟩
   .exact .inr (.inr ⟨_,i,lo,e,H⟩)
   .exact .inr (.inr ⟨_,i,lo,e,H⟩)
   grind
 have hall:∀b o,AW w0.heap.size F0 (B9 a G s d Z) b o->(b<w.heap.size/\AW w0.heap.size F0 G b o/\¬ZF (Be a G s) b o)\/ZF Z b o:=by
  intro b o hf;rcases hforb b o hf with A|⟨p,i,lo,e1,e0,e2,e3⟩|A
  .exact .inl ⟨Nat.lt_of_lt_of_le A.1 h.below.size,.inl A,fun hz=>h.below.free _ _ _ (hE b o A.1 hz) A.2⟩
  .exact .inl ⟨(h.lt _ _ _ _ e2).1,.inr ⟨p,i,lo,e2,e3⟩,fun⟨q,j,l,R,_⟩=>W p i b lo e1 e0 e2 q j l R⟩
  .exact .inr A
 have hag:BS w w' (AW w0.heap.size F0 G) (AW w0.heap.size F0 (B9 a G s d Z)):=by
  intro b o u hc hF;have hlt:b<w.heap.size:=World.block_lt_of_cell? w ⟨b,o,none⟩ hc;have hnf:¬ZF (Be a G s) b o:=fun⟨q,i,lo,A,H⟩=>by
   obtain ⟨p,j,R,_⟩:=B2 A;exact hF (.inr ⟨p,j,lo,R,H⟩)
  refine ⟨X.cell b o u hnf hc,fun hF'=>?_⟩;rcases hall b o hF' with⟨_,A,_⟩|⟨q,i,lo,A,H⟩
  .exact hF A
  .rcases(hz q i b lo A).2 with h3|⟨p,j,l,h3,h4⟩
   .omega
   .exact hnf ⟨p,j,l,h3,Nat.le_trans h4 H⟩
 have hlow:∀p,p<a.tmps.size->p≠d->p≠s->B9 a G s d Z p=G p:=by
  intro p hp A H;simp[B9];rw[az A,az H,az (fun e=>by have:=e.1;omega),az (fun e=>by have:=e.1;omega)]
 refine ⟨⟨?_,?_,?_,had.trans h.defers,fun p hp=>hdom p (by omega),?_,hwf⟩,hall⟩
 .intro p i p' i' b lo l e1 e2;have mix:∀p i q i' lo l,p≠s->¬(a.tmps.size<=p/\∃k lo,G s k=some (p-a.tmps.size,lo))->G p i=some (b,lo)->Z q i'=some (b,l)->False:=by
   intro p i q i' lo l hp hn R V;rcases(hz q i' b l V).2 with h3|⟨p2,j,T,h3,_⟩
   .have:=(h.lt _ _ _ _ R).1;omega
   .exact W p i b lo hp hn R p2 j T h3
  rcases PE e1 with⟨R,M⟩|⟨R,f3,M⟩|⟨_,f3,f4,M⟩<;>rcases PE e2 with⟨V,g2⟩|⟨V,f5,g2⟩|⟨_,f5,f6,g2⟩
  .exact⟨by rw[R,V],(hzu _ _ _ _ _ _ _ M g2).2⟩
  .have:=(hzu _ _ _ _ _ _ _ M g2).1;omega
  .exact(mix _ _ _ _ _ _ f5 f6 g2 M).elim
  .have:=(hzu _ _ _ _ _ _ _ M g2).1;omega
  .have:=hzu _ _ _ _ _ _ _ M g2;exact⟨by omega,this.2⟩
  .exact(mix _ _ _ _ _ _ f5 f6 g2 M).elim
  .exact(mix _ _ _ _ _ _ f3 f4 M g2).elim
  .exact(mix _ _ _ _ _ _ f3 f4 M g2).elim
  .exact h.ns _ _ _ _ _ _ _ M g2
 .intro p i b lo e1;have znew:∀q i,Z q i=some (b,lo)->b<w'.heap.size/\(w0.heap.size<=b\/∀o,lo<=o->w0.E b o):=by
   intro q i R;obtain⟨A,H⟩:=hz q i b lo R;refine⟨A,?_⟩;rcases H with H|⟨p,j,l,H,h3⟩
   .exact .inl (Nat.le_trans h.below.size H)
   .obtain⟨p',j',V,_⟩:=B2 H;exact(h.lt _ _ _ _ V).2.imp id (fun e o ho=>e o (Nat.le_trans h3 ho))
  rcases PE e1 with⟨_,M⟩|⟨_,_,M⟩|⟨_,_,_,M⟩
  .exact znew _ _ M
  .exact znew _ _ M
  .exact⟨Nat.lt_of_lt_of_le (h.lt _ _ _ _ M).1 X.size,(h.lt _ _ _ _ M).2⟩
 .refine h.below.trans X.os X.tape X.output X.size (fun k hk he=>X.block k (Nat.lt_of_lt_of_le hk h.below.size) (fun q i lo U=>he lo (hE k lo hk ⟨q,i,lo,U,b6 _⟩))) (fun b o u hlt he hu=>X.cell b o u (fun U=>he (hE b o hlt U)) hu)
 .intro p hp;rw[ha']at hp;by_cases hpd:p=d
  .subst hpd;exact hrep _ hall
  .by_cases I:p=s
   .subst I;rw[hgs hpd];trivial
   .rw[N p hpd I,D p hpd I];have hn:¬(a.tmps.size<=p/\∃k lo,G s k=some (p-a.tmps.size,lo)):=fun e=>by have:=e.1;omega
    have hsame:∀r,(r≠d->r≠s)->r≠d->slot a' r=slot a r:=fun r A H=>D r H (A H);refine AL.kept' hag (fun i=>by rw[hlow p hp hpd I]) (fun i b lo U=>X.block b (h.lt _ _ _ _ U).1 (fun q j l=>W p i b lo I hn U q j l)) (fun i g lo j hg=>?_) (fun i g lo j b l hg L=>?_) (fun r i k L⟨pp,J⟩=>?_) (fun r off L⟨cs2,hcs⟩=>?_) (fun r i L⟨pp,J⟩=>?_) (h.slots p hp)
    .show B9 a G s d Z (a'.tmps.size+g) (some j)=G (a.tmps.size+g) (some j);rw[ha'];simp[B9];rw[az (by omega),az (by omega),az,az]
     .rintro⟨_,k,l,e⟩;rw[Nat.add_sub_cancel_left]at e;exact I (h.ns _ _ _ _ _ _ _ hg e).1
     .rintro⟨_,k,l,e⟩;rw[Nat.add_sub_cancel_left]at e;rcases(hz _ _ _ _ e).2 with h3|⟨p2,j2,T,h3,_⟩
      .have:=(h.lt _ _ _ _ hg).1;omega
      .exact W p i g lo I hn hg p2 j2 T h3
    .refine X.block b (h.lt _ _ _ _ L).1 (fun q j2 T hzf=>?_);obtain⟨p',j',R,V⟩:=B2 hzf;obtain⟨e1,_⟩:=h.ns _ _ _ _ _ _ _ L R;rcases V with V|⟨g',k,lo0,f3,f4⟩
     .omega
     .have:g=g':=by omega
      subst this;exact I (h.ns _ _ _ _ _ _ _ hg f4).1
    .obtain⟨cs,A,H⟩:=AB.x3 J;by_cases B:r=d
     .subst B;rcases m with m|⟨rfl,_,m,_⟩|⟨m,_⟩
      .exact absurd L (AB.Aah _ O m p i k)
      .exact absurd L (AB.noX_nh m p i (.inl rfl) k)
      .exact absurd A (m cs)
     .by_cases C:r=s
      .subst C;rw[hgs B]at A;cases A
      .have h4:O.nat r i=some pp:=by rw[<-J];exact(AB.y4 (N r B C)).symm
       have hrl:r<a.tmps.size:=h.lts (by rw[<-N r B C,A];simp);exact⟨⟨pp,h4⟩,h.nh ⟨pp,h4⟩ (D r B C) (fun j b _ Y=>X.block b (h.lt _ _ _ _ Y).1 (fun q j2 T=>W r j b 0 C (fun e=>by have:=e.1;omega) Y q j2 T))⟩
    .by_cases B:r=d
     .subst B;rcases m with m|⟨e1,⟨cs0,e2⟩,_,_,hds⟩|⟨m,_⟩
      .exact absurd L (AB.zB _ O m p off)
      .exact⟨⟨cs0,by rw[e1];exact e2⟩,by rw[e1];exact hds⟩
      .exact absurd hcs (m cs2)
     .by_cases C:r=s
      .subst C;rw[hgs B]at hcs;cases hcs
      .exact⟨⟨cs2,by rw[<-N r B C];exact hcs⟩,D r B C⟩
    .by_cases B:r=d
     .subst B;obtain⟨n,es⟩:=pp;rcases m with m|⟨rfl,_,m,hxo,_⟩|⟨m,hxo⟩
      .have hx:=AB.zJ _ O m p;rcases L with L|⟨c,L⟩
       .exact absurd L (hx.1 i)
       .exact absurd L (hx.2 i c)
      .cases i with
       |none=>exact absurd (AB.x6 J) (hxo n es)|some k=>
        have h5:=AB.noX_spec m p k (.inl rfl);rcases L with L|⟨c,L⟩
        .exact absurd L h5.1
        .exact absurd L (h5.2 c)
      .cases i with
       |none=>exact absurd (AB.x6 J) (hxo n es)|some k=>
        obtain ⟨cs,A,_⟩:=AB.tl J;exact absurd A (m cs)
     .by_cases C:r=s
      .subst C;rw[AB.zq (hgs B)]at J;cases J
      .have h4:O.x4 r i=some pp:=by rw[<-J];exact(AB.yx (N r B C)).symm
       have hrl:r<a.tmps.size:=by
        refine h.lts (fun e=>?_);rw[AB.zq e]at h4;cases h4
       exact ⟨⟨pp,h4⟩,h.xv ⟨pp,h4⟩ (D r B C) (fun b Y=>X.block b (h.lt _ _ _ _ Y).1 (fun q j2 T=>W r none b 0 C (fun e=>by have:=e.1;omega) Y q j2 T))⟩
theorem QF{a a':Act}{G:BH}{s d:Nat}(l:a'.tmps.size=a.tmps.size)(hd:d<a.tmps.size)(m:s<a.tmps.size){k:Option Nat}{g lo:Nat}(h:Z 0 k=some (g,lo))(j:Nat):x8 a' (B9 a G s d Z) g j=Z.x8 g j:=by
 show B9 a G s d Z (a'.tmps.size+g) (some j)=Z.x8 g j;rw[l];simp only[B9,DB.x8];rw[az (by omega),az (by omega),ae ⟨by omega,k,lo,by rw[Nat.add_sub_cancel_left];exact h⟩]
 grind
theorem AN.reboxed(h:AN F0 w0 O a w G){cs cs':List AR}(J:O.get s=.bx cs)(C:O.noX s none=true){w':World}(L:GI (Be a G s) w w')
  (l:NN w' (fun b o=>(b<w.heap.size/\AW w0.heap.size F0 G b o/\¬ZF (Be a G s) b o)\/ZF Z b o) Z cs' (slot a s))
  (D:Ir Z)(M:∀q i b lo,Z q i=some (b,lo)->b<w'.heap.size/\(w.heap.size<=b\/∃p j m,Be a G s p j=some (b,m)/\m<=lo))(N:∀c∈cs',c.t.WF):
  AN F0 w0 ((s,.bx cs')::O) a w' (B9 a G s s Z)/\∀b o,AW w0.heap.size F0 (B9 a G s s Z) b o->(b<w.heap.size/\AW w0.heap.size F0 G b o/\¬ZF (Be a G s) b o)\/ZF Z b o:=by
 have k:s<a.tmps.size:=BU h J (by simp);have A:AB.get ((s,EV.bx cs')::O) s=.bx cs':=by rw[AB.d6,ae rfl]
 refine h.zg k k L rfl rfl D M (fun p R=>by rw[AB.d6,az (by omega)];exact h.dom p R) (fun p=>?_) (fun _ _ _=>rfl) (fun p _ E=>by rw[AB.d6,az (fun e=>E e.symm)]) (fun e=>absurd rfl e) (.inr (.inl ⟨rfl,⟨cs,J⟩,C,(fun n es e=>by rw[A]at e;cases e),rfl⟩)) (fun F' H=>?_)
 .rw[AB.d6];split
  .exact N
  .exact h.wf p
 .rw[A];obtain⟨b,c,T,W,X,Y,h4,h5⟩:=l;have B:B9 a G s s Z s=Z 0:=by simp[B9]
  simp only[AL];refine⟨b,c,T,W,X,Y,by rw[B];exact h4,fun i d hd=>?_⟩;obtain⟨x,e1,e2⟩:=h5 i d hd;refine⟨x,e1,?_⟩;rw[B];exact(e2.kept (fun b o u U hf=>⟨U,fun I=>hf (H b o I)⟩) (fun _ _ _=>rfl) BA.rfl').x8 (fun g lo j V=>QF rfl k k V j)
theorem fa(k:AN F0 w0 O a w G)(hd:d<a.tmps.size)(L:o.dst=some d){xs:Array Operand}{ys:List AE}{i:Nat}(hop:o.op=.call {callee:=.value (.func f),args:=xs,argTypes:=ats})(M:BO xs.toList ys=true)(h:(AD.y6 f ys i).wp (AX P) O (some d) K)
  {next:Act->World->Prop}(hn:∀e env' a' w',K e env'->QS a d a'->Bg F0 w0 ((d,e)::env') a' w'->next a' w'):o.wp P a w next Q:=by
 simp only[AD.wp]at h;split at h
 .rename_i d' s R D;simp at R;subst R;split at h
  .rename_i cs U;obtain⟨⟨hno,hds⟩,h⟩:=h;cases H:H6 O i ys with
   |none=>rw[H]at h;exact h.elim|some ts=>
    rw [H]at h;simp only[Ad]at h;obtain⟨cs',m,hS,hK⟩:=h;rw[Option.bind_eq_some_iff]at D;obtain⟨y,hy,D⟩:=D;have hxi:∀(xs:List Operand)(ys:List AE)(i:Nat)(y:AE),BO xs ys=true->ys[i]?=some y->∃x,xs[i]?=some x/\AK x y=true:=by
     intro xs
     induction xs with
     |nil=>intro ys i y A B;cases ys<;>simp[BO]at A B
     |cons x xs ih=>
      intro ys i y A B;cases ys with
      |nil=>simp[BO]at A|cons z ys=>
       simp [BO]at A
       grind
    obtain ⟨x,hx,hxy⟩:=hxi _ _ _ _ M hy;obtain⟨b,hsl,C⟩:=Gm k hxy D U;have hv:=Xv k M H (fun x' N=>by rw[hx]at N;cases N;rw[C];rfl);have V:=k.wf s;rw[U]at V;have hbx:=AZ k U (by simp);have hsplit:∀b o,AW w0.heap.size F0 G b o↔((AW w0.heap.size F0 G b o/\¬ZF (Be a G s) b o)\/ZF (Be a G s) b o):=by
     intro b o;constructor
     .grind
     .rintro(hf|⟨q,i,lo,A,B⟩)
      .exact hf.1
      .obtain⟨p,j,I,_⟩:=B2 A;exact .inr ⟨p,j,lo,I,B⟩
    have hF:(fun b o=>(AW w0.heap.size F0 G b o/\¬ZF (Be a G s) b o)\/ZF (Be a G s) b o)=AW w0.heap.size F0 G:=by
     grind
    obtain ⟨B,h3⟩:=hS hv.2 V;have hbr:NN w (fun b o=>(AW w0.heap.size F0 G b o/\¬ZF (Be a G s) b o)\/ZF (Be a G s) b o) (Be a G s) cs (slot a s):=by
     rw [hF];obtain⟨b,c,T,A,B,h3,h4,h5⟩:=hbx;refine⟨b,c,T,A,B,h3,by rw[Cy];exact h4,fun i d hd=>?_⟩;obtain⟨x,e1,e2⟩:=h5 i d hd;exact⟨x,e1,by rw[Cy];exact e2.x8 (fun g lo j hg=>Oo hg j)⟩
    obtain ⟨⟨k1,k2⟩,k3⟩:=h3 (fun b o=>AW w0.heap.size F0 G b o/\¬ZF (Be a G s) b o) w (xs.map a.eval) (slot a s) (Be a G s) (by rw[hF];simpa using hv.1)
     (by rw[Array.getElem?_map];rw[<-Array.getElem?_toList,hx];simp;rw[C,hsl]) hbr (JW k (BU k U (by simp))) (fun q i b lo e=>by obtain⟨p,j,I,_⟩:=B2 e;exact(k.lt _ _ _ _ I).1)
     (by
      rintro b o o' ⟨q,i,lo,e1,e2⟩ ⟨hf,hnz⟩;by_cases hlo:lo<=o'
      .exact hnz ⟨q,i,lo,e1,hlo⟩
      .obtain⟨p,j,I,_⟩:=B2 e1;exact Ob k b lo o' I (by omega) hf)
     ⟨k.below.now,fun b o⟨_,_,_,e,_⟩=>by obtain⟨_,_,I,_⟩:=B2 e;exact k.low I⟩
    have W:(execOp a.eval o).run P w=(callFunc f (xs.map a.eval)).run P w:=by simp[execOp,hop,resolve,Act.eval,Deferred.ofValue,invoke]
    unfold Oper.wp;rw[W,EL B _,Oper.upon_enter];refine k3.mono ?_;rintro e w' ⟨r,J,rfl,r1,r2,r3,r4,r5⟩;simp[L];obtain⟨Y,E⟩:=k.reboxed U hno r1 r2 r3 r4 k1;refine hn _ _ _ _ (hK ⟨k1,k2⟩) ⟨_,rfl⟩ ?_;have X:∀b o,AW w0.heap.size F0 (JQ (B9 a G s s J) d fun _=>none) b o->(b<w.heap.size/\AW w0.heap.size F0 G b o/\¬ZF (Be a G s) b o)\/ZF J b o:=by
     intro b o hf;have hf2:AW w0.heap.size F0 (B9 a G s s J) b o:=AW.mono (fun p i b lo D=>by
      by_cases hpd:p=d
      .grind[Bs]
      .rw[BC _ _ _ _ hpd]at D;exact⟨p,i,lo,D,b6 _⟩) hf
     exact E b o hf2
    have l:BS w' w' (fun b o=>(b<w.heap.size/\AW w0.heap.size F0 G b o/\¬ZF (Be a G s) b o)\/ZF J b o) (AW w0.heap.size F0 (JQ (B9 a G s s J) d fun _=>none)):=fun b o u hc hf=>⟨hc,fun E=>hf (X b o E)⟩;by_cases hus:∃t,m=[t]
    .obtain⟨t,rfl⟩:=hus;exact Y.tv (Below.refl _ _) d hd t r (By l t r r5) k2.1
    .have hof:EV.ofs m=.tp m:=by
      rcases m with _|⟨t,_|⟨t',m⟩⟩
      .rfl
      .grind
      .rfl
     have hur:∃vs,r=.tuple vs/\AP w' (fun b o=>(b<w.heap.size/\AW w0.heap.size F0 G b o/\¬ZF (Be a G s) b o)\/ZF J b o) m vs.toList:=by
      rcases m with _|⟨t,_|⟨t',m⟩⟩
      .exact r5
      .grind
      .exact r5
     obtain ⟨vs,rfl,hvs⟩:=hur;rw[hof];refine⟨_,Y.quiet (Below.refl _ _) d hd (.tp m) _ (fun _=>none) (by simp) (by simp) (by simp) ?_ k2⟩;simp only[AL];exact⟨vs,rfl,Aj l m _ hvs⟩
  .exact h.elim
 .exact h.elim
end
end Go.Sf
namespace Go.Sf
open Go.RowKit (Below)
variable{z z0:Value}
theorem KC(h:z.cells=#[z0])(k:Nat):Builtin.zeroCells z.cells k=(List.replicate k z0).toArray:=by
 rw [h];apply Array.ext
 .simp[Builtin.zeroCells]
 .intro i g j;simp[Builtin.zeroCells,Nat.mod_one]
section
variable{P:Program}{w:World}
theorem R0(t J ty e L:TypeId)(i:TypeInfo)(z z0:Value)(U V:IntKind)(M:P.underlying t=some (.slice e))(B:P.underlying J=some (.int V))(hi:P.info? e=some i)(W:i.zero=some z)(N:i.size=1)(H:z.cells=#[z0])(X:z0.oneCell'=true)
  (g h j:Nat)(l:Array Value)(Y:w.heap[g]?=some (.cells l L (0,0)))
  (k:Nat)(h48:k*i.bytes<=281474976710656)(R:(k:Int)<=9223372036854775807)(A:h+k<=j)(C:h+k<=l.size):
  (Builtin.append_ #[t,J] ty #[.slice (some ⟨g,0,none⟩) h j,.int U k]).run P w=
   .ok (.slice (some ⟨g,0,none⟩) (h+k) j) (w.setRow g (l.toList.take h++List.replicate k z0++l.toList.drop (h+k)).toArray):=by
 have hw:IntKind.i64.wrap (k:Int)=k:=by rw[IntKind.wrap_i64];omega
 have D:¬((k:Int)<0):=by omega
 have E:¬(281474976710656<(k:Int)*(i.bytes:Int)):=by
  grind
 have m:=run_storeCells_at P g h L (List.replicate k z0) 0 l w Y (by simpa using C) (fun u hu=>by rw[List.eq_of_mem_replicate hu];exact X);simp at m;by_cases T:k=0
 .subst T;simp at m;have I:IntKind.i64.wrap 0=0:=by decide
  simp [Builtin.append_,run_underlying M,run_underlying B,sizeOf,typeInfo,hi,asInt,asIntOf,I,N,show h<=j from by omega,Addr.add_lit,m]
 .simp[Builtin.append_,run_underlying M,run_underlying B,sizeOf,typeInfo,zeroValue,hi,W,asInt,asIntOf,hw,D,E,N,T,A,Addr.add_lit,KC H,m]
theorem Tb(t h ty e:TypeId)(i:TypeInfo)(j k:IntKind)(l:P.underlying t=some (.slice e))(g:P.underlying h=some (.int k))(hi:P.info? e=some i):
  (Builtin.append_ #[t,h] ty #[.slice none 0 0,.int j 0]).run P w=.ok (.slice none 0 0) w:=by
 have m:IntKind.i64.wrap 0=0:=by decide
 simp [Builtin.append_,run_underlying l,run_underlying g,sizeOf,typeInfo,hi,asInt,asIntOf,m]
theorem lw(t V ty e:TypeId)(i:TypeInfo)(z z0:Value)(Y kn:IntKind)(ht:P.underlying t=some (.slice e))(J:P.underlying V=some (.int kn))(hi:P.info? e=some i)(hz:i.zero=some z)
  (hs:i.size=1)(hby:i.bytes<=4096)(B:z.cells=#[z0])(h1:z0.oneCell'=true)(v:Value)(len:Nat)(xs:List Value)(zo:Option (Nat×Nat))(l:FW w 1 v len xs zo)(k:Nat)(hk:k<=4096)(M:len+k<=AU):
  ∃v' w' z',(Builtin.append_ #[t,V] ty #[v,.int Y k]).run P w=.ok v' w'/\FW w' 1 v' (len+k) (xs++List.replicate k z0) z'/\IW w w' zo z':=by
 have m:(xs++List.replicate k z0).length=(len+k)*1:=by rw[bk,l.1,List.length_replicate];omega
 have L:(len+k)*i.bytes<=140737488355328:=by
  calc (len+k)*i.bytes<=AU*4096:=Nat.mul_le_mul M hby
   _<=140737488355328:=by decide
 have N:k*i.bytes<=281474976710656:=by
  grind
 have hml:len+k<=maxLen:=by simp[maxLen,AU]at *;omega
 have hzlt:∀b lo,zo=some (b,lo)->b<w.heap.size:=by
  intro b lo I;rcases l.2 with⟨_,_,h⟩|⟨g,cap,E,U,_,hg,_,_,_,_,h⟩
  .rw[h]at I;cases I
  grind
 have C:∀(old:Nat),old<len+k ->
   FW (w.drew.alloc (.cells (xs.toArray++Builtin.zeroCells z.cells k++Builtin.zeroCells z.cells (grownCap w (len+k) old e-(len+k))) e)) 1
    (.slice (some ⟨w.heap.size,0,none⟩) (len+k) (grownCap w (len+k) old e)) (len+k) (xs++List.replicate k z0) (some (w.heap.size,(len+k)*1))/\
   IW w (w.drew.alloc (.cells (xs.toArray++Builtin.zeroCells z.cells k++Builtin.zeroCells z.cells (grownCap w (len+k) old e-(len+k))) e)) zo (some (w.heap.size,(len+k)*1)):=by
  intro old ho;have hge:=grownCap_ge w (len+k) old e;have R:grownCap w (len+k) old e<=maxLen:=grownCap_le_maxLen w (len+k) old e hml;have hxl:xs.length=len:=by simpa using l.1
  refine ⟨⟨m,.inr ⟨w.heap.size,_,_,e,rfl,heap_alloc_new w.drew _,hge,R,?_,?_,rfl⟩⟩,⟨rfl,rfl,rfl,by simp,fun k hk _=>Below.heap_alloc w.drew _ k hk,fun b o v W _=>?_,fun b lo I=>?_⟩⟩
  .rw[KC B,KC B];simp[hxl];omega
  .rw[KC B,KC B];simp only[Array.toList_append,c9];rw[<-c9,<-m];exact List.take_left
  .have I:b<w.heap.size:=World.block_lt_of_cell? w ⟨b,o,none⟩ W;rw[World.cell?_alloc_lt _ _ (a:=⟨b,o,none⟩) (by simpa using I)];simpa using W
  .simp at I;rw[<-I.1];exact⟨by simp,.inl (b6 _)⟩
 rcases l.2 with⟨rfl,rfl,rfl⟩|⟨g,cap,E,U,rfl,hg,hnc,R,hcs,H,rfl⟩
 .have hx:xs=[]:=List.eq_nil_of_length_eq_zero (by simpa using l.1);subst hx;by_cases hk0:k=0
  .subst hk0;exact⟨_,_,none,Tb t V ty e i Y kn ht J hi,⟨by simp,.inl ⟨rfl,rfl,rfl⟩⟩,IW.refl w none (by simp)⟩
  .have X:=Lib.run_append_nil_zeros (P:=P) w t V ty e i z Y kn ht J hi hz k (by omega) (by omega) (by omega) N;have A:=C 0 (by omega);simp only[Nat.zero_add,List.nil_append,Array.empty_append]at A X|-;exact⟨_,_,_,X,A.1,A.2⟩
 .have hxl:xs.length=len:=by simpa using l.1
  simp at hcs H;by_cases D:len+k<=cap
  .have X:=R0 (P:=P) (w:=w) t V ty e U i z z0 Y kn ht J hi hz hs B h1 g len cap E hg k N (by omega) D (by omega);refine⟨_,_,some (g,(len+k)*1),X,⟨m,.inr ⟨g,cap,_,U,rfl,setRow_heap w g E _ U _ hg,D,R,?_,?_,rfl⟩⟩,⟨rfl,rfl,rfl,by simp,fun j _ hj=>setRow_other w g j _ (fun e=>hj (len*1) (by rw[e])),fun b o u W hlo=>?_,fun b lo I=>?_⟩⟩
   .simp;omega
   .rw[H,<-m];exact List.take_left
   .by_cases hbg:b=g
    .subst hbg;have ho:=hlo (len*1) rfl;rw[cell_of_row _ b o _ U (0,0) (setRow_heap w b E _ U _ hg)];rw[cell_of_row w b o E U (0,0) hg]at W;rw[List.getElem?_toArray,c9,List.getElem?_append_left (by simp;omega),List.getElem?_take_of_lt (by omega)];simpa using W
    .rw[World.cell?_of_block (w:=w) (a:=⟨b,o,none⟩) (setRow_other w g b _ (fun e=>hbg e))];exact W
   .simp only[tn,Prod.mk.injEq]at I;obtain⟨rfl,rfl⟩:=I;refine⟨by simpa using hzlt g (len*1) rfl,.inr ⟨len*1,rfl,Nat.mul_le_mul_right _ (by omega)⟩⟩
  .have T:(Builtin.firstCells i.size len (.slice (some ⟨g,0,none⟩) len cap)).run P w.drew=.ok xs.toArray w.drew:=by
    refine run_firstCells_some (P:=P) w.drew i.size len ⟨g,0,none⟩ len cap xs (by rw[hs];omega) (fun j u hu=>?_);rw[Addr.add_lit,Nat.zero_add];have:=l.cell rfl j u hu;simpa using this
   have X:=Lib.run_append_grow_zeros (P:=P) w t V ty e i z Y kn ht J hi hz (some ⟨g,0,none⟩) len cap xs T k (by omega) (by omega) (by omega) (by simp[AU]at M;omega) N (growslice_fits (by omega) L);have A:=C cap (by omega);exact⟨_,_,_,X,A.1,A.2⟩
end
def Operand.AaF(n:Nat):Operand->Bool
 |.tmp m=>m==n|_=>false
variable{n:Nat}{x:Operand}
theorem Operand.isTmp_eq'(h:Operand.AaF n x=true):x=.tmp n:=by
 cases x<;>simp[Operand.AaF]at h;rw[h]
def iK(P:Program)(n s:Nat)(z:TV)(x:AE)(c:Call):Bool:=
 match c.callee,c.args.toList,c.argTypes.toList with
 |.builtin .append,[p,q],[t,t']=>Operand.AaF s p&&AK q x&&(match P.underlying t,P.underlying t' with
  |some (.slice e),some (.int _)=>(match P.info? e with
   |some i=>(match i.zero with
    |some zz=>(match zz.cells.toList with
     |[z0]=>n==1&&i.size==1&&decide (i.bytes<=4096)&&Ds z z0&&z0.oneCell'|_=>false)
    |none=>false)
   |none=>false)
  |_,_=>false)
 |_,_,_=>false
section
variable{P:Program}{S:FuncId->Fq->Al->Prop}{F0:Nat->Nat->Prop}{w0:W0}{O:AB}{a:Act}{w:World}{G:BH}{d:Nat}{o:Oper}{K:EV->AB->Prop}
variable{s:Nat}{x:Operand}{y:AE}{t t' e:TypeId}
theorem jY(N:AN F0 w0 O a w G)(hd:d<a.tmps.size){kn:IntKind}{i:TypeInfo}{R z0:Value}{z:TV}(T:o.op=.call {callee:=.builtin .append,args:=#[.tmp s,x],argTypes:=#[t,t']})
  (ht:P.underlying t=some (.slice e))(U:P.underlying t'=some (.int kn))(hi:P.info? e=some i)(l:i.zero=some R)(V:i.size=1)(W:i.bytes<=4096)(X:R.cells=#[z0])(D:Ds z z0=true)(h1:z0.oneCell'=true)
  (Y:AK x y=true)(h:(AD.Aae 1 s z y).wp S O (some d) K):At P F0 w0 a w o d K:=by
 simp [AD.wp]at h;split at h
 .rename_i d' m es kk j E hs hy;simp at E;subst E;obtain⟨⟨⟨rfl,_⟩,I⟩,⟨h0,h4⟩,⟨g,hno,hds⟩,hK⟩:=h;obtain⟨k,rfl⟩:∃k:Nat,j=k:=⟨j.toNat,by omega⟩;simp at g hK;have A:=AZ N hs (by simp);have B:=N.wf s;rw[hs]at B;simp[AL]at A;obtain⟨xs,⟨zo,k1,J⟩,k2,k3,k4⟩:=A;have hv:=(Ar N Y hy).1;simp[Af]at hv;obtain⟨v',w',z',L,r1,C⟩:=lw (P:=P) t t' o.type e i R z0 kk kn ht U hi l V W X h1 (slot a s) es.length xs zo k1 k (by omega) g;have hnz:∀k,(∀lo,G s none≠some (k,lo))->∀lo,zo≠some (k,lo):=fun k hk lo l=>hk 0 (by rw[J,l];rfl);have hfm:∀k,(List.replicate k z).flatMap TV.cells=List.replicate k z:=by
   intro k
   induction k with
   |zero=>rfl|succ k ih=>rw[List.replicate_succ,List.flatMap_cons,ih,I];rfl
  refine ⟨v',w',?_,_,_,hK,N.xgo hs hd hds (z':=z'.map fun p=>(p.1,0)) C.os C.tape C.output C.size (fun k hk l=>C.other k hk (hnz k l)) (fun b lo l=>?_) (by simp) (fun _=>hno) (fun F' G' env' a' hag hG _=>?_) ?_⟩
  .simp[execOp,T,resolve,invoke,builtin,show a.eval (.tmp s)=slot a s from rfl,hv,L]
  .cases z' with
   |none=>simp at l|some p=>
    simp at l;obtain⟨q1,M⟩:=C.AaG p.1 p.2 rfl;rw[<-l.1];refine⟨q1,?_⟩;rcases M with M|⟨lo',M,_⟩
    .exact .inl M
    .exact .inr ⟨0,by rw[J,M];rfl⟩
  .simp only[AL];rw[hG];refine⟨xs++List.replicate k z0,⟨z',by rw[bk,List.length_replicate];exact r1,rfl⟩,?_,?_,?_⟩
   .rw[List.flatMap_append,hfm];refine Hs (Aj hag _ _ k2) ?_;rw[BQ];refine⟨by simp,fun i u v hu hv=>?_⟩;rw[List.eq_of_mem_replicate (List.mem_of_getElem? hu),List.eq_of_mem_replicate (List.mem_of_getElem? hv)];exact(Gp _ F' z z0 D).1
   .intro e he;rcases List.mem_append.1 he with he|he
    .exact k3 e he
    .rw[List.eq_of_mem_replicate he,I];rfl
   .intro x H;rcases List.mem_append.1 H with H|H
    .exact k4 x H
    .rw[List.eq_of_mem_replicate H];exact h1
  .simp only[EV.WF,TV.WF]at B|-;refine⟨by rw[bk,List.length_replicate];exact UF g,Jx.2 ⟨B.2,?_⟩⟩;rw[Bc];intro u hu;rw[List.eq_of_mem_replicate hu];exact(Gp w (fun _ _=>False) z z0 D).2
 .exact h.elim
variable{f:FuncId}{ats:Array TypeId}
theorem fc(l:AN F0 w0 O a w G)(hd:d<a.tmps.size){xs:Array Operand}{ys:List AE}(j:o.op=.call {callee:=.value (.func f),args:=xs,argTypes:=ats})(k:BO xs.toList ys=true)(h:(AD.zW f ys).wp (AX P) O (some d) K):At P F0 w0 a w o d K:=by
 simp [AD.wp]at h;cases g:vals O ys with
 |none=>rw[g]at h;exact h.elim|some ts=>
  rw [g]at h;simp[Ad]at h;obtain⟨m,u,A⟩:=h;have hv:=FM l k g;obtain⟨⟨E,B⟩,C⟩:=u hv.2;obtain⟨r,D,H⟩:=C w (xs.map a.eval) (by simpa using Aj XZ _ _ hv.1);refine⟨.tuple r,w,by simp[execOp,j,resolve,Act.eval,Deferred.ofValue,invoke,<-D],_,_,A,_,l.quiet (Below.refl _ _) d hd (.tp m) _ (fun _=>none) (by simp) (by simp) (by simp) ?_ B⟩
  grind [AL,GB]
def aM(P:Program)(t:TypeId)(n:Nat):Bool:=
 match P.underlying t with
 |some (.slice e)=>(match P.info? e with
  |some ie=>ie.size==n|none=>false)
 |_=>false
variable{n:Nat}
theorem jk(A:AN F0 w0 O a w G)(hd:d<a.tmps.size)(k:o.op=.buildSlice t 0 #[])(g:aM P t n=true)(h:(AD.Aac n).wp S O (some d) K):At P F0 w0 a w o d K:=by
 simp [AD.wp]at h;obtain⟨m,D⟩:=h;unfold aM at g;split at g
 .rename_i e B;split at g
  .rename_i E l;have j:(execOp a.eval o).run P w=.ok (.value (.slice (some ⟨w.heap.size,0,none⟩) 0 0)) (w.alloc (.cells #[] e)):=by
    simp [execOp,k,Instr.buildSlice,run_underlying B,sizeOf,typeInfo,l,Instr.fill,newRow]
    grind
   have C:Below w.heap.size w (w.alloc (.cells #[] e)):=(Below.refl _ _).alloc (b6 _) _;refine⟨_,_,j,_,_,D,A.AaU C hd m (z:=some (w.heap.size,0*n)) (xs:=[]) ⟨by simp,.inr ⟨w.heap.size,0,_,e,by simp,heap_alloc_new w _,by simp,by simp[maxLen],by simp,by simp,by simp⟩⟩ (fun b lo u=>?_) (fun F' _=>rfl) (by simp) (by simp) ⟨by simp,trivial⟩⟩;simp at u;rw[<-u.1];exact⟨b6 _,by simp⟩
  .cases g
 .cases g
theorem Jh(h:AB):∀(g:QQ)(O:AB)(n:Nat),AB.get (Qb h g O) n=if n∈g then(h.get n).gave else O.get n
 |[],_,_=>by simp[Qb]|q::g,O,n=>by
  rw [Qb,AB.d6,Jh h g O n]
  grind
theorem LZ(e:EV):(∃t,e=.ow t/\e.gave=.tv t)\/e.gave=.undef:=by
 cases e<;>first|exact .inl ⟨_,rfl,rfl⟩|exact .inr rfl
abbrev Sy:=Value ⊕ (Operand×Nat×Nat)
def Ub:List Sy->Nat->List Sy->List Sy
 |l,_,[]=>l|l,i,y::ys=>Ub (l.set i y) (i+1) ys
def R2(place:Nat->Option (Nat×Nat)):List (Nat×Operand)->List Sy->Option (List Sy)
 |[],row=>some row|(i,x)::ps,row=>match place i with
  |some (off,n)=>if off+n<=row.length then R2 place ps (Ub row off ((List.range n).map fun k=>.inr (x,k,n)))else none|none=>none
def Sy.is(a:Act):Sy->Value->Prop
 |.inl u,v=>v=u|.inr (x,k,_),v=>(a.eval x).cells[k]?=some v
def Qs(a:Act)(row:List Sy)(xs:List Value):Prop:=xs.length=row.length/\∀(j:Nat)(s:Sy)(v:Value),row[j]?=some s->xs[j]?=some v->s.is a v
variable{v:Value}
theorem jM{a:Act}{row:List Sy}{xs:List Value}(h:Qs a row xs){s:Sy}(m:s.is a v)(i:Nat):Qs a (row.set i s) (xs.set i v):=by
 refine ⟨by simp[h.1],fun j s' l g k=>?_⟩;rw[List.getElem?_set]at g k;by_cases e:i=j
 .grind
 .rw[az e]at g k;exact h.2 j s' l g k
theorem Yn{a:Act}:∀{g:List Sy}{vs:List Value}{row:List Sy}{xs:List Value}(i:Nat),Qs a row xs->Qs a g vs->Qs a (Ub row i g) (Vg xs i vs)
 |[],[],_,_,_,h,_=>h|[],_::_,_,_,_,_,h=>by have:=h.1;simp at this|_::_,[],_,_,_,_,h=>by have:=h.1;simp at this|s::g,v::vs,row,xs,i,h,k=>by
  rw [Ub,Vg];exact Yn (i+1) (jM h (k.2 0 s v rfl rfl) i) ⟨by have:=k.1;simpa using this,fun j s' l m u=>k.2 (j+1) s' l (by simpa using m) (by simpa using u)⟩
theorem Zw{a:Act}{place:Nat->Option (Nat×Nat)}:∀{u:List (Nat×Operand)}{row g:List Sy}{xs:Array Value},Qs a row xs.toList->(∀p∈u,∀l n,place p.1=some (l,n)->(a.eval p.2).cells.size=n)->R2 place u row=some g ->
  ∃xs',Instr.fill place xs (u.map fun(i,x)=>(i,a.eval x))=some xs'/\Qs a g xs'.toList
 |[],row,g,xs,h,_,hf=>by
  simp [R2]at hf;subst hf;exact⟨xs,rfl,h⟩
 |(i,x)::u,row,g,xs,h,D,hf=>by
  rw [R2]at hf;split at hf
  .rename_i l n A;split at hf
   .rename_i E;have m:=D (i,x) (by simp) l n A;simp only at m;have H:=h.1;rw[Array.length_toList]at H;have I:Qs a (Ub row l ((List.range n).map fun k=>.inr (x,k,n))) (((a.eval x).cells.zipIdx.foldl (fun cs(y:Value×Nat)=>cs.setIfInBounds (l+y.2) y.1) xs)).toList:=by
     rw [<-Array.foldl_toList,Array.toList_zipIdx,Q0,Nat.add_zero];refine Yn l h ⟨by simp[m],fun j s v B L=>?_⟩;rw[List.getElem?_map]at B;simp at B;obtain⟨k,M,rfl⟩:=B;have C:k=j:=by
      grind
     subst C;show(a.eval x).cells[k]?=some v
     grind
    obtain ⟨xs',N,J⟩:=Zw I (fun p A=>D p (by simp[A])) hf;refine⟨xs',?_,J⟩;simp[List.map_cons,Instr.fill,A]
    grind
   .cases hf
  .cases hf
def Rr:GC->Sy->Bool
 |.z c,.inl v=>UI c v|.v y k n,.inr (x,k',n')=>AK x y&&k==k'&&n==n'|.w q,.inr (x,k',n')=>AK x (.s q)&&k'==0&&n'==1|.g q k n,.inr (x,k',n')=>AK x (.s q)&&k==k'&&n==n'|_,_=>false
def ST:List GC->List Sy->Bool
 |[],[]=>true|g::gs,s::ss=>Rr g s&&ST gs ss|_,_=>false
def T8(x:Operand)(n:Nat):GC->Bool
 |.z _=>false|.v y _ m=>AK x y&&m==n|.w q=>AK x (.s q)&&1==n|.g q _ m=>AK x (.s q)&&m==n
def Sk(place:Nat->Option (Nat×Nat))(z:List Value)(ps:List (Nat×Operand))(gs:List GC):Bool:=
 (ps.all fun p=>match place p.1 with
  |some (_,n)=>gs.any (T8 p.2 n)|none=>false) &&
 match R2 place ps (z.map .inl)with
 |some row=>ST gs row|none=>false
def aK(P:Program)(t:TypeId)(ps:List (Nat×Operand))(gs:List GC):Bool:=
 match P.info? t,P.underlying t with
 |some it,some (.array _ e)=>
  match it.zero,P.info? e with
  |some z,some ie=>Sk (fun i=>some (i*ie.size,ie.size)) z.cells.toList ps gs|_,_=>false
 |some it,some (.struct fields)=>
  match it.zero,fields.toList.mapM (fun f=>(P.info? f.type).map fun i=>(f.offset,i.size))with
  |some z,some places=>Sk (places.toArray[·]?) z.cells.toList ps gs|_,_=>false
 |_,_=>false
theorem T7:∀{k:List GC}{l:List Sy},ST k l=true->l.length=k.length/\∀(j:Nat)(g:GC),k[j]?=some g->∃s,l[j]?=some s/\Rr g s=true
 |[],[],_=>⟨rfl,fun j g h=>by simp at h⟩|[],_::_,h=>by cases h
 |_::_,[],h=>by cases h
 |g::k,s::l,h=>by
  rw [ST,sr]at h;obtain⟨m,u⟩:=T7 h.2
  grind
theorem WR:∀{k:List GC}{cs:List AR},I9 O k=some cs->cs.length=k.length/\∀(j:Nat)(g:GC),k[j]?=some g->∃c,cs[j]?=some c/\g.cell O=some c
 |[],cs,h=>by simp[I9]at h;subst h;exact⟨rfl,fun j g h=>by simp at h⟩|g::k,cs,h=>by
  rw [I9]at h;split at h
  .rename_i c cs' m l;cases h;obtain⟨u,A⟩:=WR l
   grind
  .cases h
variable{q:Nat}
theorem Jg(h:AK x (.s q)=true):a.eval x=slot a q:=by
 cases x<;>simp[AK]at h;rw[h];rfl
variable{c:AR}
theorem kU(l:AN F0 w0 O a w G){g:GC}(h:g.cell O=some c)(j:T8 x n g=true):(a.eval x).cells.size=n:=by
 cases g with
 |z c=>cases j
 |v y k m=>
  simp [T8]at j;obtain⟨j,rfl⟩:=j;simp[GC.cell]at h;split at h
  .rename_i t B;split at h
   .rename_i u A;have:=A9 (GD (Ar l j B).1).1
    grind [Array.length_toList,Nat.eq_of_beq_eq_true]
   .cases h
  .cases h
 |w q=>
  simp [T8]at j;obtain⟨j,rfl⟩:=j;rw[Jg j];have:(slot a q).oneCell'=true:=by
   simp [GC.cell]at h;split at h
   .rename_i t e;have:=AZ l e (by simp)
    grind [AL,Ux]
   .rename_i m es e;have:=AZ l e (by simp);exact GT (ρ:=x8 a G) (c:=⟨true,.xl m es⟩) this
   .cases h
  rw [PV this];rfl
 |g q k m=>
  simp [T8]at j;obtain⟨j,rfl⟩:=j;rw[Jg j];simp[GC.cell]at h;split at h
  .rename_i cs e;split at h
   .rename_i u;have:=AZ l e (by simp);simp[AL]at this;obtain⟨vs,A,C,_⟩:=this;rw[A];show vs.size=m;rw[C,Nat.eq_of_beq_eq_true u]
   .cases h
  .cases h
theorem rE(A:AN F0 w0 O a w G){g:GC}(h:g.cell O=some c){s:Sy}(l:Rr g s=true)(hv:s.is a v):A8 w (AW w0.heap.size F0 G) (x8 a G) (g.src.bind fun p=>G p.1 p.2) c v/\c.t.WF:=by
 cases g with
 |z c'=>
  cases s with
  |inr p=>cases l
  |inl u=>
   simp [GC.cell]at h;subst h;have:v=u:=hv;subst this;exact VF l
 |v y k m=>
  cases s with
  |inl u=>cases l
  |inr p=>
   obtain ⟨x,E,H⟩:=p;simp[Rr]at l;obtain⟨⟨B,rfl⟩,_⟩:=l;have hv:(a.eval x).cells[k]?=some v:=hv;simp[GC.cell]at h;split at h
   .rename_i t J;split at h
    .rename_i c' U C;cases h;obtain⟨L,M⟩:=Ar A B J;obtain⟨N,R⟩:=GD L;rw[<-Array.getElem?_toList]at hv;exact⟨⟨((BQ _ _).1 N).2 k _ _ C hv,R v (List.mem_of_getElem? hv)⟩,Bc.1 (Hd M) _ (List.mem_of_getElem? C)⟩
    .cases h
   .cases h
 |w q=>
  cases s with
  |inl u=>cases l
  |inr p=>
   obtain ⟨x,E,H⟩:=p;simp[Rr]at l;obtain⟨⟨B,rfl⟩,_⟩:=l;have hv:(a.eval x).cells[0]?=some v:=hv;rw[Jg B]at hv;have j:=A.wf q;simp[GC.cell]at h;split at h
   .rename_i t e;cases h;have:=AZ A e (by simp);simp[AL]at this;rw[PV (Ux this)]at hv;cases hv;rw[e]at j;exact⟨this.c,j⟩
   .rename_i m es e;cases h;have:=AZ A e (by simp);have D:A8 w (AW w0.heap.size F0 G) (x8 a G) (G q none) ⟨true,.xl m es⟩ (slot a q):=this;rw[PV (GT D)]at hv;cases hv;rw[e]at j;exact⟨D,j⟩
   .cases h
 |g q k m=>
  cases s with
  |inl u=>cases l
  |inr p=>
   obtain ⟨x,E,H⟩:=p;simp[Rr]at l;obtain⟨⟨B,rfl⟩,_⟩:=l;have hv:(a.eval x).cells[k]?=some v:=hv;rw[Jg B]at hv;have j:=A.wf q;simp[GC.cell]at h;split at h
   .rename_i cs e;split at h
    .have:=AZ A e (by simp);simp[AL]at this;obtain⟨vs,C,_,T⟩:=this;rw[C]at hv;have hv:vs[k]?=some v:=hv;obtain⟨x',I,D⟩:=T k c h;rw[hv]at I;cases I;rw[e]at j;exact⟨D,j c (List.mem_of_getElem? h)⟩
    .cases h
   .cases h
theorem AN.regather(h:AN F0 w0 O a w G)(hd:d<a.tmps.size){C:QQ}{cs:List AR}{vs:Array Value}(σ:Nat->Option (Nat×Option Nat))(hdq:d∉C)(Y:vs.size=cs.length)(hσ:∀j q i,σ j=some (q,i)->q∈C)
  (R:∀j T p,σ j=some p->σ T=some p->j=T)(hc:∀(j:Nat)(c:AR),cs[j]?=some c->∃x,vs[j]?=some x/\A8 w (AW w0.heap.size F0 G) (x8 a G) ((σ j).bind fun p=>G p.1 p.2) c x)(hwf:∀c∈cs,c.t.WF)(hq:∀q∈C,q<a.tmps.size):
  Bg F0 w0 ((d,.yr cs)::Qb O C O) (a.put (some d) (.agg vs)) w:=by
 let A:BH:=fun p i=>if p=d then i.bind fun j=>(σ j).bind fun p=>G p.1 p.2 else if p∈C then none else G p i
 have I:∀p i b lo,A p i=some (b,lo)->(∃j q k,p=d/\i=some j/\σ j=some (q,k)/\G q k=some (b,lo))\/(p≠d/\p∉C/\G p i=some (b,lo)):=by
  intro p i b lo m;simp[A]at m;split at m
  .rename_i u;cases i with
   |none=>cases m
   |some j=>
    simp at m;cases hj:σ j with
    |none=>rw[hj]at m;cases m
    |some q=>rw[hj]at m;exact .inl ⟨j,q.1,q.2,u,rfl,hj,m⟩
  grind
 have hF:∀b o,AW w0.heap.size F0 A b o->AW w0.heap.size F0 G b o:=fun b o hf=>AW.mono (fun p i b lo m=>by
  grind) hf
 have J:BS w w (AW w0.heap.size F0 G) (AW w0.heap.size F0 A):=fun b o v hc hf=>⟨hc,fun hf'=>hf (hF b o hf')⟩;have D:x8 (a.put (some d) (.agg vs)) A=x8 a G:=MW (BT _ _ _) fun p m=>by
  grind
 refine ⟨A,?_,?_,h.below,by rw[EO];exact h.defers,?_,?_,?_⟩
 .intro p i p' i' b lo lo' e1 g;rcases I _ _ _ _ e1 with⟨j,q,k,rfl,rfl,W,f2⟩|⟨n1,n2,W⟩<;>rcases I _ _ _ _ g with⟨T,q',k',rfl,rfl,X,g2⟩|⟨m1,m2,X⟩
  .obtain⟨V,e4⟩:=h.ns _ _ _ _ _ _ _ f2 g2;subst V;subst e4;exact⟨rfl,by rw[R j T _ W X]⟩
  .obtain⟨V,_⟩:=h.ns _ _ _ _ _ _ _ f2 X;exact absurd (V▸hσ j q k W) m2
  .obtain⟨V,_⟩:=h.ns _ _ _ _ _ _ _ g2 W;exact absurd (V▸hσ T q' k' X) n2
  .exact h.ns _ _ _ _ _ _ _ W X
 .intro p i b lo e1;rcases I _ _ _ _ e1 with⟨j,q,k,_,_,_,f⟩|⟨_,_,f⟩<;>exact h.lt _ _ _ _ f
 .intro p m;rw[BT]at m;rw[AB.d6,az (by omega),Jh];split
  .rename_i hm;have:=hq p hm;omega
  .exact h.dom p m
 .intro p m;rw[BT]at m;rw[AB.d6];by_cases u:d=p
  .subst u;rw[ae rfl,CS _ _ _ hd];simp only[AL];refine⟨_,rfl,Y,fun i c hci=>?_⟩;obtain⟨x,M,hr⟩:=hc i c hci;refine⟨x,M,?_⟩;have:A d (some i)=(σ i).bind fun p=>G p.1 p.2:=by simp only[A,if_true];rfl
   rw [this,D];exact hr.kept J (fun _ _ _=>rfl) BA.rfl'
  .rw[az u,AY _ _ _ _ u,Jh];split
   .rcases LZ (O.get p)with⟨t,e,g⟩|g
    .have E:=AZ h e (by simp);rw[g];simp[AL]at E|-;exact By J _ _ (Bl.rep E (fun b lo o hz ho=>Ob h b lo o hz ho))
    .rw[g];simp[AL]
   .rename_i hnq;refine AL.kept J (fun i=>by simp[A];rw[az (fun e=>u e.symm),az hnq]) (fun _ _ _ _=>rfl) D BA.rfl' (fun r i k _⟨pp,H⟩=>?_) (fun r off _⟨cs',l⟩=>?_) (fun r i _⟨pp,H⟩=>?_) (h.slots p m)
    .have L:=AB.yg (by simp) H;have B:=Jh O C O r;split at B
     .have U:=L.2;rcases LZ (O.get r)with⟨t,_,g⟩|g<;>rw[g]at B<;>simp[AB.nat,B]at U<;>cases U
     .have M:∃p,O.nat r i=some p:=⟨pp,by rw[<-L.2];exact(AB.y4 B).symm⟩;exact⟨M,h.nh M (AY _ _ _ _ L.1) (fun _ _ _ _=>rfl)⟩
    .rw[AB.d6]at l;by_cases N:d=r
     .rw[ae N]at l;cases l
     .rw[az N,Jh]at l;split at l
      .rcases LZ (O.get r)with⟨t,_,g⟩|g<;>(rw[g]at l;cases l)
      .exact⟨⟨cs',l⟩,AY _ _ _ _ N⟩
    .have L:=AB.t5 (by simp) (by simp) H;have B:=Jh O C O r;split at B
     .have U:=L.2;rcases LZ (O.get r)with⟨t,_,g⟩|g<;>rw[g]at B<;>cases i<;>simp[AB.x4,B]at U<;>cases U
     .have M:∃p,O.x4 r i=some p:=⟨pp,by rw[<-L.2];exact(AB.yx B).symm⟩;exact⟨M,h.xv M (AY _ _ _ _ L.1) (fun _ _=>rfl)⟩
 .intro p;rw[AB.d6];split
  .exact hwf
  .rw[Jh];have:=h.wf p;split
   .rcases LZ (O.get p)with⟨t,e,g⟩|g
    .rw[e]at this;rw[g];exact this
    .rw[g];trivial
   .exact this
theorem Y0{α β:Type}{f:α->Option β}{l:List α}(g:(l.filterMap f).Nodup){i j:Nat}{p:β}(hi:(l[i]?).bind f=some p)(u:(l[j]?).bind f=some p):i=j:=by
 have key:∀(l:List α)(i j:Nat),(l.filterMap f).Nodup->(l[i]?).bind f=some p->(l[j]?).bind f=some p->i<j->False:=by
  intro l
  induction l with
  |nil=>intro i j _ h;simp at h|cons x l C=>
   intro i j g A B m;obtain⟨j,rfl⟩:∃k,j=k+1:=⟨j-1,by omega⟩
   grind
 grind
theorem jZ(L:AN F0 w0 O a w G)(hd:d<a.tmps.size){E:Array (Nat×Operand)}{A:List GC}(X:o.op=.build t E)(l:aK P t E.toList A=true)(h:(AD.yt A).wp S O (some d) K):At P F0 w0 a w o d K:=by
 simp only[AD.wp]at h;obtain⟨⟨hn,hdq⟩,h⟩:=h;cases H:I9 O A with
 |none=>rw[H]at h;exact h.elim|some cs=>
  rw [H]at h;simp[Ad]at h;obtain⟨hl,D⟩:=WR H;have key:∀(place:Nat->Option (Nat×Nat))(z:Array Value),Sk place z.toList E.toList A=true->∃xs',Instr.fill place z (E.map fun(i,x)=>(i,a.eval x)).toList=some xs'/\xs'.size=cs.length/\
    ∀(j:Nat)(c:AR),cs[j]?=some c->(∃x,xs'[j]?=some x/\A8 w (AW w0.heap.size F0 G) (x8 a G) (((A[j]?).bind GC.src).bind fun p=>G p.1 p.2) c x)/\c.t.WF:=by
   intro place z hp;unfold Sk at hp;rw[sr,List.all_eq_true]at hp;obtain⟨hp1,J⟩:=hp;split at J
   .rename_i row N;have h5:(E.map fun(i,x)=>(i,a.eval x)).toList=E.toList.map fun(i,x)=>(i,a.eval x):=by simp
    obtain ⟨xs',Y,U⟩:=Zw (a:=a) (xs:=z) (row:=z.toList.map .inl) ⟨by simp,fun j s v B C=>by
     rw [List.getElem?_map]at B;simp only[Option.map_eq_some_iff]at B;obtain⟨u,hu,rfl⟩:=B;rw[hu]at C;cases C;rfl⟩ (fun p hm off n M=>by
     grind [List.any_eq_true,List.getElem?_of_mem,kU]) N
    obtain ⟨m1,m2⟩:=T7 J;have R:=U.1;rw[Array.length_toList]at R;refine⟨xs',by rw[h5];exact Y,by omega,fun j c m=>?_⟩;have hj:j<A.length:=by have:=(List.getElem?_eq_some_iff.1 m).1;omega
    have I:A[j]?=some A[j]:=List.getElem?_eq_getElem hj;obtain⟨c',T,hc2⟩:=D j _ I;rw[m]at T;cases T;obtain⟨s,hs1,hs2⟩:=m2 j _ I;have hx:xs'[j]?=some (xs'[j]'(by omega)):=Array.getElem?_eq_getElem (by omega);obtain⟨r1,r2⟩:=rE L hc2 hs2 (U.2 j s _ hs1 (by rw[Array.getElem?_toList];exact hx));rw[I];exact⟨⟨_,hx,r1⟩,r2⟩
   .cases J
  have built:∃xs',P.built t (E.map fun(i,x)=>(i,a.eval x)).toList=some xs'/\xs'.size=cs.length/\
    ∀(j:Nat)(c:AR),cs[j]?=some c->(∃x,xs'[j]?=some x/\A8 w (AW w0.heap.size F0 G) (x8 a G) (((A[j]?).bind GC.src).bind fun p=>G p.1 p.2) c x)/\c.t.WF:=by
   unfold aK at l;unfold Program.built;split at l
   .rename_i it len e B C;simp only[B,C];split at l
    .rename_i z ie hz hie;simp only[hz,hie];exact key _ _ l
    .cases l
   .rename_i it V B C;simp only[B,C];split at l
    .rename_i z W hz M;simp only[hz,M];exact key _ _ l
    .cases l
   .cases l
  obtain ⟨xs',B,C,h3⟩:=built;refine⟨.agg xs',w,by simp[execOp,X,run_build w t _ _ B],_,_,h,L.regather hd (fun j=>(A[j]?).bind GC.src) hdq C (fun j q i e=>?_) (fun j j' p Y U=>Y0 hn Y U) (fun j c m=>(h3 j c m).1) (fun c m=>?_) (fun q hq=>?_)⟩
  .rw[Option.bind_eq_some_iff]at e;obtain⟨g,I,e⟩:=e;refine List.mem_filterMap.2 ⟨g,List.mem_of_getElem? I,?_⟩;cases g<;>simp[GC.src]at e<;>simp[GC.slot,e.1]
  .grind[List.getElem?_of_mem]
  .obtain⟨g,I,e⟩:=List.mem_filterMap.1 hq;obtain⟨j,hj⟩:=List.getElem?_of_mem I;obtain⟨c,_,m⟩:=D j g hj;cases g with
   |z c=>cases e
   |v y k n=>cases e
   |w q'=>
    cases e;simp[GC.cell]at m;split at m
    .rename_i t e;exact BU L e (by simp)
    .rename_i n es e;exact BU L e (by simp)
    .cases m
   |g q' k n=>
    cases e;simp[GC.cell]at m;split at m
    .rename_i cs e;exact BU L e (by simp)
    .cases m
end
end Go.Sf
