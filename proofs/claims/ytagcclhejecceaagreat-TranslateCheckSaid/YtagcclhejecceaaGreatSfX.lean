/- Lists that nobody else reads: stores into them, appends, calls that turn them. -/
import Derived.Test.YtagcclhejecceaaGreatSfApp
import Derived.Lib.AppendZerosOnto
set_option linter.all false
namespace Go.Sf
open Go.RowKit (Below)
def Qh:Operand->Bool
 |.const v=>LQ v|_=>false
variable{α:Type}
theorem aJ{a:Array α}{x:α}(h:a.toList=[x]):a=#[x]:=by
 cases a;simp_all
section flat
variable{w w':World}{F F':Nat->Nat->Prop}
mutual
theorem Pm:∀(t:TV),t.flat=true->∀v,Ah w F t v->Ah w' F' t v
 |.int _ _,_,_,h=>h|.bool _,_,_,h=>h|.str _,_,_,h=>h|.agg cs,hf,v,h=>by
  have:=FG cs (by simpa[TV.flat]using hf)
  grind [Ah]
 |.undef,hf,_,_=>by simp[TV.flat]at hf|.xl _ _,hf,_,_=>by simp[TV.flat]at hf|.nil,hf,_,_=>by simp[TV.flat]at hf|.list _ _,hf,_,_=>by simp[TV.flat]at hf|.pt _,hf,_,_=>by simp[TV.flat]at hf|.w8 _ _,hf,_,_=>by simp[TV.flat]at hf
theorem FG:∀(ts:Fq),TV.wv ts=true->∀vs,AQ w F ts vs->AQ w' F' ts vs
 |[],_,vs,h=>h|t::ts,hf,vs,h=>by
  simp [TV.wv]at hf;simp[AQ]at h|-;obtain⟨v,r,g,j,k⟩:=h;exact⟨v,r,g,Pm t hf.1 v j,FG ts hf.2 r k⟩
end
theorem SV:∀(xs ys:Fq),TV.wv (xs++ys)=(TV.wv xs&&TV.wv ys)
 |[],ys=>by simp[TV.wv]|x::xs,ys=>by simp[TV.wv,SV xs ys,Bool.and_assoc]
theorem aZ(t:TV)(h:t.flat=true):TV.wv t.cells=true:=by
 cases t<;>simp_all[TV.flat,TV.cells,TV.wv]
theorem JZ:∀(es:Fq),TV.wv es=true->TV.wv (es.flatMap TV.cells)=true
 |[],_=>rfl|e::es,h=>by
  simp [TV.wv]at h;rw[List.flatMap_cons,SV,aZ e h.1,JZ es h.2];rfl
end flat
section
variable{P:Program}{S:FuncId->Fq->Am->Prop}{F0:Nat->Nat->Prop}{w0:W0}{U:AB}{a:Act}{w:World}{G:BP}{d:Nat}{o:Oper}{K:EV->AB->Prop}
variable{q n:Nat}
theorem AB.xat_of_xo{U:AB}{es:Fq}(h:U.get q=.xo n es):U.tl q none=some (n,es):=by simp[AB.tl,h]
variable{x:Operand}{y:AF}
theorem NS(k:AO F0 w0 U a w G)(g:AI x y=true){p:(Nat×Option Nat)×Nat×Fq}(h:y.wn U=some p):U.tl p.1.1 p.1.2=some (p.2.1,p.2.2)/\XV a w p.1.1 p.1.2 (a.eval x):=by
 cases y with
 |c t=>simp[AF.wn]at h|s m=>
  have l:x=.tmp m:=by
   cases x<;>simp[AI]at g;rw[g]
  subst l;simp only[AF.wn]at h;split at h
  .rename_i n es he;simp only[tg]at h;subst h;exact⟨by simp only[AB.tl,he],rfl⟩
  .rename_i q i he;split at h
   .rename_i u j;simp only[tg]at h;subst h;have:=AW k he (by simp);simp only[AK]at this;exact⟨j,this ⟨_,j⟩⟩
   .cases h
  .cases h
variable{i:Option Nat}{v:Value}
theorem Nx{es:Fq}(h:AO F0 w0 U a w G)(g:U.tl q i=some (n,es))(hv:XV a w q i v):
  (TV.list n es).WF/\∃xs,I6 w n v es.length xs (G q i)/\AQ w (AS w0.heap.size F0 G) (es.flatMap TV.cells) xs/\(∀e∈es,e.cells.length=n)/\∀x∈xs,x.oneCell'=true:=by
 cases i with
 |none=>
  have g:=AB.wj g;have j:=AW h g (by simp);have l:=h.wf q;rw[g]at l;simp only[AK]at j;simp only[XV]at hv;rw[hv];exact⟨l,j⟩
 |some k=>
  obtain ⟨cs,u,A⟩:=AB.wa g;have j:=AW h u (by simp);have l:=h.wf q;rw[u]at l;simp only[AK]at j;obtain⟨b,c,T,D,E,L,M,H⟩:=j;obtain⟨N,c',O,m,B,C⟩:=hv;rw[D]at m;simp only[Value.pointer.injEq,tg,Addr.mk.injEq,and_true,and_self]at m;subst m;rw[E]at B;cases B;obtain⟨x,I,J⟩:=H k _ A;rw[I]at C;cases C;exact⟨l _ (List.mem_of_getElem? A),J⟩
theorem lh{es:Fq}(h:AO F0 w0 U a w G)(k:U.tl q i=some (n,es))(hv:XV a w q i v):∀b lo,G q i=some (b,lo)->lo=0:=by
 intro b lo g;obtain⟨_,xs,⟨l,_,j⟩,_⟩:=Nx h k hv;rw[j]at g;cases l with
 |none=>simp at g|some p=>simp at g;exact g.2.symm
theorem eQ{es:Fq}(h:AO F0 w0 U a w G)(u:U.tl q i=some (n,es))(hv:XV a w q i v)(k:es≠[]):
  ∃g cap j e xs,v=.slice (some ⟨g,0,none⟩) es.length cap/\w.heap[g]?=some (.cells j e (0,0))/\es.length<=cap/\cap<=maxLen/\j.size=cap*n/\j.toList.take (es.length*n)=xs/\G q i=some (g,0)/\AQ w (AS w0.heap.size F0 G) (es.flatMap TV.cells) xs/\(∀e∈es,e.cells.length=n)/\(∀x∈xs,x.oneCell'=true)/\xs.length=es.length*n:=by
 obtain ⟨_,xs,⟨O,m,l⟩,A,B,C⟩:=Nx h u hv;rcases m.2 with⟨_,D,_⟩|⟨g,cap,j,e,E,H,I,J,L,M,N⟩
 .exact absurd (List.eq_nil_of_length_eq_zero D) k
 .exact⟨g,cap,j,e,xs,E,H,I,J,L,M,by rw[l,N];rfl,A,B,C,m.1⟩
theorem AO.rexo(h:AO F0 w0 U a w G){es:Fq}(L:U.tl q i=some (n,es))(hv:XV a w q i v){w':World}(hb:PT (G q i) w w'){es':Fq}{xs':List Value}(M:I6 w' n v es'.length xs' (G q i))
  (W:BY w w' (AS w0.heap.size F0 G) (AS w0.heap.size F0 G)->AQ w' (AS w0.heap.size F0 G) (es'.flatMap TV.cells) xs')(hn:∀e∈es',e.cells.length=n)(h1:∀x∈xs',x.oneCell'=true)(hw:(TV.list n es').WF):
  AO F0 w0 (U.ww q i n es') a w' G:=by
 obtain ⟨b1,b2,b3,b4,b5⟩:=hb;have hz0:=lh h L hv;have R:BY w w' (AS w0.heap.size F0 G) (AS w0.heap.size F0 G):=by
  intro b o u hc hF;refine⟨?_,hF⟩;have V:b<w.heap.size:=by
   grind [Nat.lt_or_ge,World.cell?,Array.getElem?_eq_none]
  rw [World.cell?_of_block (w:=w) (a:=⟨b,o,none⟩) (b5 b V (fun lo B=>hF (.inr ⟨q,i,lo,B,by rw[hz0 b lo B];exact Nat.zero_le _⟩)))];exact hc
 have I:GZ F0 w0 w':=h.below.but b1 b2 b3 b4 (Z:=fun k=>∃lo,G q i=some (k,lo)) (fun b⟨lo,B⟩=>(h.lt _ _ _ _ B).2.imp id (fun e o=>e o (by rw[hz0 b lo B];exact Nat.zero_le _))) (fun k hk B=>b5 k (Nat.lt_of_lt_of_le hk h.below.size) (fun lo e=>B ⟨lo,e⟩));have V:∀s i b lo,G s i=some (b,lo)->b<w'.heap.size/\(w0.heap.size<=b\/∀o,lo<=o->w0.E b o):=fun s i b lo H=>⟨Nat.lt_of_lt_of_le (h.lt s i b lo H).1 b4,(h.lt s i b lo H).2⟩;have hxv:∀r j,(∃m,U.tl r j=some m)->∀v,XV a w r j v->XV a w' r j v:=by
  intro r j Y;cases j with
  |none=>exact fun v hv=>hv|some k=>
   refine h.xv Y rfl (fun b hb=>b5 b (h.lt _ _ _ _ hb).1 (fun lo B=>?_));obtain⟨rfl,rfl⟩:=h.ne _ _ _ _ _ _ _ B hb;have h1:=AB.wj L
   grind [AB.wa]
 have hqsz:q<a.tmps.size:=by
  cases i with
  |none=>exact h.lts (by rw[AB.wj L];simp)|some k=>obtain⟨cs,H,_⟩:=AB.wa L;exact h.lts (by rw[H];simp)
 have hrs:BD w w' (wk a G):=by
  intro g j b lo hr;exact b5 b (h.lt _ _ _ _ hr).1 (fun lo' B=>h.yS hqsz B hr rfl)
 have hnh:∀r j,(∃m,U.nat r j=some m)->∀k v,NH a w r j k v->NH a w' r j k v:=by
  intro r j Y k;refine h.nh Y rfl (fun l b hl hb=>b5 b (h.lt _ _ _ _ hb).1 (fun lo B=>?_));obtain⟨rfl,rfl⟩:=h.ne _ _ _ _ _ _ _ B hb;obtain⟨es1,Y⟩:=Y;obtain⟨cs,C,N⟩:=AB.wd Y;rcases hl with rfl|rfl
  .rw[AB.wj L]at C;cases C
  grind [AB.wa]
 have oth:∀(p:Nat)(e:EV),p<a.tmps.size->p≠q->(∀j,(∃m,AB.nat ((q,e)::U) q j=some m)->∃m,U.nat q j=some m)->(∀cs,e=.bx cs->∃cs',U.get q=.bx cs')->(∀j,(∃m,AB.tl ((q,e)::U) q j=some m)->∃m,U.tl q j=some m)->AK a w' (AS w0.heap.size F0 G) G ((q,e)::U) p (U.get p) (slot a p):=by
  intro p e O hpq hnt hbx hxa;refine AK.kept R (fun _=>rfl) (fun j b lo B=>b5 b (h.lt _ _ _ _ B).1 (fun lo' hz'=>hpq (h.ne _ _ _ _ _ _ _ B hz').1)) rfl hrs (fun r j k _⟨m,A⟩=>?_) (fun r off _⟨cs,hcs⟩=>?_) (fun r j _⟨m,A⟩=>?_) (h.slots p O)
  .have Y:∃m,U.nat r j=some m:=by
    by_cases hqr:q=r
    .subst hqr;exact hnt j ⟨m,A⟩
    grind [AB.wO]
   grind
  .grind[AB.d4]
  .have Y:∃m,U.tl r j=some m:=by
    by_cases hqr:q=r
    .subst hqr;exact hxa j ⟨m,A⟩
    grind [AB.wJ]
   grind
 cases i with
 |none=>
  have L:=AB.wj L;have hsz:=Ba h L (by simp);refine⟨h.ne,V,I,h.defers,fun p O=>?_,fun p O=>?_,fun p=>?_⟩
  .simp only[AB.ww];rw[AB.d4,ae (by omega)];exact h.dom p O
  .simp only[AB.ww];rw[AB.d4];by_cases D:q=p
   .subst D;rw[a6 rfl];simp only[AK];simp only[XV]at hv;rw[hv]at M;exact⟨xs',M,W R,hn,h1⟩
   .rw[ae D];refine oth p _ O (fun e=>D e.symm) (fun j⟨m,A⟩=>by obtain⟨cs,e⟩:=AB.xy A;cases e) (by simp) (fun j⟨m,A⟩=>?_);cases j with
    |none=>exact⟨(n,es),by simp only[AB.tl,L]⟩|some k=>
     obtain ⟨n1,es1⟩:=m;obtain⟨cs,C,_⟩:=AB.wa A;rw[AB.d4,a6 rfl]at C;cases C
  .simp only[AB.ww];rw[AB.d4];split
   .exact hw
   .exact h.wf p
 |some k=>
  obtain ⟨cs,H,hk⟩:=AB.wa L;have hsz:=Ba h H (by simp);have hwc:=h.wf q;rw[H]at hwc;have hr:=AW h H (by simp);simp only[AK]at hr;obtain⟨b,c,T,e1,e2,e3,e4,e5⟩:=hr;obtain⟨b',c',T',f1,f2,f3⟩:=hv;rw[e1]at f1;simp only[Value.pointer.injEq,tg,Addr.mk.injEq,and_true,and_self]at f1;subst f1;rw[e2]at f2;cases f2;have hbb:w'.heap[b]?=w.heap[b]?:=b5 b (h.lt _ _ _ _ e4).1 (fun lo B=>by
   have:=(h.ne _ _ _ _ _ _ _ B e4).2;cases this)
  refine ⟨h.ne,V,I,h.defers,fun p O=>?_,fun p O=>?_,fun p=>?_⟩
  .simp only[AB.ww,H];rw[AB.d4,ae (by omega)];exact h.dom p O
  .simp only[AB.ww,H];rw[AB.d4];by_cases D:q=p
   .subst D;rw[a6 rfl];simp only[AK];refine⟨b,c,T,e1,by rw[hbb];exact e2,by simpa using e3,e4,fun j d X=>?_⟩;rw[List.getElem?_set]at X;by_cases J:k=j
    .subst J;rw[a6 rfl]at X;split at X
     .simp only[tg]at X;subst X;exact⟨v,f3,xs',M,W R,hn,h1⟩
     .cases X
    .rw[ae J]at X;obtain⟨x,g1,g2⟩:=e5 j d X;exact⟨x,g1,g2.kept R (fun b lo B=>b5 b (h.lt _ _ _ _ B).1 (fun lo' hz'=>J (by
      have:=(h.ne _ _ _ _ _ _ _ hz' B).2;simpa using this))) hrs⟩
   .rw[ae D];refine oth p _ O (fun e=>D e.symm) (fun j⟨m,A⟩=>?_) (fun _ _=>⟨cs,H⟩) (fun j⟨m,A⟩=>?_)
    .obtain⟨cs',C,N⟩:=AB.wd A;rw[AB.d4,a6 rfl]at C;simp only[EV.bx.injEq]at C;subst C;rw[List.getElem?_set]at N;split at N
     .split at N<;>simp at N
     .exact⟨m,by simp only[AB.nat,H,N]⟩
    obtain ⟨n1,es1⟩:=m;cases j with
    |none=>have C:=AB.wj A;rw[AB.d4,a6 rfl]at C;cases C
    |some j=>
     obtain ⟨cs',C,N⟩:=AB.wa A;rw[AB.d4,a6 rfl]at C;simp only[EV.bx.injEq]at C;subst C;rw[List.getElem?_set]at N;by_cases J:k=j
     .subst J;exact⟨(n,es),L⟩
     .rw[ae J]at N;exact⟨(n1,es1),by simp only[AB.tl,H,N]⟩
  .simp only[AB.ww,H];rw[AB.d4];split
   .intro y hy;rcases List.mem_or_eq_of_mem_set hy with hy|rfl
    .exact hwc y hy
    .exact hw
   .exact h.wf p
theorem AO.xgo(h:AO F0 w0 U a w G){es:Fq}(hq:U.get q=.xo n es)(hd:d<a.tmps.size)(hdq:d≠q){w':World}{e:EV}{z':Option (Nat×Nat)}
  (b1:w'.os=w.os)(b2:w'.tape=w.tape)(b3:w'.output=w.output)(b4:w.heap.size<=w'.heap.size)(X:∀k,k<w.heap.size->(∀lo,G q none≠some (k,lo))->w'.heap[k]?=w.heap[k]?)
  (m:∀b lo,z'=some (b,lo)->b<w'.heap.size/\(w.heap.size<=b\/∃l,G q none=some (b,l)))
  (Y:∀cs,e≠.bx cs)(hno:(∃n es,e=.xo n es)->U.f0 d=true)
  (hrep:∀(F':Nat->Nat->Prop)(I:BP)(env':AB)(a':Act),BY w w' (AS w0.heap.size F0 G) F'->I d none=z'->(∀b o,F' b o->b<w.heap.size\/∃lo,z'=some (b,lo))->AK a' w' F' I env' d e v)(hw:e.WF):
  Bm F0 w0 ((d,e)::(q,.undef)::U) (a.put (some d) v) w':=by
 let I:BP:=IU (IU G q (fun _=>none)) d (fun i=>if i=none then z' else none)
 have T:=lh h (AB.xat_of_xo hq) (v:=slot a q) rfl;have H:∀p i b lo,I p i=some (b,lo)->(p=d/\i=none/\z'=some (b,lo))\/(p≠d/\p≠q/\G p i=some (b,lo)):=by
  intro p i b lo R;by_cases C:p=d
  .grind[Bq]
  .simp[I,A9 _ _ _ _ C]at R;by_cases hpq:p=q
   .grind[Bq]
   .rw[A9 _ _ _ _ hpq]at R
    grind
 have hag:BY w w' (AS w0.heap.size F0 G) (AS w0.heap.size F0 I):=by
  intro b o u hc hF;have hlt:b<w.heap.size:=World.block_lt_of_cell? w ⟨b,o,none⟩ hc;have hnz:∀lo,G q none≠some (b,lo):=fun lo D=>hF (.inr ⟨q,none,lo,D,by rw[T b lo D];exact Nat.zero_le _⟩);refine⟨?_,?_⟩
  .grind[World.cell?_of_block]
  .rintro(M|⟨p,i,lo,M,O⟩)
   .exact hF (.inl M)
   .rcases H _ _ _ _ M with⟨_,_,L⟩|⟨_,_,L⟩
    .grind
    .exact hF (.inr ⟨p,i,lo,L,O⟩)
 refine ⟨I,?_,?_,h.below.but b1 b2 b3 b4 (Z:=fun k=>∃lo,G q none=some (k,lo)) (fun b⟨lo,D⟩=>(h.lt _ _ _ _ D).2.imp id (fun e o=>e o (by rw[T b lo D];exact Nat.zero_le _))) (fun k hk D=>X k (Nat.lt_of_lt_of_le hk h.below.size) (fun lo e=>D ⟨lo,e⟩)),by rw[EY];exact h.defers,?_,?_,?_⟩
 .intro p i p' i' b lo l L e2;have other:∀p i lo l,z'=some (b,lo)->p≠q->G p i=some (b,l)->False:=by
   intro p i lo l E W f3;rcases(m _ _ E).2 with V|⟨lo'',V⟩
   .have:=(h.lt _ _ _ _ f3).1;omega
   .exact W (h.ne _ _ _ _ _ _ _ f3 V).1
  rcases H _ _ _ _ L with⟨rfl,rfl,E⟩|⟨n1,n2,E⟩<;>rcases H _ _ _ _ e2 with⟨rfl,rfl,W⟩|⟨m1,m2,W⟩
  .exact⟨rfl,rfl⟩
  .exact(other _ _ _ _ E m2 W).elim
  .exact(other _ _ _ _ W n2 E).elim
  .exact h.ne _ _ _ _ _ _ _ E W
 .intro p i b lo L;rcases H _ _ _ _ L with⟨_,_,E⟩|⟨_,_,E⟩
  .refine⟨(m _ _ E).1,?_⟩;rcases(m _ _ E).2 with V|⟨l,V⟩
   .exact .inl (Nat.le_trans h.below.size V)
   .exact(h.lt _ _ _ _ V).2.imp id (fun e o _=>e o (by rw[T _ _ V];exact Nat.zero_le _))
  .exact⟨Nat.lt_of_lt_of_le (h.lt _ _ _ _ E).1 b4,(h.lt _ _ _ _ E).2⟩
 .intro p R;rw[Bc]at R;have:=Ba h hq (by simp);rw[AB.d4,ae (by omega),AB.d4,ae (by omega)];exact h.dom p R
 .intro p R;rw[Bc]at R;rw[AB.d4];by_cases C:d=p
  .subst C;rw[a6 rfl,Ce _ _ _ hd];refine hrep _ _ _ _ hag (by simp[I,Bq]) fun b o hf=>?_;rcases hf with M|⟨p,i,lo,M,_⟩
   .exact .inl (Nat.lt_of_lt_of_le M.1 h.below.size)
   .rcases H _ _ _ _ M with⟨_,_,L⟩|⟨_,_,L⟩
    .exact .inr ⟨lo,L⟩
    .exact .inl (h.lt _ _ _ _ L).1
  .rw[ae C,AV _ _ _ _ C,AB.d4];split
   .trivial
   .rename_i hqp;refine AK.kept hag (fun i=>by simp[I];rw[A9 _ _ _ _ (fun e=>C e.symm),A9 _ _ _ _ (fun e=>hqp e.symm)]) (fun i b lo D=>X b (h.lt _ _ _ _ D).1 (fun l m=>hqp (h.ne _ _ _ _ _ _ _ m D).1)) (Kd (Bc _ _ _) fun r J=>by
     have:=Ba h hq (by simp);simp[I];rw[A9 _ _ _ _ (by omega),A9 _ _ _ _ (by omega)]) (fun g j b lo J=>by
     exact X b (h.lt _ _ _ _ J).1 (fun l D=>h.yS (Ba h hq (by simp)) D J rfl)) (fun r i k J⟨pp,N⟩=>?_) (fun r off _⟨cs,A⟩=>?_) (fun r i J⟨pp,N⟩=>?_) (h.slots p R)
    .have M:=AB.ws Y N;have O:=AB.ws (by simp) M.2;exact⟨⟨pp,O.2⟩,h.nh ⟨pp,O.2⟩ (AV _ _ _ _ M.1) (fun _ b _ hb=>X b (h.lt _ _ _ _ hb).1 (fun l m=>O.1 (h.ne _ _ _ _ _ _ _ m hb).1))⟩
    .rw[AB.d4]at A;by_cases B:d=r
     .rw[a6 B]at A;exact absurd A (Y cs)
     .rw[ae B,AB.d4]at A;split at A
      .cases A
      .exact⟨⟨cs,A⟩,AV _ _ _ _ B⟩
    .by_cases B:d=r
     .subst B;have hno':U.f0 d=true:=by
       grind [AB.xT]
      have hx:=AB.xM d U hno' p;rcases J with J|⟨c,J⟩
      .exact absurd J (hx.1 i)
      .exact absurd J (hx.2 i c)
     .rw[AB.wJ B]at N;have O:=AB.t5 (by simp) (by simp) N;exact⟨⟨pp,O.2⟩,h.xv ⟨pp,O.2⟩ (AV _ _ _ _ B) (fun b hb=>X b (h.lt _ _ _ _ hb).1 (fun l m=>O.1 (h.ne _ _ _ _ _ _ _ m hb).1))⟩
 .intro p;rw[AB.d4];split
  .exact hw
  .rw[AB.d4];split
   .trivial
   .exact h.wf p
variable{s:Nat}
theorem aF(j:AO F0 w0 U a w G)(hd:d<a.tmps.size)(g:o.op=.move (.tmp s)\/o.op=.assign (.tmp s))(h:(AE.zg s).wp S U (some d) K):Ax P F0 w0 a w o d K:=by
 simp only[AE.wp]at h;split at h
 .rename_i n es l;refine⟨slot a s,w,by rcases g with g|g<;>simp[execOp,g,show a.eval (.tmp s)=slot a s from rfl],_,_,h,_,j.quiet (Below.refl _ _) d hd (.la s none) _ (fun _=>none) (by simp) (by simp) (by simp) ?_ trivial⟩;simp only[AK];rintro⟨p,k⟩;have m:=AB.t5 (by simp) (by simp) k
  grind [XV,AV]
 .exact h.elim
variable{t e:TypeId}
theorem gZ(j:AO F0 w0 U a w G)(hd:d<a.tmps.size)(k:o.op=.call {callee:=.builtin .len,args:=#[x],argTypes:=#[t]})(l:AI x y=true)
  (he:P.underlying t=some (.slice e))(h:(AE.yD y).wp S U (some d) K):Ax P F0 w0 a w o d K:=by
 simp only[AE.wp]at h;cases m:y.wn U with
 |none=>rw[m]at h;exact h.elim|some p=>
  rw [m]at h;simp only[AX]at h;obtain⟨B,C⟩:=NS j l m;obtain⟨D,E⟩:=Nx j B C;simp only[TV.WF,Im]at D;obtain⟨xs,⟨I,H,_⟩,_⟩:=E;have hv:∃u cap,a.eval x=.slice u p.2.2.length cap:=by
   rcases H.2 with⟨A,J,_⟩|⟨g,cap,_,_,A,_⟩
   .grind
   .exact⟨_,_,A⟩
  obtain ⟨u,cap,hv⟩:=hv;refine CY j hd (v:=.int .i64 p.2.2.length) (t:=.int .i64 p.2.2.length) ?_ rfl ⟨by simp only[IntKind.min,IntKind.signed,IntKind.bits,if_true];omega,by simp only[IntKind.max_i64];omega⟩ h;simp[execOp,k,resolve,invoke,builtin,Builtin.len_,run_underlying he,hv,goInt]
theorem aG(l:AO F0 w0 U a w G)(hd:d<a.tmps.size){x i:Operand}{y j:AF}(E:o.op=.indexAddr t x i)(H:AI x y=true)(u:AI i j=true)(C:H4 P t=some n)(h:(AE.zy y j n).wp S U (some d) K):Ax P F0 w0 a w o d K:=by
 simp only[AE.wp]at h;cases I:y.wn U with
 |none=>rw[I]at h;exact h.elim|some p=>
  obtain ⟨⟨q,V⟩,m,es⟩:=p;rw[I]at h;simp only[AX]at h;split at h
  .rename_i k D R;obtain⟨⟨_,rfl⟩,W,M,X⟩:=h;obtain⟨Y,N⟩:=NS l H I;have A:=Au l u R;simp only[Ah]at A;obtain⟨g,cap,cur,e,xs,O,_⟩:=eQ l Y N (by rintro rfl;simp at M;omega);unfold H4 at C;split at C
   .rename_i el T;have J:0<=D/\D<(es.length:Int):=⟨W,M⟩;refine⟨.pointer (some ⟨g,D.toNat*m,none⟩),w,?_,_,_,X,_,l.quiet (Below.refl _ _) d hd (.lp q V (D.toNat*m)) _ (fun _=>none) (by simp) (by simp) (by simp) ?_ trivial⟩
    .simp[execOp,E,O,A.1,Instr.indexAt,asIntOf,run_underlying T,J,B2 C,Addr.add_lit]
    .simp only[AK];rintro⟨pp,L⟩;have B:=AB.t5 (by simp) (by simp) L;exact⟨g,_,_,l.xv ⟨_,B.2⟩ (AV _ _ _ _ B.1) (fun _ _=>rfl) _ (by rw[<-O];exact N),rfl⟩
   .cases C
  .exact h.elim
theorem dJ(k:AO F0 w0 U a w G)(h:AI x y=true){q c:Nat}{p:Nat×Fq}(j:y.ev U=.lp q i c)(l:U.tl q i=some p):∃g len cap,XV a w q i (.slice (some ⟨g,0,none⟩) len cap)/\a.eval x=.pointer (some ⟨g,c,none⟩):=by
 cases y with
 |c t=>simp[AF.ev]at j|s m=>
  have u:x=.tmp m:=by
   cases x<;>simp[AI]at h;rw[h]
  subst u;simp only[AF.ev]at j;have:=AW k j (by simp);simp only[AK]at this;exact this ⟨p,l⟩
theorem kP(l:AO F0 w0 U a w G)(hd:d<a.tmps.size){f k:Nat}(m:o.op=.fieldAddr t x f)(u:AI x y=true)(B:OR P t f=some k)(h:(AE.xfa y k).wp S U (some d) K):Ax P F0 w0 a w o d K:=by
 simp only[AE.wp]at h;split at h
 .rename_i q i c C;split at h
  .rename_i I D;obtain⟨g,len,cap,E,H⟩:=dJ l u C D;refine⟨.pointer (some ⟨g,c+k,none⟩),w,by simp[execOp,m,H,S5 B],_,_,h,_,l.quiet (Below.refl _ _) d hd (.lp q i (c+k)) _ (fun _=>none) (by simp) (by simp) (by simp) ?_ trivial⟩;simp only[AK];rintro⟨J,A⟩;have j:=AB.t5 (by simp) (by simp) A;exact⟨g,_,_,l.xv ⟨_,j.2⟩ (AV _ _ _ _ j.1) (fun _ _=>rfl) _ E,rfl⟩
  .exact h.elim
 .exact h.elim
variable{dst:Option Nat}
theorem nQ{S:FuncId->Fq->Am->Prop}{U:AB}{K:EV->AB->Prop}{x i:AF}(h:(AE.zv x i n).wp S U dst K):(AE.zy x i n).wp S U dst K:=by
 simp only[AE.wp]at h|-;split at h
 .rename_i q A j g l;split at h
  .rename_i m es u;have:x.wn U=some ((q,none),m,es):=by
    cases x with
    |c t=>simp[AF.ev]at g|s k=>simp only[AF.ev]at g;simp only[AF.wn,g,AB.tl,u]
   simp only[this,AX,l,g];exact⟨⟨rfl,h.1⟩,h.2⟩
  .exact h.elim
 .exact h.elim
theorem nR{S:FuncId->Fq->Am->Prop}{U:AB}{K:EV->AB->Prop}{x:AF}(h:(AE.y8 x).wp S U dst K):(AE.zD x).wp S U dst K:=by
 simp only[AE.wp]at h|-;split at h
 .rename_i q c g;split at h
  .rename_i m es j;simp only[g,AB.tl,j];exact h
  .exact h.elim
 .exact h.elim
theorem aH(l:AO F0 w0 U a w G)(hd:d<a.tmps.size)(m:o.op=.load t x)(u:AI x y=true)(J:Bv P t=some false)(h:(AE.zD y).wp S U (some d) K):Ax P F0 w0 a w o d K:=by
 simp [AE.wp]at h;split at h
 .rename_i q i c L;split at h
  .rename_i M A;obtain⟨n,es⟩:=M;simp only at h;cases k:(es.flatMap TV.cells)[c]? with
   |none=>rw[k]at h;exact h.elim|some t'=>
    rw [k]at h;simp[AX]at h;have B:es≠[]:=by rintro rfl;simp at k
    obtain ⟨g,len,cap,D,T⟩:=dJ l u L A;obtain⟨g',E,C,e,xs,H,V,f3,f4,f5,f6,f7,I,f9,W,X⟩:=eQ l A D B;simp at H;obtain⟨rfl,rfl,rfl⟩:=H;have N:c<(es.flatMap TV.cells).length:=by
     grind
    have O:=BE I;obtain⟨y,Y⟩:∃y,xs[c]?=some y:=⟨_,List.getElem?_eq_getElem (by omega)⟩;have j:w.cell? ⟨g,c,none⟩=some y:=by
     rw [cell_of_row w g c C e (0,0) V]
     grind
    have R:=(Nx l A D).1;refine CY l hd (v:=y) ?_ (((BZ _ _).1 I).2 c t' _ k Y) ?_ h
    .simp[execOp,m,T,Instr.loadAt,Instr.sureAddr,loadVar,Cc J,j]
    .have:=R.2;rw[Bj]at this;have hm:=List.mem_of_getElem? k
     grind [Bj,Hc]
  .exact h.elim
 .exact h.elim
theorem ay{t:TV}(h:TV.tn t.cells):t.WF:=by
 cases t<;>simp[TV.cells,TV.tn]at h<;>first|exact h|(simp[TV.WF];exact h)
theorem aM{es:Fq}(h:TV.tn es):TV.tn (es.flatMap TV.cells):=by grind[Bj,Hc]
theorem T4:∀{es:Fq},TV.tn (es.flatMap TV.cells)->TV.tn es
 |[],_=>trivial|e::es,h=>by
  rw [List.flatMap_cons]at h;rw[JV]at h;exact⟨ay h.1,T4 h.2⟩
variable{ts:Fq}
theorem ap{w:World}{F:Nat->Nat->Prop}{xs:List Value}(h:AQ w F ts xs)(c:Nat):AQ w F (ts.take c) (xs.take c):=by
 rw [BZ]at h|-
 grind
theorem am{w:World}{F:Nat->Nat->Prop}{xs:List Value}(h:AQ w F ts xs)(c:Nat):AQ w F (ts.drop c) (xs.drop c):=by
 rw [BZ]at h|-
 grind
theorem kQ(C:AO F0 w0 U a w G){x v:Operand}{x' W:AF}{m:Nat}(H:o.op=.store t x v)(X:AI x x'=true)(hv:AI v W=true)(hn:Cn P t=some m)(h:(AE.yx x' W m).wp S U none K):G7 P F0 w0 a w o K:=by
 simp [AE.wp]at h;split at h
 .rename_i q i c hy;split at h
  .rename_i n es u E hu;obtain⟨⟨h1,h0⟩,Y,es',h3,B,h5,hK⟩:=h;obtain⟨g,len,cap,R,e2⟩:=dJ C X hy E;have D:=(Nx C E R).1;have I:=Au C hv (t:=u) (by simp[AF.val,hu,EV.val]);have h6:TV.tn es':=by
    have h7:=aM D.2
    grind [TV.tn,TV.cells,Bj,List.mem_of_mem_take,Hc,List.mem_of_mem_drop,T4]
   have J:es≠[]:=by rintro rfl;simp at Y;omega
   obtain ⟨g',cap',j,e,xs,f1,f2,f3,f4,f5,f6,f7,f8,f9,f10,T⟩:=eQ C E R J;simp at f1;obtain⟨rfl,rfl,rfl⟩:=f1;obtain⟨k2,k3⟩:=GA I.1;obtain⟨ys,V⟩:∃ys,(a.eval v).cells.toList=ys:=⟨_,rfl⟩;rw[V]at k2 k3;have A:ys.length=m:=by rw[BE k2,h1]
   have hcc:c+m<=j.size:=by rw[f5];exact Nat.le_trans Y (Nat.mul_le_mul_right _ f3)
   have l:=run_storeCells_at P g c e ys 0 j w f2 (by omega) k3;simp at l;have L:(a.eval v).cells.size=m:=by rw[<-Array.length_toList,V,A]
   have M:(execOp a.eval o).run P w=.ok .skip (w.setRow g (j.toList.take c++ys++j.toList.drop (c+m)).toArray):=by
    rw [A]at l;simp[execOp,H,e2,Instr.storeAt,Instr.sureAddr,storeVar,B2 hn,L,V,l]
   refine ⟨_,M,_,hK,G,?_⟩;have N:xs.length=es.length*n:=T;refine C.rexo E R (w':=w.setRow g (j.toList.take c++ys++j.toList.drop (c+m)).toArray) (xs':=xs.take c++ys++xs.drop (c+m)) ⟨rfl,rfl,rfl,by simp,fun k _ hk=>setRow_other w g k _ (fun e=>hk 0 (by rw[e];exact f7))⟩ ⟨some (g,es.length*n),⟨by simp[A,N,B];omega,.inr ⟨g,cap,_,e,by rw[B],setRow_heap w g j _ e _ f2,by rw[B];exact f3,f4,?_,?_,by rw[B]⟩⟩,by rw[f7];rfl⟩ (fun hag=>?_) h5 (fun x X=>?_) ⟨by rw[B];exact D.1,h6⟩
   .grind
   .rw[B,<-f6];have O:c<=j.toList.length:=by rw[Array.length_toList];omega
    have hA:(j.toList.take c++ys).length=c+m:=by rw[bk,bq,A,Nat.min_eq_left O]
    show (j.toList.take c++ys++j.toList.drop (c+m)).take (es.length*n)=_
    grind [List.take_append,List.take_of_length_le,Nat.min_eq_left,List.drop_take]
   .grind[Ak,Ho,ap,am]
   grind
  .exact h.elim
 .exact h.elim
theorem aD(l:AO F0 w0 U a w G)(hd:d<a.tmps.size)(g:o.op=.move (.tmp s)\/o.op=.assign (.tmp s))(h:(AE.rel s).wp S U (some d) K):Ax P F0 w0 a w o d K:=by
 simp [AE.wp]at h;split at h
 .rename_i L n es k m;simp at k;subst k;obtain⟨u,E⟩:=h;have A:=AW l m (by simp);have B:=l.wf s;rw[m]at B;simp[AK]at A;obtain⟨xs,⟨H,M,j⟩,N,O,R⟩:=A;refine⟨slot a s,w,by rcases g with g|g<;>simp[execOp,g,show a.eval (.tmp s)=slot a s from rfl],_,_,E,l.xgo m hd u (z':=H) rfl rfl rfl (az _) (fun _ _ _=>rfl) (fun b lo C=>?_) (by simp) (by simp) (fun F' I env' a' D J _=>?_) B⟩
  .rw[C]at j;exact⟨(l.lt _ _ _ _ j).1,.inr ⟨_,j⟩⟩
  grind [AK,Bi,Ak]
 .exact h.elim
theorem aE(k:AO F0 w0 U a w G)(hd:d<a.tmps.size)(g:o.op=.move (.tmp s)\/o.op=.assign (.tmp s))(h:(AE.yW s).wp S U (some d) K):Ax P F0 w0 a w o d K:=by
 simp [AE.wp]at h;split at h
 .rename_i J n es j l;simp at j;subst j;obtain⟨m,u,E⟩:=h;have B:=AW k l (by simp);have C:=k.wf s;rw[l]at C;simp[AK]at B;obtain⟨xs,L,M,N,O⟩:=B;refine⟨slot a s,w,by rcases g with g|g<;>simp[execOp,g,show a.eval (.tmp s)=slot a s from rfl],_,_,E,k.xgo l hd u (z':=G s none) rfl rfl rfl (az _) (fun _ _ _=>rfl) (fun b lo A=>⟨(k.lt _ _ _ _ A).1,.inr ⟨_,A⟩⟩) (by simp) (fun _=>m) (fun F' H env' a' D I _=>?_) C⟩
  grind [AK,Ak]
 .exact h.elim
variable{z:Option (Nat×Nat)}
theorem AO.zS(h:AO F0 w0 U a w G){w':World}(A:Below w.heap.size w w')(hd:d<a.tmps.size)(u:U.f0 d=true){es:Fq}{xs:List Value}(j:FW w' n v es.length xs z)
  (B:∀b lo,z=some (b,lo)->w.heap.size<=b/\b<w'.heap.size)
  (k:∀F',(∀b o,F' b o->(b<w.heap.size/\AS w0.heap.size F0 G b o)\/∃lo,z=some (b,lo))->AQ w' F' (es.flatMap TV.cells) xs)(C:∀e∈es,e.cells.length=n)(D:∀x∈xs,x.oneCell'=true)(E:(TV.list n es).WF):
  Bm F0 w0 ((d,.xo n es)::U) (a.put (some d) v) w':=by
 refine ⟨_,h.quiet A d hd (.xo n es) v (fun i=>if i=none then z.map (fun p=>(p.1,0))else none) (fun i b lo hi=>?_) (fun i I b lo H g m=>?_) (fun _=>u) ?_ E⟩
 .split at hi
  .cases z with
   |none=>simp at hi|some p=>
    simp at hi;exact hi.1▸B p.1 p.2 rfl
  .cases hi
 .split at g
  .split at m
   .simp_all
   .cases m
  .cases g
 .simp[AK];refine⟨xs,⟨z,j,by rw[Bq];simp⟩,k _ (fun b o hf=>?_),C,D⟩;rcases hf with hf|⟨p,i,lo,g,m⟩
  .exact .inl ⟨Nat.lt_of_lt_of_le hf.1 h.below.size,.inl hf⟩
  .by_cases l:p=d
   .subst l;rw[Bq]at g;split at g
    .cases z with
     |none=>simp at g|some q=>
      simp at g;exact .inr ⟨q.2,by rw[<-g.1]⟩
    .cases g
   .rw[A9 _ _ _ _ l]at g;exact .inl ⟨(h.lt _ _ _ _ g).1,.inr ⟨p,i,lo,g,m⟩⟩
theorem X9(k:AO F0 w0 U a w G)(hd:d<a.tmps.size)(g:o.op=.move x\/o.op=.assign x)(l:∃v,x=.const v/\LQ v=true)(h:(AE.yd n).wp S U (some d) K):Ax P F0 w0 a w o d K:=by
 simp [AE.wp]at h;obtain⟨j,m⟩:=h;obtain⟨v,rfl,hv⟩:=l;have hv:=I2 hv;subst hv;refine⟨.slice none 0 0,w,by rcases g with g|g<;>simp[execOp,g,Act.eval],_,_,m,k.zS (Below.refl _ _) hd j (z:=none) (xs:=[]) ⟨by simp,.inl ⟨rfl,rfl,rfl⟩⟩ (by simp) (fun _ _=>rfl) (by simp) (by simp) ⟨by simp,trivial⟩⟩
variable{f:FuncId}{ys:List AF}{ats:Array TypeId}{Q:Exit->Act->World->Prop}
theorem eH(D:AO F0 w0 U a w G)(hd:d<a.tmps.size)(l:o.dst=some d){xs:Array Operand}(N:o.op=.call {callee:=.value (.func f),args:=xs,argTypes:=ats})(O:BX xs.toList ys=true)(h:(AE.xz f ys).wp (AR P) U (some d) K)
  {next:Act->World->Prop}(X:∀e env' a' w',K e env'->PU a d a'->Bm F0 w0 ((d,e)::env') a' w'->next a' w'):o.wp P a w next Q:=by
 simp [AE.wp]at h;obtain⟨V,h⟩:=h;cases j:vals U ys with
 |none=>rw[j]at h;exact h.elim|some ts=>
  rw [j]at h;simp[AX]at h;obtain⟨n,es,A,hK⟩:=h;have hv:=FO D O j;have m:(execOp a.eval o).run P w=(callFunc f (xs.map a.eval)).run P w:=by simp[execOp,N,resolve,Act.eval,Deferred.ofValue,invoke]
  have key:DO P f=true/\(TV.list n es).WF/\Calls P f (xs.map a.eval) w fun e w'=>∃v z g,e=.returned v/\Below w.heap.size w w'/\FW w' n v es.length g z/\(∀F',(∀b o,F' b o->(b<w.heap.size/\AS w0.heap.size F0 G b o)\/∃lo,z=some (b,lo))->AQ w' F' (es.flatMap TV.cells) g)/\(∀e∈es,e.cells.length=n)/\(∀x∈g,x.oneCell'=true)/\∀b lo,z=some (b,lo)->w.heap.size<=b/\b<w'.heap.size:=by
   rcases A with A|⟨A,hfl⟩
   .obtain⟨B,W⟩:=(A.to0 rfl) hv.2;obtain⟨k,C⟩:=W (AS w0.heap.size F0 G) w (xs.map a.eval) (by simpa using hv.1) D.below.now;refine⟨B,k,C.mono ?_⟩;rintro e w' ⟨v,rfl,E,z,g,H,I,J,L,M⟩;exact⟨v,z,g,rfl,E,H,fun F' R=>Ak (fun b o u Y hf=>⟨Y,fun T=>hf (R b o T)⟩) _ _ I,J,L,M⟩
   .obtain⟨B,W⟩:=(A.to0 rfl) hv.2;obtain⟨k,C⟩:=W (AS w0.heap.size F0 G) w (xs.map a.eval) (by simpa using hv.1) D.below.now;refine⟨B,k,C.mono ?_⟩;rintro e w' ⟨v,rfl,E,z,⟨g,H,I,J,L⟩,M⟩
    grind [FG,JZ]
  obtain ⟨B,k,C⟩:=key;unfold Oper.wp;rw[m,EU B _,Oper.upon_enter];refine C.mono ?_;rintro e w' ⟨v,z,g,rfl,E,H,I,J,L,M⟩;simp[l];exact X _ _ _ _ (hK k) ⟨_,rfl⟩ (D.zS E hd V H M I J L k)
theorem eE(k:AO F0 w0 U a w G)(hd:d<a.tmps.size)(B:o.dst=some d){xs:List Operand}(L:o.op=.call {callee:=.value (.func f),args:=(x::xs).toArray,argTypes:=ats})(M:AI x y=true)(C:BX xs ys=true)(h:(AE.xk f y ys).wp (AR P) U (some d) K)
  {next:Act->World->Prop}(hn:∀e env' a' w',K e env'->PU a d a'->Bm F0 w0 ((d,e)::env') a' w'->next a' w'):o.wp P a w next Q:=by
 simp only[AE.wp]at h;cases O:y.wn U with
 |none=>rw[O]at h;exact h.elim|some p=>
  obtain ⟨⟨q,i⟩,m,es⟩:=p;rw[O]at h;simp only[AX]at h;obtain⟨rfl,h⟩:=h;cases l:vals U ys with
  |none=>rw[l]at h;exact h.elim|some ts=>
  rw [l]at h;obtain⟨zs,u,E,rfl,⟨A,ts2,g,hc,H,hS⟩,hK⟩:=h;simp only[List.cons.injEq,TV.list.injEq,true_and]at g;obtain⟨g,rfl⟩:=g;have R:A=zs:=by
   have:=congrArg (List.map fun t=>match t with|.int _ n=>n|_=>0) g;simpa[List.map_map,Function.comp_def]using this.symm
  subst R;obtain⟨hq,hx⟩:=NS k M O;obtain⟨X,xs',h1,h2,h3,h4⟩:=Nx k hq hx;obtain⟨hv,Y⟩:=FO k C l;have T:xs'=A.map (Value.int .i64):=by
   have:∀(zs:Fp)(xs:List Value),AQ w (AS w0.heap.size F0 G) ((zs.map (TV.int .i64)).flatMap TV.cells) xs->xs=zs.map (Value.int .i64):=by
    intro zs
    induction zs with
    |nil=>intro xs h;exact h|cons z zs ih=>
     grind [TV.cells,List.singleton_append,AQ,Ah]
   exact this A xs' h2
  subst T;have D:(execOp a.eval o).run P w=(callFunc f (a.eval x::xs.map a.eval).toArray).run P w:=by simp[execOp,L,resolve,Act.eval,Deferred.ofValue,invoke]
  unfold Oper.wp;rw[D,EU hc _,Oper.upon_enter];refine(hS _ w (a.eval x) _ (G q i) X Y (by simpa using h1) hv (fun b lo o J N=>.inr ⟨q,i,lo,J,N⟩) (fun b lo J=>⟨(k.lt _ _ _ _ J).1,k.low J⟩) k.below.now).mono ?_;rintro e w' ⟨⟨I,j⟩,⟨r,rfl,hu⟩,r1,r2⟩;simp only[B];have V:=k.rexo hq hx r2 (es':=u.map (TV.int .i64)) (xs':=u.map (Value.int .i64)) (by rw[c7,I];exact r1) (fun _=>?_) (by simp[TV.cells]) (by simp[Value.oneCell']) j.1
  .have W:∀F,Ow w' F E r:=fun F=>by
    rcases E with _|⟨t,_|⟨t',E⟩⟩
    .exact hu
    .exact Pm t (by simpa[TV.wv]using H) _ hu
    .obtain⟨vs,e1,e2⟩:=hu;exact⟨vs,e1,FG _ H _ e2⟩
   rcases E with _|⟨t,_|⟨t',E⟩⟩
   all_goals
    refine hn _ _ _ _ (hK j) ⟨_,rfl⟩ ⟨_,V.quiet (Below.refl _ _) d hd (EV.zf _) _ (fun _=>none) (by simp[EV.zf]) (by simp[EV.zf]) (by simp[EV.zf]) ?_ ?_⟩
    .simp only[EV.zf,AK];exact W _
    .first|exact trivial|exact j.2.1|exact j.2
  .have:∀(zs:Fp),AQ w' (AS w0.heap.size F0 G) ((zs.map (TV.int .i64)).flatMap TV.cells) (zs.map (Value.int .i64)):=by
    intro zs
    induction zs with
    |nil=>rfl|cons z zs ih=>
     grind [TV.cells,List.singleton_append,AQ,Ah]
   exact this u
theorem Xj{w:World}{F:Nat->Nat->Prop}:∀(zs:Fp),AQ w F ((zs.map (TV.int .i64)).flatMap TV.cells) (zs.map (Value.int .i64))
 |[]=>rfl|z::zs=>by
  simp only[List.map_cons,List.flatMap_cons,TV.cells,List.singleton_append,AQ,Ah];exact⟨_,_,rfl,rfl,Xj zs⟩
theorem X3{w:World}{F:Nat->Nat->Prop}:∀(zs:Fp)(xs:List Value),AQ w F ((zs.map (TV.int .i64)).flatMap TV.cells) xs->xs=zs.map (Value.int .i64)
 |[],xs,h=>h|z::zs,xs,h=>by
  simp [TV.cells,AQ,Ah]at h;obtain⟨v,r,rfl,rfl,h⟩:=h;rw[X3 zs r h];rfl
theorem d9(j:AO F0 w0 U a w G)(hd:d<a.tmps.size)(l:o.dst=some d)(C:o.op=.call {callee:=.value (.func f),args:=#[x],argTypes:=ats})(D:AI x y=true)(h:(AE.xP f y).wp (AR P) U (some d) K)
  {next:Act->World->Prop}(X:∀e env' a' w',K e env'->PU a d a'->Bm F0 w0 ((d,e)::env') a' w'->next a' w'):o.wp P a w next Q:=by
 simp only[AE.wp]at h;cases H:y.wn U with
 |none=>rw[H]at h;exact h.elim|some p=>
  obtain ⟨⟨q,i⟩,m,es⟩:=p;rw[H]at h;simp only[AX]at h;obtain⟨⟨L,rfl⟩,rfl,M,zs,N,rfl,⟨O,A,hc,g,hS⟩,hK⟩:=h;simp only[List.cons.injEq,TV.list.injEq,true_and,and_true]at A;have I:O=zs:=by
   have:=congrArg (List.map fun t=>match t with|.int _ n=>n|_=>0) A;simpa[List.map_map,Function.comp_def]using this.symm
  subst I;obtain⟨B,V⟩:=NS j D H;replace B:=AB.wj B;simp only[XV]at V;replace g:=g (by have:=j.wf q;rw[B]at this;exact this);have T:=AW j B (by simp);simp only[AK]at T;obtain⟨xs,h1,h2,h3,h4⟩:=T;have J:=X3 _ _ h2;subst J;have u:(execOp a.eval o).run P w=(callFunc f #[slot a q]).run P w:=by simp[execOp,C,resolve,Act.eval,Deferred.ofValue,invoke,<-V]
  unfold Oper.wp;rw[u,EU hc _,Oper.upon_enter];refine(hS w (slot a q) (G q none) (by simpa using h1)).mono ?_;rintro e w' ⟨v',rfl,r1,r2⟩;simp only[l];obtain⟨b1,b2,b3,W,b5⟩:=r2;refine X _ _ _ _ (hK g) ⟨_,rfl⟩ (j.xgo B hd (fun e=>L e.symm) (z':=G q none) b1 b2 b3 W (fun k E Y=>b5 k E Y) (fun b lo R=>⟨Nat.lt_of_lt_of_le (j.lt _ _ _ _ R).1 W,.inr ⟨_,R⟩⟩) (by simp) (fun _=>M) (fun F' G' env' a' hag hG _=>?_) g);simp only[AK];rw[hG];exact⟨_,by simpa using r1,Xj N,by simp[TV.cells],by simp[Value.oneCell']⟩
theorem gK(Y:AO F0 w0 U a w G)(hd:d<a.tmps.size){i:TypeInfo}{z:Value}(hop:o.op=.call {callee:=.builtin .append,args:=#[.tmp s,x],argTypes:=#[t,t]})
  (ht:P.underlying t=some (.slice e))(hi:P.info? e=some i)(A:i.zero=some z)(E:i.size=n)(hby:i.bytes<=4096)(hzs:z.cells.size=n)(hn:0<n)
  (hok:AI x y=true)(h:(AE.x4 n s y).wp S U (some d) K):Ax P F0 w0 a w o d K:=by
 simp only[AE.wp]at h;split at h
 .rename_i d' m es m' J N hs hy;simp only[tg]at N;subst N;obtain⟨hm1,hm2,T,hno,hds,hK⟩:=h;subst hm2;subst hm1;have D:=AW Y hs (by simp);have H:=Y.wf s;rw[hs]at H;simp only[AK]at D;obtain⟨xs,⟨z0,h1,V⟩,h2,h3,h4⟩:=D;have hv:=Au Y hok hy;simp only[Ah]at hv;obtain⟨⟨ad,cap,h5,h6,h7,h8⟩,h9⟩:=hv;have I:∃g:List Value,AQ w (AS w0.heap.size F0 G) (J.flatMap TV.cells) g/\(∀x∈g,x.oneCell'=true)/\(∀f∈J,f.cells.length=m)/\∀b,ad=some b->∀(j:Nat)(u:Value),g[j]?=some u->w.cell? (b.add j)=some u:=by
   cases ad with
   |none=>
    have:=h7 rfl;subst this;exact⟨[],rfl,by simp,by simp,by simp⟩
   |some b=>
    obtain ⟨C,h11⟩:=h8 b rfl;obtain⟨bb,B,sp⟩:=b;simp only at C h11;by_cases R:J=[]
    .subst R;exact⟨[],rfl,by simp,by simp,by simp⟩
    have C:sp=none:=C.resolve_left R;subst C;have hrow:∀(l:Fq)(B:Nat),Hs w (AS w0.heap.size F0 G) m l bb B->C8 w (AS w0.heap.size F0 G) (l.flatMap TV.cells) bb B/\∀f∈l,f.cells.length=m:=by
     intro l
     induction l with
     |nil=>intro B _;exact⟨trivial,by simp⟩|cons f l ih=>
      grind [O6,IA]
    grind [Rf,tg]
  obtain ⟨g,n1,n2,n3,n4⟩:=I;have hnl:g.length=J.length*m:=by rw[BE n1,N5 m J n3]
  obtain ⟨v',w',z',W,r1,L⟩:=Oo (P:=P) t o.type e i z m ht hi A E hby hzs hn (slot a s) es.length xs z0 h1 ad J.length cap g hnl (fun e=>by rw[h7 e];rfl) h6 n4 n2 T;have hnz:∀k,(∀lo,G s none≠some (k,lo))->∀lo,z0≠some (k,lo):=fun k hk lo A=>hk 0 (by rw[V,A];rfl);refine⟨v',w',?_,_,_,hK,Y.xgo hs hd hds (z':=z'.map fun p=>(p.1,0)) L.os L.tape L.output L.size (fun k hk A=>L.other k hk (hnz k A)) (fun b lo A=>?_) (by simp) (fun _=>hno) (fun F' G' env' a' M hG _=>?_) ?_⟩
  .simp[execOp,hop,resolve,invoke,builtin,show a.eval (.tmp s)=slot a s from rfl,h5,W]
  .cases z' with
   |none=>simp at A|some p=>
    simp only[Option.map_some,tg,Prod.mk.injEq]at A;obtain⟨k1,X⟩:=L.yV p.1 p.2 rfl;rw[<-A.1];refine⟨k1,?_⟩;rcases X with X|⟨lo',X,_⟩
    .exact .inl X
    .exact .inr ⟨0,by rw[V,X];rfl⟩
  .simp only[AK];rw[hG];refine⟨xs++g,⟨z',by rw[bk];exact r1,rfl⟩,?_,?_,?_⟩
   .rw[List.flatMap_append];exact Ho (Ak M _ _ h2) (Ak M _ _ n1)
   .intro e he;rcases List.mem_append.1 he with he|he
    .exact h3 e he
    .exact n3 e he
   .intro x O;rcases List.mem_append.1 O with O|O
    .exact h4 x O
    .exact n2 x O
  .simp only[EV.WF,TV.WF]at H h9|-;exact⟨by rw[bk];exact Sj (by omega),JV.2 ⟨H.2,h9.2⟩⟩
 .exact h.elim
theorem kC(W:AO F0 w0 U a w G)(hd:d<a.tmps.size){x x':Operand}{ty e:TypeId}{A:TypeInfo}{z g:Value}{t:TV}(E:o.op=.makeSlice ty x x')(X:AI x y=true)(H:AI x' y=true)
  (B:P.underlying ty=some (.slice e))(I:P.info? e=some A)(T:A.zero=some z)(hs:A.size=1)(Y:A.bytes<=4096)(hzc:z.cells=#[g])(hc:D2 t g=true)(h1c:g.oneCell'=true)(J:t.cells=[t])
  (h:(AE.yg 1 [t] y).wp S U (some d) K):Ax P F0 w0 a w o d K:=by
 simp [AE.wp]at h;split at h
 .rename_i d' ik j L hy;simp[tg]at L;subst L;obtain⟨hno,h0,hmax,hK⟩:=h;have hv:=(Au W X hy).1;have C:=(Au W H hy).1;simp[Ah]at hv C;obtain⟨m,rfl⟩:∃m:Nat,j=m:=⟨j.toNat,by omega⟩;have hm:m<=4096:=by omega
  have hw1:IntKind.i64.wrap (m:Int)=m:=by
   have e1:(2:Int)^ 64=18446744073709551616:=by decide
   have e2:(2:Int)^ (64-1)=9223372036854775808:=by decide
   simp [IntKind.wrap,IntKind.bits,IntKind.signed,Bool.true_and,wq,e1,e2,ge_iff_le];split<;>omega
  have V:m*A.bytes<=16777216:=by
   calc m*A.bytes<=4096*4096:=Nat.mul_le_mul hm Y
    _=16777216:=by decide
  have l:(Array.range m).map (fun q=>([g]:List Value)[q % 1]?.getD default)=Array.replicate m g:=by
   grind
  have M:¬(281474976710656<(A.bytes:Int)*(m:Int)):=by
   grind
  have D:¬(m*A.bytes>roomBytes):=by
   have:roomBytes≥16777216:=by decide
   omega
  have N:¬((m:Int)<0):=by omega
  have O:(execOp a.eval o).run P w=.ok (.value (.slice (some ⟨w.heap.size,0,none⟩) m m)) (w.alloc (.cells (Array.replicate m g) e)):=by
   by_cases R:m=0
   .subst R;have hw0:IntKind.i64.wrap 0=0:=by decide
    simp [execOp,E,hv,C,Instr.makeSlice,run_underlying B,asInt,asIntOf,typeInfo,I,hw0,askRoom,sizeOf,hs,newRow]
    grind
   .simp[execOp,E,hv,C,Instr.makeSlice,run_underlying B,asInt,asIntOf,typeInfo,I,hw1,askRoom,sizeOf,hs,newRow,M,D,N,R,zeroValue,T,hzc,l]
  have hb:Below w.heap.size w (w.alloc (.cells (Array.replicate m g) e)):=(Below.refl _ _).alloc (az _) _;have hcr:=Gs (w.alloc (.cells (Array.replicate m g) e)) (fun _ _=>False) t g hc;have hfm:∀k,(List.replicate k t).flatMap TV.cells=List.replicate k t:=by
   intro k
   induction k with
   |zero=>rfl|succ k ih=>rw[List.replicate_succ,List.flatMap_cons,ih,J];rfl
  simp [Int.toNat_natCast]at hK;refine⟨_,_,O,_,_,hK,W.zS hb hd hno (z:=some (w.heap.size,m*1)) (xs:=List.replicate m g) ⟨by simp,.inr ⟨w.heap.size,m,_,e,by simp,heap_alloc_new w _,by simp,by simp[maxLen];omega,by simp,by simp,by simp⟩⟩ (fun b lo T=>?_) (fun F' _=>?_) (fun u B=>?_) (fun v hv=>?_) ⟨by simp[List.length_replicate,Im];omega,?_⟩⟩
  .simp[tg,Prod.mk.injEq]at T;rw[<-T.1];exact⟨az _,by simp⟩
  .rw[hfm,BZ];refine⟨by simp,fun i u v B hv=>?_⟩;rw[List.eq_of_mem_replicate (List.mem_of_getElem? B),List.eq_of_mem_replicate (List.mem_of_getElem? hv)];exact(Gs _ F' t g hc).1
  .rw[List.eq_of_mem_replicate B,J];rfl
  .rw[List.eq_of_mem_replicate hv];exact h1c
  .rw[Bj];intro u B;rw[List.eq_of_mem_replicate B];exact hcr.2
 .exact h.elim
def dO(P:Program)(t:TypeId)(f k n:Nat)(agg:Bool):Bool:=
 match P.underlying t with
 |some (.struct fs)=>(match fs[f]? with
  |some x=>x.offset==k&&Cn P x.type==some n&&Bv P x.type==some agg|none=>false)
 |_=>false
theorem gS(C:AO F0 w0 U a w G)(hd:d<a.tmps.size){f k n:Nat}{agg:Bool}(A:o.op=.field t x f)(D:AI x y=true)(hf:dO P t f k n agg=true)(h:(AE.yG y k n agg).wp S U (some d) K):Ax P F0 w0 a w o d K:=by
 simp only[AE.wp]at h;split at h
 .rename_i cs O;obtain⟨W,g⟩:=h;have hv:=Au C D O;simp only[Ah,TV.WF]at hv;obtain⟨⟨vs,L,H,X⟩,M⟩:=hv;unfold dO at hf;split at hf
  .rename_i V I;split at hf
   .rename_i j B;simp only[pr,beq_iff_eq]at hf;obtain⟨⟨rfl,T⟩,N⟩:=hf;have J:=BE H;rw[BZ]at H;rw[Bj]at M;cases agg with
    |true=>
     simp only[if_true]at g;refine CY C hd (v:=.agg (vs.extract j.offset (j.offset+n))) (t:=.agg ((cs.drop j.offset).take n)) ?_ ?_ ?_ g
     .simp[execOp,A,L,Instr.field,run_underlying I,B,part,Cc N,B2 T,asAgg]
     .simp only[Ah];refine⟨_,rfl,?_,?_⟩
      .rw[BZ]
       grind
      grind
     .simp only[TV.WF];rw[Bj]
      grind
    |false=>
     simp only[Bool.false_eq_true,if_false]at g;cases E:cs.drop j.offset with
     |nil=>rw[E]at g;simp[Em,AX]at g|cons u r=>
      rw [E]at g;simp only[Em,AX]at g;have m:cs[j.offset]?=some u:=by
       have:=congrArg (fun l=>l[0]?) E;simpa[List.getElem?_drop]using this
      have R:j.offset<cs.length:=(List.getElem?_eq_some_iff.1 m).1;obtain⟨v,hv⟩:∃v,vs.toList[j.offset]?=some v:=⟨_,List.getElem?_eq_getElem (by omega)⟩;refine CY C hd (v:=v) (t:=u) ?_ (H.2 _ u v m hv) (M u (List.mem_of_getElem? m)) g;rw[Array.getElem?_toList]at hv;simp[execOp,A,L,Instr.field,run_underlying I,B,part,Cc N,asAgg,hv]
   .cases hf
  .cases hf
 .exact h.elim
def Zf(P:Program)(ty:TypeId)(n:Nat)(zero:Fq):Bool:=
 match P.underlying ty,zero with
 |some (.slice e),[t]=>(match P.info? e with
  |some ie=>(match ie.zero with
   |some z=>(match z.cells.toList with
    |[z0]=>n==1&&ie.size==1&&decide (ie.bytes<=4096)&&D2 t z0&&z0.oneCell'&&(match t with|.int _ _=>true|.bool _=>true|.str _=>true|.list _ _=>true|_=>false)
    |_=>false)
   |none=>false)
  |none=>false)
 |_,_=>false
variable{zero:Fq}
theorem cF(A:AO F0 w0 U a w G)(hd:d<a.tmps.size){x x':Operand}{ty:TypeId}(k:o.op=.makeSlice ty x x')(l:AI x y=true)(j:AI x' y=true)(g:Zf P ty n zero=true)
  (h:(AE.yg n zero y).wp S U (some d) K):Ax P F0 w0 a w o d K:=by
 unfold Zf at g;split at g
 .rename_i e t B;split at g
  .rename_i L m;split at g
   .rename_i z C;split at g
    .rename_i M u;simp[wq]at g;obtain⟨⟨⟨⟨⟨rfl,D⟩,E⟩,H⟩,I⟩,J⟩:=g;exact kC A hd k l j B m C D E (aJ u) H I (by cases t<;>first|rfl|cases J) h
    .cases g
   .cases g
  .cases g
 .cases g
theorem Bm.congr{F0:Nat->Nat->Prop}{w0:W0}{U env2:AB}{a:Act}{w:World}(h:Bm F0 w0 U a w)(he:∀n,U.get n=env2.get n):Bm F0 w0 env2 a w:=by
 obtain ⟨G,h⟩:=h;refine⟨G,h.ne,h.lt,h.below,h.defers,fun q g=>?_,fun q g=>?_,fun q=>?_⟩
 .rw[<-he];exact h.dom q g
 .rw[<-he];refine AK.kept (Oy _ _) (fun _=>rfl) (fun _ _ _ _=>rfl) rfl BD.rfl' (fun r i k m⟨p,j⟩=>⟨⟨p,(AB.w7 (he r)).trans j⟩,fun _ hv=>hv⟩) (fun r u m⟨cs,l⟩=>⟨⟨cs,by rw[he];exact l⟩,rfl⟩) (fun r i m⟨p,j⟩=>⟨⟨p,(AB.wR (he r)).trans j⟩,fun _ hv=>hv⟩) (h.slots q g)
 .rw[<-he];exact h.wf q
theorem AO.unx(h:AO F0 w0 U a w G){es:Fq}(J:U.get d=.xo n es):Bm F0 w0 ((d,.ow (.list n es))::U) a w:=by
 have D:=AW h J (by simp);simp only[AK]at D;obtain⟨xs,⟨z0,h1,N⟩,h2,h3,h4⟩:=D;have V:=h.wf d;rw[J]at V;have hsz:=Ba h J (by simp)
 let A:BP:=IU G d (fun i=>if i=none then z0 else none)
 have m:∀p i b lo,A p i=some (b,lo)->∃g,g<=lo/\G p i=some (b,g):=by
  intro p i b lo l;by_cases E:p=d
  .subst E;simp only[A,Bq]at l;split at l
   .rename_i hi;subst hi;exact⟨0,Nat.zero_le _,by rw[N,l];rfl⟩
   .cases l
  .simp only[A,A9 _ _ _ _ E]at l;exact⟨lo,az _,l⟩
 have H:BY w w (AS w0.heap.size F0 G) (AS w0.heap.size F0 A):=by
  intro b o u Y T;refine⟨Y,?_⟩;rintro(R|⟨p,i,lo,R,k2⟩)
  .exact T (.inl R)
  .obtain⟨g,O,k4⟩:=m _ _ _ _ R;exact T (.inr ⟨p,i,g,k4,Nat.le_trans O k2⟩)
 refine ⟨A,fun p i p' i' b lo g L W=>?_,fun p i b lo L=>?_,h.below,h.defers,fun p l=>?_,fun p l=>?_,fun p=>?_⟩
 .obtain⟨_,_,f1⟩:=m _ _ _ _ L;obtain⟨_,_,f2⟩:=m _ _ _ _ W;exact h.ne _ _ _ _ _ _ _ f1 f2
 .obtain⟨g,O,f⟩:=m _ _ _ _ L;exact⟨(h.lt _ _ _ _ f).1,(h.lt _ _ _ _ f).2.imp id (fun e o ho=>e o (Nat.le_trans O ho))⟩
 .rw[AB.d4,ae (by omega)];exact h.dom p l
 .rw[AB.d4];by_cases C:d=p
  .subst C;rw[a6 rfl];simp only[AK,Bi];exact⟨xs,by simp only[A,Bq,if_true];exact h1,Ak H _ _ h2,h3,h4⟩
  .rw[ae C];refine AK.kept H (fun i=>by simp only[A];rw[A9 _ _ _ _ (fun e=>C e.symm)]) (fun _ _ _ _=>rfl) (Kd rfl fun r D=>by simp only[A];rw[A9 _ _ _ _ (by omega)]) BD.rfl' (fun r i k D⟨M,B⟩=>?_) (fun r X _⟨cs,j⟩=>?_) (fun r i D⟨M,B⟩=>?_) (h.slots p l)
   .exact⟨⟨M,(AB.ws (by simp) B).2⟩,fun _ hv=>hv⟩
   .rw[AB.d4]at j;by_cases I:d=r
    .rw[a6 I]at j;cases j
    .rw[ae I]at j;exact⟨⟨cs,j⟩,rfl⟩
   .exact⟨⟨M,(AB.t5 (by simp) (by simp) B).2⟩,fun _ hv=>hv⟩
 .rw[AB.d4];split
  .exact V
  .exact h.wf p
theorem mJ{S:FuncId->Fq->Am->Prop}(h:(AE.yR n zero y).wp S U (some d) K):(AE.yg n zero y).wp S U (some d) fun e env'=>env'=U/\∃m es,e=.xo m es/\K (.ow (.list m es)) U:=by
 simp only[AE.wp]at h|-;split at h
 .rename_i g k j hd l;simp only[tg]at hd;subst hd;exact⟨h.1,h.2.1,h.2.2.1,trivial,_,_,rfl,h.2.2.2⟩
 .exact h.elim
theorem kB(A:AO F0 w0 U a w G)(hd:d<a.tmps.size){x x':Operand}{ty:TypeId}(k:o.op=.makeSlice ty x x')(l:AI x y=true)(g:AI x' y=true)(B:Zf P ty n zero=true)
  (h:(AE.yR n zero y).wp S U (some d) K):Ax P F0 w0 a w o d K:=by
 obtain ⟨v,w',j,e,env',⟨rfl,m,es,rfl,C⟩,D,u⟩:=cF A hd k l g B (mJ h);exact⟨v,w',j,_,_,C,(AO.unx u (by rw[AB.d4,a6 rfl])).congr fun n=>by
  rw [AB.d4,AB.d4,AB.d4];split<;>rfl⟩
theorem o6{args:Fq}{t:TV}(h:AR P f args (.own t)):AR P f args (.sh t):=by
 intro l;obtain⟨A,B⟩:=h l;refine⟨A,fun F0 w vs hv j=>?_⟩;obtain⟨C,D⟩:=B F0 w vs hv j;refine⟨C,D.mono ?_⟩;rintro e w' ⟨v,rfl,E,z,H,J⟩;refine⟨v,rfl,E,?_⟩;have m:=Bi.zw H (fun b lo o I ho=>by
  grind)
 exact B5 (fun b o u k hf=>⟨k,fun g=>hf (.inl g)⟩) _ _ m
theorem OX(h:v.oneCell'=true):v.cells=#[v]:=by
 cases v<;>first|rfl|simp[Value.oneCell']at h
theorem kO(u:AO F0 w0 U a w G){x v:Operand}(hop:o.op=.store t x v)(C:AI x (.s s)=true)(hv:AI v (.s q)=true)(hn:Cn P t=some n)(h:(AE.stx n s q).wp S U none K):G7 P F0 w0 a w o K:=by
 simp only[AE.wp]at h;split at h
 .rename_i cs ds hs hq;obtain⟨J,⟨V,D⟩,ho,hK⟩:=h;have hp:(AF.s s).place U=some (s,0):=by simp[AF.place,hs]
  revert hp ho hK
  suffices key:∀g,g+n<=cs.length->K .undef ((s,.bx (cs.take g++ds++cs.drop (g+n)))::(q,.undef)::U)->(AF.s s).place U=some (s,g)->G7 P F0 w0 a w o K from key 0
  .intro g ho hK hp;have hvq:v=.tmp q:=by
    cases v<;>simp[AI]at hv;rw[hv]
   subst hvq;obtain⟨b,hsl,hadr⟩:=Gn u C hp hs;have hr:=AW u hs (by simp);simp only[AK]at hr;obtain⟨Y,c,T,h1,h2,h3,h4,h5⟩:=hr;rw[hsl]at h1;simp only[Value.pointer.injEq,tg,Addr.mk.injEq,and_true,and_self]at h1;subst h1;have hrq:=AW u hq (by simp);simp only[AK]at hrq;obtain⟨vs,B,m,e3⟩:=hrq;have R:=u.wf s;rw[hs]at R;have hwq:=u.wf q;rw[hq]at hwq;have hone:∀y∈vs.toList,y.oneCell'=true:=by
    intro y E;obtain⟨i,hi⟩:=List.getElem?_of_mem E;have l:i<ds.length:=by have:=(List.getElem?_eq_some_iff.1 hi).1;simpa[m]using this
    obtain ⟨x,C,hc⟩:=e3 i _ (List.getElem?_eq_getElem l);rw[Array.getElem?_toList,C]at hi;simp only[tg]at hi;subst hi;exact GU hc
   have hev:a.eval (.tmp q)=.agg vs:=B;have hst:(execOp a.eval o).run P w=.ok .skip (w.setRow b (c.toList.take g++vs.toList++c.toList.drop (g+n)).toArray):=by
    have hln:vs.toList.length=n:=by rw[Array.length_toList,m,V]
    have I:=run_storeCells_at P b g T vs.toList 0 c w h2 (by rw[hln];omega) hone;simp only[Nat.add_zero]at I;rw[hln]at I;simp[execOp,hop,hadr,hev,Instr.storeAt,Instr.sureAddr,storeVar,B2 hn,Value.cells,show vs.size=n by rw[m,V],I]
   have hvl:vs.toList.length=n:=by rw[Array.length_toList,m,V]
   let zs:Option Nat->Option (Nat×Nat):=fun i=>match i with|none=>some (b,0)|some j=>if g<=j/\j<g+n then G q (some (j-g))else G s (some j)
   refine Exists.elim (u.y5 hs hsl h2 (cs':=cs.take g++ds++cs.drop (g+n)) (c':=(c.toList.take g++vs.toList++c.toList.drop (g+n)).toArray) (q:=some q) (by simpa using J) (fun p hp=>by cases hp;exact Ba u hq (by simp)) (zs:=zs) rfl ?_ ?_ ?_ ?_ ?_ ?_) (fun G' h'=>⟨_,hst,_,hK,G',h'.1⟩)
   .intro i Y lo hi hz;cases i with
    |none=>exact absurd rfl hi|some j=>
     simp only[zs]at hz;split at hz
     .exact .inr ⟨q,rfl,_,hz⟩
     .exact .inl hz
   .intro i i' Y lo M B m;have zn:∀j Y lo M,zs (some j)=some (Y,lo)->zs none=some (Y,M)->False:=by
     intro j Y lo M B m;simp only[zs,tg,Prod.mk.injEq]at m;obtain⟨rfl,_⟩:=m;simp only[zs]at B;split at B
     .exact J (u.ne _ _ _ _ _ _ _ B h4).1
     .have:=(u.ne _ _ _ _ _ _ _ B h4).2;cases this
    cases i with
    |none=>cases i' with
     |none=>rfl|some j=>exact(zn j _ _ _ m B).elim
    |some j=>cases i' with
     |none=>exact(zn j _ _ _ B m).elim|some j'=>
      simp only[zs]at B m;split at B<;>split at m
      .have:=(u.ne _ _ _ _ _ _ _ B m).2;simp only[tg]at this;rw[show j=j' by omega]
      .exact absurd (u.ne _ _ _ _ _ _ _ B m).1 J
      .exact absurd (u.ne _ _ _ _ _ _ _ m B).1 J
      .exact(u.ne _ _ _ _ _ _ _ B m).2
   .simp only[List.size_toArray,bk,bq,List.length_drop,Array.length_toList];omega
   .intro F' w' N H O i y E;have hco:∀j,g+n<=j->cs[j]?=some y->i=j->∃v,c[j]?=some v/\BA w' F' (wk a G) (G s (some j)) y v:=by
     intro j hj hc hij;obtain⟨v,W,X⟩:=h5 j y hc;exact⟨v,W,X.kept N (fun k lo A=>H k (fun e=>by have:=(u.ne _ _ _ _ _ _ _ (e▸A) h4).2;cases this)) O⟩
    rcases Nat.lt_or_ge i g with l|hge
    .rw[c8,List.getElem?_append_left (by simp;omega),List.getElem?_take,a6 l]at E;obtain⟨v,W,X⟩:=h5 i y E;refine⟨v,?_,?_⟩
     .rw[List.getElem?_toArray,c8,List.getElem?_append_left (by simp;omega),List.getElem?_take,a6 l,Array.getElem?_toList];exact W
     .simp only[zs,ae (show¬(g<=i/\i<g+n)by omega)];exact X.kept N (fun k lo A=>H k (fun e=>by have:=(u.ne _ _ _ _ _ _ _ (e▸A) h4).2;cases this)) O
    .rcases Nat.lt_or_ge i (g+n)with l|L
     .rw[c8,List.getElem?_append_right (by simp;omega),List.getElem?_append_left (by simp;omega)]at E;simp only[bq]at E;rw[Nat.min_eq_left (by omega)]at E;obtain⟨v,W,X⟩:=e3 (i-g) y E;refine⟨v,?_,?_⟩
      .rw[List.getElem?_toArray,c8,List.getElem?_append_right (by simp;omega),List.getElem?_append_left (by simp;omega)];simp only[bq,Array.length_toList];rw[Nat.min_eq_left (by omega),Array.getElem?_toList];exact W
      .simp only[zs,a6 (show g<=i/\i<g+n by omega)];exact X.kept N (fun k lo A=>H k (fun e=>J (u.ne _ _ _ _ _ _ _ (e▸A) h4).1)) O
     .rw[List.getElem?_append_right (by simp;omega)]at E;simp only[bk,bq]at E;rw[Nat.min_eq_left (by omega),V,List.getElem?_drop,show g+n+(i-(g+n))=i from by omega]at E;obtain⟨v,W,X⟩:=hco i L E rfl;refine⟨v,?_,?_⟩
      .rw[List.getElem?_toArray,List.getElem?_append_right (by simp;omega)];simp only[bk,bq,Array.length_toList];rw[Nat.min_eq_left (by omega),m,V,List.getElem?_drop,show g+n+(i-(g+n))=i from by omega,Array.getElem?_toList];exact W
      .simp only[zs,ae (show¬(g<=i/\i<g+n)by omega)];exact X
   .intro x C;rcases List.mem_append.1 C with C|C
    .rcases List.mem_append.1 C with C|C
     .exact R x (List.mem_of_mem_take C)
     .exact hwq x C
    .exact R x (List.mem_of_mem_drop C)
   .intro k tx htx A;have hkl:k<cs.length:=by
     have:=(List.getElem?_eq_some_iff.1 A).1;simp only[bk,bq,List.length_drop]at this;omega
    rw [List.getElem?_toArray];rcases Nat.lt_or_ge k g with l|hge
    .rw[c8,List.getElem?_append_left (by simp;omega),List.getElem?_take_of_lt l]at A;refine .inr ⟨A,?_⟩;rw[c8,List.getElem?_append_left (by simp;omega),List.getElem?_take_of_lt l,Array.getElem?_toList]
    .rcases Nat.lt_or_ge k (g+n)with l|L
     .rw[c8,List.getElem?_append_right (by simp;omega),List.getElem?_append_left (by simp;omega)]at A;rw[Bool.or_eq_true]at D;rcases D with D|D
      .have:=List.all_eq_true.1 D _ (List.mem_of_getElem? A);simp[htx]at this
      .exact .inl (AB.noX_all D)
     .rw[List.getElem?_append_right (by simp;omega)]at A;simp only[bk,bq,List.getElem?_drop]at A;rw[Nat.min_eq_left (by omega),V,show g+n+(k-(g+n))=k from by omega]at A;refine .inr ⟨A,?_⟩;rw[List.getElem?_append_right (by simp;omega)];simp only[bk,bq,Array.length_toList,List.getElem?_drop];rw[Nat.min_eq_left (by omega),m,V,show g+n+(k-(g+n))=k from by omega,Array.getElem?_toList]
 .exact h.elim
def JX(a:Act)(w:World)(G:BP)(d:Nat)(Z:DM):BP:=fun p=>if p=d then Z 0 else if a.tmps.size+w.heap.size<=p then(fun i=>match i with|some j=>Z (p-a.tmps.size+1) (some j)|none=>none)else G p
variable{Z:DM}{p:Nat}
theorem NU{a:Act}{w:World}{G:BP}{d:Nat}{b lo:Nat}(h:JX a w G d Z p i=some (b,lo)):(p=d/\Z 0 i=some (b,lo))\/(p≠d/\a.tmps.size+w.heap.size<=p/\Z (p-a.tmps.size+1) i=some (b,lo))\/(p≠d/\¬a.tmps.size+w.heap.size<=p/\G p i=some (b,lo)):=by
 simp [JX]at h
 grind
theorem AO.quiet2{w':World}(h:AO F0 w0 U a w G)(I:Below w.heap.size w w')(d:Nat)(hd:d<a.tmps.size)(e:EV)(v:Value)
  (Z:DM)(M:∀q i b lo,Z q i=some (b,lo)->w.heap.size<=b/\b<w'.heap.size)(C:IW Z)
  (J:(∃cs,e=.bx cs)\/(∃n es,e=.xo n es)->U.f0 d=true)
  (O:BY w w' (AS w0.heap.size F0 G) (AS w0.heap.size F0 (JX a w G d Z))->AK (a.put (some d) v) w' (AS w0.heap.size F0 (JX a w G d Z)) (JX a w G d Z) ((d,e)::U) d e v)(V:e.WF):
  AO F0 w0 ((d,e)::U) (a.put (some d) v) w' (JX a w G d Z):=by
 have T:BY w w' (AS w0.heap.size F0 G) (AS w0.heap.size F0 (JX a w G d Z)):=by
  intro b o u hc hf;have hlt:b<w.heap.size:=World.block_lt_of_cell? w ⟨b,o,none⟩ hc;refine⟨by rw[I.cell (p:=⟨b,o,none⟩) hlt];exact hc,fun W=>hf ?_⟩;rcases W with h|⟨s,i,lo,R,h2⟩
  .exact .inl h
  .rcases NU R with⟨_,e⟩|⟨_,_,e⟩|⟨_,_,e⟩
   .grind
   .grind
   .exact .inr ⟨s,i,lo,e,h2⟩
 have X:∀s,s<a.tmps.size->s≠d->JX a w G d Z s=G s:=by
  grind [JX]
 refine ⟨?_,?_,h.below.go I,by rw[EY];exact h.defers,?_,?_,?_⟩
 .intro s i s' i' b lo lo' R h2;rcases NU R with⟨e1,A⟩|⟨e1,e3,A⟩|⟨e1,e3,A⟩<;>rcases NU h2 with⟨e2,B⟩|⟨e2,e4,B⟩|⟨e2,e4,B⟩
  .exact⟨by rw[e1,e2],(C _ _ _ _ _ _ _ A B).2⟩
  .have:=(C _ _ _ _ _ _ _ A B).1;omega
  .have:=(M _ _ _ _ A).1;have:=(h.lt _ _ _ _ B).1;omega
  .have:=(C _ _ _ _ _ _ _ A B).1;omega
  .obtain⟨g1,g2⟩:=C _ _ _ _ _ _ _ A B;exact⟨by omega,g2⟩
  .have:=(M _ _ _ _ A).1;have:=(h.lt _ _ _ _ B).1;omega
  .have:=(M _ _ _ _ B).1;have:=(h.lt _ _ _ _ A).1;omega
  .have:=(M _ _ _ _ B).1;have:=(h.lt _ _ _ _ A).1;omega
  .exact h.ne _ _ _ _ _ _ _ A B
 .intro s i b lo R;rcases NU R with⟨_,f⟩|⟨_,_,f⟩|⟨_,_,f⟩
  .have:=M _ _ _ _ f;exact⟨this.2,.inl (Nat.le_trans h.below.size this.1)⟩
  .have:=M _ _ _ _ f;exact⟨this.2,.inl (Nat.le_trans h.below.size this.1)⟩
  .have:=h.lt _ _ _ _ f;exact⟨Nat.lt_of_lt_of_le this.1 I.size,this.2⟩
 .intro s N;rw[Bc]at N;rw[AB.d4,ae (by omega)];exact h.dom s N
 .intro s N;rw[Bc]at N;rw[AB.d4];by_cases H:d=s
  .subst H;rw[a6 rfl,Ce _ _ _ hd];exact O T
  .rw[ae H,AV _ _ _ _ H];refine AK.kept' T (fun i=>by rw[X s N (fun e=>H e.symm)]) (fun i b lo X=>I.block b (h.lt s i b lo X).1) (fun i g lo j hg=>?_) (fun _=>BD.spot (h.xW I)) (fun q i k D⟨p,E⟩=>?_) (fun q Y D⟨cs,m⟩=>?_) (fun q i D⟨p,E⟩=>?_) (h.slots s N)
   .have:=(h.lt _ _ _ _ hg).1;simp[wk,Bc,JX];rw[ae (by omega),ae (by omega)]
   .by_cases l:d=q
    .subst l;exact absurd D (AB.yh d U (J (.inl (AB.xy E))) s i k)
    .rw[AB.wO l]at E;exact⟨⟨p,E⟩,h.nh ⟨p,E⟩ (AV _ _ _ _ l) (fun j b _ L=>I.block b (h.lt _ _ _ _ L).1)⟩
   .rw[AB.d4]at m;by_cases l:d=q
    .subst l;rw[a6 rfl]at m;exact absurd D (AB.xK d U (J (.inl ⟨cs,m⟩)) s Y)
    .rw[ae l]at m;exact⟨⟨cs,m⟩,AV _ _ _ _ l⟩
   .by_cases l:d=q
    .subst l;have hx:=AB.xM d U (J (AB.xT E)) s;rcases D with D|⟨c,D⟩
     .exact absurd D (hx.1 i)
     .exact absurd D (hx.2 i c)
    .rw[AB.wJ l]at E;exact⟨⟨p,E⟩,h.xv ⟨p,E⟩ (AV _ _ _ _ l) (fun b L=>I.block b (h.lt _ _ _ _ L).1)⟩
 .intro s;rw[AB.d4];split
  .exact V
  .exact h.wf s
theorem aw(C:AO F0 w0 U a w G)(hd:d<a.tmps.size)(l:o.dst=some d){xs:Array Operand}(D:o.op=.call {callee:=.value (.func f),args:=xs,argTypes:=ats})(E:BX xs.toList ys=true)(h:(AE.xj f ys).wp (AR P) U (some d) K)
  {next:Act->World->Prop}(T:∀e env' a' w',K e env'->PU a d a'->Bm F0 w0 ((d,e)::env') a' w'->next a' w'):o.wp P a w next Q:=by
 simp only[AE.wp]at h;cases k:vals U ys with
 |none=>rw[k]at h;exact h.elim|some ts=>
  rw [k]at h;simp only[AX]at h;obtain⟨cs,Y,hX,hK⟩:=h;have hv:=FO C E k;have u:(execOp a.eval o).run P w=(callFunc f (xs.map a.eval)).run P w:=by simp[execOp,D,resolve,Act.eval,Deferred.ofValue,invoke]
  obtain ⟨h2,h3⟩:=(Y.to0 rfl) hv.2;obtain⟨O,h5⟩:=h3 (AS w0.heap.size F0 G) w (xs.map a.eval) (by simpa using hv.1) C.below.now;unfold Oper.wp;rw[u,EU h2 _,Oper.upon_enter];refine h5.mono ?_;rintro e w' ⟨v,rfl,hb,Z,⟨vs,rfl,r1,r2⟩,r3,r5,R⟩;simp only[l]
  let B:DM:=fun q i=>(Z q i).map fun p=>(p.1,0)
  have J:∀{q i b lo},B q i=some (b,lo)->∃g,Z q i=some (b,g)/\lo=0:=by
   grind [Option.map_eq_some_iff]
  have W:(EV.wQ (cs.map AN.toX)).WF:=by
   intro c m;obtain⟨M,j,rfl⟩:=List.mem_map.1 m;obtain⟨n,es,e0,_⟩:=hX M j;have:=O _ j;rw[e0]at this|-;exact this
  refine T _ _ _ _ (hK O) ⟨_,rfl⟩ ⟨_,C.quiet2 hb d hd (.wQ (cs.map AN.toX)) _ B (fun q i b lo A=>?_) (fun q i q' i' b lo g H I=>?_) (by simp) (fun V=>?_) W⟩
  .obtain⟨g,A,_⟩:=J A;exact⟨(R q i b g A).2,(R q i b g A).1⟩
  .obtain⟨_,H,_⟩:=J H;obtain⟨_,I,_⟩:=J I;exact r3 _ _ _ _ _ _ _ H I
  simp only[AK];refine⟨vs,rfl,by simpa using r1,fun i c m=>?_⟩;rw[List.getElem?_map]at m;simp only[Option.map_eq_some_iff]at m;obtain⟨M,j,rfl⟩:=m;obtain⟨n,es,rfl,N⟩:=hX M (List.mem_of_getElem? j);obtain⟨x,k1,k2,_⟩:=r2 i _ j;refine⟨x,k1,?_⟩;have L:JX a w G d B d (some i)=B 0 (some i):=by simp[JX]
  rw [L];have X:Bi w' _ (Z 0 (some i)) (.list n es) x:=k2;obtain⟨us,m1,m2,m3,m4⟩:=X;exact⟨us,⟨_,m1,rfl⟩,FG _ (JZ _ N) _ m2,m3,m4⟩
def YW(P:Program)(t:TypeId):Bool:=match P.underlying t with|some (.slice _)=>true|_=>false
theorem iU(h:Qh x=true):x=.const (.slice none 0 0):=by
 cases x<;>simp[Qh]at h
 grind [I2]
variable{t':TypeId}
theorem X7(B:AO F0 w0 U a w G)(hd:d<a.tmps.size){x z:Operand}(k:o.op=.binOp .eql t x z t')(C:Qh z=true)(l:YW P t=true){j:Option Addr}{n cap:Nat}(m:a.eval x=.slice j n cap)(h:K (.tv (.bool j.isNone)) U):Ax P F0 w0 a w o d K:=by
 have u:=iU C;subst u;unfold YW at l;split at l
 .rename_i e D;refine CY B hd (v:=.bool j.isNone) (t:=.bool j.isNone) ?_ rfl trivial h;have he:∀d,(Op.equalIn (d+1) t (.slice j n cap) (.slice none 0 0)).run P w=.ok j.isNone w:=by
   intro d;cases j<;>simp[Op.equalIn,run_underlying D]
  have A:(Op.equalIn 10000 t (.slice j n cap) (.slice none 0 0)).run P w=.ok j.isNone w:=he 9999;have H:(eqGuard .eql t x (.const (.slice none 0 0)) (.slice j n cap) (.slice none 0 0)).run P w=.ok () w:=by
   simp [eqGuard]
  have I:(binOp .eql t (.slice j n cap) (.slice none 0 0)).run P w=.ok (.bool j.isNone) w:=by
   have e:(binOp .eql t (.slice j n cap) (.slice none 0 0)).run P w=((Op.equalIn 10000 t (.slice j n cap) (.slice none 0 0)).run P w).andThen fun b w'=>.ok (.bool b) w':=by
    simp only[binOp];simp[Op.equal,Op.maxDepth]
   rw [e,A];rfl
  have J:a.eval (.const (.slice none 0 0))=.slice none 0 0:=rfl;have L:∀(g b:Sem Unit)(r:Sem Value),g.run P w=.ok () w->r.run P w=.ok (.bool j.isNone) w->(do let r <-(do g;r:Sem Value);pure (Next.value r):Sem Next).run P w=.ok (.value (.bool j.isNone)) w:=by
   intro g b r m E;simp[m,E]
  simp only[execOp,k,m,J];exact L _ (pure ()) _ H I
 .cases l
theorem jx(k:AO F0 w0 U a w G)(hd:d<a.tmps.size){x z:Operand}(g:o.op=.binOp .eql t x z t')(j:AI x y=true)(m:Qh z=true)(u:YW P t=true)(h:(AE.y9 y).wp S U (some d) K):Ax P F0 w0 a w o d K:=by
 simp only[AE.wp]at h;split at h
 .rename_i n es l;have hv:=(Au k j l).1;simp only[Ah]at hv;obtain⟨D,cap,B,E,C,H⟩:=hv;exact X7 k hd g m u B (h _ fun A=>C (by simpa using A))
 .rename_i l;have hv:=(Au k j l).1;simp only[Ah]at hv;exact X7 k hd g m u hv h
 .exact h.elim
end
end Go.Sf
namespace Go.Sf
open Go.RowKit (Below)
section
variable{P:Program}{S:FuncId->Fq->Am->Prop}{F0:Nat->Nat->Prop}{w0:W0}{U:AB}{a:Act}{w:World}{G:BP}{d:Nat}{o:Oper}{K:EV->AB->Prop}
variable{x:Operand}{y:AF}{t:TypeId}
theorem jy(A:AO F0 w0 U a w G)(hd:d<a.tmps.size)(B:o.op=.load t x)(C:AI x y=true)(L:Bv P t=some false)(h:(AE.zT y).wp S U (some d) K):Ax P F0 w0 a w o d K:=by
 simp [AE.wp]at h;split at h
 .rename_i s g j;have N:y.place U=some (s,g):=by
   cases y with
   |c t=>simp[AF.ev]at j|s n=>simp[AF.ev]at j;simp[AF.place,j]
  split at h
  .rename_i p M;obtain⟨n,es⟩:=p;obtain⟨cs,I,O⟩:=AB.wa M;obtain⟨b,m,u⟩:=Gn A C N I;have H:=AW A I (by simp);simp only[AK]at H;obtain⟨V,c,T,D,J,W,X,R⟩:=H;rw[m]at D;simp at D;subst D;obtain⟨v,hv,Y⟩:=R g _ O;have k:w.cell? ⟨b,g,none⟩=some v:=by rw[cell_of_row w b g c T (0,0) J];exact hv
   refine ⟨v,w,by simp[execOp,B,u,Instr.loadAt,Instr.sureAddr,loadVar,Cc L,k],_,_,h,_,A.quiet (Below.refl _ _) d hd (.la s (some g)) _ (fun _=>none) (by simp) (by simp) (by simp) ?_ trivial⟩;simp only[AK];rintro⟨pp,E⟩;have l:=AB.t5 (by simp) (by simp) E;exact A.xv ⟨_,l.2⟩ (AV _ _ _ _ l.1) (fun _ _=>rfl) _ ⟨b,c,T,m,J,hv⟩
  .exact h.elim
 .exact h.elim
theorem jr(A:AO F0 w0 U a w G)(hd:d<a.tmps.size)(C:o.op=.load t x)(D:AI x y=true)(O:Bv P t=some false)(h:(AE.zb y).wp S U (some d) K):Ax P F0 w0 a w o d K:=by
 simp [AE.wp]at h;split at h
 .rename_i Y s j E R;simp at E;subst E;split at h
  .rename_i cs B;split at h
   .rename_i n es H;obtain⟨m,J⟩:=h;obtain⟨b,k,l⟩:=Gn A D R B;have I:=AW A B (by simp);simp only[AK]at I;obtain⟨V,c,T,u,L,W,X,M⟩:=I;rw[k]at u;simp at u;subst u;obtain⟨y,N,_⟩:=M j _ H;have g:w.cell? ⟨b,j,none⟩=some y:=by rw[cell_of_row w b j c T (0,0) L];exact N
    exact ⟨y,w,by simp[execOp,C,l,Instr.loadAt,Instr.sureAddr,loadVar,Cc O,g],_,_,J,A.xL B H hd k g (.inr (.inl ⟨n,es,rfl,rfl,rfl,m⟩))⟩
   .rename_i es H;obtain⟨m,J⟩:=h;obtain⟨b,k,l⟩:=Gn A D R B;have I:=AW A B (by simp);simp only[AK]at I;obtain⟨V,c,T,u,L,W,X,M⟩:=I;rw[k]at u;simp at u;subst u;obtain⟨y,N,_⟩:=M j _ H;have g:w.cell? ⟨b,j,none⟩=some y:=by rw[cell_of_row w b j c T (0,0) L];exact N
    exact ⟨y,w,by simp[execOp,C,l,Instr.loadAt,Instr.sureAddr,loadVar,Cc O,g],_,_,J,A.xL B H hd k g (.inr (.inr ⟨es,rfl,rfl,rfl,m⟩))⟩
   .exact h.elim
  .exact h.elim
 .exact h.elim
variable{q:Nat}
theorem jq(m:AO F0 w0 U a w G){x v:Operand}{x':AF}(hop:o.op=.store t x v)(hx:AI x x'=true)(hv:AI v (.s q)=true)(hn:Cn P t=some 1)(h:(AE.zp x' q).wp S U none K):G7 P F0 w0 a w o K:=by
 simp [AE.wp]at h
 suffices key:∀(X:TV)(s g:Nat),x'.place U=some (s,g)->U.get q≠.undef->(∀cs,U.get q≠.bx cs)->D0 w (AS w0.heap.size F0 G) (wk a G) (G q none) X (slot a q)->X.WF->∀cs,U.get s=.bx cs->U.yp s (some g)=true->g<cs.length->K .undef ((s,.bx (cs.set g ⟨true,X⟩))::(q,.undef)::U)->G7 P F0 w0 a w o K by
  split at h
  .rename_i s g n es R I;split at h
   .rename_i cs J;have l:=AW m I (by simp);have u:=m.wf q;rw[I]at u;exact key (.xl n es) s g R (by rw[I];simp) (by rw[I];simp) l u cs J h.1 h.2.1 h.2.2
   .exact h.elim
  .rename_i s g es R I;split at h
   .rename_i cs J;have l:=AW m I (by simp);have u:=m.wf q;rw[I]at u;exact key (.xn es) s g R (by rw[I];simp) (by rw[I];simp) l u cs J h.1 h.2.1 h.2.2
   .exact h.elim
  .exact h.elim
 intro X s g R hqu hqb l u cs J hno Y hK;obtain⟨b,hsl,hadr⟩:=Gn m hx R J;have hr:=AW m J (by simp);simp only[AK]at hr;obtain⟨W,c,T,h1,h2,h3,h4,h5⟩:=hr;rw[hsl]at h1;simp at h1;subst h1;have hw:=m.wf s;rw[J]at hw;have C:q≠s:=fun e=>hqb cs (by rw[e];exact J);have hvq:v=.tmp q:=by
  cases v<;>simp[AI]at hv;rw[hv]
 subst hvq;have N:(slot a q).oneCell'=true:=Nl l;have D:(a.eval (.tmp q)).cells.toList=[slot a q]:=by
  have:a.eval (.tmp q)=slot a q:=rfl;rw[this,OX N]
 have hst:(execOp a.eval o).run P w=.ok .skip (w.setRow b (c.toList.take g++[slot a q]++c.toList.drop (g+1)).toArray):=by
  have E:=run_storeCells_at P b g T [slot a q] 0 c w h2 (by simp;omega) (by simpa using N);simp only[Nat.add_zero]at E;have hsz:(a.eval (.tmp q)).cells.size=1:=by rw[<-Array.length_toList,D];rfl
  simp at E;simp[execOp,hop,hadr,Instr.storeAt,Instr.sureAddr,storeVar,B2 hn,hsz,D,E]
 let zs:Option Nat->Option (Nat×Nat):=fun i=>match i with|none=>some (b,0)|some j=>if j=g then G q none else G s (some j)
 refine Exists.elim (m.y5 J hsl h2 (cs':=cs.set g ⟨true,X⟩) (c':=(c.toList.take g++[slot a q]++c.toList.drop (g+1)).toArray) (q:=some q) (by simpa using C) (fun p R=>by cases R;exact m.lts hqu) (zs:=zs) rfl ?_ ?_ ?_ ?_ ?_ ?_) (fun G' h'=>⟨_,hst,_,hK,G',h'.1⟩)
 .intro i W lo hi hz;cases i with
  |none=>exact absurd rfl hi|some j=>
   simp [zs]at hz;split at hz
   .exact .inr ⟨q,rfl,none,hz⟩
   .exact .inl hz
 .intro i i' W lo O A B;have zn:∀j W lo O,zs (some j)=some (W,lo)->zs none=some (W,O)->False:=by
   intro j W lo O A B;simp[zs]at B;obtain⟨rfl,_⟩:=B;simp[zs]at A;split at A
   .exact C (m.ne _ _ _ _ _ _ _ A h4).1
   .have:=(m.ne _ _ _ _ _ _ _ A h4).2;cases this
  cases i with
  |none=>cases i' with
   |none=>rfl|some j=>exact(zn j _ _ _ B A).elim
  |some j=>cases i' with
   |none=>exact(zn j _ _ _ A B).elim|some j'=>
    simp [zs]at A B;split at A<;>split at B
    .rename_i e3 e4;rw[e3,e4]
    .exact absurd (m.ne _ _ _ _ _ _ _ A B).1 C
    .exact absurd (m.ne _ _ _ _ _ _ _ B A).1 C
    .exact(m.ne _ _ _ _ _ _ _ A B).2
 .simp;omega
 .intro F' w' hag M hrs i y H;rw[List.getElem?_set]at H;by_cases hi:g=i
  .subst hi;rw[a6 rfl,a6 Y]at H;simp at H;subst H;refine⟨slot a q,?_,?_⟩
   .rw[List.getElem?_toArray,c8,List.getElem?_append_right (by simp;omega)];simp;rw[Nat.min_eq_left (by omega),Nat.sub_self];rfl
   .simp[BA,zs];exact l.kept hag (fun k lo L=>M k (fun e=>C (m.ne _ _ _ _ _ _ _ (e▸L) h4).1)) hrs
  .rw[ae hi]at H;obtain⟨vv,A,B⟩:=h5 i y H;refine⟨vv,?_,?_⟩
   .rw[List.getElem?_toArray];rcases Nat.lt_or_ge i g with V|hge
    .rw[c8,List.getElem?_append_left (by simp;omega),List.getElem?_take_of_lt V];simpa using A
    .rw[List.getElem?_append_right (by simp;omega)];simp only[bk,bq,Array.length_toList,List.length_singleton];rw[Nat.min_eq_left (by omega),List.getElem?_drop,show g+1+(i-(g+1))=i from by omega];simpa using A
   .have hi':¬i=g:=fun e=>hi e.symm;simp[zs];rw[ae hi'];exact B.kept hag (fun k lo L=>M k (fun e=>by have:=(m.ne _ _ _ _ _ _ _ (e▸L) h4).2;cases this)) hrs
 .intro y H;rcases List.mem_or_eq_of_mem_set H with H|rfl
  .exact hw y H
  .exact u
 .intro k tx htx L;rw[List.getElem?_set]at L;by_cases hi:g=k
  .subst hi;exact .inl hno
  .rw[ae hi]at L;refine .inr ⟨L,?_⟩;have hkc:k<c.size:=by
    have:=(List.getElem?_eq_some_iff.1 L).1;omega
   rw [List.getElem?_toArray];rcases Nat.lt_or_ge k g with V|hge
   .rw[c8,List.getElem?_append_left (by simp;omega),List.getElem?_take_of_lt V,Array.getElem?_toList]
   .rw[List.getElem?_append_right (by simp;omega)];simp only[bk,bq,Array.length_toList,List.length_singleton];rw[Nat.min_eq_left (by omega),List.getElem?_drop,show g+1+(k-(g+1))=k from by omega,Array.getElem?_toList]
variable{s n:Nat}
theorem jt(B:AO F0 w0 U a w G)(hd:d<a.tmps.size){hi:Operand}{E:AF}(hop:o.op=.slice t (.tmp s) none (some hi) none)(hh:AI hi E=true)(D:H4 P t=some n)(h:(AE.cut n s E).wp S U (some d) K):Ax P F0 w0 a w o d K:=by
 simp [AE.wp]at h;split at h
 .rename_i d' m es k hb L hs hv;simp at L;subst L;obtain⟨⟨hm,W,X⟩,h0,h2,hK⟩:=h;subst hm;have hr:=AW B hs (by simp);have hw:=B.wf s;rw[hs]at hw;simp[AK]at hr;obtain⟨xs,⟨z0,k1,k2⟩,k3,k4,k5⟩:=hr;have b2:=(Au B hh hv).1;simp[Ah]at b2;unfold H4 at D;split at D
  .rename_i e hu;obtain⟨j,rfl⟩:∃j:Nat,hb=j:=⟨hb.toNat,by omega⟩;simp at hK;have R:j<=es.length:=by omega
   have hlx:=k1.1;have key:∀(Y:Option Addr)(cap:Nat),slot a s=.slice Y es.length cap->es.length<=cap->(execOp a.eval o).run P w=.ok (.value (.slice (if cap=0 then Y else Y.map (·.add (0*m))) (j-0) (cap-0))) w:=by
    intro Y cap M N;have T:=Rh (P:=P) (w:=w) (isS:=true) (lo:=none) (hi:=some (a.eval hi)) (l:=0) (h:=(j:Int)) (len:=es.length) (cap:=cap) (by omega) (by omega) h2 N (.inl ⟨rfl,rfl⟩) (.inr ⟨k,by rw[b2]⟩);simp[execOp,hop,Instr.sliceAt,Instr.slice,run_underlying hu,show a.eval (.tmp s)=slot a s from rfl,M,T,B2 D]
   have A:∀F' C env'(a':Act)(v:Value),BY w w (AS w0.heap.size F0 G) F'->C d none=G s none->I6 w m v (es.take j).length (xs.take (j*m)) (G s none)->AK a' w F' C env' d (.xo m (es.take j)) v:=by
    intro F' C env' a' v u J H;simp only[AK];rw[J];refine⟨xs.take (j*m),H,?_,fun e he=>k4 e (List.mem_of_mem_take he),fun x H=>k5 x (List.mem_of_mem_take H)⟩;have hfl:∀(l:Fq)(j:Nat),(∀e∈l,e.cells.length=m)->(l.take j).flatMap TV.cells=(l.flatMap TV.cells).take (j*m):=by
     intro l
     induction l with
     |nil=>intro j _;simp|cons e l ih=>
      intro j O;cases j with
      |zero=>simp|succ j=>
       rw [List.take_succ_cons,List.flatMap_cons,List.flatMap_cons,ih j (fun x H=>O x (by simp[H])),List.take_append,O e (by simp)];have h1:(j+1)*m=m+j*m:=by rw[Nat.add_mul];omega
       have h2:e.cells.take (m+j*m)=e.cells:=List.take_of_length_le (by rw[O e (by simp)];omega);rw[h1,h2,show m+j*m-m=j*m from by omega]
    grind [BZ,Ak,bq]
   have V:(EV.xo m (es.take j)).WF:=by
    simp only[EV.WF,TV.WF]at hw|-;refine⟨by simp;omega,?_⟩;rw[Bj]at hw|-;exact fun t D=>hw.2 t (List.mem_of_mem_take D)
   have hjm:j*m<=es.length*m:=Nat.mul_le_mul_right _ R;rcases k1.2 with⟨M,N,e3⟩|⟨g,cap,cur,ty,M,N,e3,e4,e5,e6,e7⟩
   .have hes:es=[]:=List.eq_nil_of_length_eq_zero N;subst hes;have hj:j=0:=by simpa using R
    subst hj;refine⟨_,w,key none 0 (by simpa using M) (by simp),_,_,hK,B.xgo hs hd X (z':=G s none) rfl rfl rfl (az _) (fun _ _ _=>rfl) (fun b lo I=>⟨(B.lt _ _ _ _ I).1,.inr ⟨lo,I⟩⟩) (by simp) (fun _=>W) (fun F' C env' a' u J _=>A F' C env' a' _ u J ?_) V⟩;refine⟨none,⟨by simp,.inl ⟨by simp,by simp,rfl⟩⟩,?_⟩;rw[k2,e3]
   .refine⟨_,w,key _ _ M e3,_,_,hK,B.xgo hs hd X (z':=G s none) rfl rfl rfl (az _) (fun _ _ _=>rfl) (fun b lo I=>⟨(B.lt _ _ _ _ I).1,.inr ⟨lo,I⟩⟩) (by simp) (fun _=>W) (fun F' C env' a' u J _=>A F' C env' a' _ u J ?_) V⟩;have O:(es.take j).length=j:=by rw[bq];omega
    rw [O];refine⟨some (g,j*m),⟨by rw[bq,hlx];omega,.inr ⟨g,cap,cur,ty,?_,N,by omega,e4,e5,?_,rfl⟩⟩,?_⟩
    .simp only[Nat.zero_mul,Nat.sub_zero,Option.map_some,Addr.add_zero'];split<;>rfl
    .rw[<-e6,List.take_take,Nat.min_eq_left hjm]
    .rw[k2,e7];rfl
  .cases D
 .exact h.elim
variable{v:Value}{z:Option (Nat×Nat)}
theorem YE{F:Nat->Nat->Prop}{es:Fq}{xs:List Value}(h:I6 w n v es.length xs z)(g:AQ w F (es.flatMap TV.cells) xs)(j:∀e∈es,e.cells.length=n)(k:∀x∈xs,x.oneCell'=true):Ah w (fun _ _=>False) (.list n es) v:=by
 obtain ⟨m,A,_⟩:=h;refine Bi.zw (z:=m) ?_ (fun _ _ _ _ _ h=>h);simp[Bi];exact⟨xs,A,Ak (fun b o u l _=>⟨l,fun h=>h⟩) _ _ g,j,k⟩
theorem Ww{F:Nat->Nat->Prop}:BY w w F (fun _ _=>False):=fun _ _ _ g _=>⟨g,fun h=>h⟩
variable{c:AN}
theorem mG(h:c.t.WF):c.yu.WF:=by
 obtain ⟨_|_,t⟩:=c
 .exact h
 .cases t<;>exact h
variable{i:Option Nat}{ρ:G6}
theorem iY(j:AO F0 w0 U a w G){x:Value}(h:BA w (AS w0.heap.size F0 G) ρ (G s i) c x):Ah w (fun _ _=>False) c.yu x:=by
 by_cases g:∃n es,c=⟨true,.xl n es⟩
 .obtain⟨n,es,rfl⟩:=g;simp[BA,D0]at h;obtain⟨xs,k,l,m,u⟩:=h;exact YE k l m u
 .have:c.yu=c.t:=by
   obtain ⟨_|_,t⟩:=c
   .rfl
   .cases t<;>first|rfl|exact absurd ⟨_,_,rfl⟩ g
  rw [this];exact B5 Ww _ _ (Uz j h)
variable{b:Nat}
theorem ZW(u:AO F0 w0 U a w G){cs:List AN}(B:U.get s=.bx cs)(l:slot a s=.pointer (some ⟨b,0,none⟩))(g:Nat):C8 w (fun _ _=>False) ((cs.drop g).map AN.yu) b g:=by
 have k:=AW u B (by simp);simp only[AK]at k;obtain⟨H,c,T,m,C,I,J,D⟩:=k;rw[l]at m;simp at m;subst m;rw[IA];intro i t A;simp[List.getElem?_map,List.getElem?_drop]at A;obtain⟨cell,j,rfl⟩:=A;obtain⟨x,E,k⟩:=D _ cell j;exact⟨x,by rw[cell_of_row w b (g+i) c T (0,0) C];exact E,fun h=>h,GU k,iY u k⟩
theorem ZX{cs:List AN}(h:∀c∈cs,c.t.WF):TV.tn (cs.map AN.yu):=by grind[Bj,mG]
theorem iZ(j:AO F0 w0 U a w G)(g:AI x y=true){t:TV}(h:y.yL U=some t):Ah w (fun _ _=>False) t (a.eval x)/\t.WF:=by
 unfold AF.yL at h;split at h
 .rename_i p H;simp at h;subst h;obtain⟨A,D⟩:=NS j g H
  grind [Nx,YE]
 .have C:∀e,y.ev U=e->(∀t,e≠.tv t)->∃n,y=.s n/\x=.tmp n/\U.get n=e:=by
   intro e he B;cases y with
   |c t=>exact absurd he.symm (B t)|s n=>
    cases x<;>simp[AI]at g;subst g;exact⟨_,rfl,rfl,he⟩
  split at h
  .rename_i cs he;simp at h;subst h;obtain⟨n,rfl,rfl,k⟩:=C _ he (by simp);have m:=AW j k (by simp);have u:=j.wf n;rw[k]at u;simp only[AK]at m;obtain⟨b,c,T,A,_⟩:=m;refine⟨?_,ZX u⟩;simp[Ah];exact⟨b,0,A,by simpa using ZW j k A 0⟩
  .rename_i q l he;split at h
   .rename_i cs k;simp only[tg]at h;subst h;obtain⟨n,rfl,rfl,I⟩:=C _ he (by simp);have m:=AW j I (by simp);simp only[AK]at m;obtain⟨b,A,D⟩:=m ⟨cs,k⟩;have u:=j.wf q;rw[k]at u;refine⟨?_,ZX (fun c E=>u c (List.mem_of_mem_drop E))⟩;simp only[Ah];exact⟨b,l,D,ZW j k A l⟩
   .cases h
  .have:=Au j g (t:=t) h;exact⟨B5 Ww _ _ this.1,this.2⟩
theorem Sh(j:AO F0 w0 U a w G):∀{xs:List Operand}{ys:List AF},BX xs ys=true->∀{ts:Fq},wN U ys=some ts->AQ w (fun _ _=>False) ts (xs.map a.eval)/\TV.tn ts
 |[],[],_,ts,hv=>by simp[wN]at hv;subst hv;exact⟨rfl,trivial⟩|[],_::_,g,_,_=>by simp[BX]at g|_::_,[],g,_,_=>by simp[BX]at g|x::xs,y::ys,g,ts,hv=>by
  simp [BX]at g;simp[wN]at hv;split at hv
  .rename_i t m u h;simp at hv;subst hv;have k:=iZ j g.1 u;have l:=Sh j g.2 h;exact⟨⟨_,_,rfl,k.1,l.1⟩,k.2,l.2⟩
  .cases hv
variable{r:Am}
theorem fy{w':World}{F F':Nat->Nat->Prop}{base:Nat}(g:r.xa=true)(h:Ht w' F base r v):Ht w' F' base r v:=by
 cases r with
 |sh t=>exact Pm t g v h|tp ts=>obtain⟨vs,k,j⟩:=h;exact⟨vs,k,FG ts g _ j⟩
 |own t=>
  obtain ⟨z,k,j⟩:=h;refine⟨z,?_,j⟩;cases t<;>simp[Am.xa]at g
  grind [Bi,FG,JZ]
 |_=>simp[Am.xa]at g
theorem Uk(h:r.xa=true):r.plain=true:=by
 cases r<;>first|rfl|(simp[Am.xa]at h)
variable{f:FuncId}{ys:List AF}{ats:Array TypeId}{Q:Exit->Act->World->Prop}
theorem eD(l:AO F0 w0 U a w G)(hd:d<a.tmps.size)(j:o.dst=some d){xs:Array Operand}(m:o.op=.call {callee:=.value (.func f),args:=xs,argTypes:=ats})(u:BX xs.toList ys=true)(h:(AE.xD f ys).wp (AR P) U (some d) K)
  {next:Act->World->Prop}(D:∀e env' a' w',K e env'->PU a d a'->Bm F0 w0 ((d,e)::env') a' w'->next a' w'):o.wp P a w next Q:=by
 simp [AE.wp]at h;cases g:wN U ys with
 |none=>rw[g]at h;exact h.elim|some ts=>
  rw [g]at h;simp[AX]at h;obtain⟨r,⟨E,A⟩,H⟩:=h;have hv:=Sh l u g;have k:(execOp a.eval o).run P w=(callFunc f (xs.map a.eval)).run P w:=by simp[execOp,m,resolve,Act.eval,Deferred.ofValue,invoke]
  obtain ⟨I,B⟩:=(E.to0 (Uk A)) hv.2;obtain⟨C,B⟩:=B (fun _ _=>False) w (xs.map a.eval) (by simpa using hv.1) l.below.now;unfold Oper.wp;rw[k,EU I _,Oper.upon_enter];refine B.mono ?_;rintro e w' ⟨v,rfl,J,L⟩;simp[j];exact D _ _ _ _ (H C) ⟨_,rfl⟩ (l.called hd J (Uk A) (fy A L) C)
theorem cj{w:World}{F F':Nat->Nat->Prop}(g:c.xa=true)(h:BA w F ρ z c v):BA w F' ρ z c v:=by
 obtain ⟨b,t⟩:=c;cases b with
 |false=>exact⟨Pm t g v h.1,h.2⟩|true=>
  cases t<;>simp[AN.xa]at g;simp only[BA,D0]at h|-
  grind [Bi,FG,JZ]
theorem fN{w:World}{F F' N:Nat->Nat->Prop}{cs:List AN}(g:cs.all AN.xa=true)(h:QZ w F N cs v):QZ w F' N cs v:=by
 obtain ⟨Z,⟨vs,j,k,l⟩,m⟩:=h;exact⟨Z,⟨vs,j,k,fun i d hd=>by obtain⟨x,u,A,B⟩:=l i d hd;exact⟨x,u,cj (List.all_eq_true.1 g d (List.mem_of_getElem? hd)) A,B⟩⟩,m⟩
theorem eC(l:AO F0 w0 U a w G)(hd:d<a.tmps.size)(A:o.dst=some d){xs:Array Operand}(I:o.op=.call {callee:=.value (.func f),args:=xs,argTypes:=ats})(B:BX xs.toList ys=true)(h:(AE.xY f ys).wp (AR P) U (some d) K)
  {next:Act->World->Prop}(Y:∀e env' a' w',K e env'->PU a d a'->Bm F0 w0 ((d,e)::env') a' w'->next a' w'):o.wp P a w next Q:=by
 simp only[AE.wp]at h;cases m:wN U ys with
 |none=>rw[m]at h;exact h.elim|some ts=>
  rw [m]at h;simp only[AX]at h;obtain⟨cs,⟨X,N⟩,hK⟩:=h;have D:(execOp a.eval o).run P w=(callFunc f (xs.map a.eval)).run P w:=by simp[execOp,I,resolve,Act.eval,Deferred.ofValue,invoke]
  have key:DO P f=true/\(∀c∈cs,c.t.WF)/\Calls P f (xs.map a.eval) w fun e w'=>∃v,e=.returned v/\Below w.heap.size w w'/\QZ w' (fun b o=>b<w.heap.size/\AS w0.heap.size F0 G b o) (fun b _=>w.heap.size<=b) cs v:=by
   rcases N with V|hl
   .have hv:=FO l B V;obtain⟨E,O⟩:=(X.to0 rfl) hv.2;exact⟨E,O (AS w0.heap.size F0 G) w (xs.map a.eval) (by simpa using hv.1) l.below.now⟩
   .have hv:=Sh l B m;obtain⟨E,O⟩:=(X.to0 rfl) hv.2;obtain⟨H,R⟩:=O (fun _ _=>False) w (xs.map a.eval) (by simpa using hv.1) l.below.now;exact⟨E,H,R.mono fun e w'⟨v,J,C,e3⟩=>⟨v,J,C,fN hl e3⟩⟩
  obtain ⟨E,H,R⟩:=key;unfold Oper.wp;rw[D,EU E _,Oper.upon_enter];refine R.mono ?_;rintro e w' ⟨v,rfl,hb,Z,⟨vs,rfl,r1,r2⟩,r3,r5,T⟩;simp only[A];refine Y _ _ _ _ (hK H) ⟨_,rfl⟩ ⟨_,l.quiet2 hb d hd (.wQ cs) _ Z (fun q i b lo W=>⟨(T q i b lo W).2,(T q i b lo W).1⟩) r3 (by simp) (fun hag=>?_) H⟩;simp only[AK];refine⟨vs,rfl,r1,fun i c L=>?_⟩;obtain⟨x,k1,k2,_⟩:=r2 i c L;refine⟨x,k1,?_⟩;have M:JX a w G d Z d (some i)=Z 0 (some i):=by simp[JX]
  rw [M];refine(k2.kept (fun b o u L hf=>⟨L,fun k=>hf ?_⟩) (fun _ _ _=>rfl) BD.rfl').wk (fun g lo j hg=>?_)
  .rcases k with k|⟨p,j,lo,J,C⟩
   .exact .inl ⟨Nat.lt_of_lt_of_le k.1 l.below.size,.inl k⟩
   .rcases NU J with⟨_,e⟩|⟨_,_,e⟩|⟨_,_,e⟩
    .exact .inr ⟨_,_,lo,e,C⟩
    .exact .inr ⟨_,_,lo,e,C⟩
    .exact .inl ⟨(l.lt _ _ _ _ e).1,.inr ⟨p,j,lo,e,C⟩⟩
  .have:=(T _ _ _ _ hg).2;simp only[wk,Bc,JX,DM.wk];rw[ae (by omega),a6 (by omega)];simp only[Nat.add_sub_cancel_left]
theorem Lq:∀{g:List (Option AN)}{ts:Fq}{cs:List AN},EA g ts=some cs->cs.length=ts.length/\∀(i:Nat)(c:AN),cs[i]?=some c->∃t,ts[i]?=some t/\(c=⟨false,t⟩\/(t=.nil/\∃n,c=⟨true,.list n []⟩\/c=⟨true,.xl n []⟩\/c=⟨true,.xn []⟩))
 |[],[],cs,h=>by simp[EA]at h;subst h;simp|[],_::_,cs,h=>by simp[EA]at h|none::g,[],cs,h=>by simp[EA]at h|some _::g,[],cs,h=>by simp[EA]at h|none::g,t::ts,cs,h=>by
  simp [EA]at h;split at h
  .rename_i cs' k;simp at h;subst h;obtain⟨l,m⟩:=Lq k
   grind
  .cases h
 |some A::g,t::ts,cs,h=>by
  cases t<;>simp[EA]at h<;>try cases h
  have key:∃cs' j,EA g ts=some cs'/\cs=j::cs'/\∃n,j=⟨true,.list n []⟩\/j=⟨true,.xl n []⟩\/j=⟨true,.xn []⟩:=by
   grind
  obtain ⟨cs',j,k,rfl,u⟩:=key;obtain⟨l,m⟩:=Lq k
  grind
theorem gP(H:AO F0 w0 U a w G)(hd:d<a.tmps.size){I:List (Option AN)}(k:o.op=.box t x)(l:AI x y=true)(h:(AE.yn I y).wp S U (some d) K):Ax P F0 w0 a w o d K:=by
 simp [AE.wp]at h;split at h
 .rename_i u Y hv j;simp at j;subst j;cases A:EA I u.cells with
  |none=>rw[A]at h;exact h.elim|some cs=>
   rw [A]at h;simp[AX]at h;obtain⟨C,V⟩:=h;obtain⟨W,D⟩:=Lq A;have N:=Au H l hv;have B:=GA N.1;have O:=BE B.1;refine⟨_,_,by simp[execOp,k,Instr.box,newVar,newRow],_,_,V,H.box hd C (c:=(a.eval x).cells) (T:=t) (by rw[W];simpa using O) (fun F' m i c J=>?_) (fun c J=>?_)⟩
   .obtain⟨X,M,E⟩:=D i c J;have R:i<u.cells.length:=(List.getElem?_eq_some_iff.1 M).1;have L:(a.eval x).cells.toList[i]?=some ((a.eval x).cells.toList[i]'(by omega)):=List.getElem?_eq_getElem (by omega);have g:=((BZ _ _).1 B.1).2 i X _ M L;refine⟨(a.eval x).cells.toList[i]'(by omega),by rw[<-Array.getElem?_toList];exact L,?_⟩;rcases E with rfl|⟨rfl,n,rfl|rfl|rfl⟩
    .exact⟨B5 m _ _ g,B.2 _ (List.getElem_mem _)⟩
    .simp[Ah]at g;simp only[BA,D0,Bi];exact⟨[],⟨by simp,.inl ⟨g,rfl,rfl⟩⟩,rfl,by simp,by simp⟩
    .simp[Ah]at g;simp only[BA,D0];exact⟨[],⟨none,⟨by simp,.inl ⟨g,rfl,rfl⟩⟩,rfl⟩,rfl,by simp,by simp⟩
    .simp[Ah]at g;simp[BA,D0];exact⟨[],⟨none,⟨by simp,.inl ⟨g,rfl,rfl⟩⟩,rfl⟩,by simp,by simp⟩
   grind [List.getElem?_of_mem,Bj,Hc,List.mem_of_getElem?,TV.WF,TV.tn]
 .exact h.elim
theorem XG(k:AO F0 w0 U a w G):∀{i:Nat}{xs:List Operand}{ys:List AF},BX xs ys=true->∀{ts:Fq},Hx U i ys=some ts->(∀x,xs[i]?=some x->(a.eval x).oneCell'=true)->AQ w (AS w0.heap.size F0 G) ts (xs.map a.eval)/\TV.tn ts
 |i,[],[],_,ts,hv,_=>by cases i<;>simp[Hx]at hv<;>subst hv<;>exact⟨rfl,trivial⟩
 |_,[],_::_,g,_,_,_=>by simp[BX]at g|_,_::_,[],g,_,_,_=>by simp[BX]at g|0,x::xs,y::ys,g,ts,hv,ho=>by
  simp [BX]at g;simp[Hx]at hv;split at hv
  .rename_i l h;simp at hv;subst hv;have j:=FO k g.2 h;exact⟨⟨_,_,rfl,by simp[Ah];exact ho x rfl,j.1⟩,trivial,j.2⟩
  .cases hv
 |i+1,x::xs,y::ys,g,ts,hv,ho=>by
  simp [BX]at g;simp[Hx]at hv;split at hv
  .rename_i t l A h;simp at hv;subst hv;have m:=Au k g.1 A;have j:=XG k g.2 h (fun x u=>ho x (by simpa using u));exact⟨⟨_,_,rfl,m.1,j.1⟩,m.2,j.2⟩
  .cases hv
noncomputable def Bk(a:Act)(G:BP)(s:Nat):DM:=open Classical in fun q i=>if q=0 then G s i else if∃k lo,G s k=some (q-1,lo)then(match i with|some j=>G (a.tmps.size+(q-1)) (some j)|none=>none)else none
theorem T5{a:Act}{G:BP}{b lo:Nat}(h:Bk a G s q i=some (b,lo)):(q=0/\G s i=some (b,lo))\/(q≠0/\(∃k g,G s k=some (q-1,g))/\G (a.tmps.size+(q-1)) i=some (b,lo)):=by
 simp [Bk]at h;split at h
 .grind
 .rename_i e;split at h
  .grind
  .cases h
theorem C5{a:Act}{G:BP}:Bk a G s 0=G s:=by
 funext i;simp[Bk]
theorem Nz{a:Act}{G:BP}{s g lo:Nat}{k:Option Nat}(h:G s k=some (g,lo))(j:Nat):(Bk a G s).wk g j=wk a G g j:=by
 simp only[DM.wk,Bk,wk];rw[ae (by omega),a6 ⟨k,lo,by simpa using h⟩];rfl
theorem I5(h:AO F0 w0 U a w G)(B:s<a.tmps.size):IW (Bk a G s):=by
 intro q i C D b lo m u A;rcases T5 u with⟨k,g⟩|⟨k,_,g⟩<;>rcases T5 A with⟨l,j⟩|⟨l,_,j⟩
 .exact⟨by rw[k,l],(h.ne _ _ _ _ _ _ _ g j).2⟩
 .have:=(h.ne _ _ _ _ _ _ _ g j).1;omega
 .have:=(h.ne _ _ _ _ _ _ _ g j).1;omega
 .have:=h.ne _ _ _ _ _ _ _ g j
  grind
theorem CB{b lo:Nat}(l:Bk a G s q i=some (b,lo)):∃p j,G p j=some (b,lo)/\(p=s\/∃g k h,p=a.tmps.size+g/\G s k=some (g,h)):=by grind[T5]
noncomputable def CJ(a:Act)(G:BP)(s d:Nat)(Z:DM):BP:=open Classical in fun p=>if p=d then Z 0 else if p=s then fun _=>none else
 if a.tmps.size<=p/\∃k lo,Z 0 k=some (p-a.tmps.size,lo)then(fun i=>match i with|some j=>Z (p-a.tmps.size+1) (some j)|none=>none)else
 if a.tmps.size<=p/\∃k lo,G s k=some (p-a.tmps.size,lo)then fun _=>none else G p
variable{Z:DM}{p:Nat}
theorem OH{a:Act}{G:BP}{s d:Nat}{b lo:Nat}(h:CJ a G s d Z p i=some (b,lo)):
  (p=d/\Z 0 i=some (b,lo))\/(p≠d/\a.tmps.size<=p/\Z (p-a.tmps.size+1) i=some (b,lo))\/(p≠d/\p≠s/\¬(a.tmps.size<=p/\∃k lo,G s k=some (p-a.tmps.size,lo))/\G p i=some (b,lo)):=by
 simp [CJ]at h;split at h
 .rename_i e;exact .inl ⟨e,h⟩
 .rename_i e;split at h
  .cases h
  .rename_i g;split at h
   .rename_i l;cases i with
    |none=>cases h
    |some j=>exact .inr (.inl ⟨e,l.1,h⟩)
   .split at h
    .cases h
    .rename_i m;exact .inr (.inr ⟨e,g,m,h⟩)
theorem AO.xg(h:AO F0 w0 U a w G){s d:Nat}(hsz:s<a.tmps.size)(hd:d<a.tmps.size){w':World}(X:GI (Bk a G s) w w'){env':AB}{a':Act}(ha':a'.tmps.size=a.tmps.size)(had:a'.defers=a.defers)
  (hzu:IW Z)(hz:∀q i b lo,Z q i=some (b,lo)->b<w'.heap.size/\(w.heap.size<=b\/∃p j l,Bk a G s p j=some (b,l)/\l<=lo))
  (hdom:∀p,a.tmps.size<=p->env'.get p=.undef)(hwf:∀p,(env'.get p).WF)
  (D:∀p,p≠d->p≠s->slot a' p=slot a p)(N:∀p,p≠d->p≠s->env'.get p=U.get p)(hgs:s≠d->env'.get s=.undef)
  (m:U.f0 d=true\/(d=s/\(∃cs0,U.get s=.bx cs0)/\U.yp s none=true/\(∀n es,env'.get d≠.xo n es)/\slot a' s=slot a s)\/((∀cs,env'.get d≠.bx cs)/\∀n es,env'.get d≠.xo n es))
  (hrep:∀F',(∀b o,F' b o->(b<w.heap.size/\AS w0.heap.size F0 G b o/\¬ZF (Bk a G s) b o)\/ZF Z b o)->AK a' w' F' (CJ a G s d Z) env' d (env'.get d) (slot a' d)):
  AO F0 w0 env' a' w' (CJ a G s d Z)/\∀b o,AS w0.heap.size F0 (CJ a G s d Z) b o->(b<w.heap.size/\AS w0.heap.size F0 G b o/\¬ZF (Bk a G s) b o)\/ZF Z b o:=by
 have W:∀p i b lo,p≠s->¬(a.tmps.size<=p/\∃k lo,G s k=some (p-a.tmps.size,lo))->G p i=some (b,lo)->∀q j l,Bk a G s q j≠some (b,l):=by
  intro p i b lo I hn A q j l H;obtain⟨p',j',O,V⟩:=CB H;obtain⟨rfl,_⟩:=h.ne _ _ _ _ _ _ _ A O;rcases V with V|⟨g,k,lo0,rfl,f3⟩
  .exact I V
  .exact hn ⟨by omega,k,lo0,by rw[Nat.add_sub_cancel_left];exact f3⟩
 have hE:∀b o,b<w0.heap.size->ZF (Bk a G s) b o->w0.E b o:=fun b o hlt⟨q,i,lo,A,H⟩=>by
  obtain ⟨p,j,O,_⟩:=CB A;exact(h.lt _ _ _ _ O).2.elim (fun e=>by omega) (fun e=>e o H)
 have hforb:∀b o,AS w0.heap.size F0 (CJ a G s d Z) b o->(b<w0.heap.size/\F0 b o)\/(∃p i lo,p≠s/\¬(a.tmps.size<=p/\∃k lo,G s k=some (p-a.tmps.size,lo))/\G p i=some (b,lo)/\lo<=o)\/ZF Z b o:=by
  rintro b o (A|⟨p,i,lo,A,H⟩)
  .exact .inl A
  .rcases OH A with⟨_,e⟩|⟨_,_,e⟩|⟨_,e1,e2,e3⟩
   .exact .inr (.inr ⟨_,i,lo,e,H⟩)
   .exact .inr (.inr ⟨_,i,lo,e,H⟩)
   grind
 have hall:∀b o,AS w0.heap.size F0 (CJ a G s d Z) b o->(b<w.heap.size/\AS w0.heap.size F0 G b o/\¬ZF (Bk a G s) b o)\/ZF Z b o:=by
  intro b o hf;rcases hforb b o hf with A|⟨p,i,lo,e1,e0,e2,e3⟩|A
  .exact .inl ⟨Nat.lt_of_lt_of_le A.1 h.below.size,.inl A,fun hz=>h.below.free _ _ _ (hE b o A.1 hz) A.2⟩
  .exact .inl ⟨(h.lt _ _ _ _ e2).1,.inr ⟨p,i,lo,e2,e3⟩,fun⟨q,j,l,O,_⟩=>W p i b lo e1 e0 e2 q j l O⟩
  .exact .inr A
 have hag:BY w w' (AS w0.heap.size F0 G) (AS w0.heap.size F0 (CJ a G s d Z)):=by
  intro b o u hc hF;have hlt:b<w.heap.size:=World.block_lt_of_cell? w ⟨b,o,none⟩ hc;have hnf:¬ZF (Bk a G s) b o:=fun⟨q,i,lo,A,H⟩=>by
   obtain ⟨p,j,O,_⟩:=CB A;exact hF (.inr ⟨p,j,lo,O,H⟩)
  refine ⟨X.cell b o u hnf hc,fun hF'=>?_⟩;rcases hall b o hF' with⟨_,A,_⟩|⟨q,i,lo,A,H⟩
  .exact hF A
  .rcases(hz q i b lo A).2 with h3|⟨p,j,l,h3,h4⟩
   .omega
   .exact hnf ⟨p,j,l,h3,Nat.le_trans h4 H⟩
 have hlow:∀p,p<a.tmps.size->p≠d->p≠s->CJ a G s d Z p=G p:=by
  intro p hp A H;simp[CJ];rw[ae A,ae H,ae (fun e=>by have:=e.1;omega),ae (fun e=>by have:=e.1;omega)]
 refine ⟨⟨?_,?_,?_,had.trans h.defers,fun p hp=>hdom p (by omega),?_,hwf⟩,hall⟩
 .intro p i p' i' b lo l e1 e2;have mix:∀p i q i' lo l,p≠s->¬(a.tmps.size<=p/\∃k lo,G s k=some (p-a.tmps.size,lo))->G p i=some (b,lo)->Z q i'=some (b,l)->False:=by
   intro p i q i' lo l hp hn O V;rcases(hz q i' b l V).2 with h3|⟨p2,j,R,h3,_⟩
   .have:=(h.lt _ _ _ _ O).1;omega
   .exact W p i b lo hp hn O p2 j R h3
  rcases OH e1 with⟨O,M⟩|⟨O,f3,M⟩|⟨_,f3,f4,M⟩<;>rcases OH e2 with⟨V,g2⟩|⟨V,f5,g2⟩|⟨_,f5,f6,g2⟩
  .exact⟨by rw[O,V],(hzu _ _ _ _ _ _ _ M g2).2⟩
  .have:=(hzu _ _ _ _ _ _ _ M g2).1;omega
  .exact(mix _ _ _ _ _ _ f5 f6 g2 M).elim
  .have:=(hzu _ _ _ _ _ _ _ M g2).1;omega
  .have:=hzu _ _ _ _ _ _ _ M g2;exact⟨by omega,this.2⟩
  .exact(mix _ _ _ _ _ _ f5 f6 g2 M).elim
  .exact(mix _ _ _ _ _ _ f3 f4 M g2).elim
  .exact(mix _ _ _ _ _ _ f3 f4 M g2).elim
  .exact h.ne _ _ _ _ _ _ _ M g2
 .intro p i b lo e1;have znew:∀q i,Z q i=some (b,lo)->b<w'.heap.size/\(w0.heap.size<=b\/∀o,lo<=o->w0.E b o):=by
   intro q i O;obtain⟨A,H⟩:=hz q i b lo O;refine⟨A,?_⟩;rcases H with H|⟨p,j,l,H,h3⟩
   .exact .inl (Nat.le_trans h.below.size H)
   .obtain⟨p',j',V,_⟩:=CB H;exact(h.lt _ _ _ _ V).2.imp id (fun e o ho=>e o (Nat.le_trans h3 ho))
  rcases OH e1 with⟨_,M⟩|⟨_,_,M⟩|⟨_,_,_,M⟩
  .exact znew _ _ M
  .exact znew _ _ M
  .exact⟨Nat.lt_of_lt_of_le (h.lt _ _ _ _ M).1 X.size,(h.lt _ _ _ _ M).2⟩
 .refine h.below.trans X.os X.tape X.output X.size (fun k hk he=>X.block k (Nat.lt_of_lt_of_le hk h.below.size) (fun q i lo T=>he lo (hE k lo hk ⟨q,i,lo,T,az _⟩))) (fun b o u hlt he hu=>X.cell b o u (fun T=>he (hE b o hlt T)) hu)
 .intro p hp;rw[ha']at hp;by_cases hpd:p=d
  .subst hpd;exact hrep _ hall
  .by_cases I:p=s
   .subst I;rw[hgs hpd];trivial
   .rw[N p hpd I,D p hpd I];have hn:¬(a.tmps.size<=p/\∃k lo,G s k=some (p-a.tmps.size,lo)):=fun e=>by have:=e.1;omega
    have hsame:∀r,(r≠d->r≠s)->r≠d->slot a' r=slot a r:=fun r A H=>D r H (A H);refine AK.kept' hag (fun i=>by rw[hlow p hp hpd I]) (fun i b lo T=>X.block b (h.lt _ _ _ _ T).1 (fun q j l=>W p i b lo I hn T q j l)) (fun i g lo j hg=>?_) (fun i g lo j b l hg L=>?_) (fun r i k L⟨pp,J⟩=>?_) (fun r off L⟨cs2,hcs⟩=>?_) (fun r i L⟨pp,J⟩=>?_) (h.slots p hp)
    .show CJ a G s d Z (a'.tmps.size+g) (some j)=G (a.tmps.size+g) (some j);rw[ha'];simp[CJ];rw[ae (by omega),ae (by omega),ae,ae]
     .rintro⟨_,k,l,e⟩;rw[Nat.add_sub_cancel_left]at e;exact I (h.ne _ _ _ _ _ _ _ hg e).1
     .rintro⟨_,k,l,e⟩;rw[Nat.add_sub_cancel_left]at e;rcases(hz _ _ _ _ e).2 with h3|⟨p2,j2,R,h3,_⟩
      .have:=(h.lt _ _ _ _ hg).1;omega
      .exact W p i g lo I hn hg p2 j2 R h3
    .refine X.block b (h.lt _ _ _ _ L).1 (fun q j2 R hzf=>?_);obtain⟨p',j',O,V⟩:=CB hzf;obtain⟨e1,_⟩:=h.ne _ _ _ _ _ _ _ L O;rcases V with V|⟨g',k,lo0,f3,f4⟩
     .omega
     .have:g=g':=by omega
      subst this;exact I (h.ne _ _ _ _ _ _ _ hg f4).1
    .obtain⟨cs,A,H⟩:=AB.wd J;by_cases B:r=d
     .subst B;rcases m with m|⟨rfl,_,m,_⟩|⟨m,_⟩
      .exact absurd L (AB.yh _ U m p i k)
      .exact absurd L (AB.noX_nh m p i (.inl rfl) k)
      .exact absurd A (m cs)
     .by_cases C:r=s
      .subst C;rw[hgs B]at A;cases A
      .have h4:U.nat r i=some pp:=by rw[<-J];exact(AB.w7 (N r B C)).symm
       have hrl:r<a.tmps.size:=h.lts (by rw[<-N r B C,A];simp);exact⟨⟨pp,h4⟩,h.nh ⟨pp,h4⟩ (D r B C) (fun j b _ Y=>X.block b (h.lt _ _ _ _ Y).1 (fun q j2 R=>W r j b 0 C (fun e=>by have:=e.1;omega) Y q j2 R))⟩
    .by_cases B:r=d
     .subst B;rcases m with m|⟨e1,⟨cs0,e2⟩,_,_,hds⟩|⟨m,_⟩
      .exact absurd L (AB.xK _ U m p off)
      .exact⟨⟨cs0,by rw[e1];exact e2⟩,by rw[e1];exact hds⟩
      .exact absurd hcs (m cs2)
     .by_cases C:r=s
      .subst C;rw[hgs B]at hcs;cases hcs
      .exact⟨⟨cs2,by rw[<-N r B C];exact hcs⟩,D r B C⟩
    .by_cases B:r=d
     .subst B;obtain⟨n,es⟩:=pp;rcases m with m|⟨rfl,_,m,hxo,_⟩|⟨m,hxo⟩
      .have hx:=AB.xM _ U m p;rcases L with L|⟨c,L⟩
       .exact absurd L (hx.1 i)
       .exact absurd L (hx.2 i c)
      .cases i with
       |none=>exact absurd (AB.wj J) (hxo n es)|some k=>
        have h5:=AB.noX_spec m p k (.inl rfl);rcases L with L|⟨c,L⟩
        .exact absurd L h5.1
        .exact absurd L (h5.2 c)
      .cases i with
       |none=>exact absurd (AB.wj J) (hxo n es)|some k=>
        obtain ⟨cs,A,_⟩:=AB.wa J;exact absurd A (m cs)
     .by_cases C:r=s
      .subst C;rw[AB.xA (hgs B)]at J;cases J
      .have h4:U.tl r i=some pp:=by rw[<-J];exact(AB.wR (N r B C)).symm
       have hrl:r<a.tmps.size:=by
        refine h.lts (fun e=>?_);rw[AB.xA e]at h4;cases h4
       exact ⟨⟨pp,h4⟩,h.xv ⟨pp,h4⟩ (D r B C) (fun b Y=>X.block b (h.lt _ _ _ _ Y).1 (fun q j2 R=>W r none b 0 C (fun e=>by have:=e.1;omega) Y q j2 R))⟩
theorem O9{a a':Act}{G:BP}{s d:Nat}(l:a'.tmps.size=a.tmps.size)(hd:d<a.tmps.size)(m:s<a.tmps.size){k:Option Nat}{g lo:Nat}(h:Z 0 k=some (g,lo))(j:Nat):wk a' (CJ a G s d Z) g j=Z.wk g j:=by
 show CJ a G s d Z (a'.tmps.size+g) (some j)=Z.wk g j;rw[l];simp only[CJ,DM.wk];rw[ae (by omega),ae (by omega),a6 ⟨by omega,k,lo,by rw[Nat.add_sub_cancel_left];exact h⟩]
 grind
theorem AO.reboxed(h:AO F0 w0 U a w G){cs cs':List AN}(J:U.get s=.bx cs)(C:U.yp s none=true){w':World}(L:GI (Bk a G s) w w')
  (l:MY w' (fun b o=>(b<w.heap.size/\AS w0.heap.size F0 G b o/\¬ZF (Bk a G s) b o)\/ZF Z b o) Z cs' (slot a s))
  (D:IW Z)(M:∀q i b lo,Z q i=some (b,lo)->b<w'.heap.size/\(w.heap.size<=b\/∃p j m,Bk a G s p j=some (b,m)/\m<=lo))(N:∀c∈cs',c.t.WF):
  AO F0 w0 ((s,.bx cs')::U) a w' (CJ a G s s Z)/\∀b o,AS w0.heap.size F0 (CJ a G s s Z) b o->(b<w.heap.size/\AS w0.heap.size F0 G b o/\¬ZF (Bk a G s) b o)\/ZF Z b o:=by
 have k:s<a.tmps.size:=Ba h J (by simp);have A:AB.get ((s,EV.bx cs')::U) s=.bx cs':=by rw[AB.d4,a6 rfl]
 refine h.xg k k L rfl rfl D M (fun p O=>by rw[AB.d4,ae (by omega)];exact h.dom p O) (fun p=>?_) (fun _ _ _=>rfl) (fun p _ E=>by rw[AB.d4,ae (fun e=>E e.symm)]) (fun e=>absurd rfl e) (.inr (.inl ⟨rfl,⟨cs,J⟩,C,(fun n es e=>by rw[A]at e;cases e),rfl⟩)) (fun F' H=>?_)
 .rw[AB.d4];split
  .exact N
  .exact h.wf p
 .rw[A];obtain⟨b,c,T,W,X,Y,h4,h5⟩:=l;have B:CJ a G s s Z s=Z 0:=by simp[CJ]
  simp only[AK];refine⟨b,c,T,W,X,Y,by rw[B];exact h4,fun i d hd=>?_⟩;obtain⟨x,e1,e2⟩:=h5 i d hd;refine⟨x,e1,?_⟩;rw[B];exact(e2.kept (fun b o u R hf=>⟨R,fun I=>hf (H b o I)⟩) (fun _ _ _=>rfl) BD.rfl').wk (fun g lo j V=>O9 rfl k k V j)
theorem d8(k:AO F0 w0 U a w G)(hd:d<a.tmps.size)(L:o.dst=some d){xs:Array Operand}{i:Nat}(hop:o.op=.call {callee:=.value (.func f),args:=xs,argTypes:=ats})(M:BX xs.toList ys=true)(h:(AE.w6 f ys i).wp (AR P) U (some d) K)
  {next:Act->World->Prop}(hn:∀e env' a' w',K e env'->PU a d a'->Bm F0 w0 ((d,e)::env') a' w'->next a' w'):o.wp P a w next Q:=by
 simp only[AE.wp]at h;split at h
 .rename_i d' s O D;simp at O;subst O;split at h
  .rename_i cs R;obtain⟨⟨hno,hds⟩,h⟩:=h;cases H:Hx U i ys with
   |none=>rw[H]at h;exact h.elim|some ts=>
    rw [H]at h;simp only[AX]at h;obtain⟨cs',m,hS,hK⟩:=h;rw[Option.bind_eq_some_iff]at D;obtain⟨y,hy,D⟩:=D;have hxi:∀(xs:List Operand)(ys:List AF)(i:Nat)(y:AF),BX xs ys=true->ys[i]?=some y->∃x,xs[i]?=some x/\AI x y=true:=by
     intro xs
     induction xs with
     |nil=>intro ys i y A B;cases ys<;>simp[BX]at A B
     |cons x xs ih=>
      intro ys i y A B;cases ys with
      |nil=>simp[BX]at A|cons z ys=>
       simp [BX]at A
       grind
    obtain ⟨x,hx,hxy⟩:=hxi _ _ _ _ M hy;obtain⟨b,hsl,C⟩:=Gn k hxy D R;have hv:=XG k M H (fun x' N=>by rw[hx]at N;cases N;rw[C];rfl);have V:=k.wf s;rw[R]at V;have hbx:=AW k R (by simp);have hsplit:∀b o,AS w0.heap.size F0 G b o↔((AS w0.heap.size F0 G b o/\¬ZF (Bk a G s) b o)\/ZF (Bk a G s) b o):=by
     intro b o;constructor
     .grind
     .rintro(hf|⟨q,i,lo,A,B⟩)
      .exact hf.1
      .obtain⟨p,j,I,_⟩:=CB A;exact .inr ⟨p,j,lo,I,B⟩
    have hF:(fun b o=>(AS w0.heap.size F0 G b o/\¬ZF (Bk a G s) b o)\/ZF (Bk a G s) b o)=AS w0.heap.size F0 G:=by
     grind
    obtain ⟨B,h3⟩:=hS hv.2 V;have hbr:MY w (fun b o=>(AS w0.heap.size F0 G b o/\¬ZF (Bk a G s) b o)\/ZF (Bk a G s) b o) (Bk a G s) cs (slot a s):=by
     rw [hF];obtain⟨b,c,T,A,B,h3,h4,h5⟩:=hbx;refine⟨b,c,T,A,B,h3,by rw[C5];exact h4,fun i d hd=>?_⟩;obtain⟨x,e1,e2⟩:=h5 i d hd;exact⟨x,e1,by rw[C5];exact e2.wk (fun g lo j hg=>Nz hg j)⟩
    obtain ⟨⟨k1,k2⟩,k3⟩:=h3 (fun b o=>AS w0.heap.size F0 G b o/\¬ZF (Bk a G s) b o) w (xs.map a.eval) (slot a s) (Bk a G s) (by rw[hF];simpa using hv.1)
     (by rw[Array.getElem?_map];rw[<-Array.getElem?_toList,hx];simp;rw[C,hsl]) hbr (I5 k (Ba k R (by simp))) (fun q i b lo e=>by obtain⟨p,j,I,_⟩:=CB e;exact(k.lt _ _ _ _ I).1)
     (by
      rintro b o o' ⟨q,i,lo,e1,e2⟩ ⟨hf,hnz⟩;by_cases hlo:lo<=o'
      .exact hnz ⟨q,i,lo,e1,hlo⟩
      .obtain⟨p,j,I,_⟩:=CB e1;exact Nn k b lo o' I (by omega) hf)
     ⟨k.below.now,fun b o⟨_,_,_,e,_⟩=>by obtain⟨_,_,I,_⟩:=CB e;exact k.low I⟩
    have W:(execOp a.eval o).run P w=(callFunc f (xs.map a.eval)).run P w:=by simp[execOp,hop,resolve,Act.eval,Deferred.ofValue,invoke]
    unfold Oper.wp;rw[W,EU B _,Oper.upon_enter];refine k3.mono ?_;rintro e w' ⟨r,J,rfl,r1,r2,r3,r4,r5⟩;simp[L];obtain⟨Y,E⟩:=k.reboxed R hno r1 r2 r3 r4 k1;refine hn _ _ _ _ (hK ⟨k1,k2⟩) ⟨_,rfl⟩ ?_;have X:∀b o,AS w0.heap.size F0 (IU (CJ a G s s J) d fun _=>none) b o->(b<w.heap.size/\AS w0.heap.size F0 G b o/\¬ZF (Bk a G s) b o)\/ZF J b o:=by
     intro b o hf;have hf2:AS w0.heap.size F0 (CJ a G s s J) b o:=AS.mono (fun p i b lo D=>by
      by_cases hpd:p=d
      .grind[Bq]
      .rw[A9 _ _ _ _ hpd]at D;exact⟨p,i,lo,D,az _⟩) hf
     exact E b o hf2
    have l:BY w' w' (fun b o=>(b<w.heap.size/\AS w0.heap.size F0 G b o/\¬ZF (Bk a G s) b o)\/ZF J b o) (AS w0.heap.size F0 (IU (CJ a G s s J) d fun _=>none)):=fun b o u hc hf=>⟨hc,fun E=>hf (X b o E)⟩;by_cases hus:∃t,m=[t]
    .obtain⟨t,rfl⟩:=hus;exact Y.tv (Below.refl _ _) d hd t r (B5 l t r r5) k2.1
    .have hof:EV.zf m=.tp m:=by
      rcases m with _|⟨t,_|⟨t',m⟩⟩
      .rfl
      .grind
      .rfl
     have hur:∃vs,r=.tuple vs/\AQ w' (fun b o=>(b<w.heap.size/\AS w0.heap.size F0 G b o/\¬ZF (Bk a G s) b o)\/ZF J b o) m vs.toList:=by
      rcases m with _|⟨t,_|⟨t',m⟩⟩
      .exact r5
      .grind
      .exact r5
     obtain ⟨vs,rfl,hvs⟩:=hur;rw[hof];refine⟨_,Y.quiet (Below.refl _ _) d hd (.tp m) _ (fun _=>none) (by simp) (by simp) (by simp) ?_ k2⟩;simp only[AK];exact⟨vs,rfl,Ak l m _ hvs⟩
  .exact h.elim
 .exact h.elim
end
end Go.Sf
namespace Go.Sf
open Go.RowKit (Below)
theorem Jj{z g:Value}(h:z.cells=#[g])(k:Nat):Builtin.zeroCells z.cells k=(List.replicate k g).toArray:=by
 rw [h];apply Array.ext
 .simp[Builtin.zeroCells]
 .intro i j l;simp[Builtin.zeroCells,Nat.mod_one]
section
variable{P:Program}{w:World}
theorem Qq(t L ty e M:TypeId)(i:TypeInfo)(z H:Value)(V W:IntKind)(N:P.underlying t=some (.slice e))(B:P.underlying L=some (.int W))(hi:P.info? e=some i)(X:i.zero=some z)(O:i.size=1)(I:z.cells=#[H])(Y:H.oneCell'=true)
  (g h j:Nat)(l:Array Value)(hg:w.heap[g]?=some (.cells l M (0,0)))
  (k:Nat)(h48:k*i.bytes<=281474976710656)(R:(k:Int)<=9223372036854775807)(A:h+k<=j)(C:h+k<=l.size):
  (Builtin.append_ #[t,L] ty #[.slice (some ⟨g,0,none⟩) h j,.int V k]).run P w=
   .ok (.slice (some ⟨g,0,none⟩) (h+k) j) (w.setRow g (l.toList.take h++List.replicate k H++l.toList.drop (h+k)).toArray):=by
 have hw:IntKind.i64.wrap (k:Int)=k:=by rw[IntKind.wrap_i64];omega
 have D:¬((k:Int)<0):=by omega
 have E:¬(281474976710656<(k:Int)*(i.bytes:Int)):=by
  grind
 have m:=run_storeCells_at P g h M (List.replicate k H) 0 l w hg (by simpa using C) (fun u hu=>by rw[List.eq_of_mem_replicate hu];exact Y);simp at m;by_cases T:k=0
 .subst T;simp at m;have J:IntKind.i64.wrap 0=0:=by decide
  simp [Builtin.append_,run_underlying N,run_underlying B,sizeOf,typeInfo,hi,asInt,asIntOf,J,O,show h<=j from by omega,Addr.add_lit,m]
 .simp[Builtin.append_,run_underlying N,run_underlying B,sizeOf,typeInfo,zeroValue,hi,X,asInt,asIntOf,hw,D,E,O,T,A,Addr.add_lit,Jj I,m]
theorem R4(t h ty e:TypeId)(i:TypeInfo)(j k:IntKind)(l:P.underlying t=some (.slice e))(g:P.underlying h=some (.int k))(hi:P.info? e=some i):
  (Builtin.append_ #[t,h] ty #[.slice none 0 0,.int j 0]).run P w=.ok (.slice none 0 0) w:=by
 have m:IntKind.i64.wrap 0=0:=by decide
 simp [Builtin.append_,run_underlying l,run_underlying g,sizeOf,typeInfo,hi,asInt,asIntOf,m]
theorem jX(t V ty e:TypeId)(i:TypeInfo)(z W:Value)(kq kn:IntKind)(ht:P.underlying t=some (.slice e))(J:P.underlying V=some (.int kn))(hi:P.info? e=some i)(hz:i.zero=some z)
  (hs:i.size=1)(hby:i.bytes<=4096)(B:z.cells=#[W])(h1:W.oneCell'=true)(v:Value)(len:Nat)(xs:List Value)(zo:Option (Nat×Nat))(l:FW w 1 v len xs zo)(k:Nat)(hk:k<=4096)(M:len+k<=Aj):
  ∃v' w' z',(Builtin.append_ #[t,V] ty #[v,.int kq k]).run P w=.ok v' w'/\FW w' 1 v' (len+k) (xs++List.replicate k W) z'/\IG w w' zo z':=by
 have m:(xs++List.replicate k W).length=(len+k)*1:=by rw[bk,l.1,List.length_replicate];omega
 have L:(len+k)*i.bytes<=140737488355328:=by
  calc (len+k)*i.bytes<=Aj*4096:=Nat.mul_le_mul M hby
   _<=140737488355328:=by decide
 have N:k*i.bytes<=281474976710656:=by
  grind
 have hml:len+k<=maxLen:=by simp[maxLen,Aj]at *;omega
 have hzlt:∀b lo,zo=some (b,lo)->b<w.heap.size:=by
  intro b lo I;rcases l.2 with⟨_,_,h⟩|⟨g,cap,E,T,_,hg,_,_,_,_,h⟩
  .rw[h]at I;cases I
  grind
 have C:∀(old:Nat),old<len+k ->
   FW (w.drew.alloc (.cells (xs.toArray++Builtin.zeroCells z.cells k++Builtin.zeroCells z.cells (grownCap w (len+k) old e-(len+k))) e)) 1
    (.slice (some ⟨w.heap.size,0,none⟩) (len+k) (grownCap w (len+k) old e)) (len+k) (xs++List.replicate k W) (some (w.heap.size,(len+k)*1))/\
   IG w (w.drew.alloc (.cells (xs.toArray++Builtin.zeroCells z.cells k++Builtin.zeroCells z.cells (grownCap w (len+k) old e-(len+k))) e)) zo (some (w.heap.size,(len+k)*1)):=by
  intro old ho;have hge:=grownCap_ge w (len+k) old e;have O:grownCap w (len+k) old e<=maxLen:=grownCap_le_maxLen w (len+k) old e hml;have hxl:xs.length=len:=by simpa using l.1
  refine ⟨⟨m,.inr ⟨w.heap.size,_,_,e,rfl,heap_alloc_new w.drew _,hge,O,?_,?_,rfl⟩⟩,⟨rfl,rfl,rfl,by simp,fun k hk _=>Below.heap_alloc w.drew _ k hk,fun b o v X _=>?_,fun b lo I=>?_⟩⟩
  .rw[Jj B,Jj B];simp[hxl];omega
  .rw[Jj B,Jj B];simp only[Array.toList_append,c8];rw[<-c8,<-m];exact List.take_left
  .have I:b<w.heap.size:=World.block_lt_of_cell? w ⟨b,o,none⟩ X;rw[World.cell?_alloc_lt _ _ (a:=⟨b,o,none⟩) (by simpa using I)];simpa using X
  .simp at I;rw[<-I.1];exact⟨by simp,.inl (az _)⟩
 rcases l.2 with⟨rfl,rfl,rfl⟩|⟨g,cap,E,T,rfl,hg,hnc,O,hcs,H,rfl⟩
 .have hx:xs=[]:=List.eq_nil_of_length_eq_zero (by simpa using l.1);subst hx;by_cases hk0:k=0
  .subst hk0;exact⟨_,_,none,R4 t V ty e i kq kn ht J hi,⟨by simp,.inl ⟨rfl,rfl,rfl⟩⟩,IG.refl w none (by simp)⟩
  .have Y:=Lib.run_append_nil_zeros (P:=P) w t V ty e i z kq kn ht J hi hz k (by omega) (by omega) (by omega) N;have A:=C 0 (by omega);simp only[Nat.zero_add,List.nil_append,Array.empty_append]at A Y|-;exact⟨_,_,_,Y,A.1,A.2⟩
 .have hxl:xs.length=len:=by simpa using l.1
  simp at hcs H;by_cases D:len+k<=cap
  .have Y:=Qq (P:=P) (w:=w) t V ty e T i z W kq kn ht J hi hz hs B h1 g len cap E hg k N (by omega) D (by omega);refine⟨_,_,some (g,(len+k)*1),Y,⟨m,.inr ⟨g,cap,_,T,rfl,setRow_heap w g E _ T _ hg,D,O,?_,?_,rfl⟩⟩,⟨rfl,rfl,rfl,by simp,fun j _ hj=>setRow_other w g j _ (fun e=>hj (len*1) (by rw[e])),fun b o u X hlo=>?_,fun b lo I=>?_⟩⟩
   .simp;omega
   .rw[H,<-m];exact List.take_left
   .by_cases hbg:b=g
    .subst hbg;have ho:=hlo (len*1) rfl;rw[cell_of_row _ b o _ T (0,0) (setRow_heap w b E _ T _ hg)];rw[cell_of_row w b o E T (0,0) hg]at X;rw[List.getElem?_toArray,c8,List.getElem?_append_left (by simp;omega),List.getElem?_take_of_lt (by omega)];simpa using X
    .rw[World.cell?_of_block (w:=w) (a:=⟨b,o,none⟩) (setRow_other w g b _ (fun e=>hbg e))];exact X
   .simp only[tg,Prod.mk.injEq]at I;obtain⟨rfl,rfl⟩:=I;refine⟨by simpa using hzlt g (len*1) rfl,.inr ⟨len*1,rfl,Nat.mul_le_mul_right _ (by omega)⟩⟩
  .have R:(Builtin.firstCells i.size len (.slice (some ⟨g,0,none⟩) len cap)).run P w.drew=.ok xs.toArray w.drew:=by
    refine run_firstCells_some (P:=P) w.drew i.size len ⟨g,0,none⟩ len cap xs (by rw[hs];omega) (fun j u hu=>?_);rw[Addr.add_lit,Nat.zero_add];have:=l.cell rfl j u hu;simpa using this
   have Y:=Lib.run_append_grow_zeros (P:=P) w t V ty e i z kq kn ht J hi hz (some ⟨g,0,none⟩) len cap xs R k (by omega) (by omega) (by omega) (by simp[Aj]at M;omega) N (growslice_fits (by omega) L);have A:=C cap (by omega);exact⟨_,_,_,Y,A.1,A.2⟩
end
def Operand.yU(n:Nat):Operand->Bool
 |.tmp m=>m==n|_=>false
variable{n:Nat}{x:Operand}
theorem Operand.isTmp_eq'(h:Operand.yU n x=true):x=.tmp n:=by
 cases x<;>simp[Operand.yU]at h;rw[h]
def fO(P:Program)(n s:Nat)(z:TV)(x:AF)(c:Call):Bool:=
 match c.callee,c.args.toList,c.argTypes.toList with
 |.builtin .append,[p,q],[t,t']=>Operand.yU s p&&AI q x&&(match P.underlying t,P.underlying t' with
  |some (.slice e),some (.int _)=>(match P.info? e with
   |some i=>(match i.zero with
    |some zz=>(match zz.cells.toList with
     |[z0]=>n==1&&i.size==1&&decide (i.bytes<=4096)&&D2 z z0&&z0.oneCell'|_=>false)
    |none=>false)
   |none=>false)
  |_,_=>false)
 |_,_,_=>false
section
variable{P:Program}{S:FuncId->Fq->Am->Prop}{F0:Nat->Nat->Prop}{w0:W0}{U:AB}{a:Act}{w:World}{G:BP}{d:Nat}{o:Oper}{K:EV->AB->Prop}
variable{s:Nat}{x:Operand}{y:AF}{t t' e:TypeId}
theorem gL(O:AO F0 w0 U a w G)(hd:d<a.tmps.size){kn:IntKind}{i:TypeInfo}{R B:Value}{z:TV}(T:o.op=.call {callee:=.builtin .append,args:=#[.tmp s,x],argTypes:=#[t,t']})
  (ht:P.underlying t=some (.slice e))(V:P.underlying t'=some (.int kn))(hi:P.info? e=some i)(l:i.zero=some R)(W:i.size=1)(X:i.bytes<=4096)(Y:R.cells=#[B])(E:D2 z B=true)(h1:B.oneCell'=true)
  (hok:AI x y=true)(h:(AE.yj 1 s z y).wp S U (some d) K):Ax P F0 w0 a w o d K:=by
 simp [AE.wp]at h;split at h
 .rename_i d' m es kk j H hs hy;simp at H;subst H;obtain⟨⟨⟨rfl,_⟩,J⟩,⟨h0,h4⟩,⟨g,hno,hds⟩,hK⟩:=h;obtain⟨k,rfl⟩:∃k:Nat,j=k:=⟨j.toNat,by omega⟩;simp at g hK;have A:=AW O hs (by simp);have C:=O.wf s;rw[hs]at C;simp[AK]at A;obtain⟨xs,⟨zo,k1,L⟩,k2,k3,k4⟩:=A;have hv:=(Au O hok hy).1;simp[Ah]at hv;obtain⟨v',w',z',M,r1,D⟩:=jX (P:=P) t t' o.type e i R B kk kn ht V hi l W X Y h1 (slot a s) es.length xs zo k1 k (by omega) g;have hnz:∀k,(∀lo,G s none≠some (k,lo))->∀lo,zo≠some (k,lo):=fun k hk lo l=>hk 0 (by rw[L,l];rfl);have hfm:∀k,(List.replicate k z).flatMap TV.cells=List.replicate k z:=by
   intro k
   induction k with
   |zero=>rfl|succ k ih=>rw[List.replicate_succ,List.flatMap_cons,ih,J];rfl
  refine ⟨v',w',?_,_,_,hK,O.xgo hs hd hds (z':=z'.map fun p=>(p.1,0)) D.os D.tape D.output D.size (fun k hk l=>D.other k hk (hnz k l)) (fun b lo l=>?_) (by simp) (fun _=>hno) (fun F' G' env' a' hag hG _=>?_) ?_⟩
  .simp[execOp,T,resolve,invoke,builtin,show a.eval (.tmp s)=slot a s from rfl,hv,M]
  .cases z' with
   |none=>simp at l|some p=>
    simp at l;obtain⟨q1,N⟩:=D.yV p.1 p.2 rfl;rw[<-l.1];refine⟨q1,?_⟩;rcases N with N|⟨lo',N,_⟩
    .exact .inl N
    .exact .inr ⟨0,by rw[L,N];rfl⟩
  .simp only[AK];rw[hG];refine⟨xs++List.replicate k B,⟨z',by rw[bk,List.length_replicate];exact r1,rfl⟩,?_,?_,?_⟩
   .rw[List.flatMap_append,hfm];refine Ho (Ak hag _ _ k2) ?_;rw[BZ];refine⟨by simp,fun i u v hu hv=>?_⟩;rw[List.eq_of_mem_replicate (List.mem_of_getElem? hu),List.eq_of_mem_replicate (List.mem_of_getElem? hv)];exact(Gs _ F' z B E).1
   .intro e he;rcases List.mem_append.1 he with he|he
    .exact k3 e he
    .rw[List.eq_of_mem_replicate he,J];rfl
   .intro x I;rcases List.mem_append.1 I with I|I
    .exact k4 x I
    .rw[List.eq_of_mem_replicate I];exact h1
  .simp only[EV.WF,TV.WF]at C|-;refine⟨by rw[bk,List.length_replicate];exact Sj g,JV.2 ⟨C.2,?_⟩⟩;rw[Bj];intro u hu;rw[List.eq_of_mem_replicate hu];exact(Gs w (fun _ _=>False) z B E).2
 .exact h.elim
variable{f:FuncId}{ys:List AF}{ats:Array TypeId}
theorem eA(l:AO F0 w0 U a w G)(hd:d<a.tmps.size){xs:Array Operand}(j:o.op=.call {callee:=.value (.func f),args:=xs,argTypes:=ats})(k:BX xs.toList ys=true)(h:(AE.xZ f ys).wp (AR P) U (some d) K):Ax P F0 w0 a w o d K:=by
 simp [AE.wp]at h;cases g:vals U ys with
 |none=>rw[g]at h;exact h.elim|some ts=>
  rw [g]at h;simp[AX]at h;obtain⟨m,u,A⟩:=h;have hv:=FO l k g;obtain⟨⟨E,B⟩,C⟩:=u hv.2;obtain⟨r,D,H⟩:=C w (xs.map a.eval) (by simpa using Ak Ww _ _ hv.1);refine⟨.tuple r,w,by simp[execOp,j,resolve,Act.eval,Deferred.ofValue,invoke,<-D],_,_,A,_,l.quiet (Below.refl _ _) d hd (.tp m) _ (fun _=>none) (by simp) (by simp) (by simp) ?_ B⟩
  grind [AK,FG]
def Ze(P:Program)(t:TypeId)(n:Nat):Bool:=
 match P.underlying t with
 |some (.slice e)=>(match P.info? e with
  |some ie=>ie.size==n|none=>false)
 |_=>false
variable{n:Nat}
theorem gU(A:AO F0 w0 U a w G)(hd:d<a.tmps.size)(k:o.op=.buildSlice t 0 #[])(g:Ze P t n=true)(h:(AE.ym n).wp S U (some d) K):Ax P F0 w0 a w o d K:=by
 simp [AE.wp]at h;obtain⟨m,D⟩:=h;unfold Ze at g;split at g
 .rename_i e B;split at g
  .rename_i E l;have j:(execOp a.eval o).run P w=.ok (.value (.slice (some ⟨w.heap.size,0,none⟩) 0 0)) (w.alloc (.cells #[] e)):=by
    simp [execOp,k,Instr.buildSlice,run_underlying B,sizeOf,typeInfo,l,Instr.fill,newRow]
    grind
   have C:Below w.heap.size w (w.alloc (.cells #[] e)):=(Below.refl _ _).alloc (az _) _;refine⟨_,_,j,_,_,D,A.zS C hd m (z:=some (w.heap.size,0*n)) (xs:=[]) ⟨by simp,.inr ⟨w.heap.size,0,_,e,by simp,heap_alloc_new w _,by simp,by simp[maxLen],by simp,by simp,by simp⟩⟩ (fun b lo u=>?_) (fun F' _=>rfl) (by simp) (by simp) ⟨by simp,trivial⟩⟩;simp at u;rw[<-u.1];exact⟨az _,by simp⟩
  .cases g
 .cases g
theorem JC(h:AB):∀(g:Ne)(U:AB)(n:Nat),AB.get (Mm h g U) n=if n∈g then(h.get n).gave else U.get n
 |[],_,_=>by simp[Mm]|q::g,U,n=>by
  rw [Mm,AB.d4,JC h g U n]
  grind
theorem Kt(e:EV):(∃t,e=.ow t/\e.gave=.tv t)\/e.gave=.undef:=by
 cases e<;>first|exact .inl ⟨_,rfl,rfl⟩|exact .inr rfl
abbrev Sy:=Value ⊕ (Operand×Nat×Nat)
def S8:List Sy->Nat->List Sy->List Sy
 |l,_,[]=>l|l,i,y::ys=>S8 (l.set i y) (i+1) ys
def Qt(place:Nat->Option (Nat×Nat)):List (Nat×Operand)->List Sy->Option (List Sy)
 |[],row=>some row|(i,x)::ps,row=>match place i with
  |some (off,n)=>if off+n<=row.length then Qt place ps (S8 row off ((List.range n).map fun k=>.inr (x,k,n)))else none|none=>none
def Sy.is(a:Act):Sy->Value->Prop
 |.inl u,v=>v=u|.inr (x,k,_),v=>(a.eval x).cells[k]?=some v
def Ps(a:Act)(row:List Sy)(xs:List Value):Prop:=xs.length=row.length/\∀(j:Nat)(s:Sy)(v:Value),row[j]?=some s->xs[j]?=some v->s.is a v
variable{v:Value}
theorem gA{a:Act}{row:List Sy}{xs:List Value}(h:Ps a row xs){s:Sy}(m:s.is a v)(i:Nat):Ps a (row.set i s) (xs.set i v):=by
 refine ⟨by simp[h.1],fun j s' l g k=>?_⟩;rw[List.getElem?_set]at g k;by_cases e:i=j
 .grind
 .rw[ae e]at g k;exact h.2 j s' l g k
theorem X4{a:Act}:∀{g:List Sy}{vs:List Value}{row:List Sy}{xs:List Value}(i:Nat),Ps a row xs->Ps a g vs->Ps a (S8 row i g) (VG xs i vs)
 |[],[],_,_,_,h,_=>h|[],_::_,_,_,_,_,h=>by have:=h.1;simp at this|_::_,[],_,_,_,_,h=>by have:=h.1;simp at this|s::g,v::vs,row,xs,i,h,k=>by
  rw [S8,VG];exact X4 (i+1) (gA h (k.2 0 s v rfl rfl) i) ⟨by have:=k.1;simpa using this,fun j s' l m u=>k.2 (j+1) s' l (by simpa using m) (by simpa using u)⟩
theorem ZG{a:Act}{place:Nat->Option (Nat×Nat)}:∀{u:List (Nat×Operand)}{row g:List Sy}{xs:Array Value},Ps a row xs.toList->(∀p∈u,∀l n,place p.1=some (l,n)->(a.eval p.2).cells.size=n)->Qt place u row=some g ->
  ∃xs',Instr.fill place xs (u.map fun(i,x)=>(i,a.eval x))=some xs'/\Ps a g xs'.toList
 |[],row,g,xs,h,_,hf=>by
  simp [Qt]at hf;subst hf;exact⟨xs,rfl,h⟩
 |(i,x)::u,row,g,xs,h,D,hf=>by
  rw [Qt]at hf;split at hf
  .rename_i l n A;split at hf
   .rename_i E;have m:=D (i,x) (by simp) l n A;simp only at m;have H:=h.1;rw[Array.length_toList]at H;have I:Ps a (S8 row l ((List.range n).map fun k=>.inr (x,k,n))) (((a.eval x).cells.zipIdx.foldl (fun cs(y:Value×Nat)=>cs.setIfInBounds (l+y.2) y.1) xs)).toList:=by
     rw [<-Array.foldl_toList,Array.toList_zipIdx,Pz,Nat.add_zero];refine X4 l h ⟨by simp[m],fun j s v B L=>?_⟩;rw[List.getElem?_map]at B;simp at B;obtain⟨k,M,rfl⟩:=B;have C:k=j:=by
      grind
     subst C;show(a.eval x).cells[k]?=some v
     grind
    obtain ⟨xs',N,J⟩:=ZG I (fun p A=>D p (by simp[A])) hf;refine⟨xs',?_,J⟩;simp[List.map_cons,Instr.fill,A]
    grind
   .cases hf
  .cases hf
def Qg:GC->Sy->Bool
 |.z c,.inl v=>So c v|.v y k n,.inr (x,k',n')=>AI x y&&k==k'&&n==n'|.w q,.inr (x,k',n')=>AI x (.s q)&&k'==0&&n'==1|.g q k n,.inr (x,k',n')=>AI x (.s q)&&k==k'&&n==n'|_,_=>false
def RH:List GC->List Sy->Bool
 |[],[]=>true|g::gs,s::ss=>Qg g s&&RH gs ss|_,_=>false
def Sa(x:Operand)(n:Nat):GC->Bool
 |.z _=>false|.v y _ m=>AI x y&&m==n|.w q=>AI x (.s q)&&1==n|.g q _ m=>AI x (.s q)&&m==n
def RT(place:Nat->Option (Nat×Nat))(z:List Value)(ps:List (Nat×Operand))(gs:List GC):Bool:=
 (ps.all fun p=>match place p.1 with
  |some (_,n)=>gs.any (Sa p.2 n)|none=>false) &&
 match Qt place ps (z.map .inl)with
 |some row=>RH gs row|none=>false
def Zc(P:Program)(t:TypeId)(ps:List (Nat×Operand))(gs:List GC):Bool:=
 match P.info? t,P.underlying t with
 |some it,some (.array _ e)=>
  match it.zero,P.info? e with
  |some z,some ie=>RT (fun i=>some (i*ie.size,ie.size)) z.cells.toList ps gs|_,_=>false
 |some it,some (.struct fields)=>
  match it.zero,fields.toList.mapM (fun f=>(P.info? f.type).map fun i=>(f.offset,i.size))with
  |some z,some places=>RT (places.toArray[·]?) z.cells.toList ps gs|_,_=>false
 |_,_=>false
theorem SZ:∀{gs:List GC}{k:List Sy},RH gs k=true->k.length=gs.length/\∀(j:Nat)(g:GC),gs[j]?=some g->∃s,k[j]?=some s/\Qg g s=true
 |[],[],_=>⟨rfl,fun j g h=>by simp at h⟩|[],_::_,h=>by cases h
 |_::_,[],h=>by cases h
 |g::gs,s::k,h=>by
  rw [RH,pr]at h;obtain⟨l,m⟩:=SZ h.2
  grind
theorem Vx:∀{gs:List GC}{cs:List AN},FA U gs=some cs->cs.length=gs.length/\∀(j:Nat)(g:GC),gs[j]?=some g->∃c,cs[j]?=some c/\g.cell U=some c
 |[],cs,h=>by simp[FA]at h;subst h;exact⟨rfl,fun j g h=>by simp at h⟩|g::gs,cs,h=>by
  rw [FA]at h;split at h
  .rename_i c cs' l k;cases h;obtain⟨m,u⟩:=Vx k
   grind
  .cases h
variable{q:Nat}
theorem JB(h:AI x (.s q)=true):a.eval x=slot a q:=by
 cases x<;>simp[AI]at h;rw[h];rfl
variable{c:AN}
theorem iO(l:AO F0 w0 U a w G){g:GC}(h:g.cell U=some c)(j:Sa x n g=true):(a.eval x).cells.size=n:=by
 cases g with
 |z c=>cases j
 |v y k m=>
  simp [Sa]at j;obtain⟨j,rfl⟩:=j;simp[GC.cell]at h;split at h
  .rename_i t B;split at h
   .rename_i u A;have:=BE (GA (Au l j B).1).1
    grind [Array.length_toList,Nat.eq_of_beq_eq_true]
   .cases h
  .cases h
 |w q=>
  simp [Sa]at j;obtain⟨j,rfl⟩:=j;rw[JB j];have:(slot a q).oneCell'=true:=by
   simp [GC.cell]at h;split at h
   .rename_i t e;have:=AW l e (by simp)
    grind [AK,UM]
   .rename_i m es e;have:=AW l e (by simp);exact GU (ρ:=wk a G) (c:=⟨true,.xl m es⟩) this
   .cases h
  rw [OX this];rfl
 |g q k m=>
  simp [Sa]at j;obtain⟨j,rfl⟩:=j;rw[JB j];simp[GC.cell]at h;split at h
  .rename_i cs e;split at h
   .rename_i u;have:=AW l e (by simp);simp[AK]at this;obtain⟨vs,A,C,_⟩:=this;rw[A];show vs.size=m;rw[C,Nat.eq_of_beq_eq_true u]
   .cases h
  .cases h
theorem oY(A:AO F0 w0 U a w G){g:GC}(h:g.cell U=some c){s:Sy}(l:Qg g s=true)(hv:s.is a v):BA w (AS w0.heap.size F0 G) (wk a G) (g.src.bind fun p=>G p.1 p.2) c v/\c.t.WF:=by
 cases g with
 |z c'=>
  cases s with
  |inr p=>cases l
  |inl u=>
   simp [GC.cell]at h;subst h;have:v=u:=hv;subst this;exact Um l
 |v y k m=>
  cases s with
  |inl u=>cases l
  |inr p=>
   obtain ⟨x,E,H⟩:=p;simp[Qg]at l;obtain⟨⟨B,rfl⟩,_⟩:=l;have hv:(a.eval x).cells[k]?=some v:=hv;simp[GC.cell]at h;split at h
   .rename_i t J;split at h
    .rename_i c' T C;cases h;obtain⟨L,M⟩:=Au A B J;obtain⟨N,O⟩:=GA L;rw[<-Array.getElem?_toList]at hv;exact⟨⟨((BZ _ _).1 N).2 k _ _ C hv,O v (List.mem_of_getElem? hv)⟩,Bj.1 (Hc M) _ (List.mem_of_getElem? C)⟩
    .cases h
   .cases h
 |w q=>
  cases s with
  |inl u=>cases l
  |inr p=>
   obtain ⟨x,E,H⟩:=p;simp[Qg]at l;obtain⟨⟨B,rfl⟩,_⟩:=l;have hv:(a.eval x).cells[0]?=some v:=hv;rw[JB B]at hv;have j:=A.wf q;simp[GC.cell]at h;split at h
   .rename_i t e;cases h;have:=AW A e (by simp);simp[AK]at this;rw[OX (UM this)]at hv;cases hv;rw[e]at j;exact⟨this.c,j⟩
   .rename_i m es e;cases h;have:=AW A e (by simp);have D:BA w (AS w0.heap.size F0 G) (wk a G) (G q none) ⟨true,.xl m es⟩ (slot a q):=this;rw[OX (GU D)]at hv;cases hv;rw[e]at j;exact⟨D,j⟩
   .cases h
 |g q k m=>
  cases s with
  |inl u=>cases l
  |inr p=>
   obtain ⟨x,E,H⟩:=p;simp[Qg]at l;obtain⟨⟨B,rfl⟩,_⟩:=l;have hv:(a.eval x).cells[k]?=some v:=hv;rw[JB B]at hv;have j:=A.wf q;simp[GC.cell]at h;split at h
   .rename_i cs e;split at h
    .have:=AW A e (by simp);simp[AK]at this;obtain⟨vs,C,_,R⟩:=this;rw[C]at hv;have hv:vs[k]?=some v:=hv;obtain⟨x',I,D⟩:=R k c h;rw[hv]at I;cases I;rw[e]at j;exact⟨D,j c (List.mem_of_getElem? h)⟩
    .cases h
   .cases h
theorem AO.regather(h:AO F0 w0 U a w G)(hd:d<a.tmps.size){C:Ne}{cs:List AN}{vs:Array Value}(σ:Nat->Option (Nat×Option Nat))(hdq:d∉C)(Y:vs.size=cs.length)(hσ:∀j q i,σ j=some (q,i)->q∈C)
  (O:∀j R p,σ j=some p->σ R=some p->j=R)(hc:∀(j:Nat)(c:AN),cs[j]?=some c->∃x,vs[j]?=some x/\BA w (AS w0.heap.size F0 G) (wk a G) ((σ j).bind fun p=>G p.1 p.2) c x)(hwf:∀c∈cs,c.t.WF)(hq:∀q∈C,q<a.tmps.size):
  Bm F0 w0 ((d,.wQ cs)::Mm U C U) (a.put (some d) (.agg vs)) w:=by
 let A:BP:=fun p i=>if p=d then i.bind fun j=>(σ j).bind fun p=>G p.1 p.2 else if p∈C then none else G p i
 have I:∀p i b lo,A p i=some (b,lo)->(∃j q k,p=d/\i=some j/\σ j=some (q,k)/\G q k=some (b,lo))\/(p≠d/\p∉C/\G p i=some (b,lo)):=by
  intro p i b lo m;simp[A]at m;split at m
  .rename_i u;cases i with
   |none=>cases m
   |some j=>
    simp at m;cases hj:σ j with
    |none=>rw[hj]at m;cases m
    |some q=>rw[hj]at m;exact .inl ⟨j,q.1,q.2,u,rfl,hj,m⟩
  grind
 have hF:∀b o,AS w0.heap.size F0 A b o->AS w0.heap.size F0 G b o:=fun b o hf=>AS.mono (fun p i b lo m=>by
  grind) hf
 have J:BY w w (AS w0.heap.size F0 G) (AS w0.heap.size F0 A):=fun b o v hc hf=>⟨hc,fun hf'=>hf (hF b o hf')⟩;have D:wk (a.put (some d) (.agg vs)) A=wk a G:=Kd (Bc _ _ _) fun p m=>by
  grind
 refine ⟨A,?_,?_,h.below,by rw[EY];exact h.defers,?_,?_,?_⟩
 .intro p i p' i' b lo lo' e1 g;rcases I _ _ _ _ e1 with⟨j,q,k,rfl,rfl,W,f2⟩|⟨n1,n2,W⟩<;>rcases I _ _ _ _ g with⟨R,q',k',rfl,rfl,X,g2⟩|⟨m1,m2,X⟩
  .obtain⟨V,e4⟩:=h.ne _ _ _ _ _ _ _ f2 g2;subst V;subst e4;exact⟨rfl,by rw[O j R _ W X]⟩
  .obtain⟨V,_⟩:=h.ne _ _ _ _ _ _ _ f2 X;exact absurd (V▸hσ j q k W) m2
  .obtain⟨V,_⟩:=h.ne _ _ _ _ _ _ _ g2 W;exact absurd (V▸hσ R q' k' X) n2
  .exact h.ne _ _ _ _ _ _ _ W X
 .intro p i b lo e1;rcases I _ _ _ _ e1 with⟨j,q,k,_,_,_,f⟩|⟨_,_,f⟩<;>exact h.lt _ _ _ _ f
 .intro p m;rw[Bc]at m;rw[AB.d4,ae (by omega),JC];split
  .rename_i hm;have:=hq p hm;omega
  .exact h.dom p m
 .intro p m;rw[Bc]at m;rw[AB.d4];by_cases u:d=p
  .subst u;rw[a6 rfl,Ce _ _ _ hd];simp only[AK];refine⟨_,rfl,Y,fun i c hci=>?_⟩;obtain⟨x,M,hr⟩:=hc i c hci;refine⟨x,M,?_⟩;have:A d (some i)=(σ i).bind fun p=>G p.1 p.2:=by simp only[A,if_true];rfl
   rw [this,D];exact hr.kept J (fun _ _ _=>rfl) BD.rfl'
  .rw[ae u,AV _ _ _ _ u,JC];split
   .rcases Kt (U.get p)with⟨t,e,g⟩|g
    .have E:=AW h e (by simp);rw[g];simp[AK]at E|-;exact B5 J _ _ (Bi.zw E (fun b lo o hz ho=>Nn h b lo o hz ho))
    .rw[g];simp[AK]
   .rename_i hnq;refine AK.kept J (fun i=>by simp[A];rw[ae (fun e=>u e.symm),ae hnq]) (fun _ _ _ _=>rfl) D BD.rfl' (fun r i k _⟨pp,H⟩=>?_) (fun r off _⟨cs',l⟩=>?_) (fun r i _⟨pp,H⟩=>?_) (h.slots p m)
    .have L:=AB.ws (by simp) H;have B:=JC U C U r;split at B
     .have T:=L.2;rcases Kt (U.get r)with⟨t,_,g⟩|g<;>rw[g]at B<;>simp[AB.nat,B]at T<;>cases T
     .have M:∃p,U.nat r i=some p:=⟨pp,by rw[<-L.2];exact(AB.w7 B).symm⟩;exact⟨M,h.nh M (AV _ _ _ _ L.1) (fun _ _ _ _=>rfl)⟩
    .rw[AB.d4]at l;by_cases N:d=r
     .rw[a6 N]at l;cases l
     .rw[ae N,JC]at l;split at l
      .rcases Kt (U.get r)with⟨t,_,g⟩|g<;>(rw[g]at l;cases l)
      .exact⟨⟨cs',l⟩,AV _ _ _ _ N⟩
    .have L:=AB.t5 (by simp) (by simp) H;have B:=JC U C U r;split at B
     .have T:=L.2;rcases Kt (U.get r)with⟨t,_,g⟩|g<;>rw[g]at B<;>cases i<;>simp[AB.tl,B]at T<;>cases T
     .have M:∃p,U.tl r i=some p:=⟨pp,by rw[<-L.2];exact(AB.wR B).symm⟩;exact⟨M,h.xv M (AV _ _ _ _ L.1) (fun _ _=>rfl)⟩
 .intro p;rw[AB.d4];split
  .exact hwf
  .rw[JC];have:=h.wf p;split
   .rcases Kt (U.get p)with⟨t,e,g⟩|g
    .rw[e]at this;rw[g];exact this
    .rw[g];trivial
   .exact this
theorem YF{α β:Type}{f:α->Option β}{l:List α}(g:(l.filterMap f).Nodup){i j:Nat}{p:β}(hi:(l[i]?).bind f=some p)(u:(l[j]?).bind f=some p):i=j:=by
 have key:∀(l:List α)(i j:Nat),(l.filterMap f).Nodup->(l[i]?).bind f=some p->(l[j]?).bind f=some p->i<j->False:=by
  intro l
  induction l with
  |nil=>intro i j _ h;simp at h|cons x l C=>
   intro i j g A B m;obtain⟨j,rfl⟩:∃k,j=k+1:=⟨j-1,by omega⟩
   grind
 grind
theorem gM(J:AO F0 w0 U a w G)(hd:d<a.tmps.size){D:Array (Nat×Operand)}{gs:List GC}(W:o.op=.build t D)(l:Zc P t D.toList gs=true)(h:(AE.wP gs).wp S U (some d) K):Ax P F0 w0 a w o d K:=by
 simp only[AE.wp]at h;obtain⟨⟨hn,hdq⟩,h⟩:=h;cases E:FA U gs with
 |none=>rw[E]at h;exact h.elim|some cs=>
  rw [E]at h;simp[AX]at h;obtain⟨hl,C⟩:=Vx E;have key:∀(place:Nat->Option (Nat×Nat))(z:Array Value),RT place z.toList D.toList gs=true->∃xs',Instr.fill place z (D.map fun(i,x)=>(i,a.eval x)).toList=some xs'/\xs'.size=cs.length/\
    ∀(j:Nat)(c:AN),cs[j]?=some c->(∃x,xs'[j]?=some x/\BA w (AS w0.heap.size F0 G) (wk a G) (((gs[j]?).bind GC.src).bind fun p=>G p.1 p.2) c x)/\c.t.WF:=by
   intro place z Y;unfold RT at Y;rw[pr,List.all_eq_true]at Y;obtain⟨hp1,I⟩:=Y;split at I
   .rename_i row M;have h5:(D.map fun(i,x)=>(i,a.eval x)).toList=D.toList.map fun(i,x)=>(i,a.eval x):=by simp
    obtain ⟨xs',X,R⟩:=ZG (a:=a) (xs:=z) (row:=z.toList.map .inl) ⟨by simp,fun j s v A B=>by
     rw [List.getElem?_map]at A;simp only[Option.map_eq_some_iff]at A;obtain⟨u,hu,rfl⟩:=A;rw[hu]at B;cases B;rfl⟩ (fun p hm off n L=>by
     grind [List.any_eq_true,List.getElem?_of_mem,iO]) M
    obtain ⟨m1,m2⟩:=SZ I;have N:=R.1;rw[Array.length_toList]at N;refine⟨xs',by rw[h5];exact X,by omega,fun j c m=>?_⟩;have hj:j<gs.length:=by have:=(List.getElem?_eq_some_iff.1 m).1;omega
    have H:gs[j]?=some gs[j]:=List.getElem?_eq_getElem hj;obtain⟨c',O,hc2⟩:=C j _ H;rw[m]at O;cases O;obtain⟨s,hs1,hs2⟩:=m2 j _ H;have hx:xs'[j]?=some (xs'[j]'(by omega)):=Array.getElem?_eq_getElem (by omega);obtain⟨r1,r2⟩:=oY J hc2 hs2 (R.2 j s _ hs1 (by rw[Array.getElem?_toList];exact hx));rw[H];exact⟨⟨_,hx,r1⟩,r2⟩
   .cases I
  have built:∃xs',P.built t (D.map fun(i,x)=>(i,a.eval x)).toList=some xs'/\xs'.size=cs.length/\
    ∀(j:Nat)(c:AN),cs[j]?=some c->(∃x,xs'[j]?=some x/\BA w (AS w0.heap.size F0 G) (wk a G) (((gs[j]?).bind GC.src).bind fun p=>G p.1 p.2) c x)/\c.t.WF:=by
   unfold Zc at l;unfold Program.built;split at l
   .rename_i it len e A B;simp only[A,B];split at l
    .rename_i z ie hz hie;simp only[hz,hie];exact key _ _ l
    .cases l
   .rename_i it T A B;simp only[A,B];split at l
    .rename_i z V hz L;simp only[hz,L];exact key _ _ l
    .cases l
   .cases l
  obtain ⟨xs',A,B,h3⟩:=built;refine⟨.agg xs',w,by simp[execOp,W,run_build w t _ _ A],_,_,h,J.regather hd (fun j=>(gs[j]?).bind GC.src) hdq B (fun j q i e=>?_) (fun j j' p X R=>YF hn X R) (fun j c m=>(h3 j c m).1) (fun c m=>?_) (fun q hq=>?_)⟩
  .rw[Option.bind_eq_some_iff]at e;obtain⟨g,H,e⟩:=e;refine List.mem_filterMap.2 ⟨g,List.mem_of_getElem? H,?_⟩;cases g<;>simp[GC.src]at e<;>simp[GC.slot,e.1]
  .grind[List.getElem?_of_mem]
  .obtain⟨g,H,e⟩:=List.mem_filterMap.1 hq;obtain⟨j,hj⟩:=List.getElem?_of_mem H;obtain⟨c,_,m⟩:=C j g hj;cases g with
   |z c=>cases e
   |v y k n=>cases e
   |w q'=>
    cases e;simp[GC.cell]at m;split at m
    .rename_i t e;exact Ba J e (by simp)
    .rename_i n es e;exact Ba J e (by simp)
    .cases m
   |g q' k n=>
    cases e;simp[GC.cell]at m;split at m
    .rename_i cs e;exact Ba J e (by simp)
    .cases m
end
end Go.Sf
