/- Lists that nobody else reads: stores into them, appends, calls that turn them. -/
import Derived.Test.YtbgedoajacpdbaaGreatDoorSfApp
import Derived.Lib.AppendZerosOnto
set_option linter.all false
namespace Go.Sf
open Go.RowKit (Below)
def P3:Operand->Bool
 |.const v=>Kh v|_=>false
variable{α:Type}
theorem YZ{a:Array α}{x:α}(h:a.toList=[x]):a=#[x]:=by
 cases a;simp_all
section flat
variable{w w':World}{F F':Nat->Nat->Prop}
mutual
theorem Td:∀(t:TV),t.flat=true->∀v,AY w F t v->AY w' F' t v
 |.int _ _,_,_,h=>h|.bool _,_,_,h=>h|.str _,_,_,h=>h|.agg cs,hf,v,h=>by
  have:=Gw cs (by simpa[TV.flat]using hf)
  grind [AY]
 |.undef,hf,_,_=>by simp[TV.flat]at hf|.xl _ _,hf,_,_=>by simp[TV.flat]at hf|.nil,hf,_,_=>by simp[TV.flat]at hf|.list _ _,hf,_,_=>by simp[TV.flat]at hf|.pt _,hf,_,_=>by simp[TV.flat]at hf|.clo _ _,hf,_,_=>by simp[TV.flat]at hf
theorem Gw:∀(ts:Fq),TV.Aag ts=true->∀vs,AO w F ts vs->AO w' F' ts vs
 |[],_,vs,h=>h|t::ts,hf,vs,h=>by
  simp only[TV.Aag,tg]at hf;simp only[AO]at h|-;obtain⟨v,r,g,j,k⟩:=h;exact⟨v,r,g,Td t hf.1 v j,Gw ts hf.2 r k⟩
end
theorem Rw:∀(xs ys:Fq),TV.Aag (xs++ys)=(TV.Aag xs&&TV.Aag ys)
 |[],ys=>by simp[TV.Aag]|x::xs,ys=>by simp[TV.Aag,Rw xs ys,Bool.and_assoc]
theorem Yq(t:TV)(h:t.flat=true):TV.Aag t.cells=true:=by
 cases t<;>simp_all[TV.flat,TV.cells,TV.Aag]
theorem K6:∀(es:Fq),TV.Aag es=true->TV.Aag (es.flatMap TV.cells)=true
 |[],_=>rfl|e::es,h=>by
  simp only[TV.Aag,tg]at h;rw[List.flatMap_cons,Rw,Yq e h.1,K6 es h.2];rfl
end flat
section
variable{P:Program}{S:FuncId->Fq->Aq->Prop}{F0:Nat->Nat->Prop}{w0:W0}{O:AB}{a:Act}{w:World}{G:BH}{d:Nat}{o:Oper}{K:EV->AB->Prop}
variable{q n:Nat}
theorem AB.xat_of_xo{O:AB}{es:Fq}(h:O.get q=.xo n es):O.x7 q none=some (n,es):=by simp only[AB.x7,h]
variable{x:Operand}{y:AF}
theorem Mh(k:AR F0 w0 O a w G)(g:AI x y=true){p:(Nat×Option Nat)×Nat×Fq}(h:y.Aaa O=some p):O.x7 p.1.1 p.1.2=some (p.2.1,p.2.2)/\XV a w p.1.1 p.1.2 (a.eval x):=by
 cases y with
 |c t=>simp[AF.Aaa]at h|s m=>
  have l:x=.tmp m:=by
   cases x<;>simp[AI]at g;rw[g]
  subst l;simp only[AF.Aaa]at h;split at h
  .rename_i n es he;simp only[x4]at h;subst h;exact⟨by simp only[AB.x7,he],rfl⟩
  .rename_i q i he;split at h
   .rename_i u j;simp only[x4]at h;subst h;have:=AW k he (by simp);simp only[AM]at this;exact⟨j,this ⟨_,j⟩⟩
   .cases h
  .cases h
variable{i:Option Nat}{v:Value}
theorem M5{es:Fq}(h:AR F0 w0 O a w G)(g:O.x7 q i=some (n,es))(hv:XV a w q i v):
  (TV.list n es).WF/\∃xs,Ip w n v es.length xs (G q i)/\AO w (AS w0.heap.size F0 G) (es.flatMap TV.cells) xs/\(∀e∈es,e.cells.length=n)/\∀x∈xs,x.oneCell'=true:=by
 cases i with
 |none=>
  have g:=AB.Aab g;have j:=AW h g (by simp);have l:=h.wf q;rw[g]at l;simp only[AM]at j;simp only[XV]at hv;rw[hv];exact⟨l,j⟩
 |some k=>
  obtain ⟨cs,u,A⟩:=AB.x5 g;have j:=AW h u (by simp);have l:=h.wf q;rw[u]at l;simp only[AM]at j;obtain⟨b,c,T,D,E,L,M,H⟩:=j;obtain⟨N,c',R,m,B,C⟩:=hv;rw[D]at m;simp only[Value.pointer.injEq,x4,Addr.mk.injEq,and_true,and_self]at m;subst m;rw[E]at B;cases B;obtain⟨x,I,J⟩:=H k _ A;rw[I]at C;cases C;exact⟨l _ (List.mem_of_getElem? A),J⟩
theorem jY{es:Fq}(h:AR F0 w0 O a w G)(k:O.x7 q i=some (n,es))(hv:XV a w q i v):∀b lo,G q i=some (b,lo)->lo=0:=by
 intro b lo g;obtain⟨_,xs,⟨z0,_,j⟩,_⟩:=M5 h k hv;rw[j]at g;cases z0 with
 |none=>simp at g|some p=>simp only[Option.map_some,x4,Prod.mk.injEq]at g;exact g.2.symm
theorem bi{es:Fq}(h:AR F0 w0 O a w G)(u:O.x7 q i=some (n,es))(hv:XV a w q i v)(k:es≠[]):
  ∃g cap j e xs,v=.slice (some ⟨g,0,none⟩) es.length cap/\w.heap[g]?=some (.cells j e (0,0))/\es.length<=cap/\cap<=maxLen/\j.size=cap*n/\j.toList.take (es.length*n)=xs/\G q i=some (g,0)/\AO w (AS w0.heap.size F0 G) (es.flatMap TV.cells) xs/\(∀e∈es,e.cells.length=n)/\(∀x∈xs,x.oneCell'=true)/\xs.length=es.length*n:=by
 obtain ⟨_,xs,⟨z0,m,l⟩,A,B,C⟩:=M5 h u hv;rcases m.2 with⟨_,D,_⟩|⟨g,cap,j,e,E,H,I,J,L,M,N⟩
 .exact absurd (List.eq_nil_of_length_eq_zero D) k
 .exact⟨g,cap,j,e,xs,E,H,I,J,L,M,by rw[l,N];rfl,A,B,C,m.1⟩
theorem AR.rexo(h:AR F0 w0 O a w G){es:Fq}(L:O.x7 q i=some (n,es))(hv:XV a w q i v){w':World}(hb:Od (G q i) w w'){es':Fq}{xs':List Value}(M:Ip w' n v es'.length xs' (G q i))
  (W:BO w w' (AS w0.heap.size F0 G) (AS w0.heap.size F0 G)->AO w' (AS w0.heap.size F0 G) (es'.flatMap TV.cells) xs')(hn:∀e∈es',e.cells.length=n)(h1:∀x∈xs',x.oneCell'=true)(hw:(TV.list n es').WF):
  AR F0 w0 (O.Aaj q i n es') a w' G:=by
 obtain ⟨b1,b2,b3,b4,b5⟩:=hb;have hz0:=jY h L hv;have U:BO w w' (AS w0.heap.size F0 G) (AS w0.heap.size F0 G):=by
  intro b o u hc hF;refine⟨?_,hF⟩;have V:b<w.heap.size:=by
   grind [Nat.lt_or_ge,World.cell?,Array.getElem?_eq_none]
  rw [World.cell?_of_block (w:=w) (a:=⟨b,o,none⟩) (b5 b V (fun lo B=>hF (.inr ⟨q,i,lo,B,by rw[hz0 b lo B];exact Nat.zero_le _⟩)))];exact hc
 have I:HL F0 w0 w':=h.below.but b1 b2 b3 b4 (Z:=fun k=>∃lo,G q i=some (k,lo)) (fun b⟨lo,B⟩=>(h.lt _ _ _ _ B).2.imp id (fun e o=>e o (by rw[hz0 b lo B];exact Nat.zero_le _))) (fun k hk B=>b5 k (Nat.lt_of_lt_of_le hk h.below.size) (fun lo e=>B ⟨lo,e⟩));have V:∀s i b lo,G s i=some (b,lo)->b<w'.heap.size/\(w0.heap.size<=b\/∀o,lo<=o->w0.E b o):=fun s i b lo H=>⟨Nat.lt_of_lt_of_le (h.lt s i b lo H).1 b4,(h.lt s i b lo H).2⟩;have hxv:∀r j,(∃m,O.x7 r j=some m)->∀v,XV a w r j v->XV a w' r j v:=by
  intro r j Y;cases j with
  |none=>exact fun v hv=>hv|some k=>
   refine h.xv Y rfl (fun b hb=>b5 b (h.lt _ _ _ _ hb).1 (fun lo B=>?_));obtain⟨rfl,rfl⟩:=h.o3 _ _ _ _ _ _ _ B hb;have h1:=AB.Aab L
   grind [AB.x5]
 have hqsz:q<a.tmps.size:=by
  cases i with
  |none=>exact h.lts (by rw[AB.Aab L];simp)|some k=>obtain⟨cs,H,_⟩:=AB.x5 L;exact h.lts (by rw[H];simp)
 have hrs:A6 w w' (rho a G):=by
  intro g j b lo hr;exact b5 b (h.lt _ _ _ _ hr).1 (fun lo' B=>h.AbM hqsz B hr rfl)
 have hnh:∀r j,(∃m,O.nat r j=some m)->∀k v,NH a w r j k v->NH a w' r j k v:=by
  intro r j Y k;refine h.nh Y rfl (fun l b hl hb=>b5 b (h.lt _ _ _ _ hb).1 (fun lo B=>?_));obtain⟨rfl,rfl⟩:=h.o3 _ _ _ _ _ _ _ B hb;obtain⟨es1,Y⟩:=Y;obtain⟨cs,C,N⟩:=AB.x8 Y;rcases hl with rfl|rfl
  .rw[AB.Aab L]at C;cases C
  grind [AB.x5]
 have oth:∀(p:Nat)(e:EV),p<a.tmps.size->p≠q->(∀j,(∃m,AB.nat ((q,e)::O) q j=some m)->∃m,O.nat q j=some m)->(∀cs,e=.bx cs->∃cs',O.get q=.bx cs')->(∀j,(∃m,AB.x7 ((q,e)::O) q j=some m)->∃m,O.x7 q j=some m)->AM a w' (AS w0.heap.size F0 G) G ((q,e)::O) p (O.get p) (slot a p):=by
  intro p e R hpq hnt hbx hxa;refine AM.kept U (fun _=>rfl) (fun j b lo B=>b5 b (h.lt _ _ _ _ B).1 (fun lo' hz'=>hpq (h.o3 _ _ _ _ _ _ _ B hz').1)) rfl hrs (fun r j k _⟨m,A⟩=>?_) (fun r off _⟨cs,hcs⟩=>?_) (fun r j _⟨m,A⟩=>?_) (h.slots p R)
  .have Y:∃m,O.nat r j=some m:=by
    by_cases hqr:q=r
    .subst hqr;exact hnt j ⟨m,A⟩
    grind [AB.Aaq]
   grind
  .grind[AB.ea]
  .have Y:∃m,O.x7 r j=some m:=by
    by_cases hqr:q=r
    .subst hqr;exact hxa j ⟨m,A⟩
    grind [AB.Aap]
   grind
 cases i with
 |none=>
  have L:=AB.Aab L;have hsz:=BQ h L (by simp);refine⟨h.o3,V,I,h.defers,fun p R=>?_,fun p R=>?_,fun p=>?_⟩
  .simp only[AB.Aaj];rw[AB.ea,az (by omega)];exact h.dom p R
  .simp only[AB.Aaj];rw[AB.ea];by_cases D:q=p
   .subst D;rw[ae rfl];simp only[AM];simp only[XV]at hv;rw[hv]at M;exact⟨xs',M,W U,hn,h1⟩
   .rw[az D];refine oth p _ R (fun e=>D e.symm) (fun j⟨m,A⟩=>by obtain⟨cs,e⟩:=AB.AaV A;cases e) (by simp) (fun j⟨m,A⟩=>?_);cases j with
    |none=>exact⟨(n,es),by simp only[AB.x7,L]⟩|some k=>
     obtain ⟨n1,es1⟩:=m;obtain⟨cs,C,_⟩:=AB.x5 A;rw[AB.ea,ae rfl]at C;cases C
  .simp only[AB.Aaj];rw[AB.ea];split
   .exact hw
   .exact h.wf p
 |some k=>
  obtain ⟨cs,H,hk⟩:=AB.x5 L;have hsz:=BQ h H (by simp);have hwc:=h.wf q;rw[H]at hwc;have hr:=AW h H (by simp);simp only[AM]at hr;obtain⟨b,c,T,e1,e2,e3,e4,e5⟩:=hr;obtain⟨b',c',T',f1,f2,f3⟩:=hv;rw[e1]at f1;simp only[Value.pointer.injEq,x4,Addr.mk.injEq,and_true,and_self]at f1;subst f1;rw[e2]at f2;cases f2;have hbb:w'.heap[b]?=w.heap[b]?:=b5 b (h.lt _ _ _ _ e4).1 (fun lo B=>by
   have:=(h.o3 _ _ _ _ _ _ _ B e4).2;cases this)
  refine ⟨h.o3,V,I,h.defers,fun p R=>?_,fun p R=>?_,fun p=>?_⟩
  .simp only[AB.Aaj,H];rw[AB.ea,az (by omega)];exact h.dom p R
  .simp only[AB.Aaj,H];rw[AB.ea];by_cases D:q=p
   .subst D;rw[ae rfl];simp only[AM];refine⟨b,c,T,e1,by rw[hbb];exact e2,by simpa using e3,e4,fun j d X=>?_⟩;rw[List.getElem?_set]at X;by_cases J:k=j
    .subst J;rw[ae rfl]at X;split at X
     .simp only[x4]at X;subst X;exact⟨v,f3,xs',M,W U,hn,h1⟩
     .cases X
    .rw[az J]at X;obtain⟨x,g1,g2⟩:=e5 j d X;exact⟨x,g1,g2.kept U (fun b lo B=>b5 b (h.lt _ _ _ _ B).1 (fun lo' hz'=>J (by
      have:=(h.o3 _ _ _ _ _ _ _ hz' B).2;simpa using this))) hrs⟩
   .rw[az D];refine oth p _ R (fun e=>D e.symm) (fun j⟨m,A⟩=>?_) (fun _ _=>⟨cs,H⟩) (fun j⟨m,A⟩=>?_)
    .obtain⟨cs',C,N⟩:=AB.x8 A;rw[AB.ea,ae rfl]at C;simp only[EV.bx.injEq]at C;subst C;rw[List.getElem?_set]at N;split at N
     .split at N<;>simp at N
     .exact⟨m,by simp only[AB.nat,H,N]⟩
    obtain ⟨n1,es1⟩:=m;cases j with
    |none=>have C:=AB.Aab A;rw[AB.ea,ae rfl]at C;cases C
    |some j=>
     obtain ⟨cs',C,N⟩:=AB.x5 A;rw[AB.ea,ae rfl]at C;simp only[EV.bx.injEq]at C;subst C;rw[List.getElem?_set]at N;by_cases J:k=j
     .subst J;exact⟨(n,es),L⟩
     .rw[az J]at N;exact⟨(n1,es1),by simp only[AB.x7,H,N]⟩
  .simp only[AB.Aaj,H];rw[AB.ea];split
   .intro y hy;rcases List.mem_or_eq_of_mem_set hy with hy|rfl
    .exact hwc y hy
    .exact hw
   .exact h.wf p
theorem AR.xgo(h:AR F0 w0 O a w G){es:Fq}(hq:O.get q=.xo n es)(hd:d<a.tmps.size)(hdq:d≠q){w':World}{e:EV}{z':Option (Nat×Nat)}
  (b1:w'.os=w.os)(b2:w'.tape=w.tape)(b3:w'.output=w.output)(b4:w.heap.size<=w'.heap.size)(X:∀k,k<w.heap.size->(∀lo,G q none≠some (k,lo))->w'.heap[k]?=w.heap[k]?)
  (m:∀b lo,z'=some (b,lo)->b<w'.heap.size/\(w.heap.size<=b\/∃l,G q none=some (b,l)))
  (Y:∀cs,e≠.bx cs)(hno:(∃n es,e=.xo n es)->O.jj d=true)
  (hrep:∀(F':Nat->Nat->Prop)(I:BH)(env':AB)(a':Act),BO w w' (AS w0.heap.size F0 G) F'->I d none=z'->(∀b o,F' b o->b<w.heap.size\/∃lo,z'=some (b,lo))->AM a' w' F' I env' d e v)(hw:e.WF):
  Bb F0 w0 ((d,e)::(q,.undef)::O) (a.put (some d) v) w':=by
 let I:BH:=Ib (Ib G q (fun _=>none)) d (fun i=>if i=none then z' else none)
 have U:=jY h (AB.xat_of_xo hq) (v:=slot a q) rfl;have H:∀p i b lo,I p i=some (b,lo)->(p=d/\i=none/\z'=some (b,lo))\/(p≠d/\p≠q/\G p i=some (b,lo)):=by
  intro p i b lo T;by_cases C:p=d
  .grind[Bn]
  .simp only[I,A8 _ _ _ _ C]at T;by_cases hpq:p=q
   .grind[Bn]
   .rw[A8 _ _ _ _ hpq]at T
    grind
 have hag:BO w w' (AS w0.heap.size F0 G) (AS w0.heap.size F0 I):=by
  intro b o u hc hF;have hlt:b<w.heap.size:=World.block_lt_of_cell? w ⟨b,o,none⟩ hc;have hnz:∀lo,G q none≠some (b,lo):=fun lo D=>hF (.inr ⟨q,none,lo,D,by rw[U b lo D];exact Nat.zero_le _⟩);refine⟨?_,?_⟩
  .grind[World.cell?_of_block]
  .rintro(M|⟨p,i,lo,M,R⟩)
   .exact hF (.inl M)
   .rcases H _ _ _ _ M with⟨_,_,L⟩|⟨_,_,L⟩
    .grind
    .exact hF (.inr ⟨p,i,lo,L,R⟩)
 refine ⟨I,?_,?_,h.below.but b1 b2 b3 b4 (Z:=fun k=>∃lo,G q none=some (k,lo)) (fun b⟨lo,D⟩=>(h.lt _ _ _ _ D).2.imp id (fun e o=>e o (by rw[U b lo D];exact Nat.zero_le _))) (fun k hk D=>X k (Nat.lt_of_lt_of_le hk h.below.size) (fun lo e=>D ⟨lo,e⟩)),by rw[EM];exact h.defers,?_,?_,?_⟩
 .intro p i p' i' b lo l L e2;have other:∀p i lo l,z'=some (b,lo)->p≠q->G p i=some (b,l)->False:=by
   intro p i lo l E W f3;rcases(m _ _ E).2 with V|⟨lo'',V⟩
   .have:=(h.lt _ _ _ _ f3).1;omega
   .exact W (h.o3 _ _ _ _ _ _ _ f3 V).1
  rcases H _ _ _ _ L with⟨rfl,rfl,E⟩|⟨n1,n2,E⟩<;>rcases H _ _ _ _ e2 with⟨rfl,rfl,W⟩|⟨m1,m2,W⟩
  .exact⟨rfl,rfl⟩
  .exact(other _ _ _ _ E m2 W).elim
  .exact(other _ _ _ _ W n2 E).elim
  .exact h.o3 _ _ _ _ _ _ _ E W
 .intro p i b lo L;rcases H _ _ _ _ L with⟨_,_,E⟩|⟨_,_,E⟩
  .refine⟨(m _ _ E).1,?_⟩;rcases(m _ _ E).2 with V|⟨l,V⟩
   .exact .inl (Nat.le_trans h.below.size V)
   .exact(h.lt _ _ _ _ V).2.imp id (fun e o _=>e o (by rw[U _ _ V];exact Nat.zero_le _))
  .exact⟨Nat.lt_of_lt_of_le (h.lt _ _ _ _ E).1 b4,(h.lt _ _ _ _ E).2⟩
 .intro p T;rw[BP]at T;have:=BQ h hq (by simp);rw[AB.ea,az (by omega),AB.ea,az (by omega)];exact h.dom p T
 .intro p T;rw[BP]at T;rw[AB.ea];by_cases C:d=p
  .subst C;rw[ae rfl,CN _ _ _ hd];refine hrep _ _ _ _ hag (by simp only[I,Bn,if_true]) fun b o hf=>?_;rcases hf with M|⟨p,i,lo,M,_⟩
   .exact .inl (Nat.lt_of_lt_of_le M.1 h.below.size)
   .rcases H _ _ _ _ M with⟨_,_,L⟩|⟨_,_,L⟩
    .exact .inr ⟨lo,L⟩
    .exact .inl (h.lt _ _ _ _ L).1
  .rw[az C,AT _ _ _ _ C,AB.ea];split
   .trivial
   .rename_i hqp;refine AM.kept hag (fun i=>by simp only[I];rw[A8 _ _ _ _ (fun e=>C e.symm),A8 _ _ _ _ (fun e=>hqp e.symm)]) (fun i b lo D=>X b (h.lt _ _ _ _ D).1 (fun l m=>hqp (h.o3 _ _ _ _ _ _ _ m D).1)) (K4 (BP _ _ _) fun r J=>by
     have:=BQ h hq (by simp);simp only[I];rw[A8 _ _ _ _ (by omega),A8 _ _ _ _ (by omega)]) (fun g j b lo J=>by
     exact X b (h.lt _ _ _ _ J).1 (fun l D=>h.AbM (BQ h hq (by simp)) D J rfl)) (fun r i k J⟨pp,N⟩=>?_) (fun r off _⟨cs,A⟩=>?_) (fun r i J⟨pp,N⟩=>?_) (h.slots p T)
    .have M:=AB.Aah Y N;have R:=AB.Aah (by simp) M.2;exact⟨⟨pp,R.2⟩,h.nh ⟨pp,R.2⟩ (AT _ _ _ _ M.1) (fun _ b _ hb=>X b (h.lt _ _ _ _ hb).1 (fun l m=>R.1 (h.o3 _ _ _ _ _ _ _ m hb).1))⟩
    .rw[AB.ea]at A;by_cases B:d=r
     .rw[ae B]at A;exact absurd A (Y cs)
     .rw[az B,AB.ea]at A;split at A
      .cases A
      .exact⟨⟨cs,A⟩,AT _ _ _ _ B⟩
    .by_cases B:d=r
     .subst B;have hno':O.jj d=true:=by
       grind [AB.Aa9]
      have hx:=AB.Aa5 d O hno' p;rcases J with J|⟨c,J⟩
      .exact absurd J (hx.1 i)
      .exact absurd J (hx.2 i c)
     .rw[AB.Aap B]at N;have R:=AB.x9 (by simp) (by simp) N;exact⟨⟨pp,R.2⟩,h.xv ⟨pp,R.2⟩ (AT _ _ _ _ B) (fun b hb=>X b (h.lt _ _ _ _ hb).1 (fun l m=>R.1 (h.o3 _ _ _ _ _ _ _ m hb).1))⟩
 .intro p;rw[AB.ea];split
  .exact hw
  .rw[AB.ea];split
   .trivial
   .exact h.wf p
variable{s:Nat}
theorem YY(j:AR F0 w0 O a w G)(hd:d<a.tmps.size)(g:o.op=.move (.tmp s)\/o.op=.assign (.tmp s))(h:(AE.xal s).wp S O (some d) K):As P F0 w0 a w o d K:=by
 simp only[AE.wp]at h;split at h
 .rename_i n es l;refine⟨slot a s,w,by rcases g with g|g<;>simp[execOp,g,show a.eval (.tmp s)=slot a s from rfl],_,_,h,_,j.quiet (Below.refl _ _) d hd (.la s none) _ (fun _=>none) (by simp) (by simp) (by simp) ?_ trivial⟩;simp only[AM];rintro⟨p,k⟩;have m:=AB.x9 (by simp) (by simp) k
  grind [XV,AT]
 .exact h.elim
variable{t e:TypeId}
theorem eQ(j:AR F0 w0 O a w G)(hd:d<a.tmps.size)(k:o.op=.call {callee:=.builtin .len,args:=#[x],argTypes:=#[t]})(l:AI x y=true)
  (he:P.underlying t=some (.slice e))(h:(AE.AbD y).wp S O (some d) K):As P F0 w0 a w o d K:=by
 simp only[AE.wp]at h;cases m:y.Aaa O with
 |none=>rw[m]at h;exact h.elim|some p=>
  rw [m]at h;simp only[AV]at h;obtain⟨B,C⟩:=Mh j l m;obtain⟨D,E⟩:=M5 j B C;simp only[TV.WF,F9]at D;obtain⟨xs,⟨z0,H,_⟩,_⟩:=E;have hv:∃u cap,a.eval x=.slice u p.2.2.length cap:=by
   rcases H.2 with⟨A,I,_⟩|⟨g,cap,_,_,A,_⟩
   .grind
   .exact⟨_,_,A⟩
  obtain ⟨u,cap,hv⟩:=hv;refine CI j hd (v:=.int .i64 p.2.2.length) (t:=.int .i64 p.2.2.length) ?_ rfl ⟨by simp only[IntKind.min,IntKind.signed,IntKind.bits,if_true];omega,by simp only[IntKind.max_i64];omega⟩ h;simp[execOp,k,resolve,invoke,builtin,Builtin.len_,run_underlying he,hv,goInt]
theorem iR(l:AR F0 w0 O a w G)(hd:d<a.tmps.size){x i:Operand}{y j:AF}(E:o.op=.indexAddr t x i)(H:AI x y=true)(u:AI i j=true)(C:IB P t=some n)(h:(AE.xia y j n).wp S O (some d) K):As P F0 w0 a w o d K:=by
 simp only[AE.wp]at h;cases I:y.Aaa O with
 |none=>rw[I]at h;exact h.elim|some p=>
  obtain ⟨⟨q,V⟩,m,es⟩:=p;rw[I]at h;simp only[AV]at h;split at h
  .rename_i k D T;obtain⟨⟨_,rfl⟩,W,M,X⟩:=h;obtain⟨Y,N⟩:=Mh l H I;have A:=Ar l u T;simp only[AY]at A;obtain⟨g,cap,cur,e,xs,R,_⟩:=bi l Y N (by rintro rfl;simp at M;omega);unfold IB at C;split at C
   .rename_i el U;have J:0<=D/\D<(es.length:Int):=⟨W,M⟩;refine⟨.pointer (some ⟨g,D.toNat*m,none⟩),w,?_,_,_,X,_,l.quiet (Below.refl _ _) d hd (.lp q V (D.toNat*m)) _ (fun _=>none) (by simp) (by simp) (by simp) ?_ trivial⟩
    .simp[execOp,E,R,A.1,Instr.indexAt,asIntOf,run_underlying U,J,Bp C,Addr.add_lit]
    .simp only[AM];rintro⟨pp,L⟩;have B:=AB.x9 (by simp) (by simp) L;exact⟨g,_,_,l.xv ⟨_,B.2⟩ (AT _ _ _ _ B.1) (fun _ _=>rfl) _ (by rw[<-R];exact N),rfl⟩
   .cases C
  .exact h.elim
theorem ac(k:AR F0 w0 O a w G)(h:AI x y=true){q c:Nat}{p:Nat×Fq}(j:y.ev O=.lp q i c)(l:O.x7 q i=some p):∃g len cap,XV a w q i (.slice (some ⟨g,0,none⟩) len cap)/\a.eval x=.pointer (some ⟨g,c,none⟩):=by
 cases y with
 |c t=>simp[AF.ev]at j|s m=>
  have u:x=.tmp m:=by
   cases x<;>simp[AI]at h;rw[h]
  subst u;simp only[AF.ev]at j;have:=AW k j (by simp);simp only[AM]at this;exact this ⟨p,l⟩
theorem iQ(l:AR F0 w0 O a w G)(hd:d<a.tmps.size){f k:Nat}(m:o.op=.fieldAddr t x f)(u:AI x y=true)(B:Nc P t f=some k)(h:(AE.xfa y k).wp S O (some d) K):As P F0 w0 a w o d K:=by
 simp only[AE.wp]at h;split at h
 .rename_i q i c C;split at h
  .rename_i I D;obtain⟨g,len,cap,E,H⟩:=ac l u C D;refine⟨.pointer (some ⟨g,c+k,none⟩),w,by simp[execOp,m,H,SR B],_,_,h,_,l.quiet (Below.refl _ _) d hd (.lp q i (c+k)) _ (fun _=>none) (by simp) (by simp) (by simp) ?_ trivial⟩;simp only[AM];rintro⟨J,A⟩;have j:=AB.x9 (by simp) (by simp) A;exact⟨g,_,_,l.xv ⟨_,j.2⟩ (AT _ _ _ _ j.1) (fun _ _=>rfl) _ E,rfl⟩
  .exact h.elim
 .exact h.elim
theorem iS(l:AR F0 w0 O a w G)(hd:d<a.tmps.size)(m:o.op=.load t x)(u:AI x y=true)(J:Bm P t=some false)(h:(AE.xld y).wp S O (some d) K):As P F0 w0 a w o d K:=by
 simp only[AE.wp]at h;split at h
 .rename_i q i c L;split at h
  .rename_i M A;obtain⟨n,es⟩:=M;simp only at h;cases k:(es.flatMap TV.cells)[c]? with
   |none=>rw[k]at h;exact h.elim|some t'=>
    rw [k]at h;simp only[AV]at h;have B:es≠[]:=by rintro rfl;simp at k
    obtain ⟨g,len,cap,D,U⟩:=ac l u L A;obtain⟨g',E,C,e,xs,H,V,f3,f4,f5,f6,f7,I,f9,W,X⟩:=bi l A D B;simp only[Value.slice.injEq,x4,Addr.mk.injEq,and_true]at H;obtain⟨rfl,rfl,rfl⟩:=H;have N:c<(es.flatMap TV.cells).length:=by
     grind
    have R:=A5 I;obtain⟨y,Y⟩:∃y,xs[c]?=some y:=⟨_,List.getElem?_eq_getElem (by omega)⟩;have j:w.cell? ⟨g,c,none⟩=some y:=by
     rw [cell_of_row w g c C e (0,0) V]
     grind
    have T:=(M5 l A D).1;refine CI l hd (v:=y) ?_ (((BM _ _).1 I).2 c t' _ k Y) ?_ h
    .simp[execOp,m,U,Instr.loadAt,Instr.sureAddr,loadVar,CM J,j]
    .have:=T.2;rw[BZ]at this;have hm:=List.mem_of_getElem? k
     grind [BZ,G3]
  .exact h.elim
 .exact h.elim
theorem Y8{t:TV}(h:TV.x6 t.cells):t.WF:=by
 cases t<;>simp only[TV.cells,TV.x6,and_true]at h<;>first|exact h|(simp only[TV.WF];exact h)
theorem Yb{es:Fq}(h:TV.x6 es):TV.x6 (es.flatMap TV.cells):=by grind[BZ,G3]
theorem SW:∀{es:Fq},TV.x6 (es.flatMap TV.cells)->TV.x6 es
 |[],_=>trivial|e::es,h=>by
  rw [List.flatMap_cons]at h;rw[I6]at h;exact⟨Y8 h.1,SW h.2⟩
variable{ts:Fq}
theorem Y2{w:World}{F:Nat->Nat->Prop}{xs:List Value}(h:AO w F ts xs)(c:Nat):AO w F (ts.take c) (xs.take c):=by
 rw [BM]at h|-
 grind
theorem Y1{w:World}{F:Nat->Nat->Prop}{xs:List Value}(h:AO w F ts xs)(c:Nat):AO w F (ts.drop c) (xs.drop c):=by
 rw [BM]at h|-
 grind
theorem iT(C:AR F0 w0 O a w G){x v:Operand}{x' W:AF}{m:Nat}(H:o.op=.store t x v)(X:AI x x'=true)(hv:AI v W=true)(hn:CX P t=some m)(h:(AE.xst x' W m).wp S O none K):Gl P F0 w0 a w o K:=by
 simp only[AE.wp]at h;split at h
 .rename_i q i c hy;split at h
  .rename_i n es u E hu;obtain⟨⟨h1,h0⟩,Y,es',h3,B,h5,hK⟩:=h;obtain⟨g,len,cap,T,e2⟩:=ac C X hy E;have D:=(M5 C E T).1;have I:=Ar C hv (t:=u) (by simp[AF.val,hu,EV.val]);have h6:TV.x6 es':=by
    have h7:=Yb D.2
    grind [TV.x6,TV.cells,BZ,List.mem_of_mem_take,G3,List.mem_of_mem_drop,SW]
   have J:es≠[]:=by rintro rfl;simp at Y;omega
   obtain ⟨g',cap',j,e,xs,f1,f2,f3,f4,f5,f6,f7,f8,f9,f10,U⟩:=bi C E T J;simp only[Value.slice.injEq,x4,Addr.mk.injEq,and_true]at f1;obtain⟨rfl,rfl,rfl⟩:=f1;obtain⟨k2,k3⟩:=Fu I.1;obtain⟨ys,V⟩:∃ys,(a.eval v).cells.toList=ys:=⟨_,rfl⟩;rw[V]at k2 k3;have A:ys.length=m:=by rw[A5 k2,h1]
   have hcc:c+m<=j.size:=by rw[f5];exact Nat.le_trans Y (Nat.mul_le_mul_right _ f3)
   have l:=run_storeCells_at P g c e ys 0 j w f2 (by omega) k3;simp only[Nat.add_zero]at l;have L:(a.eval v).cells.size=m:=by rw[<-Array.length_toList,V,A]
   have M:(execOp a.eval o).run P w=.ok .skip (w.setRow g (j.toList.take c++ys++j.toList.drop (c+m)).toArray):=by
    rw [A]at l;simp[execOp,H,e2,Instr.storeAt,Instr.sureAddr,storeVar,Bp hn,L,V,l]
   refine ⟨_,M,_,hK,G,?_⟩;have N:xs.length=es.length*n:=U;refine C.rexo E T (w':=w.setRow g (j.toList.take c++ys++j.toList.drop (c+m)).toArray) (xs':=xs.take c++ys++xs.drop (c+m)) ⟨rfl,rfl,rfl,by simp,fun k _ hk=>setRow_other w g k _ (fun e=>hk 0 (by rw[e];exact f7))⟩ ⟨some (g,es.length*n),⟨by simp only[cE,c7,List.length_drop,A,N,B];omega,.inr ⟨g,cap,_,e,by rw[B],setRow_heap w g j _ e _ f2,by rw[B];exact f3,f4,?_,?_,by rw[B]⟩⟩,by rw[f7];rfl⟩ (fun hag=>?_) h5 (fun x X=>?_) ⟨by rw[B];exact D.1,h6⟩
   .grind
   .rw[B,<-f6];have R:c<=j.toList.length:=by rw[Array.length_toList];omega
    have hA:(j.toList.take c++ys).length=c+m:=by rw[cE,c7,A,Nat.min_eq_left R]
    show (j.toList.take c++ys++j.toList.drop (c+m)).take (es.length*n)=_
    grind [List.take_append,List.take_of_length_le,Nat.min_eq_left,List.drop_take]
   .grind[Ag,HH,Y2,Y1]
   grind
  .exact h.elim
 .exact h.elim
theorem YW(l:AR F0 w0 O a w G)(hd:d<a.tmps.size)(g:o.op=.move (.tmp s)\/o.op=.assign (.tmp s))(h:(AE.rel s).wp S O (some d) K):As P F0 w0 a w o d K:=by
 simp only[AE.wp]at h;split at h
 .rename_i J n es k m;simp only[x4]at k;subst k;obtain⟨u,E⟩:=h;have A:=AW l m (by simp);have B:=l.wf s;rw[m]at B;simp only[AM]at A;obtain⟨xs,⟨z0,L,j⟩,M,N,R⟩:=A;refine⟨slot a s,w,by rcases g with g|g<;>simp[execOp,g,show a.eval (.tmp s)=slot a s from rfl],_,_,E,l.xgo m hd u (z':=z0) rfl rfl rfl (bk _) (fun _ _ _=>rfl) (fun b lo C=>?_) (by simp) (by simp) (fun F' H env' a' D I _=>?_) B⟩
  .rw[C]at j;exact⟨(l.lt _ _ _ _ j).1,.inr ⟨_,j⟩⟩
  grind [AM,Be,Ag]
 .exact h.elim
theorem YX(k:AR F0 w0 O a w G)(hd:d<a.tmps.size)(g:o.op=.move (.tmp s)\/o.op=.assign (.tmp s))(h:(AE.tkx s).wp S O (some d) K):As P F0 w0 a w o d K:=by
 simp only[AE.wp]at h;split at h
 .rename_i J n es j l;simp only[x4]at j;subst j;obtain⟨m,u,E⟩:=h;have B:=AW k l (by simp);have C:=k.wf s;rw[l]at C;simp only[AM]at B;obtain⟨xs,L,M,N,R⟩:=B;refine⟨slot a s,w,by rcases g with g|g<;>simp[execOp,g,show a.eval (.tmp s)=slot a s from rfl],_,_,E,k.xgo l hd u (z':=G s none) rfl rfl rfl (bk _) (fun _ _ _=>rfl) (fun b lo A=>⟨(k.lt _ _ _ _ A).1,.inr ⟨_,A⟩⟩) (by simp) (fun _=>m) (fun F' H env' a' D I _=>?_) C⟩
  grind [AM,Ag]
 .exact h.elim
theorem AR.Ab4(h:AR F0 w0 O a w G){w':World}(A:Below w.heap.size w w')(hd:d<a.tmps.size)(u:O.jj d=true){es:Fq}{z:Option (Nat×Nat)}{xs:List Value}(j:FM w' n v es.length xs z)
  (B:∀b lo,z=some (b,lo)->w.heap.size<=b/\b<w'.heap.size)
  (k:∀F',(∀b o,F' b o->(b<w.heap.size/\AS w0.heap.size F0 G b o)\/∃lo,z=some (b,lo))->AO w' F' (es.flatMap TV.cells) xs)(C:∀e∈es,e.cells.length=n)(D:∀x∈xs,x.oneCell'=true)(E:(TV.list n es).WF):
  Bb F0 w0 ((d,.xo n es)::O) (a.put (some d) v) w':=by
 refine ⟨_,h.quiet A d hd (.xo n es) v (fun i=>if i=none then z.map (fun p=>(p.1,0))else none) (fun i b lo hi=>?_) (fun i I b lo H g m=>?_) (fun _=>u) ?_ E⟩
 .split at hi
  .cases z with
   |none=>simp at hi|some p=>
    simp only[Option.map_some,x4,Prod.mk.injEq]at hi;exact hi.1▸B p.1 p.2 rfl
  .cases hi
 .split at g
  .split at m
   .simp_all
   .cases m
  .cases g
 .simp only[AM];refine⟨xs,⟨z,j,by rw[Bn];simp⟩,k _ (fun b o hf=>?_),C,D⟩;rcases hf with hf|⟨p,i,lo,g,m⟩
  .exact .inl ⟨Nat.lt_of_lt_of_le hf.1 h.below.size,.inl hf⟩
  .by_cases l:p=d
   .subst l;rw[Bn]at g;split at g
    .cases z with
     |none=>simp at g|some q=>
      simp only[Option.map_some,x4,Prod.mk.injEq]at g;exact .inr ⟨q.2,by rw[<-g.1]⟩
    .cases g
   .rw[A8 _ _ _ _ l]at g;exact .inl ⟨(h.lt _ _ _ _ g).1,.inr ⟨p,i,lo,g,m⟩⟩
theorem WJ(k:AR F0 w0 O a w G)(hd:d<a.tmps.size)(g:o.op=.move x\/o.op=.assign x)(l:∃v,x=.const v/\Kh v=true)(h:(AE.Abk n).wp S O (some d) K):As P F0 w0 a w o d K:=by
 simp only[AE.wp]at h;obtain⟨j,m⟩:=h;obtain⟨v,rfl,hv⟩:=l;have hv:=Ig hv;subst hv;refine⟨.slice none 0 0,w,by rcases g with g|g<;>simp[execOp,g,Act.eval],_,_,m,k.Ab4 (Below.refl _ _) hd j (z:=none) (xs:=[]) ⟨by simp,.inl ⟨rfl,rfl,rfl⟩⟩ (by simp) (fun _ _=>rfl) (by simp) (by simp) ⟨by simp,trivial⟩⟩
variable{f:FuncId}{ys:List AF}{ats:Array TypeId}{Q:Exit->Act->World->Prop}
theorem bd(W:AR F0 w0 O a w G)(hd:d<a.tmps.size)(l:o.dst=some d){xs:Array Operand}(M:o.op=.call {callee:=.value (.func f),args:=xs,argTypes:=ats})(N:BR xs.toList ys=true)(h:(AE.AaL f ys).wp (AN P) O (some d) K)
  {next:Act->World->Prop}(X:∀e env' a' w',K e env'->Oe a d a'->Bb F0 w0 ((d,e)::env') a' w'->next a' w'):o.wp P a w next Q:=by
 simp only[AE.wp]at h;obtain⟨U,h⟩:=h;cases j:vals O ys with
 |none=>rw[j]at h;exact h.elim|some ts=>
  rw [j]at h;simp only[AV]at h;obtain⟨n,es,A,hK⟩:=h;have hv:=Fr W N j;have m:(execOp a.eval o).run P w=(callFunc f (xs.map a.eval)).run P w:=by simp[execOp,M,resolve,Act.eval,Deferred.ofValue,invoke]
  have key:DL P f=true/\(TV.list n es).WF/\Calls P f (xs.map a.eval) w fun e w'=>∃v z g,e=.returned v/\Below w.heap.size w w'/\FM w' n v es.length g z/\(∀F',(∀b o,F' b o->(b<w.heap.size/\AS w0.heap.size F0 G b o)\/∃lo,z=some (b,lo))->AO w' F' (es.flatMap TV.cells) g)/\(∀e∈es,e.cells.length=n)/\(∀x∈g,x.oneCell'=true)/\∀b lo,z=some (b,lo)->w.heap.size<=b/\b<w'.heap.size:=by
   rcases A with A|⟨A,hfl⟩
   .obtain⟨B,V⟩:=(A.to0 rfl) hv.2;obtain⟨k,C⟩:=V (AS w0.heap.size F0 G) w (xs.map a.eval) (by simpa using hv.1);refine⟨B,k,C.mono ?_⟩;rintro e w' ⟨v,rfl,D,z,g,E,H,I,J,L⟩;exact⟨v,z,g,rfl,D,E,fun F' R=>Ag (fun b o u Y hf=>⟨Y,fun T=>hf (R b o T)⟩) _ _ H,I,J,L⟩
   .obtain⟨B,V⟩:=(A.to0 rfl) hv.2;obtain⟨k,C⟩:=V (AS w0.heap.size F0 G) w (xs.map a.eval) (by simpa using hv.1);refine⟨B,k,C.mono ?_⟩;rintro e w' ⟨v,rfl,D,z,⟨g,E,H,I,J⟩,L⟩
    grind [Gw,K6]
  obtain ⟨B,k,C⟩:=key;unfold Oper.wp;rw[m,EH B _,Oper.upon_enter];refine C.mono ?_;rintro e w' ⟨v,z,g,rfl,D,E,H,I,J,L⟩;simp only[l];exact X _ _ _ _ (hK k) ⟨_,rfl⟩ (W.Ab4 D hd U E L H I J k)
theorem bZ(C:AR F0 w0 O a w G)(hd:d<a.tmps.size)(l:o.dst=some d)(D:o.op=.call {callee:=.value (.func f),args:=#[x],argTypes:=ats})(E:AI x y=true)(h:(AE.AaS f y).wp (AN P) O (some d) K)
  {next:Act->World->Prop}(T:∀e env' a' w',K e env'->Oe a d a'->Bb F0 w0 ((d,e)::env') a' w'->next a' w'):o.wp P a w next Q:=by
 simp only[AE.wp]at h;cases H:y.Aaa O with
 |none=>rw[H]at h;exact h.elim|some p=>
  obtain ⟨⟨q,i⟩,m,es⟩:=p;rw[H]at h;simp only[AV]at h;obtain⟨rfl,zs,j,rfl,⟨k,A,U,B,g,V⟩,W⟩:=h;simp only[List.cons.injEq,TV.list.injEq,true_and,and_true]at A;have I:k=zs:=by
   have:=congrArg (List.map fun t=>match t with|.int _ n=>n|_=>0) A;simpa[List.map_map,Function.comp_def]using this.symm
  subst I;obtain⟨N,R⟩:=Mh C E H;obtain⟨M,xs,X,Y,h3,h4⟩:=M5 C N R;replace g:=g M;have J:xs=k.map (Value.int .i64):=by
   have:∀(zs:Fp)(xs:List Value),AO w (AS w0.heap.size F0 G) ((zs.map (TV.int .i64)).flatMap TV.cells) xs->xs=zs.map (Value.int .i64):=by
    intro zs
    induction zs with
    |nil=>intro xs h;exact h|cons z zs ih=>
     grind [TV.cells,List.singleton_append,AO,AY]
   exact this k xs Y
  subst J;have u:(execOp a.eval o).run P w=(callFunc f #[a.eval x]).run P w:=by simp[execOp,D,resolve,Act.eval,Deferred.ofValue,invoke]
  unfold Oper.wp;rw[u,EH U _,Oper.upon_enter];refine(V w (a.eval x) (G q i) (by simpa using X)).mono ?_;rintro e w' ⟨rfl,r1,r2⟩;simp only[l];have L:=C.rexo N R r2 (es':=j.map (TV.int .i64)) (xs':=j.map (Value.int .i64)) (by rw[ca,B];exact r1) (fun _=>?_) (by simp[TV.cells]) (by simp[Value.oneCell']) g
  .refine T _ _ _ _ (W g) ⟨_,rfl⟩ ⟨_,L.quiet (Below.refl _ _) d hd (.tp []) _ (fun _=>none) (by simp) (by simp) (by simp) ?_ trivial⟩;simp only[AM];exact⟨#[],rfl,rfl⟩
  .have:∀(zs:Fp),AO w' (AS w0.heap.size F0 G) ((zs.map (TV.int .i64)).flatMap TV.cells) (zs.map (Value.int .i64)):=by
    intro zs
    induction zs with
    |nil=>rfl|cons z zs ih=>
     grind [TV.cells,List.singleton_append,AO,AY]
   exact this j
theorem Vq{w:World}{F:Nat->Nat->Prop}:∀(zs:Fp),AO w F ((zs.map (TV.int .i64)).flatMap TV.cells) (zs.map (Value.int .i64))
 |[]=>rfl|z::zs=>by
  simp only[List.map_cons,List.flatMap_cons,TV.cells,List.singleton_append,AO,AY];exact⟨_,_,rfl,rfl,Vq zs⟩
theorem WC{w:World}{F:Nat->Nat->Prop}:∀(zs:Fp)(xs:List Value),AO w F ((zs.map (TV.int .i64)).flatMap TV.cells) xs->xs=zs.map (Value.int .i64)
 |[],xs,h=>h|z::zs,xs,h=>by
  simp only[List.map_cons,List.flatMap_cons,TV.cells,List.singleton_append,AO,AY]at h;obtain⟨v,r,rfl,rfl,h⟩:=h;rw[WC zs r h];rfl
theorem bV(j:AR F0 w0 O a w G)(hd:d<a.tmps.size)(l:o.dst=some d)(C:o.op=.call {callee:=.value (.func f),args:=#[x],argTypes:=ats})(D:AI x y=true)(h:(AE.AaW f y).wp (AN P) O (some d) K)
  {next:Act->World->Prop}(X:∀e env' a' w',K e env'->Oe a d a'->Bb F0 w0 ((d,e)::env') a' w'->next a' w'):o.wp P a w next Q:=by
 simp only[AE.wp]at h;cases H:y.Aaa O with
 |none=>rw[H]at h;exact h.elim|some p=>
  obtain ⟨⟨q,i⟩,m,es⟩:=p;rw[H]at h;simp only[AV]at h;obtain⟨⟨L,rfl⟩,rfl,M,zs,N,rfl,⟨R,A,hc,g,hS⟩,hK⟩:=h;simp only[List.cons.injEq,TV.list.injEq,true_and,and_true]at A;have I:R=zs:=by
   have:=congrArg (List.map fun t=>match t with|.int _ n=>n|_=>0) A;simpa[List.map_map,Function.comp_def]using this.symm
  subst I;obtain⟨B,V⟩:=Mh j D H;replace B:=AB.Aab B;simp only[XV]at V;replace g:=g (by have:=j.wf q;rw[B]at this;exact this);have U:=AW j B (by simp);simp only[AM]at U;obtain⟨xs,h1,h2,h3,h4⟩:=U;have J:=WC _ _ h2;subst J;have u:(execOp a.eval o).run P w=(callFunc f #[slot a q]).run P w:=by simp[execOp,C,resolve,Act.eval,Deferred.ofValue,invoke,<-V]
  unfold Oper.wp;rw[u,EH hc _,Oper.upon_enter];refine(hS w (slot a q) (G q none) (by simpa using h1)).mono ?_;rintro e w' ⟨v',rfl,r1,r2⟩;simp only[l];obtain⟨b1,b2,b3,W,b5⟩:=r2;refine X _ _ _ _ (hK g) ⟨_,rfl⟩ (j.xgo B hd (fun e=>L e.symm) (z':=G q none) b1 b2 b3 W (fun k E Y=>b5 k E Y) (fun b lo T=>⟨Nat.lt_of_lt_of_le (j.lt _ _ _ _ T).1 W,.inr ⟨_,T⟩⟩) (by simp) (fun _=>M) (fun F' G' env' a' hag hG _=>?_) g);simp only[AM];rw[hG];exact⟨_,by simpa using r1,Vq N,by simp[TV.cells],by simp[Value.oneCell']⟩
variable{z:Value}
theorem dy(Y:AR F0 w0 O a w G)(hd:d<a.tmps.size){i:TypeInfo}(hop:o.op=.call {callee:=.builtin .append,args:=#[.tmp s,x],argTypes:=#[t,t]})
  (ht:P.underlying t=some (.slice e))(hi:P.info? e=some i)(A:i.zero=some z)(E:i.size=n)(hby:i.bytes<=4096)(hzs:z.cells.size=n)(hn:0<n)
  (hok:AI x y=true)(h:(AE.Abh n s y).wp S O (some d) K):As P F0 w0 a w o d K:=by
 simp only[AE.wp]at h;split at h
 .rename_i d' m es m' J N hs hy;simp only[x4]at N;subst N;obtain⟨hm1,hm2,U,hno,hds,hK⟩:=h;subst hm2;subst hm1;have D:=AW Y hs (by simp);have H:=Y.wf s;rw[hs]at H;simp only[AM]at D;obtain⟨xs,⟨z0,h1,V⟩,h2,h3,h4⟩:=D;have hv:=Ar Y hok hy;simp only[AY]at hv;obtain⟨⟨ad,cap,h5,h6,h7,h8⟩,h9⟩:=hv;have I:∃g:List Value,AO w (AS w0.heap.size F0 G) (J.flatMap TV.cells) g/\(∀x∈g,x.oneCell'=true)/\(∀f∈J,f.cells.length=m)/\∀b,ad=some b->∀(j:Nat)(u:Value),g[j]?=some u->w.cell? (b.add j)=some u:=by
   cases ad with
   |none=>
    have:=h7 rfl;subst this;exact⟨[],rfl,by simp,by simp,by simp⟩
   |some b=>
    obtain ⟨C,h11⟩:=h8 b rfl;obtain⟨bb,B,sp⟩:=b;simp only at C h11;by_cases T:J=[]
    .subst T;exact⟨[],rfl,by simp,by simp,by simp⟩
    have C:sp=none:=C.resolve_left T;subst C;have hrow:∀(l:Fq)(B:Nat),Ej w (AS w0.heap.size F0 G) m l bb B->Co w (AS w0.heap.size F0 G) (l.flatMap TV.cells) bb B/\∀f∈l,f.cells.length=m:=by
     intro l
     induction l with
     |nil=>intro B _;exact⟨trivial,by simp⟩|cons f l ih=>
      grind [OO,Hk]
    grind [RI,x4]
  obtain ⟨g,n1,n2,n3,n4⟩:=I;have hnl:g.length=J.length*m:=by rw[A5 n1,NB m J n3]
  obtain ⟨v',w',z',W,r1,L⟩:=N6 (P:=P) t o.type e i z m ht hi A E hby hzs hn (slot a s) es.length xs z0 h1 ad J.length cap g hnl (fun e=>by rw[h7 e];rfl) h6 n4 n2 U;have hnz:∀k,(∀lo,G s none≠some (k,lo))->∀lo,z0≠some (k,lo):=fun k hk lo A=>hk 0 (by rw[V,A];rfl);refine⟨v',w',?_,_,_,hK,Y.xgo hs hd hds (z':=z'.map fun p=>(p.1,0)) L.os L.tape L.output L.size (fun k hk A=>L.other k hk (hnz k A)) (fun b lo A=>?_) (by simp) (fun _=>hno) (fun F' G' env' a' M hG _=>?_) ?_⟩
  .simp[execOp,hop,resolve,invoke,builtin,show a.eval (.tmp s)=slot a s from rfl,h5,W]
  .cases z' with
   |none=>simp at A|some p=>
    simp only[Option.map_some,x4,Prod.mk.injEq]at A;obtain⟨k1,X⟩:=L.AbP p.1 p.2 rfl;rw[<-A.1];refine⟨k1,?_⟩;rcases X with X|⟨lo',X,_⟩
    .exact .inl X
    .exact .inr ⟨0,by rw[V,X];rfl⟩
  .simp only[AM];rw[hG];refine⟨xs++g,⟨z',by rw[cE];exact r1,rfl⟩,?_,?_,?_⟩
   .rw[List.flatMap_append];exact HH (Ag M _ _ h2) (Ag M _ _ n1)
   .intro e he;rcases List.mem_append.1 he with he|he
    .exact h3 e he
    .exact n3 e he
   .intro x R;rcases List.mem_append.1 R with R|R
    .exact h4 x R
    .exact n2 x R
  .simp only[EV.WF,TV.WF]at H h9|-;exact⟨by rw[cE];exact R9 (by omega),I6.2 ⟨H.2,h9.2⟩⟩
 .exact h.elim
variable{z0:Value}
theorem iD(V:AR F0 w0 O a w G)(hd:d<a.tmps.size){x x':Operand}{ty e:TypeId}{l:TypeInfo}{t:TV}(D:o.op=.makeSlice ty x x')(W:AI x y=true)(E:AI x' y=true)
  (A:P.underlying ty=some (.slice e))(H:P.info? e=some l)(T:l.zero=some z)(hs:l.size=1)(X:l.bytes<=4096)(Y:z.cells=#[z0])(hc:Dq t z0=true)(h1c:z0.oneCell'=true)(I:t.cells=[t])
  (h:(AE.mkx 1 [t] y).wp S O (some d) K):As P F0 w0 a w o d K:=by
 simp only[AE.wp]at h;split at h
 .rename_i d' ik j J hy;simp only[x4]at J;subst J;obtain⟨hno,h0,hmax,hK⟩:=h;have hv:=(Ar V W hy).1;have B:=(Ar V E hy).1;simp only[AY]at hv B;obtain⟨m,rfl⟩:∃m:Nat,j=m:=⟨j.toNat,by omega⟩;have hm:m<=4096:=by omega
  have hw1:IntKind.i64.wrap (m:Int)=m:=by
   have e1:(2:Int)^ 64=18446744073709551616:=by decide
   have e2:(2:Int)^ (64-1)=9223372036854775808:=by decide
   simp only[IntKind.wrap,IntKind.bits,IntKind.signed,Bool.true_and,zzX,e1,e2,ge_iff_le];split<;>omega
  have U:m*l.bytes<=16777216:=by
   calc m*l.bytes<=4096*4096:=Nat.mul_le_mul hm X
    _=16777216:=by decide
  have g:(Array.range m).map (fun q=>([z0]:List Value)[q % 1]?.getD default)=Array.replicate m z0:=by
   grind
  have L:¬(281474976710656<(l.bytes:Int)*(m:Int)):=by
   grind
  have C:¬(m*l.bytes>roomBytes):=by
   have:roomBytes≥16777216:=by decide
   omega
  have M:¬((m:Int)<0):=by omega
  have N:(execOp a.eval o).run P w=.ok (.value (.slice (some ⟨w.heap.size,0,none⟩) m m)) (w.alloc (.cells (Array.replicate m z0) e)):=by
   by_cases R:m=0
   .subst R;have hw0:IntKind.i64.wrap 0=0:=by decide
    simp [execOp,D,hv,B,Instr.makeSlice,run_underlying A,asInt,asIntOf,typeInfo,H,hw0,askRoom,sizeOf,hs,newRow]
    grind
   .simp[execOp,D,hv,B,Instr.makeSlice,run_underlying A,asInt,asIntOf,typeInfo,H,hw1,askRoom,sizeOf,hs,newRow,L,C,M,R,zeroValue,T,Y,g]
  have hb:Below w.heap.size w (w.alloc (.cells (Array.replicate m z0) e)):=(Below.refl _ _).alloc (bk _) _;have hcr:=GX (w.alloc (.cells (Array.replicate m z0) e)) (fun _ _=>False) t z0 hc;have hfm:∀k,(List.replicate k t).flatMap TV.cells=List.replicate k t:=by
   intro k
   induction k with
   |zero=>rfl|succ k ih=>rw[List.replicate_succ,List.flatMap_cons,ih,I];rfl
  simp only[Int.toNat_natCast]at hK;refine⟨_,_,N,_,_,hK,V.Ab4 hb hd hno (z:=some (w.heap.size,m*1)) (xs:=List.replicate m z0) ⟨by simp,.inr ⟨w.heap.size,m,_,e,by simp,heap_alloc_new w _,by simp,by simp only[maxLen];omega,by simp,by simp,by simp⟩⟩ (fun b lo T=>?_) (fun F' _=>?_) (fun u A=>?_) (fun v hv=>?_) ⟨by simp only[List.length_replicate,F9];omega,?_⟩⟩
  .simp only[x4,Prod.mk.injEq]at T;rw[<-T.1];exact⟨bk _,by simp⟩
  .rw[hfm,BM];refine⟨by simp,fun i u v A hv=>?_⟩;rw[List.eq_of_mem_replicate (List.mem_of_getElem? A),List.eq_of_mem_replicate (List.mem_of_getElem? hv)];exact(GX _ F' t z0 hc).1
  .rw[List.eq_of_mem_replicate A,I];rfl
  .rw[List.eq_of_mem_replicate hv];exact h1c
  .rw[BZ];intro u A;rw[List.eq_of_mem_replicate A];exact hcr.2
 .exact h.elim
def al(P:Program)(t:TypeId)(f k n:Nat)(agg:Bool):Bool:=
 match P.underlying t with
 |some (.struct fs)=>(match fs[f]? with
  |some x=>x.offset==k&&CX P x.type==some n&&Bm P x.type==some agg|none=>false)
 |_=>false
theorem eF(C:AR F0 w0 O a w G)(hd:d<a.tmps.size){f k n:Nat}{agg:Bool}(A:o.op=.field t x f)(D:AI x y=true)(hf:al P t f k n agg=true)(h:(AE.AbE y k n agg).wp S O (some d) K):As P F0 w0 a w o d K:=by
 simp only[AE.wp]at h;split at h
 .rename_i cs R;obtain⟨W,g⟩:=h;have hv:=Ar C D R;simp only[AY,TV.WF]at hv;obtain⟨⟨vs,L,H,X⟩,M⟩:=hv;unfold al at hf;split at hf
  .rename_i V I;split at hf
   .rename_i j B;simp only[tg,beq_iff_eq]at hf;obtain⟨⟨rfl,U⟩,N⟩:=hf;have J:=A5 H;rw[BM]at H;rw[BZ]at M;cases agg with
    |true=>
     simp only[if_true]at g;refine CI C hd (v:=.agg (vs.extract j.offset (j.offset+n))) (t:=.agg ((cs.drop j.offset).take n)) ?_ ?_ ?_ g
     .simp[execOp,A,L,Instr.field,run_underlying I,B,part,CM N,Bp U,asAgg]
     .simp only[AY];refine⟨_,rfl,?_,?_⟩
      .rw[BM]
       grind
      grind
     .simp only[TV.WF];rw[BZ]
      grind
    |false=>
     simp only[Bool.false_eq_true,if_false]at g;cases E:cs.drop j.offset with
     |nil=>rw[E]at g;simp[Fk,AV]at g|cons u r=>
      rw [E]at g;simp only[Fk,AV]at g;have m:cs[j.offset]?=some u:=by
       have:=congrArg (fun l=>l[0]?) E;simpa[List.getElem?_drop]using this
      have T:j.offset<cs.length:=(List.getElem?_eq_some_iff.1 m).1;obtain⟨v,hv⟩:∃v,vs.toList[j.offset]?=some v:=⟨_,List.getElem?_eq_getElem (by omega)⟩;refine CI C hd (v:=v) (t:=u) ?_ (H.2 _ u v m hv) (M u (List.mem_of_getElem? m)) g;rw[Array.getElem?_toList]at hv;simp[execOp,A,L,Instr.field,run_underlying I,B,part,CM N,asAgg,hv]
   .cases hf
  .cases hf
 .exact h.elim
def fb(P:Program)(ty:TypeId)(n:Nat)(zero:Fq):Bool:=
 match P.underlying ty,zero with
 |some (.slice e),[t]=>(match P.info? e with
  |some ie=>(match ie.zero with
   |some z=>(match z.cells.toList with
    |[z0]=>n==1&&ie.size==1&&decide (ie.bytes<=4096)&&Dq t z0&&z0.oneCell'&&(match t with|.int _ _=>true|.bool _=>true|.str _=>true|_=>false)
    |_=>false)
   |none=>false)
  |none=>false)
 |_,_=>false
theorem ls(A:AR F0 w0 O a w G)(hd:d<a.tmps.size){x x':Operand}{ty:TypeId}{zero:Fq}(k:o.op=.makeSlice ty x x')(l:AI x y=true)(j:AI x' y=true)(g:fb P ty n zero=true)
  (h:(AE.mkx n zero y).wp S O (some d) K):As P F0 w0 a w o d K:=by
 unfold fb at g;split at g
 .rename_i e t B;split at g
  .rename_i L m;split at g
   .rename_i z C;split at g
    .rename_i z0 u;simp only[tg,beq_iff_eq,zzX]at g;obtain⟨⟨⟨⟨⟨rfl,D⟩,E⟩,H⟩,I⟩,J⟩:=g;exact iD A hd k l j B m C D E (YZ u) H I (by cases t<;>first|rfl|cases J) h
    .cases g
   .cases g
  .cases g
 .cases g
theorem nT{args:Fq}{t:TV}(h:AN P f args (.own t)):AN P f args (.sh t):=by
 intro k;obtain⟨m,A⟩:=h k;refine⟨m,fun F0 w vs hv=>?_⟩;obtain⟨B,C⟩:=A F0 w vs hv;refine⟨B,C.mono ?_⟩;rintro e w' ⟨v,rfl,D,z,E,I⟩;refine⟨v,rfl,D,?_⟩;have l:=Be.rep E (fun b lo o H ho=>by
  grind)
 exact Bv (fun b o u j hf=>⟨j,fun g=>hf (.inl g)⟩) _ _ l
theorem Nl(h:v.oneCell'=true):v.cells=#[v]:=by
 cases v<;>first|rfl|simp[Value.oneCell']at h
theorem iP(u:AR F0 w0 O a w G){x v:Operand}(hop:o.op=.store t x v)(C:AI x (.s s)=true)(hv:AI v (.s q)=true)(hn:CX P t=some n)(h:(AE.stx n s q).wp S O none K):Gl P F0 w0 a w o K:=by
 simp only[AE.wp]at h;split at h
 .rename_i cs ds hs hq;obtain⟨J,⟨V,D⟩,ho,hK⟩:=h;have hp:(AF.s s).place O=some (s,0):=by simp[AF.place,hs]
  revert hp ho hK
  suffices key:∀g,g+n<=cs.length->K .undef ((s,.bx (cs.take g++ds++cs.drop (g+n)))::(q,.undef)::O)->(AF.s s).place O=some (s,g)->Gl P F0 w0 a w o K from key 0
  .intro g ho hK hp;have hvq:v=.tmp q:=by
    cases v<;>simp[AI]at hv;rw[hv]
   subst hvq;obtain⟨b,hsl,hadr⟩:=GN u C hp hs;have hr:=AW u hs (by simp);simp only[AM]at hr;obtain⟨Y,c,T,h1,h2,h3,h4,h5⟩:=hr;rw[hsl]at h1;simp only[Value.pointer.injEq,x4,Addr.mk.injEq,and_true,and_self]at h1;subst h1;have hrq:=AW u hq (by simp);simp only[AM]at hrq;obtain⟨vs,B,m,e3⟩:=hrq;have U:=u.wf s;rw[hs]at U;have hwq:=u.wf q;rw[hq]at hwq;have hone:∀y∈vs.toList,y.oneCell'=true:=by
    intro y E;obtain⟨i,hi⟩:=List.getElem?_of_mem E;have l:i<ds.length:=by have:=(List.getElem?_eq_some_iff.1 hi).1;simpa[m]using this
    obtain ⟨x,C,hc⟩:=e3 i _ (List.getElem?_eq_getElem l);rw[Array.getElem?_toList,C]at hi;simp only[x4]at hi;subst hi;exact F8 hc
   have hev:a.eval (.tmp q)=.agg vs:=B;have hst:(execOp a.eval o).run P w=.ok .skip (w.setRow b (c.toList.take g++vs.toList++c.toList.drop (g+n)).toArray):=by
    have hln:vs.toList.length=n:=by rw[Array.length_toList,m,V]
    have I:=run_storeCells_at P b g T vs.toList 0 c w h2 (by rw[hln];omega) hone;simp only[Nat.add_zero]at I;rw[hln]at I;simp[execOp,hop,hadr,hev,Instr.storeAt,Instr.sureAddr,storeVar,Bp hn,Value.cells,show vs.size=n by rw[m,V],I]
   have hvl:vs.toList.length=n:=by rw[Array.length_toList,m,V]
   let zs:Option Nat->Option (Nat×Nat):=fun i=>match i with|none=>some (b,0)|some j=>if g<=j/\j<g+n then G q (some (j-g))else G s (some j)
   refine Exists.elim (u.AbS hs hsl h2 (cs':=cs.take g++ds++cs.drop (g+n)) (c':=(c.toList.take g++vs.toList++c.toList.drop (g+n)).toArray) (q:=some q) (by simpa using J) (fun p hp=>by cases hp;exact BQ u hq (by simp)) (zs:=zs) rfl ?_ ?_ ?_ ?_ ?_ ?_) (fun G' h'=>⟨_,hst,_,hK,G',h'.1⟩)
   .intro i Y lo hi hz;cases i with
    |none=>exact absurd rfl hi|some j=>
     simp only[zs]at hz;split at hz
     .exact .inr ⟨q,rfl,_,hz⟩
     .exact .inl hz
   .intro i i' Y lo M B m;have zn:∀j Y lo M,zs (some j)=some (Y,lo)->zs none=some (Y,M)->False:=by
     intro j Y lo M B m;simp only[zs,x4,Prod.mk.injEq]at m;obtain⟨rfl,_⟩:=m;simp only[zs]at B;split at B
     .exact J (u.o3 _ _ _ _ _ _ _ B h4).1
     .have:=(u.o3 _ _ _ _ _ _ _ B h4).2;cases this
    cases i with
    |none=>cases i' with
     |none=>rfl|some j=>exact(zn j _ _ _ m B).elim
    |some j=>cases i' with
     |none=>exact(zn j _ _ _ B m).elim|some j'=>
      simp only[zs]at B m;split at B<;>split at m
      .have:=(u.o3 _ _ _ _ _ _ _ B m).2;simp only[x4]at this;rw[show j=j' by omega]
      .exact absurd (u.o3 _ _ _ _ _ _ _ B m).1 J
      .exact absurd (u.o3 _ _ _ _ _ _ _ m B).1 J
      .exact(u.o3 _ _ _ _ _ _ _ B m).2
   .simp only[List.size_toArray,cE,c7,List.length_drop,Array.length_toList];omega
   .intro F' w' N H R i y E;have hco:∀j,g+n<=j->cs[j]?=some y->i=j->∃v,c[j]?=some v/\A4 w' F' (rho a G) (G s (some j)) y v:=by
     intro j hj hc hij;obtain⟨v,W,X⟩:=h5 j y hc;exact⟨v,W,X.kept N (fun k lo A=>H k (fun e=>by have:=(u.o3 _ _ _ _ _ _ _ (e▸A) h4).2;cases this)) R⟩
    rcases Nat.lt_or_ge i g with l|hge
    .rw[ci,List.getElem?_append_left (by simp;omega),List.getElem?_take,ae l]at E;obtain⟨v,W,X⟩:=h5 i y E;refine⟨v,?_,?_⟩
     .rw[List.getElem?_toArray,ci,List.getElem?_append_left (by simp;omega),List.getElem?_take,ae l,Array.getElem?_toList];exact W
     .simp only[zs,az (show¬(g<=i/\i<g+n)by omega)];exact X.kept N (fun k lo A=>H k (fun e=>by have:=(u.o3 _ _ _ _ _ _ _ (e▸A) h4).2;cases this)) R
    .rcases Nat.lt_or_ge i (g+n)with l|L
     .rw[ci,List.getElem?_append_right (by simp;omega),List.getElem?_append_left (by simp;omega)]at E;simp only[c7]at E;rw[Nat.min_eq_left (by omega)]at E;obtain⟨v,W,X⟩:=e3 (i-g) y E;refine⟨v,?_,?_⟩
      .rw[List.getElem?_toArray,ci,List.getElem?_append_right (by simp;omega),List.getElem?_append_left (by simp;omega)];simp only[c7,Array.length_toList];rw[Nat.min_eq_left (by omega),Array.getElem?_toList];exact W
      .simp only[zs,ae (show g<=i/\i<g+n by omega)];exact X.kept N (fun k lo A=>H k (fun e=>J (u.o3 _ _ _ _ _ _ _ (e▸A) h4).1)) R
     .rw[List.getElem?_append_right (by simp;omega)]at E;simp only[cE,c7]at E;rw[Nat.min_eq_left (by omega),V,List.getElem?_drop,show g+n+(i-(g+n))=i from by omega]at E;obtain⟨v,W,X⟩:=hco i L E rfl;refine⟨v,?_,?_⟩
      .rw[List.getElem?_toArray,List.getElem?_append_right (by simp;omega)];simp only[cE,c7,Array.length_toList];rw[Nat.min_eq_left (by omega),m,V,List.getElem?_drop,show g+n+(i-(g+n))=i from by omega,Array.getElem?_toList];exact W
      .simp only[zs,az (show¬(g<=i/\i<g+n)by omega)];exact X
   .intro x C;rcases List.mem_append.1 C with C|C
    .rcases List.mem_append.1 C with C|C
     .exact U x (List.mem_of_mem_take C)
     .exact hwq x C
    .exact U x (List.mem_of_mem_drop C)
   .intro k tx htx A;have hkl:k<cs.length:=by
     have:=(List.getElem?_eq_some_iff.1 A).1;simp only[cE,c7,List.length_drop]at this;omega
    rw [List.getElem?_toArray];rcases Nat.lt_or_ge k g with l|hge
    .rw[ci,List.getElem?_append_left (by simp;omega),List.getElem?_take_of_lt l]at A;refine .inr ⟨A,?_⟩;rw[ci,List.getElem?_append_left (by simp;omega),List.getElem?_take_of_lt l,Array.getElem?_toList]
    .rcases Nat.lt_or_ge k (g+n)with l|L
     .rw[ci,List.getElem?_append_right (by simp;omega),List.getElem?_append_left (by simp;omega)]at A;rw[Bool.or_eq_true]at D;rcases D with D|D
      .have:=List.all_eq_true.1 D _ (List.mem_of_getElem? A);simp[htx]at this
      .exact .inl (AB.noX_all D)
     .rw[List.getElem?_append_right (by simp;omega)]at A;simp only[cE,c7,List.getElem?_drop]at A;rw[Nat.min_eq_left (by omega),V,show g+n+(k-(g+n))=k from by omega]at A;refine .inr ⟨A,?_⟩;rw[List.getElem?_append_right (by simp;omega)];simp only[cE,c7,Array.length_toList,List.getElem?_drop];rw[Nat.min_eq_left (by omega),m,V,show g+n+(k-(g+n))=k from by omega,Array.getElem?_toList]
 .exact h.elim
def I8(a:Act)(w:World)(G:BH)(d:Nat)(Z:C3):BH:=fun p=>if p=d then Z 0 else if a.tmps.size+w.heap.size<=p then(fun i=>match i with|some j=>Z (p-a.tmps.size+1) (some j)|none=>none)else G p
variable{Z:C3}{p:Nat}
theorem Mi{a:Act}{w:World}{G:BH}{d:Nat}{b lo:Nat}(h:I8 a w G d Z p i=some (b,lo)):(p=d/\Z 0 i=some (b,lo))\/(p≠d/\a.tmps.size+w.heap.size<=p/\Z (p-a.tmps.size+1) i=some (b,lo))\/(p≠d/\¬a.tmps.size+w.heap.size<=p/\G p i=some (b,lo)):=by
 simp only[I8]at h
 grind
theorem AR.quiet2{w':World}(h:AR F0 w0 O a w G)(I:Below w.heap.size w w')(d:Nat)(hd:d<a.tmps.size)(e:EV)(v:Value)
  (Z:C3)(M:∀q i b lo,Z q i=some (b,lo)->w.heap.size<=b/\b<w'.heap.size)(C:H9 Z)
  (J:(∃cs,e=.bx cs)\/(∃n es,e=.xo n es)->O.jj d=true)
  (R:BO w w' (AS w0.heap.size F0 G) (AS w0.heap.size F0 (I8 a w G d Z))->AM (a.put (some d) v) w' (AS w0.heap.size F0 (I8 a w G d Z)) (I8 a w G d Z) ((d,e)::O) d e v)(V:e.WF):
  AR F0 w0 ((d,e)::O) (a.put (some d) v) w' (I8 a w G d Z):=by
 have U:BO w w' (AS w0.heap.size F0 G) (AS w0.heap.size F0 (I8 a w G d Z)):=by
  intro b o u hc hf;have hlt:b<w.heap.size:=World.block_lt_of_cell? w ⟨b,o,none⟩ hc;refine⟨by rw[I.cell (p:=⟨b,o,none⟩) hlt];exact hc,fun W=>hf ?_⟩;rcases W with h|⟨s,i,lo,T,h2⟩
  .exact .inl h
  .rcases Mi T with⟨_,e⟩|⟨_,_,e⟩|⟨_,_,e⟩
   .grind
   .grind
   .exact .inr ⟨s,i,lo,e,h2⟩
 have X:∀s,s<a.tmps.size->s≠d->I8 a w G d Z s=G s:=by
  grind [I8]
 refine ⟨?_,?_,h.below.go I,by rw[EM];exact h.defers,?_,?_,?_⟩
 .intro s i s' i' b lo lo' T h2;rcases Mi T with⟨e1,A⟩|⟨e1,e3,A⟩|⟨e1,e3,A⟩<;>rcases Mi h2 with⟨e2,B⟩|⟨e2,e4,B⟩|⟨e2,e4,B⟩
  .exact⟨by rw[e1,e2],(C _ _ _ _ _ _ _ A B).2⟩
  .have:=(C _ _ _ _ _ _ _ A B).1;omega
  .have:=(M _ _ _ _ A).1;have:=(h.lt _ _ _ _ B).1;omega
  .have:=(C _ _ _ _ _ _ _ A B).1;omega
  .obtain⟨g1,g2⟩:=C _ _ _ _ _ _ _ A B;exact⟨by omega,g2⟩
  .have:=(M _ _ _ _ A).1;have:=(h.lt _ _ _ _ B).1;omega
  .have:=(M _ _ _ _ B).1;have:=(h.lt _ _ _ _ A).1;omega
  .have:=(M _ _ _ _ B).1;have:=(h.lt _ _ _ _ A).1;omega
  .exact h.o3 _ _ _ _ _ _ _ A B
 .intro s i b lo T;rcases Mi T with⟨_,f⟩|⟨_,_,f⟩|⟨_,_,f⟩
  .have:=M _ _ _ _ f;exact⟨this.2,.inl (Nat.le_trans h.below.size this.1)⟩
  .have:=M _ _ _ _ f;exact⟨this.2,.inl (Nat.le_trans h.below.size this.1)⟩
  .have:=h.lt _ _ _ _ f;exact⟨Nat.lt_of_lt_of_le this.1 I.size,this.2⟩
 .intro s N;rw[BP]at N;rw[AB.ea,az (by omega)];exact h.dom s N
 .intro s N;rw[BP]at N;rw[AB.ea];by_cases H:d=s
  .subst H;rw[ae rfl,CN _ _ _ hd];exact R U
  .rw[az H,AT _ _ _ _ H];refine AM.kept' U (fun i=>by rw[X s N (fun e=>H e.symm)]) (fun i b lo X=>I.block b (h.lt s i b lo X).1) (fun i g lo j hg=>?_) (fun _=>A6.spot (h.Abg I)) (fun q i k D⟨p,E⟩=>?_) (fun q Y D⟨cs,m⟩=>?_) (fun q i D⟨p,E⟩=>?_) (h.slots s N)
   .have:=(h.lt _ _ _ _ hg).1;simp only[rho,BP,I8];rw[az (by omega),az (by omega)]
   .by_cases l:d=q
    .subst l;exact absurd D (AB.Abr d O (J (.inl (AB.AaV E))) s i k)
    .rw[AB.Aaq l]at E;exact⟨⟨p,E⟩,h.nh ⟨p,E⟩ (AT _ _ _ _ l) (fun j b _ L=>I.block b (h.lt _ _ _ _ L).1)⟩
   .rw[AB.ea]at m;by_cases l:d=q
    .subst l;rw[ae rfl]at m;exact absurd D (AB.Aa4 d O (J (.inl ⟨cs,m⟩)) s Y)
    .rw[az l]at m;exact⟨⟨cs,m⟩,AT _ _ _ _ l⟩
   .by_cases l:d=q
    .subst l;have hx:=AB.Aa5 d O (J (AB.Aa9 E)) s;rcases D with D|⟨c,D⟩
     .exact absurd D (hx.1 i)
     .exact absurd D (hx.2 i c)
    .rw[AB.Aap l]at E;exact⟨⟨p,E⟩,h.xv ⟨p,E⟩ (AT _ _ _ _ l) (fun b L=>I.block b (h.lt _ _ _ _ L).1)⟩
 .intro s;rw[AB.ea];split
  .exact V
  .exact h.wf s
theorem bX(B:AR F0 w0 O a w G)(hd:d<a.tmps.size)(m:o.dst=some d){xs:Array Operand}(C:o.op=.call {callee:=.value (.func f),args:=xs,argTypes:=ats})(D:BR xs.toList ys=true)(h:(AE.Aa1 f ys).wp (AN P) O (some d) K)
  {next:Act->World->Prop}(N:∀e env' a' w',K e env'->Oe a d a'->Bb F0 w0 ((d,e)::env') a' w'->next a' w'):o.wp P a w next Q:=by
 simp only[AE.wp]at h;cases l:vals O ys with
 |none=>rw[l]at h;exact h.elim|some ts=>
  rw [l]at h;simp only[AV]at h;obtain⟨cs,U,V⟩:=h;have hv:=Fr B D l;have A:(execOp a.eval o).run P w=(callFunc f (xs.map a.eval)).run P w:=by simp[execOp,C,resolve,Act.eval,Deferred.ofValue,invoke]
  obtain ⟨W,X⟩:=(U.to0 rfl) hv.2;obtain⟨M,Y⟩:=X (AS w0.heap.size F0 G) w (xs.map a.eval) (by simpa using hv.1);unfold Oper.wp;rw[A,EH W _,Oper.upon_enter];refine Y.mono ?_;rintro e w' ⟨v,rfl,hb,Z,⟨vs,rfl,r1,r2⟩,r3,r5,I⟩;simp only[m];refine N _ _ _ _ (V M) ⟨_,rfl⟩ ⟨_,B.quiet2 hb d hd (.oag cs) _ Z (fun q i b lo L=>⟨(I q i b lo L).2,(I q i b lo L).1⟩) r3 (by simp) (fun R=>?_) M⟩;simp only[AM];refine⟨vs,rfl,r1,fun i c E=>?_⟩;obtain⟨x,k1,k2,_⟩:=r2 i c E;refine⟨x,k1,?_⟩;have H:I8 a w G d Z d (some i)=Z 0 (some i):=by simp[I8]
  rw [H];refine(k2.kept (fun b o u E hf=>⟨E,fun k=>hf ?_⟩) (fun _ _ _=>rfl) A6.rfl').rho (fun g lo j T=>?_)
  .rcases k with k|⟨p,j,lo,e1,J⟩
   .exact .inl ⟨Nat.lt_of_lt_of_le k.1 B.below.size,.inl k⟩
   .rcases Mi e1 with⟨_,e⟩|⟨_,_,e⟩|⟨_,_,e⟩
    .exact .inr ⟨_,_,lo,e,J⟩
    .exact .inr ⟨_,_,lo,e,J⟩
    .exact .inl ⟨(B.lt _ _ _ _ e).1,.inr ⟨p,j,lo,e,J⟩⟩
  .have:=(I _ _ _ _ T).2;simp only[rho,BP,I8,C3.rho];rw[az (by omega),ae (by omega)];simp only[Nat.add_sub_cancel_left]
theorem Y6(N:AR F0 w0 O a w G)(hd:d<a.tmps.size)(l:o.dst=some d){xs:Array Operand}(C:o.op=.call {callee:=.value (.func f),args:=xs,argTypes:=ats})(D:BR xs.toList ys=true)(h:(AE.AaN f ys).wp (AN P) O (some d) K)
  {next:Act->World->Prop}(V:∀e env' a' w',K e env'->Oe a d a'->Bb F0 w0 ((d,e)::env') a' w'->next a' w'):o.wp P a w next Q:=by
 simp only[AE.wp]at h;cases k:vals O ys with
 |none=>rw[k]at h;exact h.elim|some ts=>
  rw [k]at h;simp only[AV]at h;obtain⟨cs,hS,R,hK⟩:=h;have hv:=Fr N D k;have u:(execOp a.eval o).run P w=(callFunc f (xs.map a.eval)).run P w:=by simp[execOp,C,resolve,Act.eval,Deferred.ofValue,invoke]
  obtain ⟨h2,h3⟩:=(hS.to0 rfl) hv.2;obtain⟨T,h5⟩:=h3 (AS w0.heap.size F0 G) w (xs.map a.eval) (by simpa using hv.1);unfold Oper.wp;rw[u,EH h2 _,Oper.upon_enter];refine h5.mono ?_;rintro e w' ⟨v,rfl,hb,Z,⟨vs,rfl,r1,r2⟩,r3,r5,U⟩;simp only[l]
  let B:C3:=fun q i=>(Z q i).map fun p=>(p.1,0)
  have I:∀{q i b lo},B q i=some (b,lo)->∃g,Z q i=some (b,g)/\lo=0:=by
   grind [Option.map_eq_some_iff]
  have X:(EV.oag (cs.map AQ.toX)).WF:=by
   intro c m;obtain⟨L,j,rfl⟩:=List.mem_map.1 m;obtain⟨n,es,e0,_⟩:=R L j;have:=T _ j;rw[e0]at this|-;exact this
  refine V _ _ _ _ (hK T) ⟨_,rfl⟩ ⟨_,N.quiet2 hb d hd (.oag (cs.map AQ.toX)) _ B (fun q i b lo A=>?_) (fun q i q' i' b lo g E H=>?_) (by simp) (fun W=>?_) X⟩
  .obtain⟨g,A,_⟩:=I A;exact⟨(U q i b g A).2,(U q i b g A).1⟩
  .obtain⟨_,E,_⟩:=I E;obtain⟨_,H,_⟩:=I H;exact r3 _ _ _ _ _ _ _ E H
  simp only[AM];refine⟨vs,rfl,by simpa using r1,fun i c m=>?_⟩;rw[List.getElem?_map]at m;simp only[Option.map_eq_some_iff]at m;obtain⟨L,j,rfl⟩:=m;obtain⟨n,es,rfl,M⟩:=R L (List.mem_of_getElem? j);obtain⟨x,k1,k2,_⟩:=r2 i _ j;refine⟨x,k1,?_⟩;have J:I8 a w G d B d (some i)=B 0 (some i):=by simp[I8]
  rw [J];have Y:Be w' _ (Z 0 (some i)) (.list n es) x:=k2;obtain⟨us,m1,m2,m3,m4⟩:=Y;exact⟨us,⟨_,m1,rfl⟩,Gw _ (K6 _ M) _ m2,m3,m4⟩
def Wg(P:Program)(t:TypeId):Bool:=match P.underlying t with|some (.slice _)=>true|_=>false
theorem fQ(h:P3 x=true):x=.const (.slice none 0 0):=by
 cases x<;>simp[P3]at h
 grind [Ig]
variable{t':TypeId}
theorem WH(B:AR F0 w0 O a w G)(hd:d<a.tmps.size){x z:Operand}(k:o.op=.binOp .eql t x z t')(C:P3 z=true)(l:Wg P t=true){j:Option Addr}{n cap:Nat}(m:a.eval x=.slice j n cap)(h:K (.tv (.bool j.isNone)) O):As P F0 w0 a w o d K:=by
 have u:=fQ C;subst u;unfold Wg at l;split at l
 .rename_i e D;refine CI B hd (v:=.bool j.isNone) (t:=.bool j.isNone) ?_ rfl trivial h;have he:∀d,(Op.equalIn (d+1) t (.slice j n cap) (.slice none 0 0)).run P w=.ok j.isNone w:=by
   intro d;cases j<;>simp[Op.equalIn,run_underlying D]
  have A:(Op.equalIn 10000 t (.slice j n cap) (.slice none 0 0)).run P w=.ok j.isNone w:=he 9999;have H:(eqGuard .eql t x (.const (.slice none 0 0)) (.slice j n cap) (.slice none 0 0)).run P w=.ok () w:=by
   simp [eqGuard]
  have I:(binOp .eql t (.slice j n cap) (.slice none 0 0)).run P w=.ok (.bool j.isNone) w:=by
   have e:(binOp .eql t (.slice j n cap) (.slice none 0 0)).run P w=((Op.equalIn 10000 t (.slice j n cap) (.slice none 0 0)).run P w).andThen fun b w'=>.ok (.bool b) w':=by
    simp only[binOp];simp[Op.equal,Op.maxDepth]
   rw [e,A];rfl
  have J:a.eval (.const (.slice none 0 0))=.slice none 0 0:=rfl;have L:∀(g b:Sem Unit)(r:Sem Value),g.run P w=.ok () w->r.run P w=.ok (.bool j.isNone) w->(do let r <-(do g;r:Sem Value);pure (Next.value r):Sem Next).run P w=.ok (.value (.bool j.isNone)) w:=by
   intro g b r m E;simp[m,E]
  simp only[execOp,k,m,J];exact L _ (pure ()) _ H I
 .cases l
theorem g6(k:AR F0 w0 O a w G)(hd:d<a.tmps.size){x z:Operand}(g:o.op=.binOp .eql t x z t')(j:AI x y=true)(m:P3 z=true)(u:Wg P t=true)(h:(AE.isn y).wp S O (some d) K):As P F0 w0 a w o d K:=by
 simp only[AE.wp]at h;split at h
 .rename_i n es l;have hv:=(Ar k j l).1;simp only[AY]at hv;obtain⟨D,cap,B,E,C,H⟩:=hv;exact WH k hd g m u B (h _ fun A=>C (by simpa using A))
 .rename_i l;have hv:=(Ar k j l).1;simp only[AY]at hv;exact WH k hd g m u hv h
 .exact h.elim
end
end Go.Sf
namespace Go.Sf
open Go.RowKit (Below)
section
variable{P:Program}{S:FuncId->Fq->Aq->Prop}{F0:Nat->Nat->Prop}{w0:W0}{O:AB}{a:Act}{w:World}{G:BH}{d:Nat}{o:Oper}{K:EV->AB->Prop}
variable{x:Operand}{y:AF}{t:TypeId}
theorem g7(A:AR F0 w0 O a w G)(hd:d<a.tmps.size)(B:o.op=.load t x)(C:AI x y=true)(L:Bm P t=some false)(h:(AE.lac y).wp S O (some d) K):As P F0 w0 a w o d K:=by
 simp [AE.wp]at h;split at h
 .rename_i s g j;have N:y.place O=some (s,g):=by
   cases y with
   |c t=>simp[AF.ev]at j|s n=>simp[AF.ev]at j;simp[AF.place,j]
  split at h
  .rename_i p M;obtain⟨n,es⟩:=p;obtain⟨cs,I,R⟩:=AB.x5 M;obtain⟨b,m,u⟩:=GN A C N I;have H:=AW A I (by simp);simp only[AM]at H;obtain⟨V,c,T,D,J,W,X,U⟩:=H;rw[m]at D;simp at D;subst D;obtain⟨v,hv,Y⟩:=U g _ R;have k:w.cell? ⟨b,g,none⟩=some v:=by rw[cell_of_row w b g c T (0,0) J];exact hv
   refine ⟨v,w,by simp[execOp,B,u,Instr.loadAt,Instr.sureAddr,loadVar,CM L,k],_,_,h,_,A.quiet (Below.refl _ _) d hd (.la s (some g)) _ (fun _=>none) (by simp) (by simp) (by simp) ?_ trivial⟩;simp only[AM];rintro⟨pp,E⟩;have l:=AB.x9 (by simp) (by simp) E;exact A.xv ⟨_,l.2⟩ (AT _ _ _ _ l.1) (fun _ _=>rfl) _ ⟨b,c,T,m,J,hv⟩
  .exact h.elim
 .exact h.elim
theorem gq(A:AR F0 w0 O a w G)(hd:d<a.tmps.size)(C:o.op=.load t x)(D:AI x y=true)(R:Bm P t=some false)(h:(AE.ctk y).wp S O (some d) K):As P F0 w0 a w o d K:=by
 simp [AE.wp]at h;split at h
 .rename_i Y s j E U;simp at E;subst E;split at h
  .rename_i cs B;split at h
   .rename_i n es H;obtain⟨m,J⟩:=h;obtain⟨b,k,l⟩:=GN A D U B;have I:=AW A B (by simp);simp only[AM]at I;obtain⟨V,c,T,u,L,W,X,M⟩:=I;rw[k]at u;simp at u;subst u;obtain⟨y,N,_⟩:=M j _ H;have g:w.cell? ⟨b,j,none⟩=some y:=by rw[cell_of_row w b j c T (0,0) L];exact N
    exact ⟨y,w,by simp[execOp,C,l,Instr.loadAt,Instr.sureAddr,loadVar,CM R,g],_,_,J,A.Aa8 B H hd k g (.inr (.inl ⟨n,es,rfl,rfl,rfl,m⟩))⟩
   .rename_i es H;obtain⟨m,J⟩:=h;obtain⟨b,k,l⟩:=GN A D U B;have I:=AW A B (by simp);simp only[AM]at I;obtain⟨V,c,T,u,L,W,X,M⟩:=I;rw[k]at u;simp at u;subst u;obtain⟨y,N,_⟩:=M j _ H;have g:w.cell? ⟨b,j,none⟩=some y:=by rw[cell_of_row w b j c T (0,0) L];exact N
    exact ⟨y,w,by simp[execOp,C,l,Instr.loadAt,Instr.sureAddr,loadVar,CM R,g],_,_,J,A.Aa8 B H hd k g (.inr (.inr ⟨es,rfl,rfl,rfl,m⟩))⟩
   .exact h.elim
  .exact h.elim
 .exact h.elim
variable{q:Nat}
theorem gm(m:AR F0 w0 O a w G){x v:Operand}{x':AF}(hop:o.op=.store t x v)(hx:AI x x'=true)(hv:AI v (.s q)=true)(hn:CX P t=some 1)(h:(AE.cpt x' q).wp S O none K):Gl P F0 w0 a w o K:=by
 simp [AE.wp]at h
 suffices key:∀(X:TV)(s g:Nat),x'.place O=some (s,g)->O.get q≠.undef->(∀cs,O.get q≠.bx cs)->Dx w (AS w0.heap.size F0 G) (rho a G) (G q none) X (slot a q)->X.WF->∀cs,O.get s=.bx cs->O.noX s (some g)=true->g<cs.length->K .undef ((s,.bx (cs.set g ⟨true,X⟩))::(q,.undef)::O)->Gl P F0 w0 a w o K by
  split at h
  .rename_i s g n es U I;split at h
   .rename_i cs J;have l:=AW m I (by simp);have u:=m.wf q;rw[I]at u;exact key (.xl n es) s g U (by rw[I];simp) (by rw[I];simp) l u cs J h.1 h.2.1 h.2.2
   .exact h.elim
  .rename_i s g es U I;split at h
   .rename_i cs J;have l:=AW m I (by simp);have u:=m.wf q;rw[I]at u;exact key (.xn es) s g U (by rw[I];simp) (by rw[I];simp) l u cs J h.1 h.2.1 h.2.2
   .exact h.elim
  .exact h.elim
 intro X s g U hqu hqb l u cs J hno Y hK;obtain⟨b,hsl,hadr⟩:=GN m hx U J;have hr:=AW m J (by simp);simp only[AM]at hr;obtain⟨W,c,T,h1,h2,h3,h4,h5⟩:=hr;rw[hsl]at h1;simp at h1;subst h1;have hw:=m.wf s;rw[J]at hw;have C:q≠s:=fun e=>hqb cs (by rw[e];exact J);have hvq:v=.tmp q:=by
  cases v<;>simp[AI]at hv;rw[hv]
 subst hvq;have N:(slot a q).oneCell'=true:=Mw l;have D:(a.eval (.tmp q)).cells.toList=[slot a q]:=by
  have:a.eval (.tmp q)=slot a q:=rfl;rw[this,Nl N]
 have hst:(execOp a.eval o).run P w=.ok .skip (w.setRow b (c.toList.take g++[slot a q]++c.toList.drop (g+1)).toArray):=by
  have E:=run_storeCells_at P b g T [slot a q] 0 c w h2 (by simp;omega) (by simpa using N);simp only[Nat.add_zero]at E;have hsz:(a.eval (.tmp q)).cells.size=1:=by rw[<-Array.length_toList,D];rfl
  simp at E;simp[execOp,hop,hadr,Instr.storeAt,Instr.sureAddr,storeVar,Bp hn,hsz,D,E]
 let zs:Option Nat->Option (Nat×Nat):=fun i=>match i with|none=>some (b,0)|some j=>if j=g then G q none else G s (some j)
 refine Exists.elim (m.AbS J hsl h2 (cs':=cs.set g ⟨true,X⟩) (c':=(c.toList.take g++[slot a q]++c.toList.drop (g+1)).toArray) (q:=some q) (by simpa using C) (fun p U=>by cases U;exact m.lts hqu) (zs:=zs) rfl ?_ ?_ ?_ ?_ ?_ ?_) (fun G' h'=>⟨_,hst,_,hK,G',h'.1⟩)
 .intro i W lo hi hz;cases i with
  |none=>exact absurd rfl hi|some j=>
   simp [zs]at hz;split at hz
   .exact .inr ⟨q,rfl,none,hz⟩
   .exact .inl hz
 .intro i i' W lo R A B;have zn:∀j W lo R,zs (some j)=some (W,lo)->zs none=some (W,R)->False:=by
   intro j W lo R A B;simp[zs]at B;obtain⟨rfl,_⟩:=B;simp[zs]at A;split at A
   .exact C (m.o3 _ _ _ _ _ _ _ A h4).1
   .have:=(m.o3 _ _ _ _ _ _ _ A h4).2;cases this
  cases i with
  |none=>cases i' with
   |none=>rfl|some j=>exact(zn j _ _ _ B A).elim
  |some j=>cases i' with
   |none=>exact(zn j _ _ _ A B).elim|some j'=>
    simp [zs]at A B;split at A<;>split at B
    .rename_i e3 e4;rw[e3,e4]
    .exact absurd (m.o3 _ _ _ _ _ _ _ A B).1 C
    .exact absurd (m.o3 _ _ _ _ _ _ _ B A).1 C
    .exact(m.o3 _ _ _ _ _ _ _ A B).2
 .simp;omega
 .intro F' w' hag M hrs i y H;rw[List.getElem?_set]at H;by_cases hi:g=i
  .subst hi;rw[ae rfl,ae Y]at H;simp at H;subst H;refine⟨slot a q,?_,?_⟩
   .rw[List.getElem?_toArray,ci,List.getElem?_append_right (by simp;omega)];simp;rw[Nat.min_eq_left (by omega),Nat.sub_self];rfl
   .simp[A4,zs];exact l.kept hag (fun k lo L=>M k (fun e=>C (m.o3 _ _ _ _ _ _ _ (e▸L) h4).1)) hrs
  .rw[az hi]at H;obtain⟨vv,A,B⟩:=h5 i y H;refine⟨vv,?_,?_⟩
   .rw[List.getElem?_toArray];rcases Nat.lt_or_ge i g with V|hge
    .rw[ci,List.getElem?_append_left (by simp;omega),List.getElem?_take_of_lt V];simpa using A
    .rw[List.getElem?_append_right (by simp;omega)];simp only[cE,c7,Array.length_toList,List.length_singleton];rw[Nat.min_eq_left (by omega),List.getElem?_drop,show g+1+(i-(g+1))=i from by omega];simpa using A
   .have hi':¬i=g:=fun e=>hi e.symm;simp[zs];rw[az hi'];exact B.kept hag (fun k lo L=>M k (fun e=>by have:=(m.o3 _ _ _ _ _ _ _ (e▸L) h4).2;cases this)) hrs
 .intro y H;rcases List.mem_or_eq_of_mem_set H with H|rfl
  .exact hw y H
  .exact u
 .intro k tx htx L;rw[List.getElem?_set]at L;by_cases hi:g=k
  .subst hi;exact .inl hno
  .rw[az hi]at L;refine .inr ⟨L,?_⟩;have hkc:k<c.size:=by
    have:=(List.getElem?_eq_some_iff.1 L).1;omega
   rw [List.getElem?_toArray];rcases Nat.lt_or_ge k g with V|hge
   .rw[ci,List.getElem?_append_left (by simp;omega),List.getElem?_take_of_lt V,Array.getElem?_toList]
   .rw[List.getElem?_append_right (by simp;omega)];simp only[cE,c7,Array.length_toList,List.length_singleton];rw[Nat.min_eq_left (by omega),List.getElem?_drop,show g+1+(k-(g+1))=k from by omega,Array.getElem?_toList]
variable{s n:Nat}
theorem gu(B:AR F0 w0 O a w G)(hd:d<a.tmps.size){hi:Operand}{E:AF}(hop:o.op=.slice t (.tmp s) none (some hi) none)(hh:AI hi E=true)(D:IB P t=some n)(h:(AE.cut n s E).wp S O (some d) K):As P F0 w0 a w o d K:=by
 simp [AE.wp]at h;split at h
 .rename_i d' m es k hb L hs hv;simp at L;subst L;obtain⟨⟨hm,W,X⟩,h0,h2,hK⟩:=h;subst hm;have hr:=AW B hs (by simp);have hw:=B.wf s;rw[hs]at hw;simp[AM]at hr;obtain⟨xs,⟨z0,k1,k2⟩,k3,k4,k5⟩:=hr;have b2:=(Ar B hh hv).1;simp[AY]at b2;unfold IB at D;split at D
  .rename_i e hu;obtain⟨j,rfl⟩:∃j:Nat,hb=j:=⟨hb.toNat,by omega⟩;simp at hK;have T:j<=es.length:=by omega
   have hlx:=k1.1;have key:∀(Y:Option Addr)(cap:Nat),slot a s=.slice Y es.length cap->es.length<=cap->(execOp a.eval o).run P w=.ok (.value (.slice (if cap=0 then Y else Y.map (·.add (0*m))) (j-0) (cap-0))) w:=by
    intro Y cap M N;have U:=RJ (P:=P) (w:=w) (isS:=true) (lo:=none) (hi:=some (a.eval hi)) (l:=0) (h:=(j:Int)) (len:=es.length) (cap:=cap) (by omega) (by omega) h2 N (.inl ⟨rfl,rfl⟩) (.inr ⟨k,by rw[b2]⟩);simp[execOp,hop,Instr.sliceAt,Instr.slice,run_underlying hu,show a.eval (.tmp s)=slot a s from rfl,M,U,Bp D]
   have A:∀F' C env'(a':Act)(v:Value),BO w w (AS w0.heap.size F0 G) F'->C d none=G s none->Ip w m v (es.take j).length (xs.take (j*m)) (G s none)->AM a' w F' C env' d (.xo m (es.take j)) v:=by
    intro F' C env' a' v u J H;simp only[AM];rw[J];refine⟨xs.take (j*m),H,?_,fun e he=>k4 e (List.mem_of_mem_take he),fun x H=>k5 x (List.mem_of_mem_take H)⟩;have hfl:∀(l:Fq)(j:Nat),(∀e∈l,e.cells.length=m)->(l.take j).flatMap TV.cells=(l.flatMap TV.cells).take (j*m):=by
     intro l
     induction l with
     |nil=>intro j _;simp|cons e l ih=>
      intro j R;cases j with
      |zero=>simp|succ j=>
       rw [List.take_succ_cons,List.flatMap_cons,List.flatMap_cons,ih j (fun x H=>R x (by simp[H])),List.take_append,R e (by simp)];have h1:(j+1)*m=m+j*m:=by rw[Nat.add_mul];omega
       have h2:e.cells.take (m+j*m)=e.cells:=List.take_of_length_le (by rw[R e (by simp)];omega);rw[h1,h2,show m+j*m-m=j*m from by omega]
    grind [BM,Ag,c7]
   have V:(EV.xo m (es.take j)).WF:=by
    simp only[EV.WF,TV.WF]at hw|-;refine⟨by simp;omega,?_⟩;rw[BZ]at hw|-;exact fun t D=>hw.2 t (List.mem_of_mem_take D)
   have hjm:j*m<=es.length*m:=Nat.mul_le_mul_right _ T;rcases k1.2 with⟨M,N,e3⟩|⟨g,cap,cur,ty,M,N,e3,e4,e5,e6,e7⟩
   .have hes:es=[]:=List.eq_nil_of_length_eq_zero N;subst hes;have hj:j=0:=by simpa using T
    subst hj;refine⟨_,w,key none 0 (by simpa using M) (by simp),_,_,hK,B.xgo hs hd X (z':=G s none) rfl rfl rfl (bk _) (fun _ _ _=>rfl) (fun b lo I=>⟨(B.lt _ _ _ _ I).1,.inr ⟨lo,I⟩⟩) (by simp) (fun _=>W) (fun F' C env' a' u J _=>A F' C env' a' _ u J ?_) V⟩;refine⟨none,⟨by simp,.inl ⟨by simp,by simp,rfl⟩⟩,?_⟩;rw[k2,e3]
   .refine⟨_,w,key _ _ M e3,_,_,hK,B.xgo hs hd X (z':=G s none) rfl rfl rfl (bk _) (fun _ _ _=>rfl) (fun b lo I=>⟨(B.lt _ _ _ _ I).1,.inr ⟨lo,I⟩⟩) (by simp) (fun _=>W) (fun F' C env' a' u J _=>A F' C env' a' _ u J ?_) V⟩;have R:(es.take j).length=j:=by rw[c7];omega
    rw [R];refine⟨some (g,j*m),⟨by rw[c7,hlx];omega,.inr ⟨g,cap,cur,ty,?_,N,by omega,e4,e5,?_,rfl⟩⟩,?_⟩
    .simp only[Nat.zero_mul,Nat.sub_zero,Option.map_some,Addr.add_zero'];split<;>rfl
    .rw[<-e6,List.take_take,Nat.min_eq_left hjm]
    .rw[k2,e7];rfl
  .cases D
 .exact h.elim
variable{v:Value}
theorem WR{F:Nat->Nat->Prop}{es:Fq}{xs:List Value}{z:Option (Nat×Nat)}(h:Ip w n v es.length xs z)(g:AO w F (es.flatMap TV.cells) xs)(j:∀e∈es,e.cells.length=n)(k:∀x∈xs,x.oneCell'=true):AY w (fun _ _=>False) (.list n es) v:=by
 obtain ⟨z0,m,_⟩:=h;refine Be.rep (z:=z0) ?_ (fun _ _ _ _ _ h=>h);simp[Be];exact⟨xs,m,Ag (fun b o u l _=>⟨l,fun h=>h⟩) _ _ g,j,k⟩
theorem VF{F:Nat->Nat->Prop}:BO w w F (fun _ _=>False):=fun _ _ _ g _=>⟨g,fun h=>h⟩
variable{c:AQ}
theorem kL(h:c.t.WF):c.Abx.WF:=by
 obtain ⟨_|_,t⟩:=c
 .exact h
 .cases t<;>exact h
variable{i:Option Nat}
theorem fW(j:AR F0 w0 O a w G){ρ:G7}{x:Value}(h:A4 w (AS w0.heap.size F0 G) ρ (G s i) c x):AY w (fun _ _=>False) c.Abx x:=by
 by_cases g:∃n es,c=⟨true,.xl n es⟩
 .obtain⟨n,es,rfl⟩:=g;simp[A4,Dx]at h;obtain⟨xs,k,l,m,u⟩:=h;exact WR k l m u
 .have:c.Abx=c.t:=by
   obtain ⟨_|_,t⟩:=c
   .rfl
   .cases t<;>first|rfl|exact absurd ⟨_,_,rfl⟩ g
  rw [this];exact Bv VF _ _ (TM j h)
variable{b:Nat}
theorem Xh(u:AR F0 w0 O a w G){cs:List AQ}(B:O.get s=.bx cs)(l:slot a s=.pointer (some ⟨b,0,none⟩))(g:Nat):Co w (fun _ _=>False) ((cs.drop g).map AQ.Abx) b g:=by
 have k:=AW u B (by simp);simp only[AM]at k;obtain⟨H,c,T,m,C,I,J,D⟩:=k;rw[l]at m;simp at m;subst m;rw[Hk];intro i t A;simp[List.getElem?_map,List.getElem?_drop]at A;obtain⟨cell,j,rfl⟩:=A;obtain⟨x,E,k⟩:=D _ cell j;exact⟨x,by rw[cell_of_row w b (g+i) c T (0,0) C];exact E,fun h=>h,F8 k,fW u k⟩
theorem Xi{cs:List AQ}(h:∀c∈cs,c.t.WF):TV.x6 (cs.map AQ.Abx):=by grind[BZ,kL]
theorem fY(j:AR F0 w0 O a w G)(g:AI x y=true){t:TV}(h:y.AbH O=some t):AY w (fun _ _=>False) t (a.eval x)/\t.WF:=by
 unfold AF.AbH at h;split at h
 .rename_i p H;simp at h;subst h;obtain⟨A,D⟩:=Mh j g H
  grind [M5,WR]
 .have C:∀e,y.ev O=e->(∀t,e≠.tv t)->∃n,y=.s n/\x=.tmp n/\O.get n=e:=by
   intro e he B;cases y with
   |c t=>exact absurd he.symm (B t)|s n=>
    cases x<;>simp[AI]at g;subst g;exact⟨_,rfl,rfl,he⟩
  split at h
  .rename_i cs he;simp at h;subst h;obtain⟨n,rfl,rfl,k⟩:=C _ he (by simp);have m:=AW j k (by simp);have u:=j.wf n;rw[k]at u;simp only[AM]at m;obtain⟨b,c,T,A,_⟩:=m;refine⟨?_,Xi u⟩;simp[AY];exact⟨b,0,A,by simpa using Xh j k A 0⟩
  .rename_i q l he;split at h
   .rename_i cs k;simp only[x4]at h;subst h;obtain⟨n,rfl,rfl,I⟩:=C _ he (by simp);have m:=AW j I (by simp);simp only[AM]at m;obtain⟨b,A,D⟩:=m ⟨cs,k⟩;have u:=j.wf q;rw[k]at u;refine⟨?_,Xi (fun c E=>u c (List.mem_of_mem_drop E))⟩;simp only[AY];exact⟨b,l,D,Xh j k A l⟩
   .cases h
  .have:=Ar j g (t:=t) h;exact⟨Bv VF _ _ this.1,this.2⟩
theorem Vv(j:AR F0 w0 O a w G):∀{xs:List Operand}{ys:List AF},BR xs ys=true->∀{ts:Fq},Aas O ys=some ts->AO w (fun _ _=>False) ts (xs.map a.eval)/\TV.x6 ts
 |[],[],_,ts,hv=>by simp[Aas]at hv;subst hv;exact⟨rfl,trivial⟩|[],_::_,g,_,_=>by simp[BR]at g|_::_,[],g,_,_=>by simp[BR]at g|x::xs,y::ys,g,ts,hv=>by
  simp [BR]at g;simp[Aas]at hv;split at hv
  .rename_i t m u h;simp at hv;subst hv;have k:=fY j g.1 u;have l:=Vv j g.2 h;exact⟨⟨_,_,rfl,k.1,l.1⟩,k.2,l.2⟩
  .cases hv
variable{r:Aq}
theorem da{w':World}{F F':Nat->Nat->Prop}{base:Nat}(g:r.AbC=true)(h:FN w' F base r v):FN w' F' base r v:=by
 cases r with
 |sh t=>exact Td t g v h|tp ts=>obtain⟨vs,k,j⟩:=h;exact⟨vs,k,Gw ts g _ j⟩
 |own t=>
  obtain ⟨z,k,j⟩:=h;refine⟨z,?_,j⟩;cases t<;>simp[Aq.AbC]at g
  grind [Be,Gw,K6]
 |_=>simp[Aq.AbC]at g
theorem S6(h:r.AbC=true):r.plain=true:=by
 cases r<;>first|rfl|(simp[Aq.AbC]at h)
variable{f:FuncId}{ys:List AF}{ats:Array TypeId}{Q:Exit->Act->World->Prop}
theorem bY(B:AR F0 w0 O a w G)(hd:d<a.tmps.size)(j:o.dst=some d){xs:Array Operand}(l:o.op=.call {callee:=.value (.func f),args:=xs,argTypes:=ats})(m:BR xs.toList ys=true)(h:(AE.AaI f ys).wp (AN P) O (some d) K)
  {next:Act->World->Prop}(D:∀e env' a' w',K e env'->Oe a d a'->Bb F0 w0 ((d,e)::env') a' w'->next a' w'):o.wp P a w next Q:=by
 simp [AE.wp]at h;cases g:Aas O ys with
 |none=>rw[g]at h;exact h.elim|some ts=>
  rw [g]at h;simp[AV]at h;obtain⟨r,⟨E,u⟩,H⟩:=h;have hv:=Vv B m g;have k:(execOp a.eval o).run P w=(callFunc f (xs.map a.eval)).run P w:=by simp[execOp,l,resolve,Act.eval,Deferred.ofValue,invoke]
  obtain ⟨I,A⟩:=(E.to0 (S6 u)) hv.2;obtain⟨C,A⟩:=A (fun _ _=>False) w (xs.map a.eval) (by simpa using hv.1);unfold Oper.wp;rw[k,EH I _,Oper.upon_enter];refine A.mono ?_;rintro e w' ⟨v,rfl,J,L⟩;simp[j];exact D _ _ _ _ (H C) ⟨_,rfl⟩ (B.called hd J (S6 u) (da u L) C)
theorem K5:∀{g:List (Option AQ)}{ts:Fq}{cs:List AQ},DK g ts=some cs->cs.length=ts.length/\∀(i:Nat)(c:AQ),cs[i]?=some c->∃t,ts[i]?=some t/\(c=⟨false,t⟩\/(t=.nil/\∃n,c=⟨true,.list n []⟩\/c=⟨true,.xl n []⟩\/c=⟨true,.xn []⟩))
 |[],[],cs,h=>by simp[DK]at h;subst h;simp|[],_::_,cs,h=>by simp[DK]at h|none::g,[],cs,h=>by simp[DK]at h|some _::g,[],cs,h=>by simp[DK]at h|none::g,t::ts,cs,h=>by
  simp [DK]at h;split at h
  .rename_i cs' k;simp at h;subst h;obtain⟨l,m⟩:=K5 k
   grind
  .cases h
 |some A::g,t::ts,cs,h=>by
  cases t<;>simp[DK]at h<;>try cases h
  have key:∃cs' j,DK g ts=some cs'/\cs=j::cs'/\∃n,j=⟨true,.list n []⟩\/j=⟨true,.xl n []⟩\/j=⟨true,.xn []⟩:=by
   grind
  obtain ⟨cs',j,k,rfl,u⟩:=key;obtain⟨l,m⟩:=K5 k
  grind
theorem eC(H:AR F0 w0 O a w G)(hd:d<a.tmps.size){I:List (Option AQ)}(k:o.op=.box t x)(l:AI x y=true)(h:(AE.Abt I y).wp S O (some d) K):As P F0 w0 a w o d K:=by
 simp [AE.wp]at h;split at h
 .rename_i u Y hv j;simp at j;subst j;cases A:DK I u.cells with
  |none=>rw[A]at h;exact h.elim|some cs=>
   rw [A]at h;simp[AV]at h;obtain⟨C,V⟩:=h;obtain⟨W,D⟩:=K5 A;have N:=Ar H l hv;have B:=Fu N.1;have R:=A5 B.1;refine⟨_,_,by simp[execOp,k,Instr.box,newVar,newRow],_,_,V,H.box hd C (c:=(a.eval x).cells) (T:=t) (by rw[W];simpa using R) (fun F' m i c J=>?_) (fun c J=>?_)⟩
   .obtain⟨X,M,E⟩:=D i c J;have U:i<u.cells.length:=(List.getElem?_eq_some_iff.1 M).1;have L:(a.eval x).cells.toList[i]?=some ((a.eval x).cells.toList[i]'(by omega)):=List.getElem?_eq_getElem (by omega);have g:=((BM _ _).1 B.1).2 i X _ M L;refine⟨(a.eval x).cells.toList[i]'(by omega),by rw[<-Array.getElem?_toList];exact L,?_⟩;rcases E with rfl|⟨rfl,n,rfl|rfl|rfl⟩
    .exact⟨Bv m _ _ g,B.2 _ (List.getElem_mem _)⟩
    .simp[AY]at g;simp only[A4,Dx,Be];exact⟨[],⟨by simp,.inl ⟨g,rfl,rfl⟩⟩,rfl,by simp,by simp⟩
    .simp[AY]at g;simp only[A4,Dx];exact⟨[],⟨none,⟨by simp,.inl ⟨g,rfl,rfl⟩⟩,rfl⟩,rfl,by simp,by simp⟩
    .simp[AY]at g;simp[A4,Dx];exact⟨[],⟨none,⟨by simp,.inl ⟨g,rfl,rfl⟩⟩,rfl⟩,by simp,by simp⟩
   grind [List.getElem?_of_mem,BZ,G3,List.mem_of_getElem?,TV.WF,TV.x6]
 .exact h.elim
theorem VV(k:AR F0 w0 O a w G):∀{i:Nat}{xs:List Operand}{ys:List AF},BR xs ys=true->∀{ts:Fq},G5 O i ys=some ts->(∀x,xs[i]?=some x->(a.eval x).oneCell'=true)->AO w (AS w0.heap.size F0 G) ts (xs.map a.eval)/\TV.x6 ts
 |i,[],[],_,ts,hv,_=>by cases i<;>simp[G5]at hv<;>subst hv<;>exact⟨rfl,trivial⟩
 |_,[],_::_,g,_,_,_=>by simp[BR]at g|_,_::_,[],g,_,_,_=>by simp[BR]at g|0,x::xs,y::ys,g,ts,hv,ho=>by
  simp [BR]at g;simp[G5]at hv;split at hv
  .rename_i l h;simp at hv;subst hv;have j:=Fr k g.2 h;exact⟨⟨_,_,rfl,by simp[AY];exact ho x rfl,j.1⟩,trivial,j.2⟩
  .cases hv
 |i+1,x::xs,y::ys,g,ts,hv,ho=>by
  simp [BR]at g;simp[G5]at hv;split at hv
  .rename_i t l A h;simp at hv;subst hv;have m:=Ar k g.1 A;have j:=VV k g.2 h (fun x u=>ho x (by simpa using u));exact⟨⟨_,_,rfl,m.1,j.1⟩,m.2,j.2⟩
  .cases hv
noncomputable def Ba(a:Act)(G:BH)(s:Nat):C3:=open Classical in fun q i=>if q=0 then G s i else if∃k lo,G s k=some (q-1,lo)then(match i with|some j=>G (a.tmps.size+(q-1)) (some j)|none=>none)else none
theorem SX{a:Act}{G:BH}{b lo:Nat}(h:Ba a G s q i=some (b,lo)):(q=0/\G s i=some (b,lo))\/(q≠0/\(∃k g,G s k=some (q-1,g))/\G (a.tmps.size+(q-1)) i=some (b,lo)):=by
 simp [Ba]at h;split at h
 .grind
 .rename_i e;split at h
  .grind
  .cases h
theorem Cr{a:Act}{G:BH}:Ba a G s 0=G s:=by
 funext i;simp[Ba]
theorem M7{a:Act}{G:BH}{s g lo:Nat}{k:Option Nat}(h:G s k=some (g,lo))(j:Nat):(Ba a G s).rho g j=rho a G g j:=by
 simp only[C3.rho,Ba,rho];rw[az (by omega),ae ⟨k,lo,by simpa using h⟩];rfl
theorem Io(h:AR F0 w0 O a w G)(B:s<a.tmps.size):H9 (Ba a G s):=by
 intro q i C D b lo m u A;rcases SX u with⟨k,g⟩|⟨k,_,g⟩<;>rcases SX A with⟨l,j⟩|⟨l,_,j⟩
 .exact⟨by rw[k,l],(h.o3 _ _ _ _ _ _ _ g j).2⟩
 .have:=(h.o3 _ _ _ _ _ _ _ g j).1;omega
 .have:=(h.o3 _ _ _ _ _ _ _ g j).1;omega
 .have:=h.o3 _ _ _ _ _ _ _ g j
  grind
theorem CD{b lo:Nat}(l:Ba a G s q i=some (b,lo)):∃p j,G p j=some (b,lo)/\(p=s\/∃g k h,p=a.tmps.size+g/\G s k=some (g,h)):=by grind[SX]
noncomputable def B6(a:Act)(G:BH)(s d:Nat)(Z:C3):BH:=open Classical in fun p=>if p=d then Z 0 else if p=s then fun _=>none else
 if a.tmps.size<=p/\∃k lo,Z 0 k=some (p-a.tmps.size,lo)then(fun i=>match i with|some j=>Z (p-a.tmps.size+1) (some j)|none=>none)else
 if a.tmps.size<=p/\∃k lo,G s k=some (p-a.tmps.size,lo)then fun _=>none else G p
variable{Z:C3}{p:Nat}
theorem NS{a:Act}{G:BH}{s d:Nat}{b lo:Nat}(h:B6 a G s d Z p i=some (b,lo)):
  (p=d/\Z 0 i=some (b,lo))\/(p≠d/\a.tmps.size<=p/\Z (p-a.tmps.size+1) i=some (b,lo))\/(p≠d/\p≠s/\¬(a.tmps.size<=p/\∃k lo,G s k=some (p-a.tmps.size,lo))/\G p i=some (b,lo)):=by
 simp [B6]at h;split at h
 .rename_i e;exact .inl ⟨e,h⟩
 .rename_i e;split at h
  .cases h
  .rename_i g;split at h
   .rename_i l;cases i with
    |none=>cases h
    |some j=>exact .inr (.inl ⟨e,l.1,h⟩)
   .split at h
    .cases h
    .rename_i m;exact .inr (.inr ⟨e,g,m,h⟩)
theorem AR.AaO(h:AR F0 w0 O a w G){s d:Nat}(hsz:s<a.tmps.size)(hd:d<a.tmps.size){w':World}(X:Fy (Ba a G s) w w'){env':AB}{a':Act}(ha':a'.tmps.size=a.tmps.size)(had:a'.defers=a.defers)
  (hzu:H9 Z)(hz:∀q i b lo,Z q i=some (b,lo)->b<w'.heap.size/\(w.heap.size<=b\/∃p j l,Ba a G s p j=some (b,l)/\l<=lo))
  (hdom:∀p,a.tmps.size<=p->env'.get p=.undef)(hwf:∀p,(env'.get p).WF)
  (D:∀p,p≠d->p≠s->slot a' p=slot a p)(N:∀p,p≠d->p≠s->env'.get p=O.get p)(hgs:s≠d->env'.get s=.undef)
  (m:O.jj d=true\/(d=s/\(∃cs0,O.get s=.bx cs0)/\O.noX s none=true/\(∀n es,env'.get d≠.xo n es)/\slot a' s=slot a s)\/((∀cs,env'.get d≠.bx cs)/\∀n es,env'.get d≠.xo n es))
  (hrep:∀F',(∀b o,F' b o->(b<w.heap.size/\AS w0.heap.size F0 G b o/\¬ZF (Ba a G s) b o)\/ZF Z b o)->AM a' w' F' (B6 a G s d Z) env' d (env'.get d) (slot a' d)):
  AR F0 w0 env' a' w' (B6 a G s d Z)/\∀b o,AS w0.heap.size F0 (B6 a G s d Z) b o->(b<w.heap.size/\AS w0.heap.size F0 G b o/\¬ZF (Ba a G s) b o)\/ZF Z b o:=by
 have W:∀p i b lo,p≠s->¬(a.tmps.size<=p/\∃k lo,G s k=some (p-a.tmps.size,lo))->G p i=some (b,lo)->∀q j l,Ba a G s q j≠some (b,l):=by
  intro p i b lo I hn A q j l H;obtain⟨p',j',R,V⟩:=CD H;obtain⟨rfl,_⟩:=h.o3 _ _ _ _ _ _ _ A R;rcases V with V|⟨g,k,lo0,rfl,f3⟩
  .exact I V
  .exact hn ⟨by omega,k,lo0,by rw[Nat.add_sub_cancel_left];exact f3⟩
 have hE:∀b o,b<w0.heap.size->ZF (Ba a G s) b o->w0.E b o:=fun b o hlt⟨q,i,lo,A,H⟩=>by
  obtain ⟨p,j,R,_⟩:=CD A;exact(h.lt _ _ _ _ R).2.elim (fun e=>by omega) (fun e=>e o H)
 have hforb:∀b o,AS w0.heap.size F0 (B6 a G s d Z) b o->(b<w0.heap.size/\F0 b o)\/(∃p i lo,p≠s/\¬(a.tmps.size<=p/\∃k lo,G s k=some (p-a.tmps.size,lo))/\G p i=some (b,lo)/\lo<=o)\/ZF Z b o:=by
  rintro b o (A|⟨p,i,lo,A,H⟩)
  .exact .inl A
  .rcases NS A with⟨_,e⟩|⟨_,_,e⟩|⟨_,e1,e2,e3⟩
   .exact .inr (.inr ⟨_,i,lo,e,H⟩)
   .exact .inr (.inr ⟨_,i,lo,e,H⟩)
   grind
 have hall:∀b o,AS w0.heap.size F0 (B6 a G s d Z) b o->(b<w.heap.size/\AS w0.heap.size F0 G b o/\¬ZF (Ba a G s) b o)\/ZF Z b o:=by
  intro b o hf;rcases hforb b o hf with A|⟨p,i,lo,e1,e0,e2,e3⟩|A
  .exact .inl ⟨Nat.lt_of_lt_of_le A.1 h.below.size,.inl A,fun hz=>h.below.free _ _ _ (hE b o A.1 hz) A.2⟩
  .exact .inl ⟨(h.lt _ _ _ _ e2).1,.inr ⟨p,i,lo,e2,e3⟩,fun⟨q,j,l,R,_⟩=>W p i b lo e1 e0 e2 q j l R⟩
  .exact .inr A
 have hag:BO w w' (AS w0.heap.size F0 G) (AS w0.heap.size F0 (B6 a G s d Z)):=by
  intro b o u hc hF;have hlt:b<w.heap.size:=World.block_lt_of_cell? w ⟨b,o,none⟩ hc;have hnf:¬ZF (Ba a G s) b o:=fun⟨q,i,lo,A,H⟩=>by
   obtain ⟨p,j,R,_⟩:=CD A;exact hF (.inr ⟨p,j,lo,R,H⟩)
  refine ⟨X.cell b o u hnf hc,fun hF'=>?_⟩;rcases hall b o hF' with⟨_,A,_⟩|⟨q,i,lo,A,H⟩
  .exact hF A
  .rcases(hz q i b lo A).2 with h3|⟨p,j,l,h3,h4⟩
   .omega
   .exact hnf ⟨p,j,l,h3,Nat.le_trans h4 H⟩
 have hlow:∀p,p<a.tmps.size->p≠d->p≠s->B6 a G s d Z p=G p:=by
  intro p hp A H;simp[B6];rw[az A,az H,az (fun e=>by have:=e.1;omega),az (fun e=>by have:=e.1;omega)]
 refine ⟨⟨?_,?_,?_,had.trans h.defers,fun p hp=>hdom p (by omega),?_,hwf⟩,hall⟩
 .intro p i p' i' b lo l e1 e2;have mix:∀p i q i' lo l,p≠s->¬(a.tmps.size<=p/\∃k lo,G s k=some (p-a.tmps.size,lo))->G p i=some (b,lo)->Z q i'=some (b,l)->False:=by
   intro p i q i' lo l hp hn R V;rcases(hz q i' b l V).2 with h3|⟨p2,j,T,h3,_⟩
   .have:=(h.lt _ _ _ _ R).1;omega
   .exact W p i b lo hp hn R p2 j T h3
  rcases NS e1 with⟨R,M⟩|⟨R,f3,M⟩|⟨_,f3,f4,M⟩<;>rcases NS e2 with⟨V,g2⟩|⟨V,f5,g2⟩|⟨_,f5,f6,g2⟩
  .exact⟨by rw[R,V],(hzu _ _ _ _ _ _ _ M g2).2⟩
  .have:=(hzu _ _ _ _ _ _ _ M g2).1;omega
  .exact(mix _ _ _ _ _ _ f5 f6 g2 M).elim
  .have:=(hzu _ _ _ _ _ _ _ M g2).1;omega
  .have:=hzu _ _ _ _ _ _ _ M g2;exact⟨by omega,this.2⟩
  .exact(mix _ _ _ _ _ _ f5 f6 g2 M).elim
  .exact(mix _ _ _ _ _ _ f3 f4 M g2).elim
  .exact(mix _ _ _ _ _ _ f3 f4 M g2).elim
  .exact h.o3 _ _ _ _ _ _ _ M g2
 .intro p i b lo e1;have znew:∀q i,Z q i=some (b,lo)->b<w'.heap.size/\(w0.heap.size<=b\/∀o,lo<=o->w0.E b o):=by
   intro q i R;obtain⟨A,H⟩:=hz q i b lo R;refine⟨A,?_⟩;rcases H with H|⟨p,j,l,H,h3⟩
   .exact .inl (Nat.le_trans h.below.size H)
   .obtain⟨p',j',V,_⟩:=CD H;exact(h.lt _ _ _ _ V).2.imp id (fun e o ho=>e o (Nat.le_trans h3 ho))
  rcases NS e1 with⟨_,M⟩|⟨_,_,M⟩|⟨_,_,_,M⟩
  .exact znew _ _ M
  .exact znew _ _ M
  .exact⟨Nat.lt_of_lt_of_le (h.lt _ _ _ _ M).1 X.size,(h.lt _ _ _ _ M).2⟩
 .refine h.below.trans X.os X.tape X.output X.size (fun k hk he=>X.block k (Nat.lt_of_lt_of_le hk h.below.size) (fun q i lo U=>he lo (hE k lo hk ⟨q,i,lo,U,bk _⟩))) (fun b o u hlt he hu=>X.cell b o u (fun U=>he (hE b o hlt U)) hu)
 .intro p hp;rw[ha']at hp;by_cases hpd:p=d
  .subst hpd;exact hrep _ hall
  .by_cases I:p=s
   .subst I;rw[hgs hpd];trivial
   .rw[N p hpd I,D p hpd I];have hn:¬(a.tmps.size<=p/\∃k lo,G s k=some (p-a.tmps.size,lo)):=fun e=>by have:=e.1;omega
    have hsame:∀r,(r≠d->r≠s)->r≠d->slot a' r=slot a r:=fun r A H=>D r H (A H);refine AM.kept' hag (fun i=>by rw[hlow p hp hpd I]) (fun i b lo U=>X.block b (h.lt _ _ _ _ U).1 (fun q j l=>W p i b lo I hn U q j l)) (fun i g lo j hg=>?_) (fun i g lo j b l hg L=>?_) (fun r i k L⟨pp,J⟩=>?_) (fun r off L⟨cs2,hcs⟩=>?_) (fun r i L⟨pp,J⟩=>?_) (h.slots p hp)
    .show B6 a G s d Z (a'.tmps.size+g) (some j)=G (a.tmps.size+g) (some j);rw[ha'];simp[B6];rw[az (by omega),az (by omega),az,az]
     .rintro⟨_,k,l,e⟩;rw[Nat.add_sub_cancel_left]at e;exact I (h.o3 _ _ _ _ _ _ _ hg e).1
     .rintro⟨_,k,l,e⟩;rw[Nat.add_sub_cancel_left]at e;rcases(hz _ _ _ _ e).2 with h3|⟨p2,j2,T,h3,_⟩
      .have:=(h.lt _ _ _ _ hg).1;omega
      .exact W p i g lo I hn hg p2 j2 T h3
    .refine X.block b (h.lt _ _ _ _ L).1 (fun q j2 T hzf=>?_);obtain⟨p',j',R,V⟩:=CD hzf;obtain⟨e1,_⟩:=h.o3 _ _ _ _ _ _ _ L R;rcases V with V|⟨g',k,lo0,f3,f4⟩
     .omega
     .have:g=g':=by omega
      subst this;exact I (h.o3 _ _ _ _ _ _ _ hg f4).1
    .obtain⟨cs,A,H⟩:=AB.x8 J;by_cases B:r=d
     .subst B;rcases m with m|⟨rfl,_,m,_⟩|⟨m,_⟩
      .exact absurd L (AB.Abr _ O m p i k)
      .exact absurd L (AB.noX_nh m p i (.inl rfl) k)
      .exact absurd A (m cs)
     .by_cases C:r=s
      .subst C;rw[hgs B]at A;cases A
      .have h4:O.nat r i=some pp:=by rw[<-J];exact(AB.AaF (N r B C)).symm
       have hrl:r<a.tmps.size:=h.lts (by rw[<-N r B C,A];simp);exact⟨⟨pp,h4⟩,h.nh ⟨pp,h4⟩ (D r B C) (fun j b _ Y=>X.block b (h.lt _ _ _ _ Y).1 (fun q j2 T=>W r j b 0 C (fun e=>by have:=e.1;omega) Y q j2 T))⟩
    .by_cases B:r=d
     .subst B;rcases m with m|⟨e1,⟨cs0,e2⟩,_,_,hds⟩|⟨m,_⟩
      .exact absurd L (AB.Aa4 _ O m p off)
      .exact⟨⟨cs0,by rw[e1];exact e2⟩,by rw[e1];exact hds⟩
      .exact absurd hcs (m cs2)
     .by_cases C:r=s
      .subst C;rw[hgs B]at hcs;cases hcs
      .exact⟨⟨cs2,by rw[<-N r B C];exact hcs⟩,D r B C⟩
    .by_cases B:r=d
     .subst B;obtain⟨n,es⟩:=pp;rcases m with m|⟨rfl,_,m,hxo,_⟩|⟨m,hxo⟩
      .have hx:=AB.Aa5 _ O m p;rcases L with L|⟨c,L⟩
       .exact absurd L (hx.1 i)
       .exact absurd L (hx.2 i c)
      .cases i with
       |none=>exact absurd (AB.Aab J) (hxo n es)|some k=>
        have h5:=AB.noX_spec m p k (.inl rfl);rcases L with L|⟨c,L⟩
        .exact absurd L h5.1
        .exact absurd L (h5.2 c)
      .cases i with
       |none=>exact absurd (AB.Aab J) (hxo n es)|some k=>
        obtain ⟨cs,A,_⟩:=AB.x5 J;exact absurd A (m cs)
     .by_cases C:r=s
      .subst C;rw[AB.AaY (hgs B)]at J;cases J
      .have h4:O.x7 r i=some pp:=by rw[<-J];exact(AB.Aat (N r B C)).symm
       have hrl:r<a.tmps.size:=by
        refine h.lts (fun e=>?_);rw[AB.AaY e]at h4;cases h4
       exact ⟨⟨pp,h4⟩,h.xv ⟨pp,h4⟩ (D r B C) (fun b Y=>X.block b (h.lt _ _ _ _ Y).1 (fun q j2 T=>W r none b 0 C (fun e=>by have:=e.1;omega) Y q j2 T))⟩
theorem OR{a a':Act}{G:BH}{s d:Nat}(l:a'.tmps.size=a.tmps.size)(hd:d<a.tmps.size)(m:s<a.tmps.size){k:Option Nat}{g lo:Nat}(h:Z 0 k=some (g,lo))(j:Nat):rho a' (B6 a G s d Z) g j=Z.rho g j:=by
 show B6 a G s d Z (a'.tmps.size+g) (some j)=Z.rho g j;rw[l];simp only[B6,C3.rho];rw[az (by omega),az (by omega),ae ⟨by omega,k,lo,by rw[Nat.add_sub_cancel_left];exact h⟩]
 grind
theorem AR.reboxed(h:AR F0 w0 O a w G){cs cs':List AQ}(J:O.get s=.bx cs)(C:O.noX s none=true){w':World}(L:Fy (Ba a G s) w w')
  (l:Lq w' (fun b o=>(b<w.heap.size/\AS w0.heap.size F0 G b o/\¬ZF (Ba a G s) b o)\/ZF Z b o) Z cs' (slot a s))
  (D:H9 Z)(M:∀q i b lo,Z q i=some (b,lo)->b<w'.heap.size/\(w.heap.size<=b\/∃p j m,Ba a G s p j=some (b,m)/\m<=lo))(N:∀c∈cs',c.t.WF):
  AR F0 w0 ((s,.bx cs')::O) a w' (B6 a G s s Z)/\∀b o,AS w0.heap.size F0 (B6 a G s s Z) b o->(b<w.heap.size/\AS w0.heap.size F0 G b o/\¬ZF (Ba a G s) b o)\/ZF Z b o:=by
 have k:s<a.tmps.size:=BQ h J (by simp);have A:AB.get ((s,EV.bx cs')::O) s=.bx cs':=by rw[AB.ea,ae rfl]
 refine h.AaO k k L rfl rfl D M (fun p R=>by rw[AB.ea,az (by omega)];exact h.dom p R) (fun p=>?_) (fun _ _ _=>rfl) (fun p _ E=>by rw[AB.ea,az (fun e=>E e.symm)]) (fun e=>absurd rfl e) (.inr (.inl ⟨rfl,⟨cs,J⟩,C,(fun n es e=>by rw[A]at e;cases e),rfl⟩)) (fun F' H=>?_)
 .rw[AB.ea];split
  .exact N
  .exact h.wf p
 .rw[A];obtain⟨b,c,T,W,X,Y,h4,h5⟩:=l;have B:B6 a G s s Z s=Z 0:=by simp[B6]
  simp only[AM];refine⟨b,c,T,W,X,Y,by rw[B];exact h4,fun i d hd=>?_⟩;obtain⟨x,e1,e2⟩:=h5 i d hd;refine⟨x,e1,?_⟩;rw[B];exact(e2.kept (fun b o u U hf=>⟨U,fun I=>hf (H b o I)⟩) (fun _ _ _=>rfl) A6.rfl').rho (fun g lo j V=>OR rfl k k V j)
theorem bU(m:AR F0 w0 O a w G)(hd:d<a.tmps.size)(J:o.dst=some d){xs:Array Operand}{i:Nat}(hop:o.op=.call {callee:=.value (.func f),args:=xs,argTypes:=ats})(L:BR xs.toList ys=true)(h:(AE.AaE f ys i).wp (AN P) O (some d) K)
  {next:Act->World->Prop}(hn:∀e env' a' w',K e env'->Oe a d a'->Bb F0 w0 ((d,e)::env') a' w'->next a' w'):o.wp P a w next Q:=by
 simp only[AE.wp]at h;split at h
 .rename_i d' s N D;simp at N;subst N;split at h
  .rename_i cs R;obtain⟨⟨hno,hds⟩,h⟩:=h;cases H:G5 O i ys with
   |none=>rw[H]at h;exact h.elim|some ts=>
    rw [H]at h;simp only[AV]at h;obtain⟨cs',l,hS,hK⟩:=h;rw[Option.bind_eq_some_iff]at D;obtain⟨y,hy,D⟩:=D;have hxi:∀(xs:List Operand)(ys:List AF)(i:Nat)(y:AF),BR xs ys=true->ys[i]?=some y->∃x,xs[i]?=some x/\AI x y=true:=by
     intro xs
     induction xs with
     |nil=>intro ys i y A B;cases ys<;>simp[BR]at A B
     |cons x xs ih=>
      intro ys i y A B;cases ys with
      |nil=>simp[BR]at A|cons z ys=>
       simp [BR]at A
       grind
    obtain ⟨x,hx,hxy⟩:=hxi _ _ _ _ L hy;obtain⟨b,hsl,C⟩:=GN m hxy D R;have hv:=VV m L H (fun x' M=>by rw[hx]at M;cases M;rw[C];rfl);have U:=m.wf s;rw[R]at U;have hbx:=AW m R (by simp);have hsplit:∀b o,AS w0.heap.size F0 G b o↔((AS w0.heap.size F0 G b o/\¬ZF (Ba a G s) b o)\/ZF (Ba a G s) b o):=by
     intro b o;constructor
     .grind
     .rintro(hf|⟨q,i,lo,A,B⟩)
      .exact hf.1
      .obtain⟨p,j,X,_⟩:=CD A;exact .inr ⟨p,j,lo,X,B⟩
    have hF:(fun b o=>(AS w0.heap.size F0 G b o/\¬ZF (Ba a G s) b o)\/ZF (Ba a G s) b o)=AS w0.heap.size F0 G:=by
     grind
    obtain ⟨B,h3⟩:=hS hv.2 U;have hbr:Lq w (fun b o=>(AS w0.heap.size F0 G b o/\¬ZF (Ba a G s) b o)\/ZF (Ba a G s) b o) (Ba a G s) cs (slot a s):=by
     rw [hF];obtain⟨b,c,T,A,B,h3,h4,h5⟩:=hbx;refine⟨b,c,T,A,B,h3,by rw[Cr];exact h4,fun i d hd=>?_⟩;obtain⟨x,e1,e2⟩:=h5 i d hd;exact⟨x,e1,by rw[Cr];exact e2.rho (fun g lo j hg=>M7 hg j)⟩
    obtain ⟨⟨k1,k2⟩,k3⟩:=h3 (fun b o=>AS w0.heap.size F0 G b o/\¬ZF (Ba a G s) b o) w (xs.map a.eval) (slot a s) (Ba a G s) (by rw[hF];simpa using hv.1)
     (by rw[Array.getElem?_map];rw[<-Array.getElem?_toList,hx];simp;rw[C,hsl]) hbr (Io m (BQ m R (by simp))) (fun q i b lo e=>by obtain⟨p,j,X,_⟩:=CD e;exact(m.lt _ _ _ _ X).1)
     (by
      rintro b o o' ⟨q,i,lo,e1,e2⟩ ⟨hf,hnz⟩;by_cases hlo:lo<=o'
      .exact hnz ⟨q,i,lo,e1,hlo⟩
      .obtain⟨p,j,X,_⟩:=CD e1;exact Mx m b lo o' X (by omega) hf)
    have V:(execOp a.eval o).run P w=(callFunc f (xs.map a.eval)).run P w:=by simp[execOp,hop,resolve,Act.eval,Deferred.ofValue,invoke]
    unfold Oper.wp;rw[V,EH B _,Oper.upon_enter];refine k3.mono ?_;rintro e w' ⟨r,I,rfl,r1,r2,r3,r4,r5⟩;simp[J];obtain⟨Y,E⟩:=m.reboxed R hno r1 r2 r3 r4 k1;refine hn _ _ _ _ (hK ⟨k1,k2⟩) ⟨_,rfl⟩ ?_;have W:∀b o,AS w0.heap.size F0 (Ib (B6 a G s s I) d fun _=>none) b o->(b<w.heap.size/\AS w0.heap.size F0 G b o/\¬ZF (Ba a G s) b o)\/ZF I b o:=by
     intro b o hf;have hf2:AS w0.heap.size F0 (B6 a G s s I) b o:=AS.mono (fun p i b lo D=>by
      by_cases hpd:p=d
      .grind[Bn]
      .rw[A8 _ _ _ _ hpd]at D;exact⟨p,i,lo,D,bk _⟩) hf
     exact E b o hf2
    have k:BO w' w' (fun b o=>(b<w.heap.size/\AS w0.heap.size F0 G b o/\¬ZF (Ba a G s) b o)\/ZF I b o) (AS w0.heap.size F0 (Ib (B6 a G s s I) d fun _=>none)):=fun b o u hc hf=>⟨hc,fun E=>hf (W b o E)⟩;by_cases hus:∃t,l=[t]
    .obtain⟨t,rfl⟩:=hus;exact Y.tv (Below.refl _ _) d hd t r (Bv k t r r5) k2.1
    .have hof:EV.ofs l=.tp l:=by
      rcases l with _|⟨t,_|⟨t',l⟩⟩
      .rfl
      .grind
      .rfl
     have hur:∃vs,r=.tuple vs/\AO w' (fun b o=>(b<w.heap.size/\AS w0.heap.size F0 G b o/\¬ZF (Ba a G s) b o)\/ZF I b o) l vs.toList:=by
      rcases l with _|⟨t,_|⟨t',l⟩⟩
      .exact r5
      .grind
      .exact r5
     obtain ⟨vs,rfl,hvs⟩:=hur;rw[hof];refine⟨_,Y.quiet (Below.refl _ _) d hd (.tp l) _ (fun _=>none) (by simp) (by simp) (by simp) ?_ k2⟩;simp only[AM];exact⟨vs,rfl,Ag k l _ hvs⟩
  .exact h.elim
 .exact h.elim
end
end Go.Sf
namespace Go.Sf
open Go.RowKit (Below)
variable{z z0:Value}
theorem JJ(h:z.cells=#[z0])(k:Nat):Builtin.zeroCells z.cells k=(List.replicate k z0).toArray:=by
 rw [h];apply Array.ext
 .simp[Builtin.zeroCells]
 .intro i g j;simp[Builtin.zeroCells,Nat.mod_one]
section
variable{P:Program}{w:World}
theorem QA(t J ty e L:TypeId)(i:TypeInfo)(z z0:Value)(U V:IntKind)(M:P.underlying t=some (.slice e))(B:P.underlying J=some (.int V))(hi:P.info? e=some i)(W:i.zero=some z)(N:i.size=1)(H:z.cells=#[z0])(X:z0.oneCell'=true)
  (g h j:Nat)(l:Array Value)(Y:w.heap[g]?=some (.cells l L (0,0)))
  (k:Nat)(h48:k*i.bytes<=281474976710656)(R:(k:Int)<=9223372036854775807)(A:h+k<=j)(C:h+k<=l.size):
  (Builtin.append_ #[t,J] ty #[.slice (some ⟨g,0,none⟩) h j,.int U k]).run P w=
   .ok (.slice (some ⟨g,0,none⟩) (h+k) j) (w.setRow g (l.toList.take h++List.replicate k z0++l.toList.drop (h+k)).toArray):=by
 have hw:IntKind.i64.wrap (k:Int)=k:=by rw[IntKind.wrap_i64];omega
 have D:¬((k:Int)<0):=by omega
 have E:¬(281474976710656<(k:Int)*(i.bytes:Int)):=by
  grind
 have m:=run_storeCells_at P g h L (List.replicate k z0) 0 l w Y (by simpa using C) (fun u hu=>by rw[List.eq_of_mem_replicate hu];exact X);simp at m;by_cases T:k=0
 .subst T;simp at m;have I:IntKind.i64.wrap 0=0:=by decide
  simp [Builtin.append_,run_underlying M,run_underlying B,sizeOf,typeInfo,hi,asInt,asIntOf,I,N,show h<=j from by omega,Addr.add_lit,m]
 .simp[Builtin.append_,run_underlying M,run_underlying B,sizeOf,typeInfo,zeroValue,hi,W,asInt,asIntOf,hw,D,E,N,T,A,Addr.add_lit,JJ H,m]
theorem RY(t h ty e:TypeId)(i:TypeInfo)(j k:IntKind)(l:P.underlying t=some (.slice e))(g:P.underlying h=some (.int k))(hi:P.info? e=some i):
  (Builtin.append_ #[t,h] ty #[.slice none 0 0,.int j 0]).run P w=.ok (.slice none 0 0) w:=by
 have m:IntKind.i64.wrap 0=0:=by decide
 simp [Builtin.append_,run_underlying l,run_underlying g,sizeOf,typeInfo,hi,asInt,asIntOf,m]
theorem gO(t V ty e:TypeId)(i:TypeInfo)(z z0:Value)(Y kn:IntKind)(ht:P.underlying t=some (.slice e))(J:P.underlying V=some (.int kn))(hi:P.info? e=some i)(hz:i.zero=some z)
  (hs:i.size=1)(hby:i.bytes<=4096)(B:z.cells=#[z0])(h1:z0.oneCell'=true)(v:Value)(len:Nat)(xs:List Value)(zo:Option (Nat×Nat))(l:FM w 1 v len xs zo)(k:Nat)(hk:k<=4096)(M:len+k<=Ae):
  ∃v' w' z',(Builtin.append_ #[t,V] ty #[v,.int Y k]).run P w=.ok v' w'/\FM w' 1 v' (len+k) (xs++List.replicate k z0) z'/\Hv w w' zo z':=by
 have m:(xs++List.replicate k z0).length=(len+k)*1:=by rw[cE,l.1,List.length_replicate];omega
 have L:(len+k)*i.bytes<=140737488355328:=by
  calc (len+k)*i.bytes<=Ae*4096:=Nat.mul_le_mul M hby
   _<=140737488355328:=by decide
 have N:k*i.bytes<=281474976710656:=by
  grind
 have hml:len+k<=maxLen:=by simp[maxLen,Ae]at *;omega
 have hzlt:∀b lo,zo=some (b,lo)->b<w.heap.size:=by
  intro b lo I;rcases l.2 with⟨_,_,h⟩|⟨g,cap,E,U,_,hg,_,_,_,_,h⟩
  .rw[h]at I;cases I
  grind
 have C:∀(old:Nat),old<len+k ->
   FM (w.drew.alloc (.cells (xs.toArray++Builtin.zeroCells z.cells k++Builtin.zeroCells z.cells (grownCap w (len+k) old e-(len+k))) e)) 1
    (.slice (some ⟨w.heap.size,0,none⟩) (len+k) (grownCap w (len+k) old e)) (len+k) (xs++List.replicate k z0) (some (w.heap.size,(len+k)*1))/\
   Hv w (w.drew.alloc (.cells (xs.toArray++Builtin.zeroCells z.cells k++Builtin.zeroCells z.cells (grownCap w (len+k) old e-(len+k))) e)) zo (some (w.heap.size,(len+k)*1)):=by
  intro old ho;have hge:=grownCap_ge w (len+k) old e;have R:grownCap w (len+k) old e<=maxLen:=grownCap_le_maxLen w (len+k) old e hml;have hxl:xs.length=len:=by simpa using l.1
  refine ⟨⟨m,.inr ⟨w.heap.size,_,_,e,rfl,heap_alloc_new w.drew _,hge,R,?_,?_,rfl⟩⟩,⟨rfl,rfl,rfl,by simp,fun k hk _=>Below.heap_alloc w.drew _ k hk,fun b o v W _=>?_,fun b lo I=>?_⟩⟩
  .rw[JJ B,JJ B];simp[hxl];omega
  .rw[JJ B,JJ B];simp only[Array.toList_append,ci];rw[<-ci,<-m];exact List.take_left
  .have I:b<w.heap.size:=World.block_lt_of_cell? w ⟨b,o,none⟩ W;rw[World.cell?_alloc_lt _ _ (a:=⟨b,o,none⟩) (by simpa using I)];simpa using W
  .simp at I;rw[<-I.1];exact⟨by simp,.inl (bk _)⟩
 rcases l.2 with⟨rfl,rfl,rfl⟩|⟨g,cap,E,U,rfl,hg,hnc,R,hcs,H,rfl⟩
 .have hx:xs=[]:=List.eq_nil_of_length_eq_zero (by simpa using l.1);subst hx;by_cases hk0:k=0
  .subst hk0;exact⟨_,_,none,RY t V ty e i Y kn ht J hi,⟨by simp,.inl ⟨rfl,rfl,rfl⟩⟩,Hv.refl w none (by simp)⟩
  .have X:=Lib.run_append_nil_zeros (P:=P) w t V ty e i z Y kn ht J hi hz k (by omega) (by omega) (by omega) N;have A:=C 0 (by omega);simp only[Nat.zero_add,List.nil_append,Array.empty_append]at A X|-;exact⟨_,_,_,X,A.1,A.2⟩
 .have hxl:xs.length=len:=by simpa using l.1
  simp at hcs H;by_cases D:len+k<=cap
  .have X:=QA (P:=P) (w:=w) t V ty e U i z z0 Y kn ht J hi hz hs B h1 g len cap E hg k N (by omega) D (by omega);refine⟨_,_,some (g,(len+k)*1),X,⟨m,.inr ⟨g,cap,_,U,rfl,setRow_heap w g E _ U _ hg,D,R,?_,?_,rfl⟩⟩,⟨rfl,rfl,rfl,by simp,fun j _ hj=>setRow_other w g j _ (fun e=>hj (len*1) (by rw[e])),fun b o u W hlo=>?_,fun b lo I=>?_⟩⟩
   .simp;omega
   .rw[H,<-m];exact List.take_left
   .by_cases hbg:b=g
    .subst hbg;have ho:=hlo (len*1) rfl;rw[cell_of_row _ b o _ U (0,0) (setRow_heap w b E _ U _ hg)];rw[cell_of_row w b o E U (0,0) hg]at W;rw[List.getElem?_toArray,ci,List.getElem?_append_left (by simp;omega),List.getElem?_take_of_lt (by omega)];simpa using W
    .rw[World.cell?_of_block (w:=w) (a:=⟨b,o,none⟩) (setRow_other w g b _ (fun e=>hbg e))];exact W
   .simp only[x4,Prod.mk.injEq]at I;obtain⟨rfl,rfl⟩:=I;refine⟨by simpa using hzlt g (len*1) rfl,.inr ⟨len*1,rfl,Nat.mul_le_mul_right _ (by omega)⟩⟩
  .have T:(Builtin.firstCells i.size len (.slice (some ⟨g,0,none⟩) len cap)).run P w.drew=.ok xs.toArray w.drew:=by
    refine run_firstCells_some (P:=P) w.drew i.size len ⟨g,0,none⟩ len cap xs (by rw[hs];omega) (fun j u hu=>?_);rw[Addr.add_lit,Nat.zero_add];have:=l.cell rfl j u hu;simpa using this
   have X:=Lib.run_append_grow_zeros (P:=P) w t V ty e i z Y kn ht J hi hz (some ⟨g,0,none⟩) len cap xs T k (by omega) (by omega) (by omega) (by simp[Ae]at M;omega) N (growslice_fits (by omega) L);have A:=C cap (by omega);exact⟨_,_,_,X,A.1,A.2⟩
end
def Operand.AbO(n:Nat):Operand->Bool
 |.tmp m=>m==n|_=>false
variable{n:Nat}{x:Operand}
theorem Operand.isTmp_eq'(h:Operand.AbO n x=true):x=.tmp n:=by
 cases x<;>simp[Operand.AbO]at h;rw[h]
def cm(P:Program)(n s:Nat)(z:TV)(x:AF)(c:Call):Bool:=
 match c.callee,c.args.toList,c.argTypes.toList with
 |.builtin .append,[p,q],[t,t']=>Operand.AbO s p&&AI q x&&(match P.underlying t,P.underlying t' with
  |some (.slice e),some (.int _)=>(match P.info? e with
   |some i=>(match i.zero with
    |some zz=>(match zz.cells.toList with
     |[z0]=>n==1&&i.size==1&&decide (i.bytes<=4096)&&Dq z z0&&z0.oneCell'|_=>false)
    |none=>false)
   |none=>false)
  |_,_=>false)
 |_,_,_=>false
section
variable{P:Program}{S:FuncId->Fq->Aq->Prop}{F0:Nat->Nat->Prop}{w0:W0}{O:AB}{a:Act}{w:World}{G:BH}{d:Nat}{o:Oper}{K:EV->AB->Prop}
variable{s:Nat}{x:Operand}{y:AF}{t t' e:TypeId}
theorem dz(N:AR F0 w0 O a w G)(hd:d<a.tmps.size){kn:IntKind}{i:TypeInfo}{R z0:Value}{z:TV}(T:o.op=.call {callee:=.builtin .append,args:=#[.tmp s,x],argTypes:=#[t,t']})
  (ht:P.underlying t=some (.slice e))(U:P.underlying t'=some (.int kn))(hi:P.info? e=some i)(l:i.zero=some R)(V:i.size=1)(W:i.bytes<=4096)(X:R.cells=#[z0])(D:Dq z z0=true)(h1:z0.oneCell'=true)
  (Y:AI x y=true)(h:(AE.Abj 1 s z y).wp S O (some d) K):As P F0 w0 a w o d K:=by
 simp [AE.wp]at h;split at h
 .rename_i d' m es kk j E hs hy;simp at E;subst E;obtain⟨⟨⟨rfl,_⟩,I⟩,⟨h0,h4⟩,⟨g,hno,hds⟩,hK⟩:=h;obtain⟨k,rfl⟩:∃k:Nat,j=k:=⟨j.toNat,by omega⟩;simp at g hK;have A:=AW N hs (by simp);have B:=N.wf s;rw[hs]at B;simp[AM]at A;obtain⟨xs,⟨zo,k1,J⟩,k2,k3,k4⟩:=A;have hv:=(Ar N Y hy).1;simp[AY]at hv;obtain⟨v',w',z',L,r1,C⟩:=gO (P:=P) t t' o.type e i R z0 kk kn ht U hi l V W X h1 (slot a s) es.length xs zo k1 k (by omega) g;have hnz:∀k,(∀lo,G s none≠some (k,lo))->∀lo,zo≠some (k,lo):=fun k hk lo l=>hk 0 (by rw[J,l];rfl);have hfm:∀k,(List.replicate k z).flatMap TV.cells=List.replicate k z:=by
   intro k
   induction k with
   |zero=>rfl|succ k ih=>rw[List.replicate_succ,List.flatMap_cons,ih,I];rfl
  refine ⟨v',w',?_,_,_,hK,N.xgo hs hd hds (z':=z'.map fun p=>(p.1,0)) C.os C.tape C.output C.size (fun k hk l=>C.other k hk (hnz k l)) (fun b lo l=>?_) (by simp) (fun _=>hno) (fun F' G' env' a' hag hG _=>?_) ?_⟩
  .simp[execOp,T,resolve,invoke,builtin,show a.eval (.tmp s)=slot a s from rfl,hv,L]
  .cases z' with
   |none=>simp at l|some p=>
    simp at l;obtain⟨q1,M⟩:=C.AbP p.1 p.2 rfl;rw[<-l.1];refine⟨q1,?_⟩;rcases M with M|⟨lo',M,_⟩
    .exact .inl M
    .exact .inr ⟨0,by rw[J,M];rfl⟩
  .simp only[AM];rw[hG];refine⟨xs++List.replicate k z0,⟨z',by rw[cE,List.length_replicate];exact r1,rfl⟩,?_,?_,?_⟩
   .rw[List.flatMap_append,hfm];refine HH (Ag hag _ _ k2) ?_;rw[BM];refine⟨by simp,fun i u v hu hv=>?_⟩;rw[List.eq_of_mem_replicate (List.mem_of_getElem? hu),List.eq_of_mem_replicate (List.mem_of_getElem? hv)];exact(GX _ F' z z0 D).1
   .intro e he;rcases List.mem_append.1 he with he|he
    .exact k3 e he
    .rw[List.eq_of_mem_replicate he,I];rfl
   .intro x H;rcases List.mem_append.1 H with H|H
    .exact k4 x H
    .rw[List.eq_of_mem_replicate H];exact h1
  .simp only[EV.WF,TV.WF]at B|-;refine⟨by rw[cE,List.length_replicate];exact R9 g,I6.2 ⟨B.2,?_⟩⟩;rw[BZ];intro u hu;rw[List.eq_of_mem_replicate hu];exact(GX w (fun _ _=>False) z z0 D).2
 .exact h.elim
variable{f:FuncId}{ys:List AF}{ats:Array TypeId}
theorem bW(l:AR F0 w0 O a w G)(hd:d<a.tmps.size){xs:Array Operand}(j:o.op=.call {callee:=.value (.func f),args:=xs,argTypes:=ats})(k:BR xs.toList ys=true)(h:(AE.Aa3 f ys).wp (AN P) O (some d) K):As P F0 w0 a w o d K:=by
 simp [AE.wp]at h;cases g:vals O ys with
 |none=>rw[g]at h;exact h.elim|some ts=>
  rw [g]at h;simp[AV]at h;obtain⟨m,u,A⟩:=h;have hv:=Fr l k g;obtain⟨⟨E,B⟩,C⟩:=u hv.2;obtain⟨r,D,H⟩:=C w (xs.map a.eval) (by simpa using Ag VF _ _ hv.1);refine⟨.tuple r,w,by simp[execOp,j,resolve,Act.eval,Deferred.ofValue,invoke,<-D],_,_,A,_,l.quiet (Below.refl _ _) d hd (.tp m) _ (fun _=>none) (by simp) (by simp) (by simp) ?_ B⟩
  grind [AM,Gw]
def Xr(P:Program)(t:TypeId)(n:Nat):Bool:=
 match P.underlying t with
 |some (.slice e)=>(match P.info? e with
  |some ie=>ie.size==n|none=>false)
 |_=>false
variable{n:Nat}
theorem eH(A:AR F0 w0 O a w G)(hd:d<a.tmps.size)(k:o.op=.buildSlice t 0 #[])(g:Xr P t n=true)(h:(AE.Abl n).wp S O (some d) K):As P F0 w0 a w o d K:=by
 simp [AE.wp]at h;obtain⟨m,D⟩:=h;unfold Xr at g;split at g
 .rename_i e B;split at g
  .rename_i E l;have j:(execOp a.eval o).run P w=.ok (.value (.slice (some ⟨w.heap.size,0,none⟩) 0 0)) (w.alloc (.cells #[] e)):=by
    simp [execOp,k,Instr.buildSlice,run_underlying B,sizeOf,typeInfo,l,Instr.fill,newRow]
    grind
   have C:Below w.heap.size w (w.alloc (.cells #[] e)):=(Below.refl _ _).alloc (bk _) _;refine⟨_,_,j,_,_,D,A.Ab4 C hd m (z:=some (w.heap.size,0*n)) (xs:=[]) ⟨by simp,.inr ⟨w.heap.size,0,_,e,by simp,heap_alloc_new w _,by simp,by simp[maxLen],by simp,by simp,by simp⟩⟩ (fun b lo u=>?_) (fun F' _=>rfl) (by simp) (by simp) ⟨by simp,trivial⟩⟩;simp at u;rw[<-u.1];exact⟨bk _,by simp⟩
  .cases g
 .cases g
theorem Iy(h:AB):∀(g:Ne)(O:AB)(n:Nat),AB.get (N0 h g O) n=if n∈g then(h.get n).gave else O.get n
 |[],_,_=>by simp[N0]|q::g,O,n=>by
  rw [N0,AB.ea,Iy h g O n]
  grind
theorem KH(e:EV):(∃t,e=.ow t/\e.gave=.tv t)\/e.gave=.undef:=by
 cases e<;>first|exact .inl ⟨_,rfl,rfl⟩|exact .inr rfl
abbrev Sy:=Value ⊕ (Operand×Nat×Nat)
def ST:List Sy->Nat->List Sy->List Sy
 |l,_,[]=>l|l,i,y::ys=>ST (l.set i y) (i+1) ys
def QC(place:Nat->Option (Nat×Nat)):List (Nat×Operand)->List Sy->Option (List Sy)
 |[],row=>some row|(i,x)::ps,row=>match place i with
  |some (off,n)=>if off+n<=row.length then QC place ps (ST row off ((List.range n).map fun k=>.inr (x,k,n)))else none|none=>none
def Sy.is(a:Act):Sy->Value->Prop
 |.inl u,v=>v=u|.inr (x,k,_),v=>(a.eval x).cells[k]?=some v
def O6(a:Act)(row:List Sy)(xs:List Value):Prop:=xs.length=row.length/\∀(j:Nat)(s:Sy)(v:Value),row[j]?=some s->xs[j]?=some v->s.is a v
variable{v:Value}
theorem dc{a:Act}{row:List Sy}{xs:List Value}(h:O6 a row xs){s:Sy}(m:s.is a v)(i:Nat):O6 a (row.set i s) (xs.set i v):=by
 refine ⟨by simp[h.1],fun j s' l g k=>?_⟩;rw[List.getElem?_set]at g k;by_cases e:i=j
 .grind
 .rw[az e]at g k;exact h.2 j s' l g k
theorem WD{a:Act}:∀{g:List Sy}{vs:List Value}{row:List Sy}{xs:List Value}(i:Nat),O6 a row xs->O6 a g vs->O6 a (ST row i g) (Tb xs i vs)
 |[],[],_,_,_,h,_=>h|[],_::_,_,_,_,_,h=>by have:=h.1;simp at this|_::_,[],_,_,_,_,h=>by have:=h.1;simp at this|s::g,v::vs,row,xs,i,h,k=>by
  rw [ST,Tb];exact WD (i+1) (dc h (k.2 0 s v rfl rfl) i) ⟨by have:=k.1;simpa using this,fun j s' l m u=>k.2 (j+1) s' l (by simpa using m) (by simpa using u)⟩
theorem XS{a:Act}{place:Nat->Option (Nat×Nat)}:∀{u:List (Nat×Operand)}{row g:List Sy}{xs:Array Value},O6 a row xs.toList->(∀p∈u,∀l n,place p.1=some (l,n)->(a.eval p.2).cells.size=n)->QC place u row=some g ->
  ∃xs',Instr.fill place xs (u.map fun(i,x)=>(i,a.eval x))=some xs'/\O6 a g xs'.toList
 |[],row,g,xs,h,_,hf=>by
  simp [QC]at hf;subst hf;exact⟨xs,rfl,h⟩
 |(i,x)::u,row,g,xs,h,D,hf=>by
  rw [QC]at hf;split at hf
  .rename_i l n A;split at hf
   .rename_i E;have m:=D (i,x) (by simp) l n A;simp only at m;have H:=h.1;rw[Array.length_toList]at H;have I:O6 a (ST row l ((List.range n).map fun k=>.inr (x,k,n))) (((a.eval x).cells.zipIdx.foldl (fun cs(y:Value×Nat)=>cs.setIfInBounds (l+y.2) y.1) xs)).toList:=by
     rw [<-Array.foldl_toList,Array.toList_zipIdx,PF,Nat.add_zero];refine WD l h ⟨by simp[m],fun j s v B L=>?_⟩;rw[List.getElem?_map]at B;simp at B;obtain⟨k,M,rfl⟩:=B;have C:k=j:=by
      grind
     subst C;show(a.eval x).cells[k]?=some v
     grind
    obtain ⟨xs',N,J⟩:=XS I (fun p A=>D p (by simp[A])) hf;refine⟨xs',?_,J⟩;simp[List.map_cons,Instr.fill,A]
    grind
   .cases hf
  .cases hf
def P2:GC->Sy->Bool
 |.z c,.inl v=>SC c v|.v y k n,.inr (x,k',n')=>AI x y&&k==k'&&n==n'|.w q,.inr (x,k',n')=>AI x (.s q)&&k'==0&&n'==1|.g q k n,.inr (x,k',n')=>AI x (.s q)&&k==k'&&n==n'|_,_=>false
def Qx:List GC->List Sy->Bool
 |[],[]=>true|g::gs,s::ss=>P2 g s&&Qx gs ss|_,_=>false
def R1(x:Operand)(n:Nat):GC->Bool
 |.z _=>false|.v y _ m=>AI x y&&m==n|.w q=>AI x (.s q)&&1==n|.g q _ m=>AI x (.s q)&&m==n
def RA(place:Nat->Option (Nat×Nat))(z:List Value)(ps:List (Nat×Operand))(gs:List GC):Bool:=
 (ps.all fun p=>match place p.1 with
  |some (_,n)=>gs.any (R1 p.2 n)|none=>false) &&
 match QC place ps (z.map .inl)with
 |some row=>Qx gs row|none=>false
def Xp(P:Program)(t:TypeId)(ps:List (Nat×Operand))(gs:List GC):Bool:=
 match P.info? t,P.underlying t with
 |some it,some (.array _ e)=>
  match it.zero,P.info? e with
  |some z,some ie=>RA (fun i=>some (i*ie.size,ie.size)) z.cells.toList ps gs|_,_=>false
 |some it,some (.struct fields)=>
  match it.zero,fields.toList.mapM (fun f=>(P.info? f.type).map fun i=>(f.offset,i.size))with
  |some z,some places=>RA (places.toArray[·]?) z.cells.toList ps gs|_,_=>false
 |_,_=>false
theorem R0:∀{k:List GC}{l:List Sy},Qx k l=true->l.length=k.length/\∀(j:Nat)(g:GC),k[j]?=some g->∃s,l[j]?=some s/\P2 g s=true
 |[],[],_=>⟨rfl,fun j g h=>by simp at h⟩|[],_::_,h=>by cases h
 |_::_,[],h=>by cases h
 |g::k,s::l,h=>by
  rw [Qx,tg]at h;obtain⟨m,u⟩:=R0 h.2
  grind
theorem UM:∀{k:List GC}{cs:List AQ},Hb O k=some cs->cs.length=k.length/\∀(j:Nat)(g:GC),k[j]?=some g->∃c,cs[j]?=some c/\g.cell O=some c
 |[],cs,h=>by simp[Hb]at h;subst h;exact⟨rfl,fun j g h=>by simp at h⟩|g::k,cs,h=>by
  rw [Hb]at h;split at h
  .rename_i c cs' m l;cases h;obtain⟨u,A⟩:=UM l
   grind
  .cases h
variable{q:Nat}
theorem Ix(h:AI x (.s q)=true):a.eval x=slot a q:=by
 cases x<;>simp[AI]at h;rw[h];rfl
variable{c:AQ}
theorem fM(l:AR F0 w0 O a w G){g:GC}(h:g.cell O=some c)(j:R1 x n g=true):(a.eval x).cells.size=n:=by
 cases g with
 |z c=>cases j
 |v y k m=>
  simp [R1]at j;obtain⟨j,rfl⟩:=j;simp[GC.cell]at h;split at h
  .rename_i t B;split at h
   .rename_i u A;have:=A5 (Fu (Ar l j B).1).1
    grind [Array.length_toList,Nat.eq_of_beq_eq_true]
   .cases h
  .cases h
 |w q=>
  simp [R1]at j;obtain⟨j,rfl⟩:=j;rw[Ix j];have:(slot a q).oneCell'=true:=by
   simp [GC.cell]at h;split at h
   .rename_i t e;have:=AW l e (by simp)
    grind [AM,Sr]
   .rename_i m es e;have:=AW l e (by simp);exact F8 (ρ:=rho a G) (c:=⟨true,.xl m es⟩) this
   .cases h
  rw [Nl this];rfl
 |g q k m=>
  simp [R1]at j;obtain⟨j,rfl⟩:=j;rw[Ix j];simp[GC.cell]at h;split at h
  .rename_i cs e;split at h
   .rename_i u;have:=AW l e (by simp);simp[AM]at this;obtain⟨vs,A,C,_⟩:=this;rw[A];show vs.size=m;rw[C,Nat.eq_of_beq_eq_true u]
   .cases h
  .cases h
theorem m9(A:AR F0 w0 O a w G){g:GC}(h:g.cell O=some c){s:Sy}(l:P2 g s=true)(hv:s.is a v):A4 w (AS w0.heap.size F0 G) (rho a G) (g.src.bind fun p=>G p.1 p.2) c v/\c.t.WF:=by
 cases g with
 |z c'=>
  cases s with
  |inr p=>cases l
  |inl u=>
   simp [GC.cell]at h;subst h;have:v=u:=hv;subst this;exact S8 l
 |v y k m=>
  cases s with
  |inl u=>cases l
  |inr p=>
   obtain ⟨x,E,H⟩:=p;simp[P2]at l;obtain⟨⟨B,rfl⟩,_⟩:=l;have hv:(a.eval x).cells[k]?=some v:=hv;simp[GC.cell]at h;split at h
   .rename_i t J;split at h
    .rename_i c' U C;cases h;obtain⟨L,M⟩:=Ar A B J;obtain⟨N,R⟩:=Fu L;rw[<-Array.getElem?_toList]at hv;exact⟨⟨((BM _ _).1 N).2 k _ _ C hv,R v (List.mem_of_getElem? hv)⟩,BZ.1 (G3 M) _ (List.mem_of_getElem? C)⟩
    .cases h
   .cases h
 |w q=>
  cases s with
  |inl u=>cases l
  |inr p=>
   obtain ⟨x,E,H⟩:=p;simp[P2]at l;obtain⟨⟨B,rfl⟩,_⟩:=l;have hv:(a.eval x).cells[0]?=some v:=hv;rw[Ix B]at hv;have j:=A.wf q;simp[GC.cell]at h;split at h
   .rename_i t e;cases h;have:=AW A e (by simp);simp[AM]at this;rw[Nl (Sr this)]at hv;cases hv;rw[e]at j;exact⟨this.c,j⟩
   .rename_i m es e;cases h;have:=AW A e (by simp);have D:A4 w (AS w0.heap.size F0 G) (rho a G) (G q none) ⟨true,.xl m es⟩ (slot a q):=this;rw[Nl (F8 D)]at hv;cases hv;rw[e]at j;exact⟨D,j⟩
   .cases h
 |g q k m=>
  cases s with
  |inl u=>cases l
  |inr p=>
   obtain ⟨x,E,H⟩:=p;simp[P2]at l;obtain⟨⟨B,rfl⟩,_⟩:=l;have hv:(a.eval x).cells[k]?=some v:=hv;rw[Ix B]at hv;have j:=A.wf q;simp[GC.cell]at h;split at h
   .rename_i cs e;split at h
    .have:=AW A e (by simp);simp[AM]at this;obtain⟨vs,C,_,T⟩:=this;rw[C]at hv;have hv:vs[k]?=some v:=hv;obtain⟨x',I,D⟩:=T k c h;rw[hv]at I;cases I;rw[e]at j;exact⟨D,j c (List.mem_of_getElem? h)⟩
    .cases h
   .cases h
theorem AR.regather(h:AR F0 w0 O a w G)(hd:d<a.tmps.size){C:Ne}{cs:List AQ}{vs:Array Value}(σ:Nat->Option (Nat×Option Nat))(hdq:d∉C)(Y:vs.size=cs.length)(hσ:∀j q i,σ j=some (q,i)->q∈C)
  (R:∀j T p,σ j=some p->σ T=some p->j=T)(hc:∀(j:Nat)(c:AQ),cs[j]?=some c->∃x,vs[j]?=some x/\A4 w (AS w0.heap.size F0 G) (rho a G) ((σ j).bind fun p=>G p.1 p.2) c x)(hwf:∀c∈cs,c.t.WF)(hq:∀q∈C,q<a.tmps.size):
  Bb F0 w0 ((d,.oag cs)::N0 O C O) (a.put (some d) (.agg vs)) w:=by
 let A:BH:=fun p i=>if p=d then i.bind fun j=>(σ j).bind fun p=>G p.1 p.2 else if p∈C then none else G p i
 have I:∀p i b lo,A p i=some (b,lo)->(∃j q k,p=d/\i=some j/\σ j=some (q,k)/\G q k=some (b,lo))\/(p≠d/\p∉C/\G p i=some (b,lo)):=by
  intro p i b lo m;simp[A]at m;split at m
  .rename_i u;cases i with
   |none=>cases m
   |some j=>
    simp at m;cases hj:σ j with
    |none=>rw[hj]at m;cases m
    |some q=>rw[hj]at m;exact .inl ⟨j,q.1,q.2,u,rfl,hj,m⟩
  grind
 have hF:∀b o,AS w0.heap.size F0 A b o->AS w0.heap.size F0 G b o:=fun b o hf=>AS.mono (fun p i b lo m=>by
  grind) hf
 have J:BO w w (AS w0.heap.size F0 G) (AS w0.heap.size F0 A):=fun b o v hc hf=>⟨hc,fun hf'=>hf (hF b o hf')⟩;have D:rho (a.put (some d) (.agg vs)) A=rho a G:=K4 (BP _ _ _) fun p m=>by
  grind
 refine ⟨A,?_,?_,h.below,by rw[EM];exact h.defers,?_,?_,?_⟩
 .intro p i p' i' b lo lo' e1 g;rcases I _ _ _ _ e1 with⟨j,q,k,rfl,rfl,W,f2⟩|⟨n1,n2,W⟩<;>rcases I _ _ _ _ g with⟨T,q',k',rfl,rfl,X,g2⟩|⟨m1,m2,X⟩
  .obtain⟨V,e4⟩:=h.o3 _ _ _ _ _ _ _ f2 g2;subst V;subst e4;exact⟨rfl,by rw[R j T _ W X]⟩
  .obtain⟨V,_⟩:=h.o3 _ _ _ _ _ _ _ f2 X;exact absurd (V▸hσ j q k W) m2
  .obtain⟨V,_⟩:=h.o3 _ _ _ _ _ _ _ g2 W;exact absurd (V▸hσ T q' k' X) n2
  .exact h.o3 _ _ _ _ _ _ _ W X
 .intro p i b lo e1;rcases I _ _ _ _ e1 with⟨j,q,k,_,_,_,f⟩|⟨_,_,f⟩<;>exact h.lt _ _ _ _ f
 .intro p m;rw[BP]at m;rw[AB.ea,az (by omega),Iy];split
  .rename_i hm;have:=hq p hm;omega
  .exact h.dom p m
 .intro p m;rw[BP]at m;rw[AB.ea];by_cases u:d=p
  .subst u;rw[ae rfl,CN _ _ _ hd];simp only[AM];refine⟨_,rfl,Y,fun i c hci=>?_⟩;obtain⟨x,M,hr⟩:=hc i c hci;refine⟨x,M,?_⟩;have:A d (some i)=(σ i).bind fun p=>G p.1 p.2:=by simp only[A,if_true];rfl
   rw [this,D];exact hr.kept J (fun _ _ _=>rfl) A6.rfl'
  .rw[az u,AT _ _ _ _ u,Iy];split
   .rcases KH (O.get p)with⟨t,e,g⟩|g
    .have E:=AW h e (by simp);rw[g];simp[AM]at E|-;exact Bv J _ _ (Be.rep E (fun b lo o hz ho=>Mx h b lo o hz ho))
    .rw[g];simp[AM]
   .rename_i hnq;refine AM.kept J (fun i=>by simp[A];rw[az (fun e=>u e.symm),az hnq]) (fun _ _ _ _=>rfl) D A6.rfl' (fun r i k _⟨pp,H⟩=>?_) (fun r off _⟨cs',l⟩=>?_) (fun r i _⟨pp,H⟩=>?_) (h.slots p m)
    .have L:=AB.Aah (by simp) H;have B:=Iy O C O r;split at B
     .have U:=L.2;rcases KH (O.get r)with⟨t,_,g⟩|g<;>rw[g]at B<;>simp[AB.nat,B]at U<;>cases U
     .have M:∃p,O.nat r i=some p:=⟨pp,by rw[<-L.2];exact(AB.AaF B).symm⟩;exact⟨M,h.nh M (AT _ _ _ _ L.1) (fun _ _ _ _=>rfl)⟩
    .rw[AB.ea]at l;by_cases N:d=r
     .rw[ae N]at l;cases l
     .rw[az N,Iy]at l;split at l
      .rcases KH (O.get r)with⟨t,_,g⟩|g<;>(rw[g]at l;cases l)
      .exact⟨⟨cs',l⟩,AT _ _ _ _ N⟩
    .have L:=AB.x9 (by simp) (by simp) H;have B:=Iy O C O r;split at B
     .have U:=L.2;rcases KH (O.get r)with⟨t,_,g⟩|g<;>rw[g]at B<;>cases i<;>simp[AB.x7,B]at U<;>cases U
     .have M:∃p,O.x7 r i=some p:=⟨pp,by rw[<-L.2];exact(AB.Aat B).symm⟩;exact⟨M,h.xv M (AT _ _ _ _ L.1) (fun _ _=>rfl)⟩
 .intro p;rw[AB.ea];split
  .exact hwf
  .rw[Iy];have:=h.wf p;split
   .rcases KH (O.get p)with⟨t,e,g⟩|g
    .rw[e]at this;rw[g];exact this
    .rw[g];trivial
   .exact this
theorem WS{α β:Type}{f:α->Option β}{l:List α}(g:(l.filterMap f).Nodup){i j:Nat}{p:β}(hi:(l[i]?).bind f=some p)(u:(l[j]?).bind f=some p):i=j:=by
 have key:∀(l:List α)(i j:Nat),(l.filterMap f).Nodup->(l[i]?).bind f=some p->(l[j]?).bind f=some p->i<j->False:=by
  intro l
  induction l with
  |nil=>intro i j _ h;simp at h|cons x l C=>
   intro i j g A B m;obtain⟨j,rfl⟩:∃k,j=k+1:=⟨j-1,by omega⟩
   grind
 grind
theorem d8(L:AR F0 w0 O a w G)(hd:d<a.tmps.size){E:Array (Nat×Operand)}{A:List GC}(X:o.op=.build t E)(l:Xp P t E.toList A=true)(h:(AE.Aaz A).wp S O (some d) K):As P F0 w0 a w o d K:=by
 simp only[AE.wp]at h;obtain⟨⟨hn,hdq⟩,h⟩:=h;cases H:Hb O A with
 |none=>rw[H]at h;exact h.elim|some cs=>
  rw [H]at h;simp[AV]at h;obtain⟨hl,D⟩:=UM H;have key:∀(place:Nat->Option (Nat×Nat))(z:Array Value),RA place z.toList E.toList A=true->∃xs',Instr.fill place z (E.map fun(i,x)=>(i,a.eval x)).toList=some xs'/\xs'.size=cs.length/\
    ∀(j:Nat)(c:AQ),cs[j]?=some c->(∃x,xs'[j]?=some x/\A4 w (AS w0.heap.size F0 G) (rho a G) (((A[j]?).bind GC.src).bind fun p=>G p.1 p.2) c x)/\c.t.WF:=by
   intro place z hp;unfold RA at hp;rw[tg,List.all_eq_true]at hp;obtain⟨hp1,J⟩:=hp;split at J
   .rename_i row N;have h5:(E.map fun(i,x)=>(i,a.eval x)).toList=E.toList.map fun(i,x)=>(i,a.eval x):=by simp
    obtain ⟨xs',Y,U⟩:=XS (a:=a) (xs:=z) (row:=z.toList.map .inl) ⟨by simp,fun j s v B C=>by
     rw [List.getElem?_map]at B;simp only[Option.map_eq_some_iff]at B;obtain⟨u,hu,rfl⟩:=B;rw[hu]at C;cases C;rfl⟩ (fun p hm off n M=>by
     grind [List.any_eq_true,List.getElem?_of_mem,fM]) N
    obtain ⟨m1,m2⟩:=R0 J;have R:=U.1;rw[Array.length_toList]at R;refine⟨xs',by rw[h5];exact Y,by omega,fun j c m=>?_⟩;have hj:j<A.length:=by have:=(List.getElem?_eq_some_iff.1 m).1;omega
    have I:A[j]?=some A[j]:=List.getElem?_eq_getElem hj;obtain⟨c',T,hc2⟩:=D j _ I;rw[m]at T;cases T;obtain⟨s,hs1,hs2⟩:=m2 j _ I;have hx:xs'[j]?=some (xs'[j]'(by omega)):=Array.getElem?_eq_getElem (by omega);obtain⟨r1,r2⟩:=m9 L hc2 hs2 (U.2 j s _ hs1 (by rw[Array.getElem?_toList];exact hx));rw[I];exact⟨⟨_,hx,r1⟩,r2⟩
   .cases J
  have built:∃xs',P.built t (E.map fun(i,x)=>(i,a.eval x)).toList=some xs'/\xs'.size=cs.length/\
    ∀(j:Nat)(c:AQ),cs[j]?=some c->(∃x,xs'[j]?=some x/\A4 w (AS w0.heap.size F0 G) (rho a G) (((A[j]?).bind GC.src).bind fun p=>G p.1 p.2) c x)/\c.t.WF:=by
   unfold Xp at l;unfold Program.built;split at l
   .rename_i it len e B C;simp only[B,C];split at l
    .rename_i z ie hz hie;simp only[hz,hie];exact key _ _ l
    .cases l
   .rename_i it V B C;simp only[B,C];split at l
    .rename_i z W hz M;simp only[hz,M];exact key _ _ l
    .cases l
   .cases l
  obtain ⟨xs',B,C,h3⟩:=built;refine⟨.agg xs',w,by simp[execOp,X,run_build w t _ _ B],_,_,h,L.regather hd (fun j=>(A[j]?).bind GC.src) hdq C (fun j q i e=>?_) (fun j j' p Y U=>WS hn Y U) (fun j c m=>(h3 j c m).1) (fun c m=>?_) (fun q hq=>?_)⟩
  .rw[Option.bind_eq_some_iff]at e;obtain⟨g,I,e⟩:=e;refine List.mem_filterMap.2 ⟨g,List.mem_of_getElem? I,?_⟩;cases g<;>simp[GC.src]at e<;>simp[GC.slot,e.1]
  .grind[List.getElem?_of_mem]
  .obtain⟨g,I,e⟩:=List.mem_filterMap.1 hq;obtain⟨j,hj⟩:=List.getElem?_of_mem I;obtain⟨c,_,m⟩:=D j g hj;cases g with
   |z c=>cases e
   |v y k n=>cases e
   |w q'=>
    cases e;simp[GC.cell]at m;split at m
    .rename_i t e;exact BQ L e (by simp)
    .rename_i n es e;exact BQ L e (by simp)
    .cases m
   |g q' k n=>
    cases e;simp[GC.cell]at m;split at m
    .rename_i cs e;exact BQ L e (by simp)
    .cases m
end
end Go.Sf
