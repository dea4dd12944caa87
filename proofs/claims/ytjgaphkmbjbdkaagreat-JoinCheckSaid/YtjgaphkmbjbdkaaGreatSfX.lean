/- Lists that nobody else reads: stores into them, appends, calls that turn them. -/
import Derived.Test.YtjgaphkmbjbdkaaGreatSfApp
import Derived.Lib.AppendZerosOnto
set_option linter.all false
namespace Go.Sf
open Go.RowKit (Below)
def Ro:Operand->Bool
 |.const v=>Ma v|_=>false
variable{α:Type}
theorem bX{a:Array α}{x:α}(h:a.toList=[x]):a=#[x]:=by
 cases a;simp_all
section flat
variable{w w':World}{F F':Nat->Nat->Prop}
mutual
theorem Sl:∀(t:TV),t.flat=true->∀v,An w F t v->An w' F' t v
 |.int _ _,_,_,h=>h|.bool _,_,_,h=>h|.str _,_,_,h=>h|.agg cs,hf,v,h=>by
  have:=GX cs (by simpa[TV.flat]using hf)
  grind [An]
 |.undef,hf,_,_=>by simp[TV.flat]at hf|.xl _ _,hf,_,_=>by simp[TV.flat]at hf|.nil,hf,_,_=>by simp[TV.flat]at hf|.list _ _,hf,_,_=>by simp[TV.flat]at hf|.pt _,hf,_,_=>by simp[TV.flat]at hf|.clo _ _,hf,_,_=>by simp[TV.flat]at hf
theorem GX:∀(ts:Fq),TV.wm ts=true->∀vs,AQ w F ts vs->AQ w' F' ts vs
 |[],_,vs,h=>h|t::ts,hf,vs,h=>by
  simp [TV.wm]at hf;simp[AQ]at h|-;obtain⟨v,r,g,j,k⟩:=h;exact⟨v,r,g,Sl t hf.1 v j,GX ts hf.2 r k⟩
end
theorem TS:∀(xs ys:Fq),TV.wm (xs++ys)=(TV.wm xs&&TV.wm ys)
 |[],ys=>by simp[TV.wm]|x::xs,ys=>by simp[TV.wm,TS xs ys,Bool.and_assoc]
theorem bz(t:TV)(h:t.flat=true):TV.wm t.cells=true:=by
 cases t<;>simp_all[TV.flat,TV.cells,TV.wm]
theorem My:∀(es:Fq),TV.wm es=true->TV.wm (es.flatMap TV.cells)=true
 |[],_=>rfl|e::es,h=>by
  simp [TV.wm]at h;rw[List.flatMap_cons,TS,bz e h.1,My es h.2];rfl
end flat
section
variable{P:Program}{S:FuncId->Fq->Ax->Prop}{F0:Nat->Nat->Prop}{w0:W0}{O:AB}{a:Act}{w:World}{G:BU}{d:Nat}{o:Oper}{K:EV->AB->Prop}
variable{q n:Nat}
theorem AB.xat_of_xo{O:AB}{es:Fq}(h:O.get q=.xo n es):O.sR q none=some (n,es):=by simp[AB.sR,h]
variable{x:Operand}{y:AG}
theorem OR(k:AO F0 w0 O a w G)(g:AJ x y=true){p:(Nat×Option Nat)×Nat×Fq}(h:y.up O=some p):O.sR p.1.1 p.1.2=some (p.2.1,p.2.2)/\XV a w p.1.1 p.1.2 (a.eval x):=by
 cases y with
 |c t=>simp[AG.up]at h|s m=>
  have l:x=.tmp m:=by
   cases x<;>simp[AJ]at g;rw[g]
  subst l;simp only[AG.up]at h;split at h
  .rename_i n es he;simp only[sr]at h;subst h;exact⟨by simp only[AB.sR,he],rfl⟩
  .rename_i q i he;split at h
   .rename_i u j;simp only[sr]at h;subst h;have:=AW k he (by simp);simp only[AN]at this;exact⟨j,this ⟨_,j⟩⟩
   .cases h
  .cases h
variable{i:Option Nat}{v:Value}
theorem Ot{es:Fq}(h:AO F0 w0 O a w G)(g:O.sR q i=some (n,es))(hv:XV a w q i v):
  (TV.list n es).WF/\∃xs,Jx w n v es.length xs (G q i)/\AQ w (AT w0.heap.size F0 G) (es.flatMap TV.cells) xs/\(∀e∈es,e.cells.length=n)/\∀x∈xs,x.oneCell'=true:=by
 cases i with
 |none=>
  have g:=AB.tc g;have j:=AW h g (by simp);have l:=h.wf q;rw[g]at l;simp only[AN]at j;simp only[XV]at hv;rw[hv];exact⟨l,j⟩
 |some k=>
  obtain ⟨cs,u,A⟩:=AB.sj g;have j:=AW h u (by simp);have l:=h.wf q;rw[u]at l;simp only[AN]at j;obtain⟨b,c,T,D,E,L,M,H⟩:=j;obtain⟨N,c',R,m,B,C⟩:=hv;rw[D]at m;simp only[Value.pointer.injEq,sr,Addr.mk.injEq,and_true,and_self]at m;subst m;rw[E]at B;cases B;obtain⟨x,I,J⟩:=H k _ A;rw[I]at C;cases C;exact⟨l _ (List.mem_of_getElem? A),J⟩
theorem nZ{es:Fq}(h:AO F0 w0 O a w G)(k:O.sR q i=some (n,es))(hv:XV a w q i v):∀b lo,G q i=some (b,lo)->lo=0:=by
 intro b lo g;obtain⟨_,xs,⟨z0,_,j⟩,_⟩:=Ot h k hv;rw[j]at g;cases z0 with
 |none=>simp at g|some p=>simp at g;exact g.2.symm
theorem gG{es:Fq}(h:AO F0 w0 O a w G)(u:O.sR q i=some (n,es))(hv:XV a w q i v)(k:es≠[]):
  ∃g cap j e xs,v=.slice (some ⟨g,0,none⟩) es.length cap/\w.heap[g]?=some (.cells j e (0,0))/\es.length<=cap/\cap<=maxLen/\j.size=cap*n/\j.toList.take (es.length*n)=xs/\G q i=some (g,0)/\AQ w (AT w0.heap.size F0 G) (es.flatMap TV.cells) xs/\(∀e∈es,e.cells.length=n)/\(∀x∈xs,x.oneCell'=true)/\xs.length=es.length*n:=by
 obtain ⟨_,xs,⟨z0,m,l⟩,A,B,C⟩:=Ot h u hv;rcases m.2 with⟨_,D,_⟩|⟨g,cap,j,e,E,H,I,J,L,M,N⟩
 .exact absurd (List.eq_nil_of_length_eq_zero D) k
 .exact⟨g,cap,j,e,xs,E,H,I,J,L,M,by rw[l,N];rfl,A,B,C,m.1⟩
theorem AO.rexo(h:AO F0 w0 O a w G){es:Fq}(L:O.sR q i=some (n,es))(hv:XV a w q i v){w':World}(hb:QT (G q i) w w'){es':Fq}{xs':List Value}(M:Jx w' n v es'.length xs' (G q i))
  (W:Bg w w' (AT w0.heap.size F0 G) (AT w0.heap.size F0 G)->AQ w' (AT w0.heap.size F0 G) (es'.flatMap TV.cells) xs')(hn:∀e∈es',e.cells.length=n)(h1:∀x∈xs',x.oneCell'=true)(hw:(TV.list n es').WF):
  AO F0 w0 (O.wB q i n es') a w' G:=by
 obtain ⟨b1,b2,b3,b4,b5⟩:=hb;have hz0:=nZ h L hv;have U:Bg w w' (AT w0.heap.size F0 G) (AT w0.heap.size F0 G):=by
  intro b o u hc hF;refine⟨?_,hF⟩;have V:b<w.heap.size:=by
   grind [Nat.lt_or_ge,World.cell?,Array.getElem?_eq_none]
  rw [World.cell?_of_block (w:=w) (a:=⟨b,o,none⟩) (b5 b V (fun lo B=>hF (.inr ⟨q,i,lo,B,by rw[hz0 b lo B];exact Nat.zero_le _⟩)))];exact hc
 have I:Gy F0 w0 w':=h.below.but b1 b2 b3 b4 (Z:=fun k=>∃lo,G q i=some (k,lo)) (fun b⟨lo,B⟩=>(h.lt _ _ _ _ B).2.imp id (fun e o=>e o (by rw[hz0 b lo B];exact Nat.zero_le _))) (fun k hk B=>b5 k (Nat.lt_of_lt_of_le hk h.below.size) (fun lo e=>B ⟨lo,e⟩));have V:∀s i b lo,G s i=some (b,lo)->b<w'.heap.size/\(w0.heap.size<=b\/∀o,lo<=o->w0.E b o):=fun s i b lo H=>⟨Nat.lt_of_lt_of_le (h.lt s i b lo H).1 b4,(h.lt s i b lo H).2⟩;have hxv:∀r j,(∃m,O.sR r j=some m)->∀v,XV a w r j v->XV a w' r j v:=by
  intro r j Y;cases j with
  |none=>exact fun v hv=>hv|some k=>
   refine h.xv Y rfl (fun b hb=>b5 b (h.lt _ _ _ _ hb).1 (fun lo B=>?_));obtain⟨rfl,rfl⟩:=h.nd _ _ _ _ _ _ _ B hb;have h1:=AB.tc L
   grind [AB.sj]
 have hqsz:q<a.tmps.size:=by
  cases i with
  |none=>exact h.lts (by rw[AB.tc L];simp)|some k=>obtain⟨cs,H,_⟩:=AB.sj L;exact h.lts (by rw[H];simp)
 have hrs:BI w w' (tg a G):=by
  intro g j b lo hr;exact b5 b (h.lt _ _ _ _ hr).1 (fun lo' B=>h.Abw hqsz B hr rfl)
 have hnh:∀r j,(∃m,O.nat r j=some m)->∀k v,NH a w r j k v->NH a w' r j k v:=by
  intro r j Y k;refine h.nh Y rfl (fun l b hl hb=>b5 b (h.lt _ _ _ _ hb).1 (fun lo B=>?_));obtain⟨rfl,rfl⟩:=h.nd _ _ _ _ _ _ _ B hb;obtain⟨es1,Y⟩:=Y;obtain⟨cs,C,N⟩:=AB.sB Y;rcases hl with rfl|rfl
  .rw[AB.tc L]at C;cases C
  grind [AB.sj]
 have oth:∀(p:Nat)(e:EV),p<a.tmps.size->p≠q->(∀j,(∃m,AB.nat ((q,e)::O) q j=some m)->∃m,O.nat q j=some m)->(∀cs,e=.bx cs->∃cs',O.get q=.bx cs')->(∀j,(∃m,AB.sR ((q,e)::O) q j=some m)->∃m,O.sR q j=some m)->AN a w' (AT w0.heap.size F0 G) G ((q,e)::O) p (O.get p) (slot a p):=by
  intro p e R hpq hnt hbx hxa;refine AN.kept U (fun _=>rfl) (fun j b lo B=>b5 b (h.lt _ _ _ _ B).1 (fun lo' hz'=>hpq (h.nd _ _ _ _ _ _ _ B hz').1)) rfl hrs (fun r j k _⟨m,A⟩=>?_) (fun r off _⟨cs,hcs⟩=>?_) (fun r j _⟨m,A⟩=>?_) (h.slots p R)
  .have Y:∃m,O.nat r j=some m:=by
    by_cases hqr:q=r
    .subst hqr;exact hnt j ⟨m,A⟩
    grind [AB.x7]
   grind
  .grind[AB.eb]
  .have Y:∃m,O.sR r j=some m:=by
    by_cases hqr:q=r
    .subst hqr;exact hxa j ⟨m,A⟩
    grind [AB.x5]
   grind
 cases i with
 |none=>
  have L:=AB.tc L;have hsz:=Bi h L (by simp);refine⟨h.nd,V,I,h.defers,fun p R=>?_,fun p R=>?_,fun p=>?_⟩
  .simp only[AB.wB];rw[AB.eb,ae (by omega)];exact h.dom p R
  .simp only[AB.wB];rw[AB.eb];by_cases D:q=p
   .subst D;rw[a6 rfl];simp only[AN];simp only[XV]at hv;rw[hv]at M;exact⟨xs',M,W U,hn,h1⟩
   .rw[ae D];refine oth p _ R (fun e=>D e.symm) (fun j⟨m,A⟩=>by obtain⟨cs,e⟩:=AB.Aat A;cases e) (by simp) (fun j⟨m,A⟩=>?_);cases j with
    |none=>exact⟨(n,es),by simp only[AB.sR,L]⟩|some k=>
     obtain ⟨n1,es1⟩:=m;obtain⟨cs,C,_⟩:=AB.sj A;rw[AB.eb,a6 rfl]at C;cases C
  .simp only[AB.wB];rw[AB.eb];split
   .exact hw
   .exact h.wf p
 |some k=>
  obtain ⟨cs,H,hk⟩:=AB.sj L;have hsz:=Bi h H (by simp);have hwc:=h.wf q;rw[H]at hwc;have hr:=AW h H (by simp);simp only[AN]at hr;obtain⟨b,c,T,e1,e2,e3,e4,e5⟩:=hr;obtain⟨b',c',T',f1,f2,f3⟩:=hv;rw[e1]at f1;simp only[Value.pointer.injEq,sr,Addr.mk.injEq,and_true,and_self]at f1;subst f1;rw[e2]at f2;cases f2;have hbb:w'.heap[b]?=w.heap[b]?:=b5 b (h.lt _ _ _ _ e4).1 (fun lo B=>by
   have:=(h.nd _ _ _ _ _ _ _ B e4).2;cases this)
  refine ⟨h.nd,V,I,h.defers,fun p R=>?_,fun p R=>?_,fun p=>?_⟩
  .simp only[AB.wB,H];rw[AB.eb,ae (by omega)];exact h.dom p R
  .simp only[AB.wB,H];rw[AB.eb];by_cases D:q=p
   .subst D;rw[a6 rfl];simp only[AN];refine⟨b,c,T,e1,by rw[hbb];exact e2,by simpa using e3,e4,fun j d X=>?_⟩;rw[List.getElem?_set]at X;by_cases J:k=j
    .subst J;rw[a6 rfl]at X;split at X
     .simp only[sr]at X;subst X;exact⟨v,f3,xs',M,W U,hn,h1⟩
     .cases X
    .rw[ae J]at X;obtain⟨x,g1,g2⟩:=e5 j d X;exact⟨x,g1,g2.kept U (fun b lo B=>b5 b (h.lt _ _ _ _ B).1 (fun lo' hz'=>J (by
      have:=(h.nd _ _ _ _ _ _ _ hz' B).2;simpa using this))) hrs⟩
   .rw[ae D];refine oth p _ R (fun e=>D e.symm) (fun j⟨m,A⟩=>?_) (fun _ _=>⟨cs,H⟩) (fun j⟨m,A⟩=>?_)
    .obtain⟨cs',C,N⟩:=AB.sB A;rw[AB.eb,a6 rfl]at C;simp only[EV.bx.injEq]at C;subst C;rw[List.getElem?_set]at N;split at N
     .split at N<;>simp at N
     .exact⟨m,by simp only[AB.nat,H,N]⟩
    obtain ⟨n1,es1⟩:=m;cases j with
    |none=>have C:=AB.tc A;rw[AB.eb,a6 rfl]at C;cases C
    |some j=>
     obtain ⟨cs',C,N⟩:=AB.sj A;rw[AB.eb,a6 rfl]at C;simp only[EV.bx.injEq]at C;subst C;rw[List.getElem?_set]at N;by_cases J:k=j
     .subst J;exact⟨(n,es),L⟩
     .rw[ae J]at N;exact⟨(n1,es1),by simp only[AB.sR,H,N]⟩
  .simp only[AB.wB,H];rw[AB.eb];split
   .intro y hy;rcases List.mem_or_eq_of_mem_set hy with hy|rfl
    .exact hwc y hy
    .exact hw
   .exact h.wf p
theorem AO.xgo(h:AO F0 w0 O a w G){es:Fq}(hq:O.get q=.xo n es)(hd:d<a.tmps.size)(hdq:d≠q){w':World}{e:EV}{z':Option (Nat×Nat)}
  (b1:w'.os=w.os)(b2:w'.tape=w.tape)(b3:w'.output=w.output)(b4:w.heap.size<=w'.heap.size)(X:∀k,k<w.heap.size->(∀lo,G q none≠some (k,lo))->w'.heap[k]?=w.heap[k]?)
  (m:∀b lo,z'=some (b,lo)->b<w'.heap.size/\(w.heap.size<=b\/∃l,G q none=some (b,l)))
  (Y:∀cs,e≠.bx cs)(hno:(∃n es,e=.xo n es)->O.f0 d=true)
  (hrep:∀(F':Nat->Nat->Prop)(I:BU)(env':AB)(a':Act),Bg w w' (AT w0.heap.size F0 G) F'->I d none=z'->(∀b o,F' b o->b<w.heap.size\/∃lo,z'=some (b,lo))->AN a' w' F' I env' d e v)(hw:e.WF):
  Bu F0 w0 ((d,e)::(q,.undef)::O) (a.put (some d) v) w':=by
 let I:BU:=Jm (Jm G q (fun _=>none)) d (fun i=>if i=none then z' else none)
 have U:=nZ h (AB.xat_of_xo hq) (v:=slot a q) rfl;have H:∀p i b lo,I p i=some (b,lo)->(p=d/\i=none/\z'=some (b,lo))\/(p≠d/\p≠q/\G p i=some (b,lo)):=by
  intro p i b lo T;by_cases C:p=d
  .grind[CA]
  .simp[I,BJ _ _ _ _ C]at T;by_cases hpq:p=q
   .grind[CA]
   .rw[BJ _ _ _ _ hpq]at T
    grind
 have hag:Bg w w' (AT w0.heap.size F0 G) (AT w0.heap.size F0 I):=by
  intro b o u hc hF;have hlt:b<w.heap.size:=World.block_lt_of_cell? w ⟨b,o,none⟩ hc;have hnz:∀lo,G q none≠some (b,lo):=fun lo D=>hF (.inr ⟨q,none,lo,D,by rw[U b lo D];exact Nat.zero_le _⟩);refine⟨?_,?_⟩
  .grind[World.cell?_of_block]
  .rintro(M|⟨p,i,lo,M,R⟩)
   .exact hF (.inl M)
   .rcases H _ _ _ _ M with⟨_,_,L⟩|⟨_,_,L⟩
    .grind
    .exact hF (.inr ⟨p,i,lo,L,R⟩)
 refine ⟨I,?_,?_,h.below.but b1 b2 b3 b4 (Z:=fun k=>∃lo,G q none=some (k,lo)) (fun b⟨lo,D⟩=>(h.lt _ _ _ _ D).2.imp id (fun e o=>e o (by rw[U b lo D];exact Nat.zero_le _))) (fun k hk D=>X k (Nat.lt_of_lt_of_le hk h.below.size) (fun lo e=>D ⟨lo,e⟩)),by rw[Ei];exact h.defers,?_,?_,?_⟩
 .intro p i p' i' b lo l L e2;have other:∀p i lo l,z'=some (b,lo)->p≠q->G p i=some (b,l)->False:=by
   intro p i lo l E W f3;rcases(m _ _ E).2 with V|⟨lo'',V⟩
   .have:=(h.lt _ _ _ _ f3).1;omega
   .exact W (h.nd _ _ _ _ _ _ _ f3 V).1
  rcases H _ _ _ _ L with⟨rfl,rfl,E⟩|⟨n1,n2,E⟩<;>rcases H _ _ _ _ e2 with⟨rfl,rfl,W⟩|⟨m1,m2,W⟩
  .exact⟨rfl,rfl⟩
  .exact(other _ _ _ _ E m2 W).elim
  .exact(other _ _ _ _ W n2 E).elim
  .exact h.nd _ _ _ _ _ _ _ E W
 .intro p i b lo L;rcases H _ _ _ _ L with⟨_,_,E⟩|⟨_,_,E⟩
  .refine⟨(m _ _ E).1,?_⟩;rcases(m _ _ E).2 with V|⟨l,V⟩
   .exact .inl (Nat.le_trans h.below.size V)
   .exact(h.lt _ _ _ _ V).2.imp id (fun e o _=>e o (by rw[U _ _ V];exact Nat.zero_le _))
  .exact⟨Nat.lt_of_lt_of_le (h.lt _ _ _ _ E).1 b4,(h.lt _ _ _ _ E).2⟩
 .intro p T;rw[Bh]at T;have:=Bi h hq (by simp);rw[AB.eb,ae (by omega),AB.eb,ae (by omega)];exact h.dom p T
 .intro p T;rw[Bh]at T;rw[AB.eb];by_cases C:d=p
  .subst C;rw[a6 rfl,Cr _ _ _ hd];refine hrep _ _ _ _ hag (by simp[I,CA]) fun b o hf=>?_;rcases hf with M|⟨p,i,lo,M,_⟩
   .exact .inl (Nat.lt_of_lt_of_le M.1 h.below.size)
   .rcases H _ _ _ _ M with⟨_,_,L⟩|⟨_,_,L⟩
    .exact .inr ⟨lo,L⟩
    .exact .inl (h.lt _ _ _ _ L).1
  .rw[ae C,AV _ _ _ _ C,AB.eb];split
   .trivial
   .rename_i hqp;refine AN.kept hag (fun i=>by simp[I];rw[BJ _ _ _ _ (fun e=>C e.symm),BJ _ _ _ _ (fun e=>hqp e.symm)]) (fun i b lo D=>X b (h.lt _ _ _ _ D).1 (fun l m=>hqp (h.nd _ _ _ _ _ _ _ m D).1)) (Mt (Bh _ _ _) fun r J=>by
     have:=Bi h hq (by simp);simp[I];rw[BJ _ _ _ _ (by omega),BJ _ _ _ _ (by omega)]) (fun g j b lo J=>by
     exact X b (h.lt _ _ _ _ J).1 (fun l D=>h.Abw (Bi h hq (by simp)) D J rfl)) (fun r i k J⟨pp,N⟩=>?_) (fun r off _⟨cs,A⟩=>?_) (fun r i J⟨pp,N⟩=>?_) (h.slots p T)
    .have M:=AB.wl Y N;have R:=AB.wl (by simp) M.2;exact⟨⟨pp,R.2⟩,h.nh ⟨pp,R.2⟩ (AV _ _ _ _ M.1) (fun _ b _ hb=>X b (h.lt _ _ _ _ hb).1 (fun l m=>R.1 (h.nd _ _ _ _ _ _ _ m hb).1))⟩
    .rw[AB.eb]at A;by_cases B:d=r
     .rw[a6 B]at A;exact absurd A (Y cs)
     .rw[ae B,AB.eb]at A;split at A
      .cases A
      .exact⟨⟨cs,A⟩,AV _ _ _ _ B⟩
    .by_cases B:d=r
     .subst B;have hno':O.f0 d=true:=by
       grind [AB.AaL]
      have hx:=AB.AaJ d O hno' p;rcases J with J|⟨c,J⟩
      .exact absurd J (hx.1 i)
      .exact absurd J (hx.2 i c)
     .rw[AB.x5 B]at N;have R:=AB.sx (by simp) (by simp) N;exact⟨⟨pp,R.2⟩,h.xv ⟨pp,R.2⟩ (AV _ _ _ _ B) (fun b hb=>X b (h.lt _ _ _ _ hb).1 (fun l m=>R.1 (h.nd _ _ _ _ _ _ _ m hb).1))⟩
 .intro p;rw[AB.eb];split
  .exact hw
  .rw[AB.eb];split
   .trivial
   .exact h.wf p
variable{s:Nat}
theorem bU(j:AO F0 w0 O a w G)(hd:d<a.tmps.size)(g:o.op=.move (.tmp s)\/o.op=.assign (.tmp s))(h:(AE.xal s).wp S O (some d) K):A2 P F0 w0 a w o d K:=by
 simp only[AE.wp]at h;split at h
 .rename_i n es l;refine⟨slot a s,w,by rcases g with g|g<;>simp[execOp,g,show a.eval (.tmp s)=slot a s from rfl],_,_,h,_,j.quiet (Below.refl _ _) d hd (.la s none) _ (fun _=>none) (by simp) (by simp) (by simp) ?_ trivial⟩;simp only[AN];rintro⟨p,k⟩;have m:=AB.sx (by simp) (by simp) k
  grind [XV,AV]
 .exact h.elim
variable{t e:TypeId}
theorem jv(j:AO F0 w0 O a w G)(hd:d<a.tmps.size)(k:o.op=.call {callee:=.builtin .len,args:=#[x],argTypes:=#[t]})(l:AJ x y=true)
  (he:P.underlying t=some (.slice e))(h:(AE.Abj y).wp S O (some d) K):A2 P F0 w0 a w o d K:=by
 simp only[AE.wp]at h;cases m:y.up O with
 |none=>rw[m]at h;exact h.elim|some p=>
  rw [m]at h;simp only[Al]at h;obtain⟨B,C⟩:=OR j l m;obtain⟨D,E⟩:=Ot j B C;simp only[TV.WF,JV]at D;obtain⟨xs,⟨z0,H,_⟩,_⟩:=E;have hv:∃u cap,a.eval x=.slice u p.2.2.length cap:=by
   rcases H.2 with⟨A,I,_⟩|⟨g,cap,_,_,A,_⟩
   .grind
   .exact⟨_,_,A⟩
  obtain ⟨u,cap,hv⟩:=hv;refine Cn j hd (v:=.int .i64 p.2.2.length) (t:=.int .i64 p.2.2.length) ?_ rfl ⟨by simp only[IntKind.min,IntKind.signed,IntKind.bits,if_true];omega,by simp only[IntKind.max_i64];omega⟩ h;simp[execOp,k,resolve,invoke,builtin,Builtin.len_,run_underlying he,hv,goInt]
theorem mc(l:AO F0 w0 O a w G)(hd:d<a.tmps.size){x i:Operand}{y j:AG}(E:o.op=.indexAddr t x i)(H:AJ x y=true)(u:AJ i j=true)(C:JK P t=some n)(h:(AE.xia y j n).wp S O (some d) K):A2 P F0 w0 a w o d K:=by
 simp only[AE.wp]at h;cases I:y.up O with
 |none=>rw[I]at h;exact h.elim|some p=>
  obtain ⟨⟨q,V⟩,m,es⟩:=p;rw[I]at h;simp only[Al]at h;split at h
  .rename_i k D T;obtain⟨⟨_,rfl⟩,W,M,X⟩:=h;obtain⟨Y,N⟩:=OR l H I;have A:=A0 l u T;simp only[An]at A;obtain⟨g,cap,cur,e,xs,R,_⟩:=gG l Y N (by rintro rfl;simp at M;omega);unfold JK at C;split at C
   .rename_i el U;have J:0<=D/\D<(es.length:Int):=⟨W,M⟩;refine⟨.pointer (some ⟨g,D.toNat*m,none⟩),w,?_,_,_,X,_,l.quiet (Below.refl _ _) d hd (.lp q V (D.toNat*m)) _ (fun _=>none) (by simp) (by simp) (by simp) ?_ trivial⟩
    .simp[execOp,E,R,A.1,Instr.indexAt,asIntOf,run_underlying U,J,CE C,Addr.add_lit]
    .simp only[AN];rintro⟨pp,L⟩;have B:=AB.sx (by simp) (by simp) L;exact⟨g,_,_,l.xv ⟨_,B.2⟩ (AV _ _ _ _ B.1) (fun _ _=>rfl) _ (by rw[<-R];exact N),rfl⟩
   .cases C
  .exact h.elim
theorem fE(k:AO F0 w0 O a w G)(h:AJ x y=true){q c:Nat}{p:Nat×Fq}(j:y.ev O=.lp q i c)(l:O.sR q i=some p):∃g len cap,XV a w q i (.slice (some ⟨g,0,none⟩) len cap)/\a.eval x=.pointer (some ⟨g,c,none⟩):=by
 cases y with
 |c t=>simp[AG.ev]at j|s m=>
  have u:x=.tmp m:=by
   cases x<;>simp[AJ]at h;rw[h]
  subst u;simp only[AG.ev]at j;have:=AW k j (by simp);simp only[AN]at this;exact this ⟨p,l⟩
theorem mb(l:AO F0 w0 O a w G)(hd:d<a.tmps.size){f k:Nat}(m:o.op=.fieldAddr t x f)(u:AJ x y=true)(B:PN P t f=some k)(h:(AE.xfa y k).wp S O (some d) K):A2 P F0 w0 a w o d K:=by
 simp only[AE.wp]at h;split at h
 .rename_i q i c C;split at h
  .rename_i I D;obtain⟨g,len,cap,E,H⟩:=fE l u C D;refine⟨.pointer (some ⟨g,c+k,none⟩),w,by simp[execOp,m,H,Tw B],_,_,h,_,l.quiet (Below.refl _ _) d hd (.lp q i (c+k)) _ (fun _=>none) (by simp) (by simp) (by simp) ?_ trivial⟩;simp only[AN];rintro⟨J,A⟩;have j:=AB.sx (by simp) (by simp) A;exact⟨g,_,_,l.xv ⟨_,j.2⟩ (AV _ _ _ _ j.1) (fun _ _=>rfl) _ E,rfl⟩
  .exact h.elim
 .exact h.elim
theorem md(l:AO F0 w0 O a w G)(hd:d<a.tmps.size)(m:o.op=.load t x)(u:AJ x y=true)(J:B9 P t=some false)(h:(AE.xld y).wp S O (some d) K):A2 P F0 w0 a w o d K:=by
 simp [AE.wp]at h;split at h
 .rename_i q i c L;split at h
  .rename_i M A;obtain⟨n,es⟩:=M;simp only at h;cases k:(es.flatMap TV.cells)[c]? with
   |none=>rw[k]at h;exact h.elim|some t'=>
    rw [k]at h;simp[Al]at h;have B:es≠[]:=by rintro rfl;simp at k
    obtain ⟨g,len,cap,D,U⟩:=fE l u L A;obtain⟨g',E,C,e,xs,H,V,f3,f4,f5,f6,f7,I,f9,W,X⟩:=gG l A D B;simp at H;obtain⟨rfl,rfl,rfl⟩:=H;have N:c<(es.flatMap TV.cells).length:=by
     grind
    have R:=BH I;obtain⟨y,Y⟩:∃y,xs[c]?=some y:=⟨_,List.getElem?_eq_getElem (by omega)⟩;have j:w.cell? ⟨g,c,none⟩=some y:=by
     rw [cell_of_row w g c C e (0,0) V]
     grind
    have T:=(Ot l A D).1;refine Cn l hd (v:=y) ?_ (((Bf _ _).1 I).2 c t' _ k Y) ?_ h
    .simp[execOp,m,U,Instr.loadAt,Instr.sureAddr,loadVar,Cp J,j]
    .have:=T.2;rw[Br]at this;have hm:=List.mem_of_getElem? k
     grind [Br,H7]
  .exact h.elim
 .exact h.elim
theorem cP{t:TV}(h:TV.sc t.cells):t.WF:=by
 cases t<;>simp[TV.cells,TV.sc]at h<;>first|exact h|(simp[TV.WF];exact h)
theorem bc{es:Fq}(h:TV.sc es):TV.sc (es.flatMap TV.cells):=by grind[Br,H7]
theorem T3:∀{es:Fq},TV.sc (es.flatMap TV.cells)->TV.sc es
 |[],_=>trivial|e::es,h=>by
  rw [List.flatMap_cons]at h;rw[KV]at h;exact⟨cP h.1,T3 h.2⟩
variable{ts:Fq}
theorem cI{w:World}{F:Nat->Nat->Prop}{xs:List Value}(h:AQ w F ts xs)(c:Nat):AQ w F (ts.take c) (xs.take c):=by
 rw [Bf]at h|-
 grind
theorem cH{w:World}{F:Nat->Nat->Prop}{xs:List Value}(h:AQ w F ts xs)(c:Nat):AQ w F (ts.drop c) (xs.drop c):=by
 rw [Bf]at h|-
 grind
theorem mf(C:AO F0 w0 O a w G){x v:Operand}{x' W:AG}{m:Nat}(H:o.op=.store t x v)(X:AJ x x'=true)(hv:AJ v W=true)(hn:C0 P t=some m)(h:(AE.xst x' W m).wp S O none K):Hs P F0 w0 a w o K:=by
 simp [AE.wp]at h;split at h
 .rename_i q i c hy;split at h
  .rename_i n es u E hu;obtain⟨⟨h1,h0⟩,Y,es',h3,B,h5,hK⟩:=h;obtain⟨g,len,cap,T,e2⟩:=fE C X hy E;have D:=(Ot C E T).1;have I:=A0 C hv (t:=u) (by simp[AG.val,hu,EV.val]);have h6:TV.sc es':=by
    have h7:=bc D.2
    grind [TV.sc,TV.cells,Br,List.mem_of_mem_take,H7,List.mem_of_mem_drop,T3]
   have J:es≠[]:=by rintro rfl;simp at Y;omega
   obtain ⟨g',cap',j,e,xs,f1,f2,f3,f4,f5,f6,f7,f8,f9,f10,U⟩:=gG C E T J;simp at f1;obtain⟨rfl,rfl,rfl⟩:=f1;obtain⟨k2,k3⟩:=GY I.1;obtain⟨ys,V⟩:∃ys,(a.eval v).cells.toList=ys:=⟨_,rfl⟩;rw[V]at k2 k3;have A:ys.length=m:=by rw[BH k2,h1]
   have hcc:c+m<=j.size:=by rw[f5];exact Nat.le_trans Y (Nat.mul_le_mul_right _ f3)
   have l:=run_storeCells_at P g c e ys 0 j w f2 (by omega) k3;simp at l;have L:(a.eval v).cells.size=m:=by rw[<-Array.length_toList,V,A]
   have M:(execOp a.eval o).run P w=.ok .skip (w.setRow g (j.toList.take c++ys++j.toList.drop (c+m)).toArray):=by
    rw [A]at l;simp[execOp,H,e2,Instr.storeAt,Instr.sureAddr,storeVar,CE hn,L,V,l]
   refine ⟨_,M,_,hK,G,?_⟩;have N:xs.length=es.length*n:=U;refine C.rexo E T (w':=w.setRow g (j.toList.take c++ys++j.toList.drop (c+m)).toArray) (xs':=xs.take c++ys++xs.drop (c+m)) ⟨rfl,rfl,rfl,by simp,fun k _ hk=>setRow_other w g k _ (fun e=>hk 0 (by rw[e];exact f7))⟩ ⟨some (g,es.length*n),⟨by simp[A,N,B];omega,.inr ⟨g,cap,_,e,by rw[B],setRow_heap w g j _ e _ f2,by rw[B];exact f3,f4,?_,?_,by rw[B]⟩⟩,by rw[f7];rfl⟩ (fun hag=>?_) h5 (fun x X=>?_) ⟨by rw[B];exact D.1,h6⟩
   .grind
   .rw[B,<-f6];have R:c<=j.toList.length:=by rw[Array.length_toList];omega
    have hA:(j.toList.take c++ys).length=c+m:=by rw[ba,bk,A,Nat.min_eq_left R]
    show (j.toList.take c++ys++j.toList.drop (c+m)).take (es.length*n)=_
    grind [List.take_append,List.take_of_length_le,Nat.min_eq_left,List.drop_take]
   .grind[As,IK,cI,cH]
   grind
  .exact h.elim
 .exact h.elim
theorem bR(l:AO F0 w0 O a w G)(hd:d<a.tmps.size)(g:o.op=.move (.tmp s)\/o.op=.assign (.tmp s))(h:(AE.rel s).wp S O (some d) K):A2 P F0 w0 a w o d K:=by
 simp [AE.wp]at h;split at h
 .rename_i J n es k m;simp at k;subst k;obtain⟨u,E⟩:=h;have A:=AW l m (by simp);have B:=l.wf s;rw[m]at B;simp[AN]at A;obtain⟨xs,⟨z0,L,j⟩,M,N,R⟩:=A;refine⟨slot a s,w,by rcases g with g|g<;>simp[execOp,g,show a.eval (.tmp s)=slot a s from rfl],_,_,E,l.xgo m hd u (z':=z0) rfl rfl rfl (az _) (fun _ _ _=>rfl) (fun b lo C=>?_) (by simp) (by simp) (fun F' H env' a' D I _=>?_) B⟩
  .rw[C]at j;exact⟨(l.lt _ _ _ _ j).1,.inr ⟨_,j⟩⟩
  grind [AN,By,As]
 .exact h.elim
theorem bS(k:AO F0 w0 O a w G)(hd:d<a.tmps.size)(g:o.op=.move (.tmp s)\/o.op=.assign (.tmp s))(h:(AE.tkx s).wp S O (some d) K):A2 P F0 w0 a w o d K:=by
 simp [AE.wp]at h;split at h
 .rename_i J n es j l;simp at j;subst j;obtain⟨m,u,E⟩:=h;have B:=AW k l (by simp);have C:=k.wf s;rw[l]at C;simp[AN]at B;obtain⟨xs,L,M,N,R⟩:=B;refine⟨slot a s,w,by rcases g with g|g<;>simp[execOp,g,show a.eval (.tmp s)=slot a s from rfl],_,_,E,k.xgo l hd u (z':=G s none) rfl rfl rfl (az _) (fun _ _ _=>rfl) (fun b lo A=>⟨(k.lt _ _ _ _ A).1,.inr ⟨_,A⟩⟩) (by simp) (fun _=>m) (fun F' H env' a' D I _=>?_) C⟩
  grind [AN,As]
 .exact h.elim
theorem AO.AbN(h:AO F0 w0 O a w G){w':World}(A:Below w.heap.size w w')(hd:d<a.tmps.size)(u:O.f0 d=true){es:Fq}{z:Option (Nat×Nat)}{xs:List Value}(j:Fv w' n v es.length xs z)
  (B:∀b lo,z=some (b,lo)->w.heap.size<=b/\b<w'.heap.size)
  (k:∀F',(∀b o,F' b o->(b<w.heap.size/\AT w0.heap.size F0 G b o)\/∃lo,z=some (b,lo))->AQ w' F' (es.flatMap TV.cells) xs)(C:∀e∈es,e.cells.length=n)(D:∀x∈xs,x.oneCell'=true)(E:(TV.list n es).WF):
  Bu F0 w0 ((d,.xo n es)::O) (a.put (some d) v) w':=by
 refine ⟨_,h.quiet A d hd (.xo n es) v (fun i=>if i=none then z.map (fun p=>(p.1,0))else none) (fun i b lo hi=>?_) (fun i I b lo H g m=>?_) (fun _=>u) ?_ E⟩
 .split at hi
  .cases z with
   |none=>simp at hi|some p=>
    simp at hi;exact hi.1▸B p.1 p.2 rfl
  .cases hi
 .split at g
  .split at m
   .simp_all
   .cases m
  .cases g
 .simp[AN];refine⟨xs,⟨z,j,by rw[CA];simp⟩,k _ (fun b o hf=>?_),C,D⟩;rcases hf with hf|⟨p,i,lo,g,m⟩
  .exact .inl ⟨Nat.lt_of_lt_of_le hf.1 h.below.size,.inl hf⟩
  .by_cases l:p=d
   .subst l;rw[CA]at g;split at g
    .cases z with
     |none=>simp at g|some q=>
      simp at g;exact .inr ⟨q.2,by rw[<-g.1]⟩
    .cases g
   .rw[BJ _ _ _ _ l]at g;exact .inl ⟨(h.lt _ _ _ _ g).1,.inr ⟨p,i,lo,g,m⟩⟩
theorem YR(k:AO F0 w0 O a w G)(hd:d<a.tmps.size)(g:o.op=.move x\/o.op=.assign x)(l:∃v,x=.const v/\Ma v=true)(h:(AE.Aba n).wp S O (some d) K):A2 P F0 w0 a w o d K:=by
 simp [AE.wp]at h;obtain⟨j,m⟩:=h;obtain⟨v,rfl,hv⟩:=l;have hv:=Jo hv;subst hv;refine⟨.slice none 0 0,w,by rcases g with g|g<;>simp[execOp,g,Act.eval],_,_,m,k.AbN (Below.refl _ _) hd j (z:=none) (xs:=[]) ⟨by simp,.inl ⟨rfl,rfl,rfl⟩⟩ (by simp) (fun _ _=>rfl) (by simp) (by simp) ⟨by simp,trivial⟩⟩
variable{f:FuncId}{ys:List AG}{ats:Array TypeId}{Q:Exit->Act->World->Prop}
theorem gB(D:AO F0 w0 O a w G)(hd:d<a.tmps.size)(l:o.dst=some d){xs:Array Operand}(N:o.op=.call {callee:=.value (.func f),args:=xs,argTypes:=ats})(R:Bc xs.toList ys=true)(h:(AE.Aas f ys).wp (AU P) O (some d) K)
  {next:Act->World->Prop}(X:∀e env' a' w',K e env'->QW a d a'->Bu F0 w0 ((d,e)::env') a' w'->next a' w'):o.wp P a w next Q:=by
 simp [AE.wp]at h;obtain⟨V,h⟩:=h;cases j:vals O ys with
 |none=>rw[j]at h;exact h.elim|some ts=>
  rw [j]at h;simp[Al]at h;obtain⟨n,es,A,hK⟩:=h;have hv:=Fe D R j;have m:(execOp a.eval o).run P w=(callFunc f (xs.map a.eval)).run P w:=by simp[execOp,N,resolve,Act.eval,Deferred.ofValue,invoke]
  have key:Do P f=true/\(TV.list n es).WF/\Calls P f (xs.map a.eval) w fun e w'=>∃v z g,e=.returned v/\Below w.heap.size w w'/\Fv w' n v es.length g z/\(∀F',(∀b o,F' b o->(b<w.heap.size/\AT w0.heap.size F0 G b o)\/∃lo,z=some (b,lo))->AQ w' F' (es.flatMap TV.cells) g)/\(∀e∈es,e.cells.length=n)/\(∀x∈g,x.oneCell'=true)/\∀b lo,z=some (b,lo)->w.heap.size<=b/\b<w'.heap.size:=by
   rcases A with A|⟨A,hfl⟩
   .obtain⟨B,W⟩:=(A.to0 rfl) hv.2;obtain⟨k,C⟩:=W (AT w0.heap.size F0 G) w (xs.map a.eval) (by simpa using hv.1) D.below.now;refine⟨B,k,C.mono ?_⟩;rintro e w' ⟨v,rfl,E,z,g,H,I,J,L,M⟩;exact⟨v,z,g,rfl,E,H,fun F' T=>As (fun b o u Y hf=>⟨Y,fun U=>hf (T b o U)⟩) _ _ I,J,L,M⟩
   .obtain⟨B,W⟩:=(A.to0 rfl) hv.2;obtain⟨k,C⟩:=W (AT w0.heap.size F0 G) w (xs.map a.eval) (by simpa using hv.1) D.below.now;refine⟨B,k,C.mono ?_⟩;rintro e w' ⟨v,rfl,E,z,⟨g,H,I,J,L⟩,M⟩
    grind [GX,My]
  obtain ⟨B,k,C⟩:=key;unfold Oper.wp;rw[m,Ee B _,Oper.upon_enter];refine C.mono ?_;rintro e w' ⟨v,z,g,rfl,E,H,I,J,L,M⟩;simp[l];exact X _ _ _ _ (hK k) ⟨_,rfl⟩ (D.AbN E hd V H M I J L k)
theorem fw(k:AO F0 w0 O a w G)(hd:d<a.tmps.size)(B:o.dst=some d){xs:List Operand}(L:o.op=.call {callee:=.value (.func f),args:=(x::xs).toArray,argTypes:=ats})(M:AJ x y=true)(C:Bc xs ys=true)(h:(AE.Aar f y ys).wp (AU P) O (some d) K)
  {next:Act->World->Prop}(hn:∀e env' a' w',K e env'->QW a d a'->Bu F0 w0 ((d,e)::env') a' w'->next a' w'):o.wp P a w next Q:=by
 simp only[AE.wp]at h;cases R:y.up O with
 |none=>rw[R]at h;exact h.elim|some p=>
  obtain ⟨⟨q,i⟩,m,es⟩:=p;rw[R]at h;simp only[Al]at h;obtain⟨rfl,h⟩:=h;cases l:vals O ys with
  |none=>rw[l]at h;exact h.elim|some ts=>
  rw [l]at h;obtain⟨zs,u,E,rfl,⟨A,ts2,g,hc,H,hS⟩,hK⟩:=h;simp only[List.cons.injEq,TV.list.injEq,true_and]at g;obtain⟨g,rfl⟩:=g;have T:A=zs:=by
   have:=congrArg (List.map fun t=>match t with|.int _ n=>n|_=>0) g;simpa[List.map_map,Function.comp_def]using this.symm
  subst T;obtain⟨hq,hx⟩:=OR k M R;obtain⟨X,xs',h1,h2,h3,h4⟩:=Ot k hq hx;obtain⟨hv,Y⟩:=Fe k C l;have U:xs'=A.map (Value.int .i64):=by
   have:∀(zs:Fp)(xs:List Value),AQ w (AT w0.heap.size F0 G) ((zs.map (TV.int .i64)).flatMap TV.cells) xs->xs=zs.map (Value.int .i64):=by
    intro zs
    induction zs with
    |nil=>intro xs h;exact h|cons z zs ih=>
     grind [TV.cells,List.singleton_append,AQ,An]
   exact this A xs' h2
  subst U;have D:(execOp a.eval o).run P w=(callFunc f (a.eval x::xs.map a.eval).toArray).run P w:=by simp[execOp,L,resolve,Act.eval,Deferred.ofValue,invoke]
  unfold Oper.wp;rw[D,Ee hc _,Oper.upon_enter];refine(hS _ w (a.eval x) _ (G q i) X Y (by simpa using h1) hv (fun b lo o J N=>.inr ⟨q,i,lo,J,N⟩) (fun b lo J=>⟨(k.lt _ _ _ _ J).1,k.low J⟩) k.below.now).mono ?_;rintro e w' ⟨⟨I,j⟩,⟨r,rfl,hu⟩,r1,r2⟩;simp only[B];have V:=k.rexo hq hx r2 (es':=u.map (TV.int .i64)) (xs':=u.map (Value.int .i64)) (by rw[ca,I];exact r1) (fun _=>?_) (by simp[TV.cells]) (by simp[Value.oneCell']) j.1
  .have W:∀F,Ps w' F E r:=fun F=>by
    rcases E with _|⟨t,_|⟨t',E⟩⟩
    .exact hu
    .exact Sl t (by simpa[TV.wm]using H) _ hu
    .obtain⟨vs,e1,e2⟩:=hu;exact⟨vs,e1,GX _ H _ e2⟩
   rcases E with _|⟨t,_|⟨t',E⟩⟩
   all_goals
    refine hn _ _ _ _ (hK j) ⟨_,rfl⟩ ⟨_,V.quiet (Below.refl _ _) d hd (EV.ofs _) _ (fun _=>none) (by simp[EV.ofs]) (by simp[EV.ofs]) (by simp[EV.ofs]) ?_ ?_⟩
    .simp only[EV.ofs,AN];exact W _
    .first|exact trivial|exact j.2.1|exact j.2
  .have:∀(zs:Fp),AQ w' (AT w0.heap.size F0 G) ((zs.map (TV.int .i64)).flatMap TV.cells) (zs.map (Value.int .i64)):=by
    intro zs
    induction zs with
    |nil=>rfl|cons z zs ih=>
     grind [TV.cells,List.singleton_append,AQ,An]
   exact this u
theorem Xu{w:World}{F:Nat->Nat->Prop}:∀(zs:Fp),AQ w F ((zs.map (TV.int .i64)).flatMap TV.cells) (zs.map (Value.int .i64))
 |[]=>rfl|z::zs=>by
  simp only[List.map_cons,List.flatMap_cons,TV.cells,List.singleton_append,AQ,An];exact⟨_,_,rfl,rfl,Xu zs⟩
theorem YL{w:World}{F:Nat->Nat->Prop}:∀(zs:Fp)(xs:List Value),AQ w F ((zs.map (TV.int .i64)).flatMap TV.cells) xs->xs=zs.map (Value.int .i64)
 |[],xs,h=>h|z::zs,xs,h=>by
  simp [TV.cells,AQ,An]at h;obtain⟨v,r,rfl,rfl,h⟩:=h;rw[YL zs r h];rfl
theorem fo(j:AO F0 w0 O a w G)(hd:d<a.tmps.size)(l:o.dst=some d)(C:o.op=.call {callee:=.value (.func f),args:=#[x],argTypes:=ats})(D:AJ x y=true)(h:(AE.AaK f y).wp (AU P) O (some d) K)
  {next:Act->World->Prop}(X:∀e env' a' w',K e env'->QW a d a'->Bu F0 w0 ((d,e)::env') a' w'->next a' w'):o.wp P a w next Q:=by
 simp only[AE.wp]at h;cases H:y.up O with
 |none=>rw[H]at h;exact h.elim|some p=>
  obtain ⟨⟨q,i⟩,m,es⟩:=p;rw[H]at h;simp only[Al]at h;obtain⟨⟨L,rfl⟩,rfl,M,zs,N,rfl,⟨R,A,hc,g,hS⟩,hK⟩:=h;simp only[List.cons.injEq,TV.list.injEq,true_and,and_true]at A;have I:R=zs:=by
   have:=congrArg (List.map fun t=>match t with|.int _ n=>n|_=>0) A;simpa[List.map_map,Function.comp_def]using this.symm
  subst I;obtain⟨B,V⟩:=OR j D H;replace B:=AB.tc B;simp only[XV]at V;replace g:=g (by have:=j.wf q;rw[B]at this;exact this);have U:=AW j B (by simp);simp only[AN]at U;obtain⟨xs,h1,h2,h3,h4⟩:=U;have J:=YL _ _ h2;subst J;have u:(execOp a.eval o).run P w=(callFunc f #[slot a q]).run P w:=by simp[execOp,C,resolve,Act.eval,Deferred.ofValue,invoke,<-V]
  unfold Oper.wp;rw[u,Ee hc _,Oper.upon_enter];refine(hS w (slot a q) (G q none) (by simpa using h1)).mono ?_;rintro e w' ⟨v',rfl,r1,r2⟩;simp only[l];obtain⟨b1,b2,b3,W,b5⟩:=r2;refine X _ _ _ _ (hK g) ⟨_,rfl⟩ (j.xgo B hd (fun e=>L e.symm) (z':=G q none) b1 b2 b3 W (fun k E Y=>b5 k E Y) (fun b lo T=>⟨Nat.lt_of_lt_of_le (j.lt _ _ _ _ T).1 W,.inr ⟨_,T⟩⟩) (by simp) (fun _=>M) (fun F' G' env' a' hag hG _=>?_) g);simp only[AN];rw[hG];exact⟨_,by simpa using r1,Xu N,by simp[TV.cells],by simp[Value.oneCell']⟩
variable{z:Value}
theorem jc(Y:AO F0 w0 O a w G)(hd:d<a.tmps.size){i:TypeInfo}(hop:o.op=.call {callee:=.builtin .append,args:=#[.tmp s,x],argTypes:=#[t,t]})
  (ht:P.underlying t=some (.slice e))(hi:P.info? e=some i)(A:i.zero=some z)(E:i.size=n)(hby:i.bytes<=4096)(hzs:z.cells.size=n)(hn:0<n)
  (hok:AJ x y=true)(h:(AE.AaW n s y).wp S O (some d) K):A2 P F0 w0 a w o d K:=by
 simp only[AE.wp]at h;split at h
 .rename_i d' m es m' J N hs hy;simp only[sr]at N;subst N;obtain⟨hm1,hm2,U,hno,hds,hK⟩:=h;subst hm2;subst hm1;have D:=AW Y hs (by simp);have H:=Y.wf s;rw[hs]at H;simp only[AN]at D;obtain⟨xs,⟨z0,h1,V⟩,h2,h3,h4⟩:=D;have hv:=A0 Y hok hy;simp only[An]at hv;obtain⟨⟨ad,cap,h5,h6,h7,h8⟩,h9⟩:=hv;have I:∃g:List Value,AQ w (AT w0.heap.size F0 G) (J.flatMap TV.cells) g/\(∀x∈g,x.oneCell'=true)/\(∀f∈J,f.cells.length=m)/\∀b,ad=some b->∀(j:Nat)(u:Value),g[j]?=some u->w.cell? (b.add j)=some u:=by
   cases ad with
   |none=>
    have:=h7 rfl;subst this;exact⟨[],rfl,by simp,by simp,by simp⟩
   |some b=>
    obtain ⟨C,h11⟩:=h8 b rfl;obtain⟨bb,B,sp⟩:=b;simp only at C h11;by_cases T:J=[]
    .subst T;exact⟨[],rfl,by simp,by simp,by simp⟩
    have C:sp=none:=C.resolve_left T;subst C;have hrow:∀(l:Fq)(B:Nat),IP w (AT w0.heap.size F0 G) m l bb B->DM w (AT w0.heap.size F0 G) (l.flatMap TV.cells) bb B/\∀f∈l,f.cells.length=m:=by
     intro l
     induction l with
     |nil=>intro B _;exact⟨trivial,by simp⟩|cons f l ih=>
      grind [P8,Im]
    grind [So,sr]
  obtain ⟨g,n1,n2,n3,n4⟩:=I;have hnl:g.length=J.length*m:=by rw[BH n1,Oz m J n3]
  obtain ⟨v',w',z',W,r1,L⟩:=Pm (P:=P) t o.type e i z m ht hi A E hby hzs hn (slot a s) es.length xs z0 h1 ad J.length cap g hnl (fun e=>by rw[h7 e];rfl) h6 n4 n2 U;have hnz:∀k,(∀lo,G s none≠some (k,lo))->∀lo,z0≠some (k,lo):=fun k hk lo A=>hk 0 (by rw[V,A];rfl);refine⟨v',w',?_,_,_,hK,Y.xgo hs hd hds (z':=z'.map fun p=>(p.1,0)) L.os L.tape L.output L.size (fun k hk A=>L.other k hk (hnz k A)) (fun b lo A=>?_) (by simp) (fun _=>hno) (fun F' G' env' a' M hG _=>?_) ?_⟩
  .simp[execOp,hop,resolve,invoke,builtin,show a.eval (.tmp s)=slot a s from rfl,h5,W]
  .cases z' with
   |none=>simp at A|some p=>
    simp only[Option.map_some,sr,Prod.mk.injEq]at A;obtain⟨k1,X⟩:=L.Abq p.1 p.2 rfl;rw[<-A.1];refine⟨k1,?_⟩;rcases X with X|⟨lo',X,_⟩
    .exact .inl X
    .exact .inr ⟨0,by rw[V,X];rfl⟩
  .simp only[AN];rw[hG];refine⟨xs++g,⟨z',by rw[ba];exact r1,rfl⟩,?_,?_,?_⟩
   .rw[List.flatMap_append];exact IK (As M _ _ h2) (As M _ _ n1)
   .intro e he;rcases List.mem_append.1 he with he|he
    .exact h3 e he
    .exact n3 e he
   .intro x R;rcases List.mem_append.1 R with R|R
    .exact h4 x R
    .exact n2 x R
  .simp only[EV.WF,TV.WF]at H h9|-;exact⟨by rw[ba];exact Tg (by omega),KV.2 ⟨H.2,h9.2⟩⟩
 .exact h.elim
variable{z0:Value}
theorem mO(V:AO F0 w0 O a w G)(hd:d<a.tmps.size){x x':Operand}{ty e:TypeId}{l:TypeInfo}{t:TV}(D:o.op=.makeSlice ty x x')(W:AJ x y=true)(E:AJ x' y=true)
  (A:P.underlying ty=some (.slice e))(H:P.info? e=some l)(T:l.zero=some z)(hs:l.size=1)(X:l.bytes<=4096)(Y:z.cells=#[z0])(hc:EI t z0=true)(h1c:z0.oneCell'=true)(I:t.cells=[t])
  (h:(AE.mkx 1 [t] y).wp S O (some d) K):A2 P F0 w0 a w o d K:=by
 simp [AE.wp]at h;split at h
 .rename_i d' ik j J hy;simp[sr]at J;subst J;obtain⟨hno,h0,hmax,hK⟩:=h;have hv:=(A0 V W hy).1;have B:=(A0 V E hy).1;simp[An]at hv B;obtain⟨m,rfl⟩:∃m:Nat,j=m:=⟨j.toNat,by omega⟩;have hm:m<=4096:=by omega
  have hw1:IntKind.i64.wrap (m:Int)=m:=by
   have e1:(2:Int)^ 64=18446744073709551616:=by decide
   have e2:(2:Int)^ (64-1)=9223372036854775808:=by decide
   simp [IntKind.wrap,IntKind.bits,IntKind.signed,Bool.true_and,t2,e1,e2,ge_iff_le];split<;>omega
  have U:m*l.bytes<=16777216:=by
   calc m*l.bytes<=4096*4096:=Nat.mul_le_mul hm X
    _=16777216:=by decide
  have g:(Array.range m).map (fun q=>([z0]:List Value)[q % 1]?.getD default)=Array.replicate m z0:=by
   grind
  have L:¬(281474976710656<(l.bytes:Int)*(m:Int)):=by
   grind
  have C:¬(m*l.bytes>roomBytes):=by
   have:roomBytes≥16777216:=by decide
   omega
  have M:¬((m:Int)<0):=by omega
  have N:(execOp a.eval o).run P w=.ok (.value (.slice (some ⟨w.heap.size,0,none⟩) m m)) (w.alloc (.cells (Array.replicate m z0) e)):=by
   by_cases R:m=0
   .subst R;have hw0:IntKind.i64.wrap 0=0:=by decide
    simp [execOp,D,hv,B,Instr.makeSlice,run_underlying A,asInt,asIntOf,typeInfo,H,hw0,askRoom,sizeOf,hs,newRow]
    grind
   .simp[execOp,D,hv,B,Instr.makeSlice,run_underlying A,asInt,asIntOf,typeInfo,H,hw1,askRoom,sizeOf,hs,newRow,L,C,M,R,zeroValue,T,Y,g]
  have hb:Below w.heap.size w (w.alloc (.cells (Array.replicate m z0) e)):=(Below.refl _ _).alloc (az _) _;have hcr:=HU (w.alloc (.cells (Array.replicate m z0) e)) (fun _ _=>False) t z0 hc;have hfm:∀k,(List.replicate k t).flatMap TV.cells=List.replicate k t:=by
   intro k
   induction k with
   |zero=>rfl|succ k ih=>rw[List.replicate_succ,List.flatMap_cons,ih,I];rfl
  simp [Int.toNat_natCast]at hK;refine⟨_,_,N,_,_,hK,V.AbN hb hd hno (z:=some (w.heap.size,m*1)) (xs:=List.replicate m z0) ⟨by simp,.inr ⟨w.heap.size,m,_,e,by simp,heap_alloc_new w _,by simp,by simp[maxLen];omega,by simp,by simp,by simp⟩⟩ (fun b lo T=>?_) (fun F' _=>?_) (fun u A=>?_) (fun v hv=>?_) ⟨by simp[List.length_replicate,JV];omega,?_⟩⟩
  .simp[sr,Prod.mk.injEq]at T;rw[<-T.1];exact⟨az _,by simp⟩
  .rw[hfm,Bf];refine⟨by simp,fun i u v A hv=>?_⟩;rw[List.eq_of_mem_replicate (List.mem_of_getElem? A),List.eq_of_mem_replicate (List.mem_of_getElem? hv)];exact(HU _ F' t z0 hc).1
  .rw[List.eq_of_mem_replicate A,I];rfl
  .rw[List.eq_of_mem_replicate hv];exact h1c
  .rw[Br];intro u A;rw[List.eq_of_mem_replicate A];exact hcr.2
 .exact h.elim
def fI(P:Program)(t:TypeId)(f k n:Nat)(agg:Bool):Bool:=
 match P.underlying t with
 |some (.struct fs)=>(match fs[f]? with
  |some x=>x.offset==k&&C0 P x.type==some n&&B9 P x.type==some agg|none=>false)
 |_=>false
theorem jn(C:AO F0 w0 O a w G)(hd:d<a.tmps.size){f k n:Nat}{agg:Bool}(A:o.op=.field t x f)(D:AJ x y=true)(hf:fI P t f k n agg=true)(h:(AE.Aa5 y k n agg).wp S O (some d) K):A2 P F0 w0 a w o d K:=by
 simp only[AE.wp]at h;split at h
 .rename_i cs R;obtain⟨W,g⟩:=h;have hv:=A0 C D R;simp only[An,TV.WF]at hv;obtain⟨⟨vs,L,H,X⟩,M⟩:=hv;unfold fI at hf;split at hf
  .rename_i V I;split at hf
   .rename_i j B;simp only[o4,beq_iff_eq]at hf;obtain⟨⟨rfl,U⟩,N⟩:=hf;have J:=BH H;rw[Bf]at H;rw[Br]at M;cases agg with
    |true=>
     simp only[if_true]at g;refine Cn C hd (v:=.agg (vs.extract j.offset (j.offset+n))) (t:=.agg ((cs.drop j.offset).take n)) ?_ ?_ ?_ g
     .simp[execOp,A,L,Instr.field,run_underlying I,B,part,Cp N,CE U,asAgg]
     .simp only[An];refine⟨_,rfl,?_,?_⟩
      .rw[Bf]
       grind
      grind
     .simp only[TV.WF];rw[Br]
      grind
    |false=>
     simp only[Bool.false_eq_true,if_false]at g;cases E:cs.drop j.offset with
     |nil=>rw[E]at g;simp[G8,Al]at g|cons u r=>
      rw [E]at g;simp only[G8,Al]at g;have m:cs[j.offset]?=some u:=by
       have:=congrArg (fun l=>l[0]?) E;simpa[List.getElem?_drop]using this
      have T:j.offset<cs.length:=(List.getElem?_eq_some_iff.1 m).1;obtain⟨v,hv⟩:∃v,vs.toList[j.offset]?=some v:=⟨_,List.getElem?_eq_getElem (by omega)⟩;refine Cn C hd (v:=v) (t:=u) ?_ (H.2 _ u v m hv) (M u (List.mem_of_getElem? m)) g;rw[Array.getElem?_toList]at hv;simp[execOp,A,L,Instr.field,run_underlying I,B,part,Cp N,asAgg,hv]
   .cases hf
  .cases hf
 .exact h.elim
def kz(P:Program)(ty:TypeId)(n:Nat)(zero:Fq):Bool:=
 match P.underlying ty,zero with
 |some (.slice e),[t]=>(match P.info? e with
  |some ie=>(match ie.zero with
   |some z=>(match z.cells.toList with
    |[z0]=>n==1&&ie.size==1&&decide (ie.bytes<=4096)&&EI t z0&&z0.oneCell'&&(match t with|.int _ _=>true|.bool _=>true|.str _=>true|_=>false)
    |_=>false)
   |none=>false)
  |none=>false)
 |_,_=>false
theorem pP(A:AO F0 w0 O a w G)(hd:d<a.tmps.size){x x':Operand}{ty:TypeId}{zero:Fq}(k:o.op=.makeSlice ty x x')(l:AJ x y=true)(j:AJ x' y=true)(g:kz P ty n zero=true)
  (h:(AE.mkx n zero y).wp S O (some d) K):A2 P F0 w0 a w o d K:=by
 unfold kz at g;split at g
 .rename_i e t B;split at g
  .rename_i L m;split at g
   .rename_i z C;split at g
    .rename_i z0 u;simp[t2]at g;obtain⟨⟨⟨⟨⟨rfl,D⟩,E⟩,H⟩,I⟩,J⟩:=g;exact mO A hd k l j B m C D E (bX u) H I (by cases t<;>first|rfl|cases J) h
    .cases g
   .cases g
  .cases g
 .cases g
theorem qy{args:Fq}{t:TV}(h:AU P f args (.own t)):AU P f args (.sh t):=by
 intro l;obtain⟨A,B⟩:=h l;refine⟨A,fun F0 w vs hv j=>?_⟩;obtain⟨C,D⟩:=B F0 w vs hv j;refine⟨C,D.mono ?_⟩;rintro e w' ⟨v,rfl,E,z,H,J⟩;refine⟨v,rfl,E,?_⟩;have m:=By.rep H (fun b lo o I ho=>by
  grind)
 exact CG (fun b o u k hf=>⟨k,fun g=>hf (.inl g)⟩) _ _ m
theorem PV(h:v.oneCell'=true):v.cells=#[v]:=by
 cases v<;>first|rfl|simp[Value.oneCell']at h
theorem ma(u:AO F0 w0 O a w G){x v:Operand}(hop:o.op=.store t x v)(C:AJ x (.s s)=true)(hv:AJ v (.s q)=true)(hn:C0 P t=some n)(h:(AE.stx n s q).wp S O none K):Hs P F0 w0 a w o K:=by
 simp only[AE.wp]at h;split at h
 .rename_i cs ds hs hq;obtain⟨J,⟨V,D⟩,ho,hK⟩:=h;have hp:(AG.s s).place O=some (s,0):=by simp[AG.place,hs]
  revert hp ho hK
  suffices key:∀g,g+n<=cs.length->K .undef ((s,.bx (cs.take g++ds++cs.drop (g+n)))::(q,.undef)::O)->(AG.s s).place O=some (s,g)->Hs P F0 w0 a w o K from key 0
  .intro g ho hK hp;have hvq:v=.tmp q:=by
    cases v<;>simp[AJ]at hv;rw[hv]
   subst hvq;obtain⟨b,hsl,hadr⟩:=HO u C hp hs;have hr:=AW u hs (by simp);simp only[AN]at hr;obtain⟨Y,c,T,h1,h2,h3,h4,h5⟩:=hr;rw[hsl]at h1;simp only[Value.pointer.injEq,sr,Addr.mk.injEq,and_true,and_self]at h1;subst h1;have hrq:=AW u hq (by simp);simp only[AN]at hrq;obtain⟨vs,B,m,e3⟩:=hrq;have U:=u.wf s;rw[hs]at U;have hwq:=u.wf q;rw[hq]at hwq;have hone:∀y∈vs.toList,y.oneCell'=true:=by
    intro y E;obtain⟨i,hi⟩:=List.getElem?_of_mem E;have l:i<ds.length:=by have:=(List.getElem?_eq_some_iff.1 hi).1;simpa[m]using this
    obtain ⟨x,C,hc⟩:=e3 i _ (List.getElem?_eq_getElem l);rw[Array.getElem?_toList,C]at hi;simp only[sr]at hi;subst hi;exact Gr hc
   have hev:a.eval (.tmp q)=.agg vs:=B;have hst:(execOp a.eval o).run P w=.ok .skip (w.setRow b (c.toList.take g++vs.toList++c.toList.drop (g+n)).toArray):=by
    have hln:vs.toList.length=n:=by rw[Array.length_toList,m,V]
    have I:=run_storeCells_at P b g T vs.toList 0 c w h2 (by rw[hln];omega) hone;simp only[Nat.add_zero]at I;rw[hln]at I;simp[execOp,hop,hadr,hev,Instr.storeAt,Instr.sureAddr,storeVar,CE hn,Value.cells,show vs.size=n by rw[m,V],I]
   have hvl:vs.toList.length=n:=by rw[Array.length_toList,m,V]
   let zs:Option Nat->Option (Nat×Nat):=fun i=>match i with|none=>some (b,0)|some j=>if g<=j/\j<g+n then G q (some (j-g))else G s (some j)
   refine Exists.elim (u.Abz hs hsl h2 (cs':=cs.take g++ds++cs.drop (g+n)) (c':=(c.toList.take g++vs.toList++c.toList.drop (g+n)).toArray) (q:=some q) (by simpa using J) (fun p hp=>by cases hp;exact Bi u hq (by simp)) (zs:=zs) rfl ?_ ?_ ?_ ?_ ?_ ?_) (fun G' h'=>⟨_,hst,_,hK,G',h'.1⟩)
   .intro i Y lo hi hz;cases i with
    |none=>exact absurd rfl hi|some j=>
     simp only[zs]at hz;split at hz
     .exact .inr ⟨q,rfl,_,hz⟩
     .exact .inl hz
   .intro i i' Y lo M B m;have zn:∀j Y lo M,zs (some j)=some (Y,lo)->zs none=some (Y,M)->False:=by
     intro j Y lo M B m;simp only[zs,sr,Prod.mk.injEq]at m;obtain⟨rfl,_⟩:=m;simp only[zs]at B;split at B
     .exact J (u.nd _ _ _ _ _ _ _ B h4).1
     .have:=(u.nd _ _ _ _ _ _ _ B h4).2;cases this
    cases i with
    |none=>cases i' with
     |none=>rfl|some j=>exact(zn j _ _ _ m B).elim
    |some j=>cases i' with
     |none=>exact(zn j _ _ _ B m).elim|some j'=>
      simp only[zs]at B m;split at B<;>split at m
      .have:=(u.nd _ _ _ _ _ _ _ B m).2;simp only[sr]at this;rw[show j=j' by omega]
      .exact absurd (u.nd _ _ _ _ _ _ _ B m).1 J
      .exact absurd (u.nd _ _ _ _ _ _ _ m B).1 J
      .exact(u.nd _ _ _ _ _ _ _ B m).2
   .simp only[List.size_toArray,ba,bk,List.length_drop,Array.length_toList];omega
   .intro F' w' N H R i y E;have hco:∀j,g+n<=j->cs[j]?=some y->i=j->∃v,c[j]?=some v/\BG w' F' (tg a G) (G s (some j)) y v:=by
     intro j hj hc hij;obtain⟨v,W,X⟩:=h5 j y hc;exact⟨v,W,X.kept N (fun k lo A=>H k (fun e=>by have:=(u.nd _ _ _ _ _ _ _ (e▸A) h4).2;cases this)) R⟩
    rcases Nat.lt_or_ge i g with l|hge
    .rw[ci,List.getElem?_append_left (by simp;omega),List.getElem?_take,a6 l]at E;obtain⟨v,W,X⟩:=h5 i y E;refine⟨v,?_,?_⟩
     .rw[List.getElem?_toArray,ci,List.getElem?_append_left (by simp;omega),List.getElem?_take,a6 l,Array.getElem?_toList];exact W
     .simp only[zs,ae (show¬(g<=i/\i<g+n)by omega)];exact X.kept N (fun k lo A=>H k (fun e=>by have:=(u.nd _ _ _ _ _ _ _ (e▸A) h4).2;cases this)) R
    .rcases Nat.lt_or_ge i (g+n)with l|L
     .rw[ci,List.getElem?_append_right (by simp;omega),List.getElem?_append_left (by simp;omega)]at E;simp only[bk]at E;rw[Nat.min_eq_left (by omega)]at E;obtain⟨v,W,X⟩:=e3 (i-g) y E;refine⟨v,?_,?_⟩
      .rw[List.getElem?_toArray,ci,List.getElem?_append_right (by simp;omega),List.getElem?_append_left (by simp;omega)];simp only[bk,Array.length_toList];rw[Nat.min_eq_left (by omega),Array.getElem?_toList];exact W
      .simp only[zs,a6 (show g<=i/\i<g+n by omega)];exact X.kept N (fun k lo A=>H k (fun e=>J (u.nd _ _ _ _ _ _ _ (e▸A) h4).1)) R
     .rw[List.getElem?_append_right (by simp;omega)]at E;simp only[ba,bk]at E;rw[Nat.min_eq_left (by omega),V,List.getElem?_drop,show g+n+(i-(g+n))=i from by omega]at E;obtain⟨v,W,X⟩:=hco i L E rfl;refine⟨v,?_,?_⟩
      .rw[List.getElem?_toArray,List.getElem?_append_right (by simp;omega)];simp only[ba,bk,Array.length_toList];rw[Nat.min_eq_left (by omega),m,V,List.getElem?_drop,show g+n+(i-(g+n))=i from by omega,Array.getElem?_toList];exact W
      .simp only[zs,ae (show¬(g<=i/\i<g+n)by omega)];exact X
   .intro x C;rcases List.mem_append.1 C with C|C
    .rcases List.mem_append.1 C with C|C
     .exact U x (List.mem_of_mem_take C)
     .exact hwq x C
    .exact U x (List.mem_of_mem_drop C)
   .intro k tx htx A;have hkl:k<cs.length:=by
     have:=(List.getElem?_eq_some_iff.1 A).1;simp only[ba,bk,List.length_drop]at this;omega
    rw [List.getElem?_toArray];rcases Nat.lt_or_ge k g with l|hge
    .rw[ci,List.getElem?_append_left (by simp;omega),List.getElem?_take_of_lt l]at A;refine .inr ⟨A,?_⟩;rw[ci,List.getElem?_append_left (by simp;omega),List.getElem?_take_of_lt l,Array.getElem?_toList]
    .rcases Nat.lt_or_ge k (g+n)with l|L
     .rw[ci,List.getElem?_append_right (by simp;omega),List.getElem?_append_left (by simp;omega)]at A;rw[Bool.or_eq_true]at D;rcases D with D|D
      .have:=List.all_eq_true.1 D _ (List.mem_of_getElem? A);simp[htx]at this
      .exact .inl (AB.noX_all D)
     .rw[List.getElem?_append_right (by simp;omega)]at A;simp only[ba,bk,List.getElem?_drop]at A;rw[Nat.min_eq_left (by omega),V,show g+n+(k-(g+n))=k from by omega]at A;refine .inr ⟨A,?_⟩;rw[List.getElem?_append_right (by simp;omega)];simp only[ba,bk,Array.length_toList,List.getElem?_drop];rw[Nat.min_eq_left (by omega),m,V,show g+n+(k-(g+n))=k from by omega,Array.getElem?_toList]
 .exact h.elim
def KX(a:Act)(w:World)(G:BU)(d:Nat)(Z:DX):BU:=fun p=>if p=d then Z 0 else if a.tmps.size+w.heap.size<=p then(fun i=>match i with|some j=>Z (p-a.tmps.size+1) (some j)|none=>none)else G p
variable{Z:DX}{p:Nat}
theorem OS{a:Act}{w:World}{G:BU}{d:Nat}{b lo:Nat}(h:KX a w G d Z p i=some (b,lo)):(p=d/\Z 0 i=some (b,lo))\/(p≠d/\a.tmps.size+w.heap.size<=p/\Z (p-a.tmps.size+1) i=some (b,lo))\/(p≠d/\¬a.tmps.size+w.heap.size<=p/\G p i=some (b,lo)):=by
 simp [KX]at h
 grind
theorem AO.quiet2{w':World}(h:AO F0 w0 O a w G)(I:Below w.heap.size w w')(d:Nat)(hd:d<a.tmps.size)(e:EV)(v:Value)
  (Z:DX)(M:∀q i b lo,Z q i=some (b,lo)->w.heap.size<=b/\b<w'.heap.size)(C:JG Z)
  (J:(∃cs,e=.bx cs)\/(∃n es,e=.xo n es)->O.f0 d=true)
  (R:Bg w w' (AT w0.heap.size F0 G) (AT w0.heap.size F0 (KX a w G d Z))->AN (a.put (some d) v) w' (AT w0.heap.size F0 (KX a w G d Z)) (KX a w G d Z) ((d,e)::O) d e v)(V:e.WF):
  AO F0 w0 ((d,e)::O) (a.put (some d) v) w' (KX a w G d Z):=by
 have U:Bg w w' (AT w0.heap.size F0 G) (AT w0.heap.size F0 (KX a w G d Z)):=by
  intro b o u hc hf;have hlt:b<w.heap.size:=World.block_lt_of_cell? w ⟨b,o,none⟩ hc;refine⟨by rw[I.cell (p:=⟨b,o,none⟩) hlt];exact hc,fun W=>hf ?_⟩;rcases W with h|⟨s,i,lo,T,h2⟩
  .exact .inl h
  .rcases OS T with⟨_,e⟩|⟨_,_,e⟩|⟨_,_,e⟩
   .grind
   .grind
   .exact .inr ⟨s,i,lo,e,h2⟩
 have X:∀s,s<a.tmps.size->s≠d->KX a w G d Z s=G s:=by
  grind [KX]
 refine ⟨?_,?_,h.below.go I,by rw[Ei];exact h.defers,?_,?_,?_⟩
 .intro s i s' i' b lo lo' T h2;rcases OS T with⟨e1,A⟩|⟨e1,e3,A⟩|⟨e1,e3,A⟩<;>rcases OS h2 with⟨e2,B⟩|⟨e2,e4,B⟩|⟨e2,e4,B⟩
  .exact⟨by rw[e1,e2],(C _ _ _ _ _ _ _ A B).2⟩
  .have:=(C _ _ _ _ _ _ _ A B).1;omega
  .have:=(M _ _ _ _ A).1;have:=(h.lt _ _ _ _ B).1;omega
  .have:=(C _ _ _ _ _ _ _ A B).1;omega
  .obtain⟨g1,g2⟩:=C _ _ _ _ _ _ _ A B;exact⟨by omega,g2⟩
  .have:=(M _ _ _ _ A).1;have:=(h.lt _ _ _ _ B).1;omega
  .have:=(M _ _ _ _ B).1;have:=(h.lt _ _ _ _ A).1;omega
  .have:=(M _ _ _ _ B).1;have:=(h.lt _ _ _ _ A).1;omega
  .exact h.nd _ _ _ _ _ _ _ A B
 .intro s i b lo T;rcases OS T with⟨_,f⟩|⟨_,_,f⟩|⟨_,_,f⟩
  .have:=M _ _ _ _ f;exact⟨this.2,.inl (Nat.le_trans h.below.size this.1)⟩
  .have:=M _ _ _ _ f;exact⟨this.2,.inl (Nat.le_trans h.below.size this.1)⟩
  .have:=h.lt _ _ _ _ f;exact⟨Nat.lt_of_lt_of_le this.1 I.size,this.2⟩
 .intro s N;rw[Bh]at N;rw[AB.eb,ae (by omega)];exact h.dom s N
 .intro s N;rw[Bh]at N;rw[AB.eb];by_cases H:d=s
  .subst H;rw[a6 rfl,Cr _ _ _ hd];exact R U
  .rw[ae H,AV _ _ _ _ H];refine AN.kept' U (fun i=>by rw[X s N (fun e=>H e.symm)]) (fun i b lo X=>I.block b (h.lt s i b lo X).1) (fun i g lo j hg=>?_) (fun _=>BI.spot (h.AaR I)) (fun q i k D⟨p,E⟩=>?_) (fun q Y D⟨cs,m⟩=>?_) (fun q i D⟨p,E⟩=>?_) (h.slots s N)
   .have:=(h.lt _ _ _ _ hg).1;simp[tg,Bh,KX];rw[ae (by omega),ae (by omega)]
   .by_cases l:d=q
    .subst l;exact absurd D (AB.Aa4 d O (J (.inl (AB.Aat E))) s i k)
    .rw[AB.x7 l]at E;exact⟨⟨p,E⟩,h.nh ⟨p,E⟩ (AV _ _ _ _ l) (fun j b _ L=>I.block b (h.lt _ _ _ _ L).1)⟩
   .rw[AB.eb]at m;by_cases l:d=q
    .subst l;rw[a6 rfl]at m;exact absurd D (AB.AaD d O (J (.inl ⟨cs,m⟩)) s Y)
    .rw[ae l]at m;exact⟨⟨cs,m⟩,AV _ _ _ _ l⟩
   .by_cases l:d=q
    .subst l;have hx:=AB.AaJ d O (J (AB.AaL E)) s;rcases D with D|⟨c,D⟩
     .exact absurd D (hx.1 i)
     .exact absurd D (hx.2 i c)
    .rw[AB.x5 l]at E;exact⟨⟨p,E⟩,h.xv ⟨p,E⟩ (AV _ _ _ _ l) (fun b L=>I.block b (h.lt _ _ _ _ L).1)⟩
 .intro s;rw[AB.eb];split
  .exact V
  .exact h.wf s
theorem fu(m:AO F0 w0 O a w G)(hd:d<a.tmps.size)(A:o.dst=some d){xs:Array Operand}(C:o.op=.call {callee:=.value (.func f),args:=xs,argTypes:=ats})(D:Bc xs.toList ys=true)(h:(AE.AaU f ys).wp (AU P) O (some d) K)
  {next:Act->World->Prop}(N:∀e env' a' w',K e env'->QW a d a'->Bu F0 w0 ((d,e)::env') a' w'->next a' w'):o.wp P a w next Q:=by
 simp only[AE.wp]at h;cases l:vals O ys with
 |none=>rw[l]at h;exact h.elim|some ts=>
  rw [l]at h;simp only[Al]at h;obtain⟨cs,U,V⟩:=h;have hv:=Fe m D l;have B:(execOp a.eval o).run P w=(callFunc f (xs.map a.eval)).run P w:=by simp[execOp,C,resolve,Act.eval,Deferred.ofValue,invoke]
  obtain ⟨W,X⟩:=(U.to0 rfl) hv.2;obtain⟨M,Y⟩:=X (AT w0.heap.size F0 G) w (xs.map a.eval) (by simpa using hv.1) m.below.now;unfold Oper.wp;rw[B,Ee W _,Oper.upon_enter];refine Y.mono ?_;rintro e w' ⟨v,rfl,hb,Z,⟨vs,rfl,r1,r2⟩,r3,r5,I⟩;simp only[A];refine N _ _ _ _ (V M) ⟨_,rfl⟩ ⟨_,m.quiet2 hb d hd (.x8 cs) _ Z (fun q i b lo L=>⟨(I q i b lo L).2,(I q i b lo L).1⟩) r3 (by simp) (fun R=>?_) M⟩;simp only[AN];refine⟨vs,rfl,r1,fun i c E=>?_⟩;obtain⟨x,k1,k2,_⟩:=r2 i c E;refine⟨x,k1,?_⟩;have H:KX a w G d Z d (some i)=Z 0 (some i):=by simp[KX]
  rw [H];refine(k2.kept (fun b o u E hf=>⟨E,fun k=>hf ?_⟩) (fun _ _ _=>rfl) BI.rfl').tg (fun g lo j T=>?_)
  .rcases k with k|⟨p,j,lo,e1,J⟩
   .exact .inl ⟨Nat.lt_of_lt_of_le k.1 m.below.size,.inl k⟩
   .rcases OS e1 with⟨_,e⟩|⟨_,_,e⟩|⟨_,_,e⟩
    .exact .inr ⟨_,_,lo,e,J⟩
    .exact .inr ⟨_,_,lo,e,J⟩
    .exact .inl ⟨(m.lt _ _ _ _ e).1,.inr ⟨p,j,lo,e,J⟩⟩
  .have:=(I _ _ _ _ T).2;simp only[tg,Bh,KX,DX.tg];rw[ae (by omega),a6 (by omega)];simp only[Nat.add_sub_cancel_left]
theorem cM(C:AO F0 w0 O a w G)(hd:d<a.tmps.size)(l:o.dst=some d){xs:Array Operand}(D:o.op=.call {callee:=.value (.func f),args:=xs,argTypes:=ats})(E:Bc xs.toList ys=true)(h:(AE.Aao f ys).wp (AU P) O (some d) K)
  {next:Act->World->Prop}(V:∀e env' a' w',K e env'->QW a d a'->Bu F0 w0 ((d,e)::env') a' w'->next a' w'):o.wp P a w next Q:=by
 simp only[AE.wp]at h;cases k:vals O ys with
 |none=>rw[k]at h;exact h.elim|some ts=>
  rw [k]at h;simp only[Al]at h;obtain⟨cs,hS,R,hK⟩:=h;have hv:=Fe C E k;have u:(execOp a.eval o).run P w=(callFunc f (xs.map a.eval)).run P w:=by simp[execOp,D,resolve,Act.eval,Deferred.ofValue,invoke]
  obtain ⟨h2,h3⟩:=(hS.to0 rfl) hv.2;obtain⟨T,h5⟩:=h3 (AT w0.heap.size F0 G) w (xs.map a.eval) (by simpa using hv.1) C.below.now;unfold Oper.wp;rw[u,Ee h2 _,Oper.upon_enter];refine h5.mono ?_;rintro e w' ⟨v,rfl,hb,Z,⟨vs,rfl,r1,r2⟩,r3,r5,U⟩;simp only[l]
  let B:DX:=fun q i=>(Z q i).map fun p=>(p.1,0)
  have J:∀{q i b lo},B q i=some (b,lo)->∃g,Z q i=some (b,g)/\lo=0:=by
   grind [Option.map_eq_some_iff]
  have X:(EV.x8 (cs.map AS.toX)).WF:=by
   intro c m;obtain⟨M,j,rfl⟩:=List.mem_map.1 m;obtain⟨n,es,e0,_⟩:=R M j;have:=T _ j;rw[e0]at this|-;exact this
  refine V _ _ _ _ (hK T) ⟨_,rfl⟩ ⟨_,C.quiet2 hb d hd (.x8 (cs.map AS.toX)) _ B (fun q i b lo A=>?_) (fun q i q' i' b lo g H I=>?_) (by simp) (fun W=>?_) X⟩
  .obtain⟨g,A,_⟩:=J A;exact⟨(U q i b g A).2,(U q i b g A).1⟩
  .obtain⟨_,H,_⟩:=J H;obtain⟨_,I,_⟩:=J I;exact r3 _ _ _ _ _ _ _ H I
  simp only[AN];refine⟨vs,rfl,by simpa using r1,fun i c m=>?_⟩;rw[List.getElem?_map]at m;simp only[Option.map_eq_some_iff]at m;obtain⟨M,j,rfl⟩:=m;obtain⟨n,es,rfl,N⟩:=R M (List.mem_of_getElem? j);obtain⟨x,k1,k2,_⟩:=r2 i _ j;refine⟨x,k1,?_⟩;have L:KX a w G d B d (some i)=B 0 (some i):=by simp[KX]
  rw [L];have Y:By w' _ (Z 0 (some i)) (.list n es) x:=k2;obtain⟨us,m1,m2,m3,m4⟩:=Y;exact⟨us,⟨_,m1,rfl⟩,GX _ (My _ N) _ m2,m3,m4⟩
def ZC(P:Program)(t:TypeId):Bool:=match P.underlying t with|some (.slice _)=>true|_=>false
theorem kh(h:Ro x=true):x=.const (.slice none 0 0):=by
 cases x<;>simp[Ro]at h
 grind [Jo]
variable{t':TypeId}
theorem YP(B:AO F0 w0 O a w G)(hd:d<a.tmps.size){x z:Operand}(k:o.op=.binOp .eql t x z t')(C:Ro z=true)(l:ZC P t=true){j:Option Addr}{n cap:Nat}(m:a.eval x=.slice j n cap)(h:K (.tv (.bool j.isNone)) O):A2 P F0 w0 a w o d K:=by
 have u:=kh C;subst u;unfold ZC at l;split at l
 .rename_i e D;refine Cn B hd (v:=.bool j.isNone) (t:=.bool j.isNone) ?_ rfl trivial h;have he:∀d,(Op.equalIn (d+1) t (.slice j n cap) (.slice none 0 0)).run P w=.ok j.isNone w:=by
   intro d;cases j<;>simp[Op.equalIn,run_underlying D]
  have A:(Op.equalIn 10000 t (.slice j n cap) (.slice none 0 0)).run P w=.ok j.isNone w:=he 9999;have H:(eqGuard .eql t x (.const (.slice none 0 0)) (.slice j n cap) (.slice none 0 0)).run P w=.ok () w:=by
   simp [eqGuard]
  have I:(binOp .eql t (.slice j n cap) (.slice none 0 0)).run P w=.ok (.bool j.isNone) w:=by
   have e:(binOp .eql t (.slice j n cap) (.slice none 0 0)).run P w=((Op.equalIn 10000 t (.slice j n cap) (.slice none 0 0)).run P w).andThen fun b w'=>.ok (.bool b) w':=by
    simp only[binOp];simp[Op.equal,Op.maxDepth]
   rw [e,A];rfl
  have J:a.eval (.const (.slice none 0 0))=.slice none 0 0:=rfl;have L:∀(g b:Sem Unit)(r:Sem Value),g.run P w=.ok () w->r.run P w=.ok (.bool j.isNone) w->(do let r <-(do g;r:Sem Value);pure (Next.value r):Sem Next).run P w=.ok (.value (.bool j.isNone)) w:=by
   intro g b r m E;simp[m,E]
  simp only[execOp,k,m,J];exact L _ (pure ()) _ H I
 .cases l
theorem mF(k:AO F0 w0 O a w G)(hd:d<a.tmps.size){x z:Operand}(g:o.op=.binOp .eql t x z t')(j:AJ x y=true)(m:Ro z=true)(u:ZC P t=true)(h:(AE.isn y).wp S O (some d) K):A2 P F0 w0 a w o d K:=by
 simp only[AE.wp]at h;split at h
 .rename_i n es l;have hv:=(A0 k j l).1;simp only[An]at hv;obtain⟨D,cap,B,E,C,H⟩:=hv;exact YP k hd g m u B (h _ fun A=>C (by simpa using A))
 .rename_i l;have hv:=(A0 k j l).1;simp only[An]at hv;exact YP k hd g m u hv h
 .exact h.elim
end
end Go.Sf
namespace Go.Sf
open Go.RowKit (Below)
section
variable{P:Program}{S:FuncId->Fq->Ax->Prop}{F0:Nat->Nat->Prop}{w0:W0}{O:AB}{a:Act}{w:World}{G:BU}{d:Nat}{o:Oper}{K:EV->AB->Prop}
variable{x:Operand}{y:AG}{t:TypeId}
theorem mG(A:AO F0 w0 O a w G)(hd:d<a.tmps.size)(B:o.op=.load t x)(C:AJ x y=true)(L:B9 P t=some false)(h:(AE.lac y).wp S O (some d) K):A2 P F0 w0 a w o d K:=by
 simp [AE.wp]at h;split at h
 .rename_i s g j;have N:y.place O=some (s,g):=by
   cases y with
   |c t=>simp[AG.ev]at j|s n=>simp[AG.ev]at j;simp[AG.place,j]
  split at h
  .rename_i p M;obtain⟨n,es⟩:=p;obtain⟨cs,I,R⟩:=AB.sj M;obtain⟨b,m,u⟩:=HO A C N I;have H:=AW A I (by simp);simp only[AN]at H;obtain⟨V,c,T,D,J,W,X,U⟩:=H;rw[m]at D;simp at D;subst D;obtain⟨v,hv,Y⟩:=U g _ R;have k:w.cell? ⟨b,g,none⟩=some v:=by rw[cell_of_row w b g c T (0,0) J];exact hv
   refine ⟨v,w,by simp[execOp,B,u,Instr.loadAt,Instr.sureAddr,loadVar,Cp L,k],_,_,h,_,A.quiet (Below.refl _ _) d hd (.la s (some g)) _ (fun _=>none) (by simp) (by simp) (by simp) ?_ trivial⟩;simp only[AN];rintro⟨pp,E⟩;have l:=AB.sx (by simp) (by simp) E;exact A.xv ⟨_,l.2⟩ (AV _ _ _ _ l.1) (fun _ _=>rfl) _ ⟨b,c,T,m,J,hv⟩
  .exact h.elim
 .exact h.elim
theorem l9(A:AO F0 w0 O a w G)(hd:d<a.tmps.size)(C:o.op=.load t x)(D:AJ x y=true)(R:B9 P t=some false)(h:(AE.ctk y).wp S O (some d) K):A2 P F0 w0 a w o d K:=by
 simp [AE.wp]at h;split at h
 .rename_i Y s j E U;simp at E;subst E;split at h
  .rename_i cs B;split at h
   .rename_i n es H;obtain⟨m,J⟩:=h;obtain⟨b,k,l⟩:=HO A D U B;have I:=AW A B (by simp);simp only[AN]at I;obtain⟨V,c,T,u,L,W,X,M⟩:=I;rw[k]at u;simp at u;subst u;obtain⟨y,N,_⟩:=M j _ H;have g:w.cell? ⟨b,j,none⟩=some y:=by rw[cell_of_row w b j c T (0,0) L];exact N
    exact ⟨y,w,by simp[execOp,C,l,Instr.loadAt,Instr.sureAddr,loadVar,Cp R,g],_,_,J,A.AaI B H hd k g (.inr (.inl ⟨n,es,rfl,rfl,rfl,m⟩))⟩
   .rename_i es H;obtain⟨m,J⟩:=h;obtain⟨b,k,l⟩:=HO A D U B;have I:=AW A B (by simp);simp only[AN]at I;obtain⟨V,c,T,u,L,W,X,M⟩:=I;rw[k]at u;simp at u;subst u;obtain⟨y,N,_⟩:=M j _ H;have g:w.cell? ⟨b,j,none⟩=some y:=by rw[cell_of_row w b j c T (0,0) L];exact N
    exact ⟨y,w,by simp[execOp,C,l,Instr.loadAt,Instr.sureAddr,loadVar,Cp R,g],_,_,J,A.AaI B H hd k g (.inr (.inr ⟨es,rfl,rfl,rfl,m⟩))⟩
   .exact h.elim
  .exact h.elim
 .exact h.elim
variable{q:Nat}
theorem l8(m:AO F0 w0 O a w G){x v:Operand}{x':AG}(hop:o.op=.store t x v)(hx:AJ x x'=true)(hv:AJ v (.s q)=true)(hn:C0 P t=some 1)(h:(AE.cpt x' q).wp S O none K):Hs P F0 w0 a w o K:=by
 simp [AE.wp]at h
 suffices key:∀(X:TV)(s g:Nat),x'.place O=some (s,g)->O.get q≠.undef->(∀cs,O.get q≠.bx cs)->EO w (AT w0.heap.size F0 G) (tg a G) (G q none) X (slot a q)->X.WF->∀cs,O.get s=.bx cs->O.noX s (some g)=true->g<cs.length->K .undef ((s,.bx (cs.set g ⟨true,X⟩))::(q,.undef)::O)->Hs P F0 w0 a w o K by
  split at h
  .rename_i s g n es U I;split at h
   .rename_i cs J;have l:=AW m I (by simp);have u:=m.wf q;rw[I]at u;exact key (.xl n es) s g U (by rw[I];simp) (by rw[I];simp) l u cs J h.1 h.2.1 h.2.2
   .exact h.elim
  .rename_i s g es U I;split at h
   .rename_i cs J;have l:=AW m I (by simp);have u:=m.wf q;rw[I]at u;exact key (.xn es) s g U (by rw[I];simp) (by rw[I];simp) l u cs J h.1 h.2.1 h.2.2
   .exact h.elim
  .exact h.elim
 intro X s g U hqu hqb l u cs J hno Y hK;obtain⟨b,hsl,hadr⟩:=HO m hx U J;have hr:=AW m J (by simp);simp only[AN]at hr;obtain⟨W,c,T,h1,h2,h3,h4,h5⟩:=hr;rw[hsl]at h1;simp at h1;subst h1;have hw:=m.wf s;rw[J]at hw;have C:q≠s:=fun e=>hqb cs (by rw[e];exact J);have hvq:v=.tmp q:=by
  cases v<;>simp[AJ]at hv;rw[hv]
 subst hvq;have N:(slot a q).oneCell'=true:=Of l;have D:(a.eval (.tmp q)).cells.toList=[slot a q]:=by
  have:a.eval (.tmp q)=slot a q:=rfl;rw[this,PV N]
 have hst:(execOp a.eval o).run P w=.ok .skip (w.setRow b (c.toList.take g++[slot a q]++c.toList.drop (g+1)).toArray):=by
  have E:=run_storeCells_at P b g T [slot a q] 0 c w h2 (by simp;omega) (by simpa using N);simp only[Nat.add_zero]at E;have hsz:(a.eval (.tmp q)).cells.size=1:=by rw[<-Array.length_toList,D];rfl
  simp at E;simp[execOp,hop,hadr,Instr.storeAt,Instr.sureAddr,storeVar,CE hn,hsz,D,E]
 let zs:Option Nat->Option (Nat×Nat):=fun i=>match i with|none=>some (b,0)|some j=>if j=g then G q none else G s (some j)
 refine Exists.elim (m.Abz J hsl h2 (cs':=cs.set g ⟨true,X⟩) (c':=(c.toList.take g++[slot a q]++c.toList.drop (g+1)).toArray) (q:=some q) (by simpa using C) (fun p U=>by cases U;exact m.lts hqu) (zs:=zs) rfl ?_ ?_ ?_ ?_ ?_ ?_) (fun G' h'=>⟨_,hst,_,hK,G',h'.1⟩)
 .intro i W lo hi hz;cases i with
  |none=>exact absurd rfl hi|some j=>
   simp [zs]at hz;split at hz
   .exact .inr ⟨q,rfl,none,hz⟩
   .exact .inl hz
 .intro i i' W lo R A B;have zn:∀j W lo R,zs (some j)=some (W,lo)->zs none=some (W,R)->False:=by
   intro j W lo R A B;simp[zs]at B;obtain⟨rfl,_⟩:=B;simp[zs]at A;split at A
   .exact C (m.nd _ _ _ _ _ _ _ A h4).1
   .have:=(m.nd _ _ _ _ _ _ _ A h4).2;cases this
  cases i with
  |none=>cases i' with
   |none=>rfl|some j=>exact(zn j _ _ _ B A).elim
  |some j=>cases i' with
   |none=>exact(zn j _ _ _ A B).elim|some j'=>
    simp [zs]at A B;split at A<;>split at B
    .rename_i e3 e4;rw[e3,e4]
    .exact absurd (m.nd _ _ _ _ _ _ _ A B).1 C
    .exact absurd (m.nd _ _ _ _ _ _ _ B A).1 C
    .exact(m.nd _ _ _ _ _ _ _ A B).2
 .simp;omega
 .intro F' w' hag M hrs i y H;rw[List.getElem?_set]at H;by_cases hi:g=i
  .subst hi;rw[a6 rfl,a6 Y]at H;simp at H;subst H;refine⟨slot a q,?_,?_⟩
   .rw[List.getElem?_toArray,ci,List.getElem?_append_right (by simp;omega)];simp;rw[Nat.min_eq_left (by omega),Nat.sub_self];rfl
   .simp[BG,zs];exact l.kept hag (fun k lo L=>M k (fun e=>C (m.nd _ _ _ _ _ _ _ (e▸L) h4).1)) hrs
  .rw[ae hi]at H;obtain⟨vv,A,B⟩:=h5 i y H;refine⟨vv,?_,?_⟩
   .rw[List.getElem?_toArray];rcases Nat.lt_or_ge i g with V|hge
    .rw[ci,List.getElem?_append_left (by simp;omega),List.getElem?_take_of_lt V];simpa using A
    .rw[List.getElem?_append_right (by simp;omega)];simp only[ba,bk,Array.length_toList,List.length_singleton];rw[Nat.min_eq_left (by omega),List.getElem?_drop,show g+1+(i-(g+1))=i from by omega];simpa using A
   .have hi':¬i=g:=fun e=>hi e.symm;simp[zs];rw[ae hi'];exact B.kept hag (fun k lo L=>M k (fun e=>by have:=(m.nd _ _ _ _ _ _ _ (e▸L) h4).2;cases this)) hrs
 .intro y H;rcases List.mem_or_eq_of_mem_set H with H|rfl
  .exact hw y H
  .exact u
 .intro k tx htx L;rw[List.getElem?_set]at L;by_cases hi:g=k
  .subst hi;exact .inl hno
  .rw[ae hi]at L;refine .inr ⟨L,?_⟩;have hkc:k<c.size:=by
    have:=(List.getElem?_eq_some_iff.1 L).1;omega
   rw [List.getElem?_toArray];rcases Nat.lt_or_ge k g with V|hge
   .rw[ci,List.getElem?_append_left (by simp;omega),List.getElem?_take_of_lt V,Array.getElem?_toList]
   .rw[List.getElem?_append_right (by simp;omega)];simp only[ba,bk,Array.length_toList,List.length_singleton];rw[Nat.min_eq_left (by omega),List.getElem?_drop,show g+1+(k-(g+1))=k from by omega,Array.getElem?_toList]
variable{s n:Nat}
theorem mA(B:AO F0 w0 O a w G)(hd:d<a.tmps.size){hi:Operand}{E:AG}(hop:o.op=.slice t (.tmp s) none (some hi) none)(hh:AJ hi E=true)(D:JK P t=some n)(h:(AE.cut n s E).wp S O (some d) K):A2 P F0 w0 a w o d K:=by
 simp [AE.wp]at h;split at h
 .rename_i d' m es k hb L hs hv;simp at L;subst L;obtain⟨⟨hm,W,X⟩,h0,h2,hK⟩:=h;subst hm;have hr:=AW B hs (by simp);have hw:=B.wf s;rw[hs]at hw;simp[AN]at hr;obtain⟨xs,⟨z0,k1,k2⟩,k3,k4,k5⟩:=hr;have b2:=(A0 B hh hv).1;simp[An]at b2;unfold JK at D;split at D
  .rename_i e hu;obtain⟨j,rfl⟩:∃j:Nat,hb=j:=⟨hb.toNat,by omega⟩;simp at hK;have T:j<=es.length:=by omega
   have hlx:=k1.1;have key:∀(Y:Option Addr)(cap:Nat),slot a s=.slice Y es.length cap->es.length<=cap->(execOp a.eval o).run P w=.ok (.value (.slice (if cap=0 then Y else Y.map (·.add (0*m))) (j-0) (cap-0))) w:=by
    intro Y cap M N;have U:=Sp (P:=P) (w:=w) (isS:=true) (lo:=none) (hi:=some (a.eval hi)) (l:=0) (h:=(j:Int)) (len:=es.length) (cap:=cap) (by omega) (by omega) h2 N (.inl ⟨rfl,rfl⟩) (.inr ⟨k,by rw[b2]⟩);simp[execOp,hop,Instr.sliceAt,Instr.slice,run_underlying hu,show a.eval (.tmp s)=slot a s from rfl,M,U,CE D]
   have A:∀F' C env'(a':Act)(v:Value),Bg w w (AT w0.heap.size F0 G) F'->C d none=G s none->Jx w m v (es.take j).length (xs.take (j*m)) (G s none)->AN a' w F' C env' d (.xo m (es.take j)) v:=by
    intro F' C env' a' v u J H;simp only[AN];rw[J];refine⟨xs.take (j*m),H,?_,fun e he=>k4 e (List.mem_of_mem_take he),fun x H=>k5 x (List.mem_of_mem_take H)⟩;have hfl:∀(l:Fq)(j:Nat),(∀e∈l,e.cells.length=m)->(l.take j).flatMap TV.cells=(l.flatMap TV.cells).take (j*m):=by
     intro l
     induction l with
     |nil=>intro j _;simp|cons e l ih=>
      intro j R;cases j with
      |zero=>simp|succ j=>
       rw [List.take_succ_cons,List.flatMap_cons,List.flatMap_cons,ih j (fun x H=>R x (by simp[H])),List.take_append,R e (by simp)];have h1:(j+1)*m=m+j*m:=by rw[Nat.add_mul];omega
       have h2:e.cells.take (m+j*m)=e.cells:=List.take_of_length_le (by rw[R e (by simp)];omega);rw[h1,h2,show m+j*m-m=j*m from by omega]
    grind [Bf,As,bk]
   have V:(EV.xo m (es.take j)).WF:=by
    simp only[EV.WF,TV.WF]at hw|-;refine⟨by simp;omega,?_⟩;rw[Br]at hw|-;exact fun t D=>hw.2 t (List.mem_of_mem_take D)
   have hjm:j*m<=es.length*m:=Nat.mul_le_mul_right _ T;rcases k1.2 with⟨M,N,e3⟩|⟨g,cap,cur,ty,M,N,e3,e4,e5,e6,e7⟩
   .have hes:es=[]:=List.eq_nil_of_length_eq_zero N;subst hes;have hj:j=0:=by simpa using T
    subst hj;refine⟨_,w,key none 0 (by simpa using M) (by simp),_,_,hK,B.xgo hs hd X (z':=G s none) rfl rfl rfl (az _) (fun _ _ _=>rfl) (fun b lo I=>⟨(B.lt _ _ _ _ I).1,.inr ⟨lo,I⟩⟩) (by simp) (fun _=>W) (fun F' C env' a' u J _=>A F' C env' a' _ u J ?_) V⟩;refine⟨none,⟨by simp,.inl ⟨by simp,by simp,rfl⟩⟩,?_⟩;rw[k2,e3]
   .refine⟨_,w,key _ _ M e3,_,_,hK,B.xgo hs hd X (z':=G s none) rfl rfl rfl (az _) (fun _ _ _=>rfl) (fun b lo I=>⟨(B.lt _ _ _ _ I).1,.inr ⟨lo,I⟩⟩) (by simp) (fun _=>W) (fun F' C env' a' u J _=>A F' C env' a' _ u J ?_) V⟩;have R:(es.take j).length=j:=by rw[bk];omega
    rw [R];refine⟨some (g,j*m),⟨by rw[bk,hlx];omega,.inr ⟨g,cap,cur,ty,?_,N,by omega,e4,e5,?_,rfl⟩⟩,?_⟩
    .simp only[Nat.zero_mul,Nat.sub_zero,Option.map_some,Addr.add_zero'];split<;>rfl
    .rw[<-e6,List.take_take,Nat.min_eq_left hjm]
    .rw[k2,e7];rfl
  .cases D
 .exact h.elim
variable{v:Value}
theorem YZ{F:Nat->Nat->Prop}{es:Fq}{xs:List Value}{z:Option (Nat×Nat)}(h:Jx w n v es.length xs z)(g:AQ w F (es.flatMap TV.cells) xs)(j:∀e∈es,e.cells.length=n)(k:∀x∈xs,x.oneCell'=true):An w (fun _ _=>False) (.list n es) v:=by
 obtain ⟨z0,m,_⟩:=h;refine By.rep (z:=z0) ?_ (fun _ _ _ _ _ h=>h);simp[By];exact⟨xs,m,As (fun b o u l _=>⟨l,fun h=>h⟩) _ _ g,j,k⟩
theorem Wz{F:Nat->Nat->Prop}:Bg w w F (fun _ _=>False):=fun _ _ _ g _=>⟨g,fun h=>h⟩
variable{c:AS}
theorem oK(h:c.t.WF):c.Abc.WF:=by
 obtain ⟨_|_,t⟩:=c
 .exact h
 .cases t<;>exact h
variable{i:Option Nat}
theorem ko(j:AO F0 w0 O a w G){ρ:IB}{x:Value}(h:BG w (AT w0.heap.size F0 G) ρ (G s i) c x):An w (fun _ _=>False) c.Abc x:=by
 by_cases g:∃n es,c=⟨true,.xl n es⟩
 .obtain⟨n,es,rfl⟩:=g;simp[BG,EO]at h;obtain⟨xs,k,l,m,u⟩:=h;exact YZ k l m u
 .have:c.Abc=c.t:=by
   obtain ⟨_|_,t⟩:=c
   .rfl
   .cases t<;>first|rfl|exact absurd ⟨_,_,rfl⟩ g
  rw [this];exact CG Wz _ _ (Ut j h)
variable{b:Nat}
theorem aC(u:AO F0 w0 O a w G){cs:List AS}(B:O.get s=.bx cs)(l:slot a s=.pointer (some ⟨b,0,none⟩))(g:Nat):DM w (fun _ _=>False) ((cs.drop g).map AS.Abc) b g:=by
 have k:=AW u B (by simp);simp only[AN]at k;obtain⟨H,c,T,m,C,I,J,D⟩:=k;rw[l]at m;simp at m;subst m;rw[Im];intro i t A;simp[List.getElem?_map,List.getElem?_drop]at A;obtain⟨cell,j,rfl⟩:=A;obtain⟨x,E,k⟩:=D _ cell j;exact⟨x,by rw[cell_of_row w b (g+i) c T (0,0) C];exact E,fun h=>h,Gr k,ko u k⟩
theorem aD{cs:List AS}(h:∀c∈cs,c.t.WF):TV.sc (cs.map AS.Abc):=by grind[Br,oK]
theorem ku(j:AO F0 w0 O a w G)(g:AJ x y=true){t:TV}(h:y.Abp O=some t):An w (fun _ _=>False) t (a.eval x)/\t.WF:=by
 unfold AG.Abp at h;split at h
 .rename_i p H;simp at h;subst h;obtain⟨A,D⟩:=OR j g H
  grind [Ot,YZ]
 .have C:∀e,y.ev O=e->(∀t,e≠.tv t)->∃n,y=.s n/\x=.tmp n/\O.get n=e:=by
   intro e he B;cases y with
   |c t=>exact absurd he.symm (B t)|s n=>
    cases x<;>simp[AJ]at g;subst g;exact⟨_,rfl,rfl,he⟩
  split at h
  .rename_i cs he;simp at h;subst h;obtain⟨n,rfl,rfl,k⟩:=C _ he (by simp);have m:=AW j k (by simp);have u:=j.wf n;rw[k]at u;simp only[AN]at m;obtain⟨b,c,T,A,_⟩:=m;refine⟨?_,aD u⟩;simp[An];exact⟨b,0,A,by simpa using aC j k A 0⟩
  .rename_i q l he;split at h
   .rename_i cs k;simp only[sr]at h;subst h;obtain⟨n,rfl,rfl,I⟩:=C _ he (by simp);have m:=AW j I (by simp);simp only[AN]at m;obtain⟨b,A,D⟩:=m ⟨cs,k⟩;have u:=j.wf q;rw[k]at u;refine⟨?_,aD (fun c E=>u c (List.mem_of_mem_drop E))⟩;simp only[An];exact⟨b,l,D,aC j k A l⟩
   .cases h
  .have:=A0 j g (t:=t) h;exact⟨CG Wz _ _ this.1,this.2⟩
theorem X2(j:AO F0 w0 O a w G):∀{xs:List Operand}{ys:List AG},Bc xs ys=true->∀{ts:Fq},Aai O ys=some ts->AQ w (fun _ _=>False) ts (xs.map a.eval)/\TV.sc ts
 |[],[],_,ts,hv=>by simp[Aai]at hv;subst hv;exact⟨rfl,trivial⟩|[],_::_,g,_,_=>by simp[Bc]at g|_::_,[],g,_,_=>by simp[Bc]at g|x::xs,y::ys,g,ts,hv=>by
  simp [Bc]at g;simp[Aai]at hv;split at hv
  .rename_i t m u h;simp at hv;subst hv;have k:=ku j g.1 u;have l:=X2 j g.2 h;exact⟨⟨_,_,rfl,k.1,l.1⟩,k.2,l.2⟩
  .cases hv
variable{r:Ax}
theorem jO{w':World}{F F':Nat->Nat->Prop}{base:Nat}(g:r.Abh=true)(h:IQ w' F base r v):IQ w' F' base r v:=by
 cases r with
 |sh t=>exact Sl t g v h|tp ts=>obtain⟨vs,k,j⟩:=h;exact⟨vs,k,GX ts g _ j⟩
 |own t=>
  obtain ⟨z,k,j⟩:=h;refine⟨z,?_,j⟩;cases t<;>simp[Ax.Abh]at g
  grind [By,GX,My]
 |_=>simp[Ax.Abh]at g
theorem Ub(h:r.Abh=true):r.plain=true:=by
 cases r<;>first|rfl|(simp[Ax.Abh]at h)
variable{f:FuncId}{ys:List AG}{ats:Array TypeId}{Q:Exit->Act->World->Prop}
theorem fv(l:AO F0 w0 O a w G)(hd:d<a.tmps.size)(j:o.dst=some d){xs:Array Operand}(m:o.op=.call {callee:=.value (.func f),args:=xs,argTypes:=ats})(u:Bc xs.toList ys=true)(h:(AE.AaC f ys).wp (AU P) O (some d) K)
  {next:Act->World->Prop}(D:∀e env' a' w',K e env'->QW a d a'->Bu F0 w0 ((d,e)::env') a' w'->next a' w'):o.wp P a w next Q:=by
 simp [AE.wp]at h;cases g:Aai O ys with
 |none=>rw[g]at h;exact h.elim|some ts=>
  rw [g]at h;simp[Al]at h;obtain⟨r,⟨E,A⟩,H⟩:=h;have hv:=X2 l u g;have k:(execOp a.eval o).run P w=(callFunc f (xs.map a.eval)).run P w:=by simp[execOp,m,resolve,Act.eval,Deferred.ofValue,invoke]
  obtain ⟨I,B⟩:=(E.to0 (Ub A)) hv.2;obtain⟨C,B⟩:=B (fun _ _=>False) w (xs.map a.eval) (by simpa using hv.1) l.below.now;unfold Oper.wp;rw[k,Ee I _,Oper.upon_enter];refine B.mono ?_;rintro e w' ⟨v,rfl,J,L⟩;simp[j];exact D _ _ _ _ (H C) ⟨_,rfl⟩ (l.called hd J (Ub A) (jO A L) C)
theorem Mw:∀{g:List (Option AS)}{ts:Fq}{cs:List AS},EP g ts=some cs->cs.length=ts.length/\∀(i:Nat)(c:AS),cs[i]?=some c->∃t,ts[i]?=some t/\(c=⟨false,t⟩\/(t=.nil/\∃n,c=⟨true,.list n []⟩\/c=⟨true,.xl n []⟩\/c=⟨true,.xn []⟩))
 |[],[],cs,h=>by simp[EP]at h;subst h;simp|[],_::_,cs,h=>by simp[EP]at h|none::g,[],cs,h=>by simp[EP]at h|some _::g,[],cs,h=>by simp[EP]at h|none::g,t::ts,cs,h=>by
  simp [EP]at h;split at h
  .rename_i cs' k;simp at h;subst h;obtain⟨l,m⟩:=Mw k
   grind
  .cases h
 |some A::g,t::ts,cs,h=>by
  cases t<;>simp[EP]at h<;>try cases h
  have key:∃cs' j,EP g ts=some cs'/\cs=j::cs'/\∃n,j=⟨true,.list n []⟩\/j=⟨true,.xl n []⟩\/j=⟨true,.xn []⟩:=by
   grind
  obtain ⟨cs',j,k,rfl,u⟩:=key;obtain⟨l,m⟩:=Mw k
  grind
theorem ji(H:AO F0 w0 O a w G)(hd:d<a.tmps.size){I:List (Option AS)}(k:o.op=.box t x)(l:AJ x y=true)(h:(AE.Aa3 I y).wp S O (some d) K):A2 P F0 w0 a w o d K:=by
 simp [AE.wp]at h;split at h
 .rename_i u Y hv j;simp at j;subst j;cases A:EP I u.cells with
  |none=>rw[A]at h;exact h.elim|some cs=>
   rw [A]at h;simp[Al]at h;obtain⟨C,V⟩:=h;obtain⟨W,D⟩:=Mw A;have N:=A0 H l hv;have B:=GY N.1;have R:=BH B.1;refine⟨_,_,by simp[execOp,k,Instr.box,newVar,newRow],_,_,V,H.box hd C (c:=(a.eval x).cells) (T:=t) (by rw[W];simpa using R) (fun F' m i c J=>?_) (fun c J=>?_)⟩
   .obtain⟨X,M,E⟩:=D i c J;have U:i<u.cells.length:=(List.getElem?_eq_some_iff.1 M).1;have L:(a.eval x).cells.toList[i]?=some ((a.eval x).cells.toList[i]'(by omega)):=List.getElem?_eq_getElem (by omega);have g:=((Bf _ _).1 B.1).2 i X _ M L;refine⟨(a.eval x).cells.toList[i]'(by omega),by rw[<-Array.getElem?_toList];exact L,?_⟩;rcases E with rfl|⟨rfl,n,rfl|rfl|rfl⟩
    .exact⟨CG m _ _ g,B.2 _ (List.getElem_mem _)⟩
    .simp[An]at g;simp only[BG,EO,By];exact⟨[],⟨by simp,.inl ⟨g,rfl,rfl⟩⟩,rfl,by simp,by simp⟩
    .simp[An]at g;simp only[BG,EO];exact⟨[],⟨none,⟨by simp,.inl ⟨g,rfl,rfl⟩⟩,rfl⟩,rfl,by simp,by simp⟩
    .simp[An]at g;simp[BG,EO];exact⟨[],⟨none,⟨by simp,.inl ⟨g,rfl,rfl⟩⟩,rfl⟩,by simp,by simp⟩
   grind [List.getElem?_of_mem,Br,H7,List.mem_of_getElem?,TV.WF,TV.sc]
 .exact h.elim
theorem XR(k:AO F0 w0 O a w G):∀{i:Nat}{xs:List Operand}{ys:List AG},Bc xs ys=true->∀{ts:Fq},IU O i ys=some ts->(∀x,xs[i]?=some x->(a.eval x).oneCell'=true)->AQ w (AT w0.heap.size F0 G) ts (xs.map a.eval)/\TV.sc ts
 |i,[],[],_,ts,hv,_=>by cases i<;>simp[IU]at hv<;>subst hv<;>exact⟨rfl,trivial⟩
 |_,[],_::_,g,_,_,_=>by simp[Bc]at g|_,_::_,[],g,_,_,_=>by simp[Bc]at g|0,x::xs,y::ys,g,ts,hv,ho=>by
  simp [Bc]at g;simp[IU]at hv;split at hv
  .rename_i l h;simp at hv;subst hv;have j:=Fe k g.2 h;exact⟨⟨_,_,rfl,by simp[An];exact ho x rfl,j.1⟩,trivial,j.2⟩
  .cases hv
 |i+1,x::xs,y::ys,g,ts,hv,ho=>by
  simp [Bc]at g;simp[IU]at hv;split at hv
  .rename_i t l A h;simp at hv;subst hv;have m:=A0 k g.1 A;have j:=XR k g.2 h (fun x u=>ho x (by simpa using u));exact⟨⟨_,_,rfl,m.1,j.1⟩,m.2,j.2⟩
  .cases hv
noncomputable def Bs(a:Act)(G:BU)(s:Nat):DX:=open Classical in fun q i=>if q=0 then G s i else if∃k lo,G s k=some (q-1,lo)then(match i with|some j=>G (a.tmps.size+(q-1)) (some j)|none=>none)else none
theorem T4{a:Act}{G:BU}{b lo:Nat}(h:Bs a G s q i=some (b,lo)):(q=0/\G s i=some (b,lo))\/(q≠0/\(∃k g,G s k=some (q-1,g))/\G (a.tmps.size+(q-1)) i=some (b,lo)):=by
 simp [Bs]at h;split at h
 .grind
 .rename_i e;split at h
  .grind
  .cases h
theorem DK{a:Act}{G:BU}:Bs a G s 0=G s:=by
 funext i;simp[Bs]
theorem Ov{a:Act}{G:BU}{s g lo:Nat}{k:Option Nat}(h:G s k=some (g,lo))(j:Nat):(Bs a G s).tg g j=tg a G g j:=by
 simp only[DX.tg,Bs,tg];rw[ae (by omega),a6 ⟨k,lo,by simpa using h⟩];rfl
theorem Ju(h:AO F0 w0 O a w G)(B:s<a.tmps.size):JG (Bs a G s):=by
 intro q i C D b lo m u A;rcases T4 u with⟨k,g⟩|⟨k,_,g⟩<;>rcases T4 A with⟨l,j⟩|⟨l,_,j⟩
 .exact⟨by rw[k,l],(h.nd _ _ _ _ _ _ _ g j).2⟩
 .have:=(h.nd _ _ _ _ _ _ _ g j).1;omega
 .have:=(h.nd _ _ _ _ _ _ _ g j).1;omega
 .have:=h.nd _ _ _ _ _ _ _ g j
  grind
theorem CM{b lo:Nat}(l:Bs a G s q i=some (b,lo)):∃p j,G p j=some (b,lo)/\(p=s\/∃g k h,p=a.tmps.size+g/\G s k=some (g,h)):=by grind[T4]
noncomputable def CX(a:Act)(G:BU)(s d:Nat)(Z:DX):BU:=open Classical in fun p=>if p=d then Z 0 else if p=s then fun _=>none else
 if a.tmps.size<=p/\∃k lo,Z 0 k=some (p-a.tmps.size,lo)then(fun i=>match i with|some j=>Z (p-a.tmps.size+1) (some j)|none=>none)else
 if a.tmps.size<=p/\∃k lo,G s k=some (p-a.tmps.size,lo)then fun _=>none else G p
variable{Z:DX}{p:Nat}
theorem PB{a:Act}{G:BU}{s d:Nat}{b lo:Nat}(h:CX a G s d Z p i=some (b,lo)):
  (p=d/\Z 0 i=some (b,lo))\/(p≠d/\a.tmps.size<=p/\Z (p-a.tmps.size+1) i=some (b,lo))\/(p≠d/\p≠s/\¬(a.tmps.size<=p/\∃k lo,G s k=some (p-a.tmps.size,lo))/\G p i=some (b,lo)):=by
 simp [CX]at h;split at h
 .rename_i e;exact .inl ⟨e,h⟩
 .rename_i e;split at h
  .cases h
  .rename_i g;split at h
   .rename_i l;cases i with
    |none=>cases h
    |some j=>exact .inr (.inl ⟨e,l.1,h⟩)
   .split at h
    .cases h
    .rename_i m;exact .inr (.inr ⟨e,g,m,h⟩)
theorem AO.Aap(h:AO F0 w0 O a w G){s d:Nat}(hsz:s<a.tmps.size)(hd:d<a.tmps.size){w':World}(X:Gd (Bs a G s) w w'){env':AB}{a':Act}(ha':a'.tmps.size=a.tmps.size)(had:a'.defers=a.defers)
  (hzu:JG Z)(hz:∀q i b lo,Z q i=some (b,lo)->b<w'.heap.size/\(w.heap.size<=b\/∃p j l,Bs a G s p j=some (b,l)/\l<=lo))
  (hdom:∀p,a.tmps.size<=p->env'.get p=.undef)(hwf:∀p,(env'.get p).WF)
  (D:∀p,p≠d->p≠s->slot a' p=slot a p)(N:∀p,p≠d->p≠s->env'.get p=O.get p)(hgs:s≠d->env'.get s=.undef)
  (m:O.f0 d=true\/(d=s/\(∃cs0,O.get s=.bx cs0)/\O.noX s none=true/\(∀n es,env'.get d≠.xo n es)/\slot a' s=slot a s)\/((∀cs,env'.get d≠.bx cs)/\∀n es,env'.get d≠.xo n es))
  (hrep:∀F',(∀b o,F' b o->(b<w.heap.size/\AT w0.heap.size F0 G b o/\¬ZF (Bs a G s) b o)\/ZF Z b o)->AN a' w' F' (CX a G s d Z) env' d (env'.get d) (slot a' d)):
  AO F0 w0 env' a' w' (CX a G s d Z)/\∀b o,AT w0.heap.size F0 (CX a G s d Z) b o->(b<w.heap.size/\AT w0.heap.size F0 G b o/\¬ZF (Bs a G s) b o)\/ZF Z b o:=by
 have W:∀p i b lo,p≠s->¬(a.tmps.size<=p/\∃k lo,G s k=some (p-a.tmps.size,lo))->G p i=some (b,lo)->∀q j l,Bs a G s q j≠some (b,l):=by
  intro p i b lo I hn A q j l H;obtain⟨p',j',R,V⟩:=CM H;obtain⟨rfl,_⟩:=h.nd _ _ _ _ _ _ _ A R;rcases V with V|⟨g,k,lo0,rfl,f3⟩
  .exact I V
  .exact hn ⟨by omega,k,lo0,by rw[Nat.add_sub_cancel_left];exact f3⟩
 have hE:∀b o,b<w0.heap.size->ZF (Bs a G s) b o->w0.E b o:=fun b o hlt⟨q,i,lo,A,H⟩=>by
  obtain ⟨p,j,R,_⟩:=CM A;exact(h.lt _ _ _ _ R).2.elim (fun e=>by omega) (fun e=>e o H)
 have hforb:∀b o,AT w0.heap.size F0 (CX a G s d Z) b o->(b<w0.heap.size/\F0 b o)\/(∃p i lo,p≠s/\¬(a.tmps.size<=p/\∃k lo,G s k=some (p-a.tmps.size,lo))/\G p i=some (b,lo)/\lo<=o)\/ZF Z b o:=by
  rintro b o (A|⟨p,i,lo,A,H⟩)
  .exact .inl A
  .rcases PB A with⟨_,e⟩|⟨_,_,e⟩|⟨_,e1,e2,e3⟩
   .exact .inr (.inr ⟨_,i,lo,e,H⟩)
   .exact .inr (.inr ⟨_,i,lo,e,H⟩)
   grind
 have hall:∀b o,AT w0.heap.size F0 (CX a G s d Z) b o->(b<w.heap.size/\AT w0.heap.size F0 G b o/\¬ZF (Bs a G s) b o)\/ZF Z b o:=by
  intro b o hf;rcases hforb b o hf with A|⟨p,i,lo,e1,e0,e2,e3⟩|A
  .exact .inl ⟨Nat.lt_of_lt_of_le A.1 h.below.size,.inl A,fun hz=>h.below.free _ _ _ (hE b o A.1 hz) A.2⟩
  .exact .inl ⟨(h.lt _ _ _ _ e2).1,.inr ⟨p,i,lo,e2,e3⟩,fun⟨q,j,l,R,_⟩=>W p i b lo e1 e0 e2 q j l R⟩
  .exact .inr A
 have hag:Bg w w' (AT w0.heap.size F0 G) (AT w0.heap.size F0 (CX a G s d Z)):=by
  intro b o u hc hF;have hlt:b<w.heap.size:=World.block_lt_of_cell? w ⟨b,o,none⟩ hc;have hnf:¬ZF (Bs a G s) b o:=fun⟨q,i,lo,A,H⟩=>by
   obtain ⟨p,j,R,_⟩:=CM A;exact hF (.inr ⟨p,j,lo,R,H⟩)
  refine ⟨X.cell b o u hnf hc,fun hF'=>?_⟩;rcases hall b o hF' with⟨_,A,_⟩|⟨q,i,lo,A,H⟩
  .exact hF A
  .rcases(hz q i b lo A).2 with h3|⟨p,j,l,h3,h4⟩
   .omega
   .exact hnf ⟨p,j,l,h3,Nat.le_trans h4 H⟩
 have hlow:∀p,p<a.tmps.size->p≠d->p≠s->CX a G s d Z p=G p:=by
  intro p hp A H;simp[CX];rw[ae A,ae H,ae (fun e=>by have:=e.1;omega),ae (fun e=>by have:=e.1;omega)]
 refine ⟨⟨?_,?_,?_,had.trans h.defers,fun p hp=>hdom p (by omega),?_,hwf⟩,hall⟩
 .intro p i p' i' b lo l e1 e2;have mix:∀p i q i' lo l,p≠s->¬(a.tmps.size<=p/\∃k lo,G s k=some (p-a.tmps.size,lo))->G p i=some (b,lo)->Z q i'=some (b,l)->False:=by
   intro p i q i' lo l hp hn R V;rcases(hz q i' b l V).2 with h3|⟨p2,j,T,h3,_⟩
   .have:=(h.lt _ _ _ _ R).1;omega
   .exact W p i b lo hp hn R p2 j T h3
  rcases PB e1 with⟨R,M⟩|⟨R,f3,M⟩|⟨_,f3,f4,M⟩<;>rcases PB e2 with⟨V,g2⟩|⟨V,f5,g2⟩|⟨_,f5,f6,g2⟩
  .exact⟨by rw[R,V],(hzu _ _ _ _ _ _ _ M g2).2⟩
  .have:=(hzu _ _ _ _ _ _ _ M g2).1;omega
  .exact(mix _ _ _ _ _ _ f5 f6 g2 M).elim
  .have:=(hzu _ _ _ _ _ _ _ M g2).1;omega
  .have:=hzu _ _ _ _ _ _ _ M g2;exact⟨by omega,this.2⟩
  .exact(mix _ _ _ _ _ _ f5 f6 g2 M).elim
  .exact(mix _ _ _ _ _ _ f3 f4 M g2).elim
  .exact(mix _ _ _ _ _ _ f3 f4 M g2).elim
  .exact h.nd _ _ _ _ _ _ _ M g2
 .intro p i b lo e1;have znew:∀q i,Z q i=some (b,lo)->b<w'.heap.size/\(w0.heap.size<=b\/∀o,lo<=o->w0.E b o):=by
   intro q i R;obtain⟨A,H⟩:=hz q i b lo R;refine⟨A,?_⟩;rcases H with H|⟨p,j,l,H,h3⟩
   .exact .inl (Nat.le_trans h.below.size H)
   .obtain⟨p',j',V,_⟩:=CM H;exact(h.lt _ _ _ _ V).2.imp id (fun e o ho=>e o (Nat.le_trans h3 ho))
  rcases PB e1 with⟨_,M⟩|⟨_,_,M⟩|⟨_,_,_,M⟩
  .exact znew _ _ M
  .exact znew _ _ M
  .exact⟨Nat.lt_of_lt_of_le (h.lt _ _ _ _ M).1 X.size,(h.lt _ _ _ _ M).2⟩
 .refine h.below.trans X.os X.tape X.output X.size (fun k hk he=>X.block k (Nat.lt_of_lt_of_le hk h.below.size) (fun q i lo U=>he lo (hE k lo hk ⟨q,i,lo,U,az _⟩))) (fun b o u hlt he hu=>X.cell b o u (fun U=>he (hE b o hlt U)) hu)
 .intro p hp;rw[ha']at hp;by_cases hpd:p=d
  .subst hpd;exact hrep _ hall
  .by_cases I:p=s
   .subst I;rw[hgs hpd];trivial
   .rw[N p hpd I,D p hpd I];have hn:¬(a.tmps.size<=p/\∃k lo,G s k=some (p-a.tmps.size,lo)):=fun e=>by have:=e.1;omega
    have hsame:∀r,(r≠d->r≠s)->r≠d->slot a' r=slot a r:=fun r A H=>D r H (A H);refine AN.kept' hag (fun i=>by rw[hlow p hp hpd I]) (fun i b lo U=>X.block b (h.lt _ _ _ _ U).1 (fun q j l=>W p i b lo I hn U q j l)) (fun i g lo j hg=>?_) (fun i g lo j b l hg L=>?_) (fun r i k L⟨pp,J⟩=>?_) (fun r off L⟨cs2,hcs⟩=>?_) (fun r i L⟨pp,J⟩=>?_) (h.slots p hp)
    .show CX a G s d Z (a'.tmps.size+g) (some j)=G (a.tmps.size+g) (some j);rw[ha'];simp[CX];rw[ae (by omega),ae (by omega),ae,ae]
     .rintro⟨_,k,l,e⟩;rw[Nat.add_sub_cancel_left]at e;exact I (h.nd _ _ _ _ _ _ _ hg e).1
     .rintro⟨_,k,l,e⟩;rw[Nat.add_sub_cancel_left]at e;rcases(hz _ _ _ _ e).2 with h3|⟨p2,j2,T,h3,_⟩
      .have:=(h.lt _ _ _ _ hg).1;omega
      .exact W p i g lo I hn hg p2 j2 T h3
    .refine X.block b (h.lt _ _ _ _ L).1 (fun q j2 T hzf=>?_);obtain⟨p',j',R,V⟩:=CM hzf;obtain⟨e1,_⟩:=h.nd _ _ _ _ _ _ _ L R;rcases V with V|⟨g',k,lo0,f3,f4⟩
     .omega
     .have:g=g':=by omega
      subst this;exact I (h.nd _ _ _ _ _ _ _ hg f4).1
    .obtain⟨cs,A,H⟩:=AB.sB J;by_cases B:r=d
     .subst B;rcases m with m|⟨rfl,_,m,_⟩|⟨m,_⟩
      .exact absurd L (AB.Aa4 _ O m p i k)
      .exact absurd L (AB.noX_nh m p i (.inl rfl) k)
      .exact absurd A (m cs)
     .by_cases C:r=s
      .subst C;rw[hgs B]at A;cases A
      .have h4:O.nat r i=some pp:=by rw[<-J];exact(AB.Aah (N r B C)).symm
       have hrl:r<a.tmps.size:=h.lts (by rw[<-N r B C,A];simp);exact⟨⟨pp,h4⟩,h.nh ⟨pp,h4⟩ (D r B C) (fun j b _ Y=>X.block b (h.lt _ _ _ _ Y).1 (fun q j2 T=>W r j b 0 C (fun e=>by have:=e.1;omega) Y q j2 T))⟩
    .by_cases B:r=d
     .subst B;rcases m with m|⟨e1,⟨cs0,e2⟩,_,_,hds⟩|⟨m,_⟩
      .exact absurd L (AB.AaD _ O m p off)
      .exact⟨⟨cs0,by rw[e1];exact e2⟩,by rw[e1];exact hds⟩
      .exact absurd hcs (m cs2)
     .by_cases C:r=s
      .subst C;rw[hgs B]at hcs;cases hcs
      .exact⟨⟨cs2,by rw[<-N r B C];exact hcs⟩,D r B C⟩
    .by_cases B:r=d
     .subst B;obtain⟨n,es⟩:=pp;rcases m with m|⟨rfl,_,m,hxo,_⟩|⟨m,hxo⟩
      .have hx:=AB.AaJ _ O m p;rcases L with L|⟨c,L⟩
       .exact absurd L (hx.1 i)
       .exact absurd L (hx.2 i c)
      .cases i with
       |none=>exact absurd (AB.tc J) (hxo n es)|some k=>
        have h5:=AB.noX_spec m p k (.inl rfl);rcases L with L|⟨c,L⟩
        .exact absurd L h5.1
        .exact absurd L (h5.2 c)
      .cases i with
       |none=>exact absurd (AB.tc J) (hxo n es)|some k=>
        obtain ⟨cs,A,_⟩:=AB.sj J;exact absurd A (m cs)
     .by_cases C:r=s
      .subst C;rw[AB.Aaw (hgs B)]at J;cases J
      .have h4:O.sR r i=some pp:=by rw[<-J];exact(AB.x9 (N r B C)).symm
       have hrl:r<a.tmps.size:=by
        refine h.lts (fun e=>?_);rw[AB.Aaw e]at h4;cases h4
       exact ⟨⟨pp,h4⟩,h.xv ⟨pp,h4⟩ (D r B C) (fun b Y=>X.block b (h.lt _ _ _ _ Y).1 (fun q j2 T=>W r none b 0 C (fun e=>by have:=e.1;omega) Y q j2 T))⟩
theorem QB{a a':Act}{G:BU}{s d:Nat}(l:a'.tmps.size=a.tmps.size)(hd:d<a.tmps.size)(m:s<a.tmps.size){k:Option Nat}{g lo:Nat}(h:Z 0 k=some (g,lo))(j:Nat):tg a' (CX a G s d Z) g j=Z.tg g j:=by
 show CX a G s d Z (a'.tmps.size+g) (some j)=Z.tg g j;rw[l];simp only[CX,DX.tg];rw[ae (by omega),ae (by omega),a6 ⟨by omega,k,lo,by rw[Nat.add_sub_cancel_left];exact h⟩]
 grind
theorem AO.reboxed(h:AO F0 w0 O a w G){cs cs':List AS}(J:O.get s=.bx cs)(C:O.noX s none=true){w':World}(L:Gd (Bs a G s) w w')
  (l:Nb w' (fun b o=>(b<w.heap.size/\AT w0.heap.size F0 G b o/\¬ZF (Bs a G s) b o)\/ZF Z b o) Z cs' (slot a s))
  (D:JG Z)(M:∀q i b lo,Z q i=some (b,lo)->b<w'.heap.size/\(w.heap.size<=b\/∃p j m,Bs a G s p j=some (b,m)/\m<=lo))(N:∀c∈cs',c.t.WF):
  AO F0 w0 ((s,.bx cs')::O) a w' (CX a G s s Z)/\∀b o,AT w0.heap.size F0 (CX a G s s Z) b o->(b<w.heap.size/\AT w0.heap.size F0 G b o/\¬ZF (Bs a G s) b o)\/ZF Z b o:=by
 have k:s<a.tmps.size:=Bi h J (by simp);have A:AB.get ((s,EV.bx cs')::O) s=.bx cs':=by rw[AB.eb,a6 rfl]
 refine h.Aap k k L rfl rfl D M (fun p R=>by rw[AB.eb,ae (by omega)];exact h.dom p R) (fun p=>?_) (fun _ _ _=>rfl) (fun p _ E=>by rw[AB.eb,ae (fun e=>E e.symm)]) (fun e=>absurd rfl e) (.inr (.inl ⟨rfl,⟨cs,J⟩,C,(fun n es e=>by rw[A]at e;cases e),rfl⟩)) (fun F' H=>?_)
 .rw[AB.eb];split
  .exact N
  .exact h.wf p
 .rw[A];obtain⟨b,c,T,W,X,Y,h4,h5⟩:=l;have B:CX a G s s Z s=Z 0:=by simp[CX]
  simp only[AN];refine⟨b,c,T,W,X,Y,by rw[B];exact h4,fun i d hd=>?_⟩;obtain⟨x,e1,e2⟩:=h5 i d hd;refine⟨x,e1,?_⟩;rw[B];exact(e2.kept (fun b o u U hf=>⟨U,fun I=>hf (H b o I)⟩) (fun _ _ _=>rfl) BI.rfl').tg (fun g lo j V=>QB rfl k k V j)
theorem fm(k:AO F0 w0 O a w G)(hd:d<a.tmps.size)(L:o.dst=some d){xs:Array Operand}{i:Nat}(hop:o.op=.call {callee:=.value (.func f),args:=xs,argTypes:=ats})(M:Bc xs.toList ys=true)(h:(AE.Aaj f ys i).wp (AU P) O (some d) K)
  {next:Act->World->Prop}(hn:∀e env' a' w',K e env'->QW a d a'->Bu F0 w0 ((d,e)::env') a' w'->next a' w'):o.wp P a w next Q:=by
 simp only[AE.wp]at h;split at h
 .rename_i d' s R D;simp at R;subst R;split at h
  .rename_i cs U;obtain⟨⟨hno,hds⟩,h⟩:=h;cases H:IU O i ys with
   |none=>rw[H]at h;exact h.elim|some ts=>
    rw [H]at h;simp only[Al]at h;obtain⟨cs',m,hS,hK⟩:=h;rw[Option.bind_eq_some_iff]at D;obtain⟨y,hy,D⟩:=D;have hxi:∀(xs:List Operand)(ys:List AG)(i:Nat)(y:AG),Bc xs ys=true->ys[i]?=some y->∃x,xs[i]?=some x/\AJ x y=true:=by
     intro xs
     induction xs with
     |nil=>intro ys i y A B;cases ys<;>simp[Bc]at A B
     |cons x xs ih=>
      intro ys i y A B;cases ys with
      |nil=>simp[Bc]at A|cons z ys=>
       simp [Bc]at A
       grind
    obtain ⟨x,hx,hxy⟩:=hxi _ _ _ _ M hy;obtain⟨b,hsl,C⟩:=HO k hxy D U;have hv:=XR k M H (fun x' N=>by rw[hx]at N;cases N;rw[C];rfl);have V:=k.wf s;rw[U]at V;have hbx:=AW k U (by simp);have hsplit:∀b o,AT w0.heap.size F0 G b o↔((AT w0.heap.size F0 G b o/\¬ZF (Bs a G s) b o)\/ZF (Bs a G s) b o):=by
     intro b o;constructor
     .grind
     .rintro(hf|⟨q,i,lo,A,B⟩)
      .exact hf.1
      .obtain⟨p,j,I,_⟩:=CM A;exact .inr ⟨p,j,lo,I,B⟩
    have hF:(fun b o=>(AT w0.heap.size F0 G b o/\¬ZF (Bs a G s) b o)\/ZF (Bs a G s) b o)=AT w0.heap.size F0 G:=by
     grind
    obtain ⟨B,h3⟩:=hS hv.2 V;have hbr:Nb w (fun b o=>(AT w0.heap.size F0 G b o/\¬ZF (Bs a G s) b o)\/ZF (Bs a G s) b o) (Bs a G s) cs (slot a s):=by
     rw [hF];obtain⟨b,c,T,A,B,h3,h4,h5⟩:=hbx;refine⟨b,c,T,A,B,h3,by rw[DK];exact h4,fun i d hd=>?_⟩;obtain⟨x,e1,e2⟩:=h5 i d hd;exact⟨x,e1,by rw[DK];exact e2.tg (fun g lo j hg=>Ov hg j)⟩
    obtain ⟨⟨k1,k2⟩,k3⟩:=h3 (fun b o=>AT w0.heap.size F0 G b o/\¬ZF (Bs a G s) b o) w (xs.map a.eval) (slot a s) (Bs a G s) (by rw[hF];simpa using hv.1)
     (by rw[Array.getElem?_map];rw[<-Array.getElem?_toList,hx];simp;rw[C,hsl]) hbr (Ju k (Bi k U (by simp))) (fun q i b lo e=>by obtain⟨p,j,I,_⟩:=CM e;exact(k.lt _ _ _ _ I).1)
     (by
      rintro b o o' ⟨q,i,lo,e1,e2⟩ ⟨hf,hnz⟩;by_cases hlo:lo<=o'
      .exact hnz ⟨q,i,lo,e1,hlo⟩
      .obtain⟨p,j,I,_⟩:=CM e1;exact Og k b lo o' I (by omega) hf)
     ⟨k.below.now,fun b o⟨_,_,_,e,_⟩=>by obtain⟨_,_,I,_⟩:=CM e;exact k.low I⟩
    have W:(execOp a.eval o).run P w=(callFunc f (xs.map a.eval)).run P w:=by simp[execOp,hop,resolve,Act.eval,Deferred.ofValue,invoke]
    unfold Oper.wp;rw[W,Ee B _,Oper.upon_enter];refine k3.mono ?_;rintro e w' ⟨r,J,rfl,r1,r2,r3,r4,r5⟩;simp[L];obtain⟨Y,E⟩:=k.reboxed U hno r1 r2 r3 r4 k1;refine hn _ _ _ _ (hK ⟨k1,k2⟩) ⟨_,rfl⟩ ?_;have X:∀b o,AT w0.heap.size F0 (Jm (CX a G s s J) d fun _=>none) b o->(b<w.heap.size/\AT w0.heap.size F0 G b o/\¬ZF (Bs a G s) b o)\/ZF J b o:=by
     intro b o hf;have hf2:AT w0.heap.size F0 (CX a G s s J) b o:=AT.mono (fun p i b lo D=>by
      by_cases hpd:p=d
      .grind[CA]
      .rw[BJ _ _ _ _ hpd]at D;exact⟨p,i,lo,D,az _⟩) hf
     exact E b o hf2
    have l:Bg w' w' (fun b o=>(b<w.heap.size/\AT w0.heap.size F0 G b o/\¬ZF (Bs a G s) b o)\/ZF J b o) (AT w0.heap.size F0 (Jm (CX a G s s J) d fun _=>none)):=fun b o u hc hf=>⟨hc,fun E=>hf (X b o E)⟩;by_cases hus:∃t,m=[t]
    .obtain⟨t,rfl⟩:=hus;exact Y.tv (Below.refl _ _) d hd t r (CG l t r r5) k2.1
    .have hof:EV.ofs m=.tp m:=by
      rcases m with _|⟨t,_|⟨t',m⟩⟩
      .rfl
      .grind
      .rfl
     have hur:∃vs,r=.tuple vs/\AQ w' (fun b o=>(b<w.heap.size/\AT w0.heap.size F0 G b o/\¬ZF (Bs a G s) b o)\/ZF J b o) m vs.toList:=by
      rcases m with _|⟨t,_|⟨t',m⟩⟩
      .exact r5
      .grind
      .exact r5
     obtain ⟨vs,rfl,hvs⟩:=hur;rw[hof];refine⟨_,Y.quiet (Below.refl _ _) d hd (.tp m) _ (fun _=>none) (by simp) (by simp) (by simp) ?_ k2⟩;simp only[AN];exact⟨vs,rfl,As l m _ hvs⟩
  .exact h.elim
 .exact h.elim
end
end Go.Sf
namespace Go.Sf
open Go.RowKit (Below)
variable{z z0:Value}
theorem Kh(h:z.cells=#[z0])(k:Nat):Builtin.zeroCells z.cells k=(List.replicate k z0).toArray:=by
 rw [h];apply Array.ext
 .simp[Builtin.zeroCells]
 .intro i g j;simp[Builtin.zeroCells,Nat.mod_one]
section
variable{P:Program}{w:World}
theorem Rx(t J ty e L:TypeId)(i:TypeInfo)(z z0:Value)(U V:IntKind)(M:P.underlying t=some (.slice e))(B:P.underlying J=some (.int V))(hi:P.info? e=some i)(W:i.zero=some z)(N:i.size=1)(H:z.cells=#[z0])(X:z0.oneCell'=true)
  (g h j:Nat)(l:Array Value)(Y:w.heap[g]?=some (.cells l L (0,0)))
  (k:Nat)(h48:k*i.bytes<=281474976710656)(R:(k:Int)<=9223372036854775807)(A:h+k<=j)(C:h+k<=l.size):
  (Builtin.append_ #[t,J] ty #[.slice (some ⟨g,0,none⟩) h j,.int U k]).run P w=
   .ok (.slice (some ⟨g,0,none⟩) (h+k) j) (w.setRow g (l.toList.take h++List.replicate k z0++l.toList.drop (h+k)).toArray):=by
 have hw:IntKind.i64.wrap (k:Int)=k:=by rw[IntKind.wrap_i64];omega
 have D:¬((k:Int)<0):=by omega
 have E:¬(281474976710656<(k:Int)*(i.bytes:Int)):=by
  grind
 have m:=run_storeCells_at P g h L (List.replicate k z0) 0 l w Y (by simpa using C) (fun u hu=>by rw[List.eq_of_mem_replicate hu];exact X);simp at m;by_cases T:k=0
 .subst T;simp at m;have I:IntKind.i64.wrap 0=0:=by decide
  simp [Builtin.append_,run_underlying M,run_underlying B,sizeOf,typeInfo,hi,asInt,asIntOf,I,N,show h<=j from by omega,Addr.add_lit,m]
 .simp[Builtin.append_,run_underlying M,run_underlying B,sizeOf,typeInfo,zeroValue,hi,W,asInt,asIntOf,hw,D,E,N,T,A,Addr.add_lit,Kh H,m]
theorem S9(t h ty e:TypeId)(i:TypeInfo)(j k:IntKind)(l:P.underlying t=some (.slice e))(g:P.underlying h=some (.int k))(hi:P.info? e=some i):
  (Builtin.append_ #[t,h] ty #[.slice none 0 0,.int j 0]).run P w=.ok (.slice none 0 0) w:=by
 have m:IntKind.i64.wrap 0=0:=by decide
 simp [Builtin.append_,run_underlying l,run_underlying g,sizeOf,typeInfo,hi,asInt,asIntOf,m]
theorem lh(t V ty e:TypeId)(i:TypeInfo)(z z0:Value)(Y kn:IntKind)(ht:P.underlying t=some (.slice e))(J:P.underlying V=some (.int kn))(hi:P.info? e=some i)(hz:i.zero=some z)
  (hs:i.size=1)(hby:i.bytes<=4096)(B:z.cells=#[z0])(h1:z0.oneCell'=true)(v:Value)(len:Nat)(xs:List Value)(zo:Option (Nat×Nat))(l:Fv w 1 v len xs zo)(k:Nat)(hk:k<=4096)(M:len+k<=AZ):
  ∃v' w' z',(Builtin.append_ #[t,V] ty #[v,.int Y k]).run P w=.ok v' w'/\Fv w' 1 v' (len+k) (xs++List.replicate k z0) z'/\Iw w w' zo z':=by
 have m:(xs++List.replicate k z0).length=(len+k)*1:=by rw[ba,l.1,List.length_replicate];omega
 have L:(len+k)*i.bytes<=140737488355328:=by
  calc (len+k)*i.bytes<=AZ*4096:=Nat.mul_le_mul M hby
   _<=140737488355328:=by decide
 have N:k*i.bytes<=281474976710656:=by
  grind
 have hml:len+k<=maxLen:=by simp[maxLen,AZ]at *;omega
 have hzlt:∀b lo,zo=some (b,lo)->b<w.heap.size:=by
  intro b lo I;rcases l.2 with⟨_,_,h⟩|⟨g,cap,E,U,_,hg,_,_,_,_,h⟩
  .rw[h]at I;cases I
  grind
 have C:∀(old:Nat),old<len+k ->
   Fv (w.drew.alloc (.cells (xs.toArray++Builtin.zeroCells z.cells k++Builtin.zeroCells z.cells (grownCap w (len+k) old e-(len+k))) e)) 1
    (.slice (some ⟨w.heap.size,0,none⟩) (len+k) (grownCap w (len+k) old e)) (len+k) (xs++List.replicate k z0) (some (w.heap.size,(len+k)*1))/\
   Iw w (w.drew.alloc (.cells (xs.toArray++Builtin.zeroCells z.cells k++Builtin.zeroCells z.cells (grownCap w (len+k) old e-(len+k))) e)) zo (some (w.heap.size,(len+k)*1)):=by
  intro old ho;have hge:=grownCap_ge w (len+k) old e;have R:grownCap w (len+k) old e<=maxLen:=grownCap_le_maxLen w (len+k) old e hml;have hxl:xs.length=len:=by simpa using l.1
  refine ⟨⟨m,.inr ⟨w.heap.size,_,_,e,rfl,heap_alloc_new w.drew _,hge,R,?_,?_,rfl⟩⟩,⟨rfl,rfl,rfl,by simp,fun k hk _=>Below.heap_alloc w.drew _ k hk,fun b o v W _=>?_,fun b lo I=>?_⟩⟩
  .rw[Kh B,Kh B];simp[hxl];omega
  .rw[Kh B,Kh B];simp only[Array.toList_append,ci];rw[<-ci,<-m];exact List.take_left
  .have I:b<w.heap.size:=World.block_lt_of_cell? w ⟨b,o,none⟩ W;rw[World.cell?_alloc_lt _ _ (a:=⟨b,o,none⟩) (by simpa using I)];simpa using W
  .simp at I;rw[<-I.1];exact⟨by simp,.inl (az _)⟩
 rcases l.2 with⟨rfl,rfl,rfl⟩|⟨g,cap,E,U,rfl,hg,hnc,R,hcs,H,rfl⟩
 .have hx:xs=[]:=List.eq_nil_of_length_eq_zero (by simpa using l.1);subst hx;by_cases hk0:k=0
  .subst hk0;exact⟨_,_,none,S9 t V ty e i Y kn ht J hi,⟨by simp,.inl ⟨rfl,rfl,rfl⟩⟩,Iw.refl w none (by simp)⟩
  .have X:=Lib.run_append_nil_zeros (P:=P) w t V ty e i z Y kn ht J hi hz k (by omega) (by omega) (by omega) N;have A:=C 0 (by omega);simp only[Nat.zero_add,List.nil_append,Array.empty_append]at A X|-;exact⟨_,_,_,X,A.1,A.2⟩
 .have hxl:xs.length=len:=by simpa using l.1
  simp at hcs H;by_cases D:len+k<=cap
  .have X:=Rx (P:=P) (w:=w) t V ty e U i z z0 Y kn ht J hi hz hs B h1 g len cap E hg k N (by omega) D (by omega);refine⟨_,_,some (g,(len+k)*1),X,⟨m,.inr ⟨g,cap,_,U,rfl,setRow_heap w g E _ U _ hg,D,R,?_,?_,rfl⟩⟩,⟨rfl,rfl,rfl,by simp,fun j _ hj=>setRow_other w g j _ (fun e=>hj (len*1) (by rw[e])),fun b o u W hlo=>?_,fun b lo I=>?_⟩⟩
   .simp;omega
   .rw[H,<-m];exact List.take_left
   .by_cases hbg:b=g
    .subst hbg;have ho:=hlo (len*1) rfl;rw[cell_of_row _ b o _ U (0,0) (setRow_heap w b E _ U _ hg)];rw[cell_of_row w b o E U (0,0) hg]at W;rw[List.getElem?_toArray,ci,List.getElem?_append_left (by simp;omega),List.getElem?_take_of_lt (by omega)];simpa using W
    .rw[World.cell?_of_block (w:=w) (a:=⟨b,o,none⟩) (setRow_other w g b _ (fun e=>hbg e))];exact W
   .simp only[sr,Prod.mk.injEq]at I;obtain⟨rfl,rfl⟩:=I;refine⟨by simpa using hzlt g (len*1) rfl,.inr ⟨len*1,rfl,Nat.mul_le_mul_right _ (by omega)⟩⟩
  .have T:(Builtin.firstCells i.size len (.slice (some ⟨g,0,none⟩) len cap)).run P w.drew=.ok xs.toArray w.drew:=by
    refine run_firstCells_some (P:=P) w.drew i.size len ⟨g,0,none⟩ len cap xs (by rw[hs];omega) (fun j u hu=>?_);rw[Addr.add_lit,Nat.zero_add];have:=l.cell rfl j u hu;simpa using this
   have X:=Lib.run_append_grow_zeros (P:=P) w t V ty e i z Y kn ht J hi hz (some ⟨g,0,none⟩) len cap xs T k (by omega) (by omega) (by omega) (by simp[AZ]at M;omega) N (growslice_fits (by omega) L);have A:=C cap (by omega);exact⟨_,_,_,X,A.1,A.2⟩
end
def Operand.Abv(n:Nat):Operand->Bool
 |.tmp m=>m==n|_=>false
variable{n:Nat}{x:Operand}
theorem Operand.isTmp_eq'(h:Operand.Abv n x=true):x=.tmp n:=by
 cases x<;>simp[Operand.Abv]at h;rw[h]
def iK(P:Program)(n s:Nat)(z:TV)(x:AG)(c:Call):Bool:=
 match c.callee,c.args.toList,c.argTypes.toList with
 |.builtin .append,[p,q],[t,t']=>Operand.Abv s p&&AJ q x&&(match P.underlying t,P.underlying t' with
  |some (.slice e),some (.int _)=>(match P.info? e with
   |some i=>(match i.zero with
    |some zz=>(match zz.cells.toList with
     |[z0]=>n==1&&i.size==1&&decide (i.bytes<=4096)&&EI z z0&&z0.oneCell'|_=>false)
    |none=>false)
   |none=>false)
  |_,_=>false)
 |_,_,_=>false
section
variable{P:Program}{S:FuncId->Fq->Ax->Prop}{F0:Nat->Nat->Prop}{w0:W0}{O:AB}{a:Act}{w:World}{G:BU}{d:Nat}{o:Oper}{K:EV->AB->Prop}
variable{s:Nat}{x:Operand}{y:AG}{t t' e:TypeId}
theorem je(N:AO F0 w0 O a w G)(hd:d<a.tmps.size){kn:IntKind}{i:TypeInfo}{R z0:Value}{z:TV}(T:o.op=.call {callee:=.builtin .append,args:=#[.tmp s,x],argTypes:=#[t,t']})
  (ht:P.underlying t=some (.slice e))(U:P.underlying t'=some (.int kn))(hi:P.info? e=some i)(l:i.zero=some R)(V:i.size=1)(W:i.bytes<=4096)(X:R.cells=#[z0])(D:EI z z0=true)(h1:z0.oneCell'=true)
  (Y:AJ x y=true)(h:(AE.Aa8 1 s z y).wp S O (some d) K):A2 P F0 w0 a w o d K:=by
 simp [AE.wp]at h;split at h
 .rename_i d' m es kk j E hs hy;simp at E;subst E;obtain⟨⟨⟨rfl,_⟩,I⟩,⟨h0,h4⟩,⟨g,hno,hds⟩,hK⟩:=h;obtain⟨k,rfl⟩:∃k:Nat,j=k:=⟨j.toNat,by omega⟩;simp at g hK;have A:=AW N hs (by simp);have B:=N.wf s;rw[hs]at B;simp[AN]at A;obtain⟨xs,⟨zo,k1,J⟩,k2,k3,k4⟩:=A;have hv:=(A0 N Y hy).1;simp[An]at hv;obtain⟨v',w',z',L,r1,C⟩:=lh (P:=P) t t' o.type e i R z0 kk kn ht U hi l V W X h1 (slot a s) es.length xs zo k1 k (by omega) g;have hnz:∀k,(∀lo,G s none≠some (k,lo))->∀lo,zo≠some (k,lo):=fun k hk lo l=>hk 0 (by rw[J,l];rfl);have hfm:∀k,(List.replicate k z).flatMap TV.cells=List.replicate k z:=by
   intro k
   induction k with
   |zero=>rfl|succ k ih=>rw[List.replicate_succ,List.flatMap_cons,ih,I];rfl
  refine ⟨v',w',?_,_,_,hK,N.xgo hs hd hds (z':=z'.map fun p=>(p.1,0)) C.os C.tape C.output C.size (fun k hk l=>C.other k hk (hnz k l)) (fun b lo l=>?_) (by simp) (fun _=>hno) (fun F' G' env' a' hag hG _=>?_) ?_⟩
  .simp[execOp,T,resolve,invoke,builtin,show a.eval (.tmp s)=slot a s from rfl,hv,L]
  .cases z' with
   |none=>simp at l|some p=>
    simp at l;obtain⟨q1,M⟩:=C.Abq p.1 p.2 rfl;rw[<-l.1];refine⟨q1,?_⟩;rcases M with M|⟨lo',M,_⟩
    .exact .inl M
    .exact .inr ⟨0,by rw[J,M];rfl⟩
  .simp only[AN];rw[hG];refine⟨xs++List.replicate k z0,⟨z',by rw[ba,List.length_replicate];exact r1,rfl⟩,?_,?_,?_⟩
   .rw[List.flatMap_append,hfm];refine IK (As hag _ _ k2) ?_;rw[Bf];refine⟨by simp,fun i u v hu hv=>?_⟩;rw[List.eq_of_mem_replicate (List.mem_of_getElem? hu),List.eq_of_mem_replicate (List.mem_of_getElem? hv)];exact(HU _ F' z z0 D).1
   .intro e he;rcases List.mem_append.1 he with he|he
    .exact k3 e he
    .rw[List.eq_of_mem_replicate he,I];rfl
   .intro x H;rcases List.mem_append.1 H with H|H
    .exact k4 x H
    .rw[List.eq_of_mem_replicate H];exact h1
  .simp only[EV.WF,TV.WF]at B|-;refine⟨by rw[ba,List.length_replicate];exact Tg g,KV.2 ⟨B.2,?_⟩⟩;rw[Br];intro u hu;rw[List.eq_of_mem_replicate hu];exact(HU w (fun _ _=>False) z z0 D).2
 .exact h.elim
variable{f:FuncId}{ys:List AG}{ats:Array TypeId}
theorem ft(l:AO F0 w0 O a w G)(hd:d<a.tmps.size){xs:Array Operand}(j:o.op=.call {callee:=.value (.func f),args:=xs,argTypes:=ats})(k:Bc xs.toList ys=true)(h:(AE.AaT f ys).wp (AU P) O (some d) K):A2 P F0 w0 a w o d K:=by
 simp [AE.wp]at h;cases g:vals O ys with
 |none=>rw[g]at h;exact h.elim|some ts=>
  rw [g]at h;simp[Al]at h;obtain⟨m,u,A⟩:=h;have hv:=Fe l k g;obtain⟨⟨E,B⟩,C⟩:=u hv.2;obtain⟨r,D,H⟩:=C w (xs.map a.eval) (by simpa using As Wz _ _ hv.1);refine⟨.tuple r,w,by simp[execOp,j,resolve,Act.eval,Deferred.ofValue,invoke,<-D],_,_,A,_,l.quiet (Below.refl _ _) d hd (.tp m) _ (fun _=>none) (by simp) (by simp) (by simp) ?_ B⟩
  grind [AN,GX]
def aJ(P:Program)(t:TypeId)(n:Nat):Bool:=
 match P.underlying t with
 |some (.slice e)=>(match P.info? e with
  |some ie=>ie.size==n|none=>false)
 |_=>false
variable{n:Nat}
theorem jp(A:AO F0 w0 O a w G)(hd:d<a.tmps.size)(k:o.op=.buildSlice t 0 #[])(g:aJ P t n=true)(h:(AE.Aa6 n).wp S O (some d) K):A2 P F0 w0 a w o d K:=by
 simp [AE.wp]at h;obtain⟨m,D⟩:=h;unfold aJ at g;split at g
 .rename_i e B;split at g
  .rename_i E l;have j:(execOp a.eval o).run P w=.ok (.value (.slice (some ⟨w.heap.size,0,none⟩) 0 0)) (w.alloc (.cells #[] e)):=by
    simp [execOp,k,Instr.buildSlice,run_underlying B,sizeOf,typeInfo,l,Instr.fill,newRow]
    grind
   have C:Below w.heap.size w (w.alloc (.cells #[] e)):=(Below.refl _ _).alloc (az _) _;refine⟨_,_,j,_,_,D,A.AbN C hd m (z:=some (w.heap.size,0*n)) (xs:=[]) ⟨by simp,.inr ⟨w.heap.size,0,_,e,by simp,heap_alloc_new w _,by simp,by simp[maxLen],by simp,by simp,by simp⟩⟩ (fun b lo u=>?_) (fun F' _=>rfl) (by simp) (by simp) ⟨by simp,trivial⟩⟩;simp at u;rw[<-u.1];exact⟨az _,by simp⟩
  .cases g
 .cases g
theorem J5(h:AB):∀(g:Ne)(O:AB)(n:Nat),AB.get (Qf h g O) n=if n∈g then(h.get n).gave else O.get n
 |[],_,_=>by simp[Qf]|q::g,O,n=>by
  rw [Qf,AB.eb,J5 h g O n]
  grind
theorem L7(e:EV):(∃t,e=.ow t/\e.gave=.tv t)\/e.gave=.undef:=by
 cases e<;>first|exact .inl ⟨_,rfl,rfl⟩|exact .inr rfl
abbrev Sy:=Value ⊕ (Operand×Nat×Nat)
def Tz:List Sy->Nat->List Sy->List Sy
 |l,_,[]=>l|l,i,y::ys=>Tz (l.set i y) (i+1) ys
def R0(place:Nat->Option (Nat×Nat)):List (Nat×Operand)->List Sy->Option (List Sy)
 |[],row=>some row|(i,x)::ps,row=>match place i with
  |some (off,n)=>if off+n<=row.length then R0 place ps (Tz row off ((List.range n).map fun k=>.inr (x,k,n)))else none|none=>none
def Sy.is(a:Act):Sy->Value->Prop
 |.inl u,v=>v=u|.inr (x,k,_),v=>(a.eval x).cells[k]?=some v
def Q0(a:Act)(row:List Sy)(xs:List Value):Prop:=xs.length=row.length/\∀(j:Nat)(s:Sy)(v:Value),row[j]?=some s->xs[j]?=some v->s.is a v
variable{v:Value}
theorem jQ{a:Act}{row:List Sy}{xs:List Value}(h:Q0 a row xs){s:Sy}(m:s.is a v)(i:Nat):Q0 a (row.set i s) (xs.set i v):=by
 refine ⟨by simp[h.1],fun j s' l g k=>?_⟩;rw[List.getElem?_set]at g k;by_cases e:i=j
 .grind
 .rw[ae e]at g k;exact h.2 j s' l g k
theorem YM{a:Act}:∀{g:List Sy}{vs:List Value}{row:List Sy}{xs:List Value}(i:Nat),Q0 a row xs->Q0 a g vs->Q0 a (Tz row i g) (U7 xs i vs)
 |[],[],_,_,_,h,_=>h|[],_::_,_,_,_,_,h=>by have:=h.1;simp at this|_::_,[],_,_,_,_,h=>by have:=h.1;simp at this|s::g,v::vs,row,xs,i,h,k=>by
  rw [Tz,U7];exact YM (i+1) (jQ h (k.2 0 s v rfl rfl) i) ⟨by have:=k.1;simpa using this,fun j s' l m u=>k.2 (j+1) s' l (by simpa using m) (by simpa using u)⟩
theorem Zu{a:Act}{place:Nat->Option (Nat×Nat)}:∀{u:List (Nat×Operand)}{row g:List Sy}{xs:Array Value},Q0 a row xs.toList->(∀p∈u,∀l n,place p.1=some (l,n)->(a.eval p.2).cells.size=n)->R0 place u row=some g ->
  ∃xs',Instr.fill place xs (u.map fun(i,x)=>(i,a.eval x))=some xs'/\Q0 a g xs'.toList
 |[],row,g,xs,h,_,hf=>by
  simp [R0]at hf;subst hf;exact⟨xs,rfl,h⟩
 |(i,x)::u,row,g,xs,h,D,hf=>by
  rw [R0]at hf;split at hf
  .rename_i l n A;split at hf
   .rename_i E;have m:=D (i,x) (by simp) l n A;simp only at m;have H:=h.1;rw[Array.length_toList]at H;have I:Q0 a (Tz row l ((List.range n).map fun k=>.inr (x,k,n))) (((a.eval x).cells.zipIdx.foldl (fun cs(y:Value×Nat)=>cs.setIfInBounds (l+y.2) y.1) xs)).toList:=by
     rw [<-Array.foldl_toList,Array.toList_zipIdx,Q9,Nat.add_zero];refine YM l h ⟨by simp[m],fun j s v B L=>?_⟩;rw[List.getElem?_map]at B;simp at B;obtain⟨k,M,rfl⟩:=B;have C:k=j:=by
      grind
     subst C;show(a.eval x).cells[k]?=some v
     grind
    obtain ⟨xs',N,J⟩:=Zu I (fun p A=>D p (by simp[A])) hf;refine⟨xs',?_,J⟩;simp[List.map_cons,Instr.fill,A]
    grind
   .cases hf
  .cases hf
def Rl:GC->Sy->Bool
 |.z c,.inl v=>Tj c v|.v y k n,.inr (x,k',n')=>AJ x y&&k==k'&&n==n'|.w q,.inr (x,k',n')=>AJ x (.s q)&&k'==0&&n'==1|.g q k n,.inr (x,k',n')=>AJ x (.s q)&&k==k'&&n==n'|_,_=>false
def SM:List GC->List Sy->Bool
 |[],[]=>true|g::gs,s::ss=>Rl g s&&SM gs ss|_,_=>false
def TY(x:Operand)(n:Nat):GC->Bool
 |.z _=>false|.v y _ m=>AJ x y&&m==n|.w q=>AJ x (.s q)&&1==n|.g q _ m=>AJ x (.s q)&&m==n
def Sb(place:Nat->Option (Nat×Nat))(z:List Value)(ps:List (Nat×Operand))(gs:List GC):Bool:=
 (ps.all fun p=>match place p.1 with
  |some (_,n)=>gs.any (TY p.2 n)|none=>false) &&
 match R0 place ps (z.map .inl)with
 |some row=>SM gs row|none=>false
def aH(P:Program)(t:TypeId)(ps:List (Nat×Operand))(gs:List GC):Bool:=
 match P.info? t,P.underlying t with
 |some it,some (.array _ e)=>
  match it.zero,P.info? e with
  |some z,some ie=>Sb (fun i=>some (i*ie.size,ie.size)) z.cells.toList ps gs|_,_=>false
 |some it,some (.struct fields)=>
  match it.zero,fields.toList.mapM (fun f=>(P.info? f.type).map fun i=>(f.offset,i.size))with
  |some z,some places=>Sb (places.toArray[·]?) z.cells.toList ps gs|_,_=>false
 |_,_=>false
theorem TX:∀{k:List GC}{l:List Sy},SM k l=true->l.length=k.length/\∀(j:Nat)(g:GC),k[j]?=some g->∃s,l[j]?=some s/\Rl g s=true
 |[],[],_=>⟨rfl,fun j g h=>by simp at h⟩|[],_::_,h=>by cases h
 |_::_,[],h=>by cases h
 |g::k,s::l,h=>by
  rw [SM,o4]at h;obtain⟨m,u⟩:=TX h.2
  grind
theorem Vr:∀{k:List GC}{cs:List AS},JT O k=some cs->cs.length=k.length/\∀(j:Nat)(g:GC),k[j]?=some g->∃c,cs[j]?=some c/\g.cell O=some c
 |[],cs,h=>by simp[JT]at h;subst h;exact⟨rfl,fun j g h=>by simp at h⟩|g::k,cs,h=>by
  rw [JT]at h;split at h
  .rename_i c cs' m l;cases h;obtain⟨u,A⟩:=Vr l
   grind
  .cases h
variable{q:Nat}
theorem J4(h:AJ x (.s q)=true):a.eval x=slot a q:=by
 cases x<;>simp[AJ]at h;rw[h];rfl
variable{c:AS}
theorem kY(l:AO F0 w0 O a w G){g:GC}(h:g.cell O=some c)(j:TY x n g=true):(a.eval x).cells.size=n:=by
 cases g with
 |z c=>cases j
 |v y k m=>
  simp [TY]at j;obtain⟨j,rfl⟩:=j;simp[GC.cell]at h;split at h
  .rename_i t B;split at h
   .rename_i u A;have:=BH (GY (A0 l j B).1).1
    grind [Array.length_toList,Nat.eq_of_beq_eq_true]
   .cases h
  .cases h
 |w q=>
  simp [TY]at j;obtain⟨j,rfl⟩:=j;rw[J4 j];have:(slot a q).oneCell'=true:=by
   simp [GC.cell]at h;split at h
   .rename_i t e;have:=AW l e (by simp)
    grind [AN,UK]
   .rename_i m es e;have:=AW l e (by simp);exact Gr (ρ:=tg a G) (c:=⟨true,.xl m es⟩) this
   .cases h
  rw [PV this];rfl
 |g q k m=>
  simp [TY]at j;obtain⟨j,rfl⟩:=j;rw[J4 j];simp[GC.cell]at h;split at h
  .rename_i cs e;split at h
   .rename_i u;have:=AW l e (by simp);simp[AN]at this;obtain⟨vs,A,C,_⟩:=this;rw[A];show vs.size=m;rw[C,Nat.eq_of_beq_eq_true u]
   .cases h
  .cases h
theorem qY(A:AO F0 w0 O a w G){g:GC}(h:g.cell O=some c){s:Sy}(l:Rl g s=true)(hv:s.is a v):BG w (AT w0.heap.size F0 G) (tg a G) (g.src.bind fun p=>G p.1 p.2) c v/\c.t.WF:=by
 cases g with
 |z c'=>
  cases s with
  |inr p=>cases l
  |inl u=>
   simp [GC.cell]at h;subst h;have:v=u:=hv;subst this;exact Ue l
 |v y k m=>
  cases s with
  |inl u=>cases l
  |inr p=>
   obtain ⟨x,E,H⟩:=p;simp[Rl]at l;obtain⟨⟨B,rfl⟩,_⟩:=l;have hv:(a.eval x).cells[k]?=some v:=hv;simp[GC.cell]at h;split at h
   .rename_i t J;split at h
    .rename_i c' U C;cases h;obtain⟨L,M⟩:=A0 A B J;obtain⟨N,R⟩:=GY L;rw[<-Array.getElem?_toList]at hv;exact⟨⟨((Bf _ _).1 N).2 k _ _ C hv,R v (List.mem_of_getElem? hv)⟩,Br.1 (H7 M) _ (List.mem_of_getElem? C)⟩
    .cases h
   .cases h
 |w q=>
  cases s with
  |inl u=>cases l
  |inr p=>
   obtain ⟨x,E,H⟩:=p;simp[Rl]at l;obtain⟨⟨B,rfl⟩,_⟩:=l;have hv:(a.eval x).cells[0]?=some v:=hv;rw[J4 B]at hv;have j:=A.wf q;simp[GC.cell]at h;split at h
   .rename_i t e;cases h;have:=AW A e (by simp);simp[AN]at this;rw[PV (UK this)]at hv;cases hv;rw[e]at j;exact⟨this.c,j⟩
   .rename_i m es e;cases h;have:=AW A e (by simp);have D:BG w (AT w0.heap.size F0 G) (tg a G) (G q none) ⟨true,.xl m es⟩ (slot a q):=this;rw[PV (Gr D)]at hv;cases hv;rw[e]at j;exact⟨D,j⟩
   .cases h
 |g q k m=>
  cases s with
  |inl u=>cases l
  |inr p=>
   obtain ⟨x,E,H⟩:=p;simp[Rl]at l;obtain⟨⟨B,rfl⟩,_⟩:=l;have hv:(a.eval x).cells[k]?=some v:=hv;rw[J4 B]at hv;have j:=A.wf q;simp[GC.cell]at h;split at h
   .rename_i cs e;split at h
    .have:=AW A e (by simp);simp[AN]at this;obtain⟨vs,C,_,T⟩:=this;rw[C]at hv;have hv:vs[k]?=some v:=hv;obtain⟨x',I,D⟩:=T k c h;rw[hv]at I;cases I;rw[e]at j;exact⟨D,j c (List.mem_of_getElem? h)⟩
    .cases h
   .cases h
theorem AO.regather(h:AO F0 w0 O a w G)(hd:d<a.tmps.size){C:Ne}{cs:List AS}{vs:Array Value}(σ:Nat->Option (Nat×Option Nat))(hdq:d∉C)(Y:vs.size=cs.length)(hσ:∀j q i,σ j=some (q,i)->q∈C)
  (R:∀j T p,σ j=some p->σ T=some p->j=T)(hc:∀(j:Nat)(c:AS),cs[j]?=some c->∃x,vs[j]?=some x/\BG w (AT w0.heap.size F0 G) (tg a G) ((σ j).bind fun p=>G p.1 p.2) c x)(hwf:∀c∈cs,c.t.WF)(hq:∀q∈C,q<a.tmps.size):
  Bu F0 w0 ((d,.x8 cs)::Qf O C O) (a.put (some d) (.agg vs)) w:=by
 let A:BU:=fun p i=>if p=d then i.bind fun j=>(σ j).bind fun p=>G p.1 p.2 else if p∈C then none else G p i
 have I:∀p i b lo,A p i=some (b,lo)->(∃j q k,p=d/\i=some j/\σ j=some (q,k)/\G q k=some (b,lo))\/(p≠d/\p∉C/\G p i=some (b,lo)):=by
  intro p i b lo m;simp[A]at m;split at m
  .rename_i u;cases i with
   |none=>cases m
   |some j=>
    simp at m;cases hj:σ j with
    |none=>rw[hj]at m;cases m
    |some q=>rw[hj]at m;exact .inl ⟨j,q.1,q.2,u,rfl,hj,m⟩
  grind
 have hF:∀b o,AT w0.heap.size F0 A b o->AT w0.heap.size F0 G b o:=fun b o hf=>AT.mono (fun p i b lo m=>by
  grind) hf
 have J:Bg w w (AT w0.heap.size F0 G) (AT w0.heap.size F0 A):=fun b o v hc hf=>⟨hc,fun hf'=>hf (hF b o hf')⟩;have D:tg (a.put (some d) (.agg vs)) A=tg a G:=Mt (Bh _ _ _) fun p m=>by
  grind
 refine ⟨A,?_,?_,h.below,by rw[Ei];exact h.defers,?_,?_,?_⟩
 .intro p i p' i' b lo lo' e1 g;rcases I _ _ _ _ e1 with⟨j,q,k,rfl,rfl,W,f2⟩|⟨n1,n2,W⟩<;>rcases I _ _ _ _ g with⟨T,q',k',rfl,rfl,X,g2⟩|⟨m1,m2,X⟩
  .obtain⟨V,e4⟩:=h.nd _ _ _ _ _ _ _ f2 g2;subst V;subst e4;exact⟨rfl,by rw[R j T _ W X]⟩
  .obtain⟨V,_⟩:=h.nd _ _ _ _ _ _ _ f2 X;exact absurd (V▸hσ j q k W) m2
  .obtain⟨V,_⟩:=h.nd _ _ _ _ _ _ _ g2 W;exact absurd (V▸hσ T q' k' X) n2
  .exact h.nd _ _ _ _ _ _ _ W X
 .intro p i b lo e1;rcases I _ _ _ _ e1 with⟨j,q,k,_,_,_,f⟩|⟨_,_,f⟩<;>exact h.lt _ _ _ _ f
 .intro p m;rw[Bh]at m;rw[AB.eb,ae (by omega),J5];split
  .rename_i hm;have:=hq p hm;omega
  .exact h.dom p m
 .intro p m;rw[Bh]at m;rw[AB.eb];by_cases u:d=p
  .subst u;rw[a6 rfl,Cr _ _ _ hd];simp only[AN];refine⟨_,rfl,Y,fun i c hci=>?_⟩;obtain⟨x,M,hr⟩:=hc i c hci;refine⟨x,M,?_⟩;have:A d (some i)=(σ i).bind fun p=>G p.1 p.2:=by simp only[A,if_true];rfl
   rw [this,D];exact hr.kept J (fun _ _ _=>rfl) BI.rfl'
  .rw[ae u,AV _ _ _ _ u,J5];split
   .rcases L7 (O.get p)with⟨t,e,g⟩|g
    .have E:=AW h e (by simp);rw[g];simp[AN]at E|-;exact CG J _ _ (By.rep E (fun b lo o hz ho=>Og h b lo o hz ho))
    .rw[g];simp[AN]
   .rename_i hnq;refine AN.kept J (fun i=>by simp[A];rw[ae (fun e=>u e.symm),ae hnq]) (fun _ _ _ _=>rfl) D BI.rfl' (fun r i k _⟨pp,H⟩=>?_) (fun r off _⟨cs',l⟩=>?_) (fun r i _⟨pp,H⟩=>?_) (h.slots p m)
    .have L:=AB.wl (by simp) H;have B:=J5 O C O r;split at B
     .have U:=L.2;rcases L7 (O.get r)with⟨t,_,g⟩|g<;>rw[g]at B<;>simp[AB.nat,B]at U<;>cases U
     .have M:∃p,O.nat r i=some p:=⟨pp,by rw[<-L.2];exact(AB.Aah B).symm⟩;exact⟨M,h.nh M (AV _ _ _ _ L.1) (fun _ _ _ _=>rfl)⟩
    .rw[AB.eb]at l;by_cases N:d=r
     .rw[a6 N]at l;cases l
     .rw[ae N,J5]at l;split at l
      .rcases L7 (O.get r)with⟨t,_,g⟩|g<;>(rw[g]at l;cases l)
      .exact⟨⟨cs',l⟩,AV _ _ _ _ N⟩
    .have L:=AB.sx (by simp) (by simp) H;have B:=J5 O C O r;split at B
     .have U:=L.2;rcases L7 (O.get r)with⟨t,_,g⟩|g<;>rw[g]at B<;>cases i<;>simp[AB.sR,B]at U<;>cases U
     .have M:∃p,O.sR r i=some p:=⟨pp,by rw[<-L.2];exact(AB.x9 B).symm⟩;exact⟨M,h.xv M (AV _ _ _ _ L.1) (fun _ _=>rfl)⟩
 .intro p;rw[AB.eb];split
  .exact hwf
  .rw[J5];have:=h.wf p;split
   .rcases L7 (O.get p)with⟨t,e,g⟩|g
    .rw[e]at this;rw[g];exact this
    .rw[g];trivial
   .exact this
theorem Yz{α β:Type}{f:α->Option β}{l:List α}(g:(l.filterMap f).Nodup){i j:Nat}{p:β}(hi:(l[i]?).bind f=some p)(u:(l[j]?).bind f=some p):i=j:=by
 have key:∀(l:List α)(i j:Nat),(l.filterMap f).Nodup->(l[i]?).bind f=some p->(l[j]?).bind f=some p->i<j->False:=by
  intro l
  induction l with
  |nil=>intro i j _ h;simp at h|cons x l C=>
   intro i j g A B m;obtain⟨j,rfl⟩:∃k,j=k+1:=⟨j-1,by omega⟩
   grind
 grind
theorem jf(L:AO F0 w0 O a w G)(hd:d<a.tmps.size){E:Array (Nat×Operand)}{A:List GC}(X:o.op=.build t E)(l:aH P t E.toList A=true)(h:(AE.Aad A).wp S O (some d) K):A2 P F0 w0 a w o d K:=by
 simp only[AE.wp]at h;obtain⟨⟨hn,hdq⟩,h⟩:=h;cases H:JT O A with
 |none=>rw[H]at h;exact h.elim|some cs=>
  rw [H]at h;simp[Al]at h;obtain⟨hl,D⟩:=Vr H;have key:∀(place:Nat->Option (Nat×Nat))(z:Array Value),Sb place z.toList E.toList A=true->∃xs',Instr.fill place z (E.map fun(i,x)=>(i,a.eval x)).toList=some xs'/\xs'.size=cs.length/\
    ∀(j:Nat)(c:AS),cs[j]?=some c->(∃x,xs'[j]?=some x/\BG w (AT w0.heap.size F0 G) (tg a G) (((A[j]?).bind GC.src).bind fun p=>G p.1 p.2) c x)/\c.t.WF:=by
   intro place z hp;unfold Sb at hp;rw[o4,List.all_eq_true]at hp;obtain⟨hp1,J⟩:=hp;split at J
   .rename_i row N;have h5:(E.map fun(i,x)=>(i,a.eval x)).toList=E.toList.map fun(i,x)=>(i,a.eval x):=by simp
    obtain ⟨xs',Y,U⟩:=Zu (a:=a) (xs:=z) (row:=z.toList.map .inl) ⟨by simp,fun j s v B C=>by
     rw [List.getElem?_map]at B;simp only[Option.map_eq_some_iff]at B;obtain⟨u,hu,rfl⟩:=B;rw[hu]at C;cases C;rfl⟩ (fun p hm off n M=>by
     grind [List.any_eq_true,List.getElem?_of_mem,kY]) N
    obtain ⟨m1,m2⟩:=TX J;have R:=U.1;rw[Array.length_toList]at R;refine⟨xs',by rw[h5];exact Y,by omega,fun j c m=>?_⟩;have hj:j<A.length:=by have:=(List.getElem?_eq_some_iff.1 m).1;omega
    have I:A[j]?=some A[j]:=List.getElem?_eq_getElem hj;obtain⟨c',T,hc2⟩:=D j _ I;rw[m]at T;cases T;obtain⟨s,hs1,hs2⟩:=m2 j _ I;have hx:xs'[j]?=some (xs'[j]'(by omega)):=Array.getElem?_eq_getElem (by omega);obtain⟨r1,r2⟩:=qY L hc2 hs2 (U.2 j s _ hs1 (by rw[Array.getElem?_toList];exact hx));rw[I];exact⟨⟨_,hx,r1⟩,r2⟩
   .cases J
  have built:∃xs',P.built t (E.map fun(i,x)=>(i,a.eval x)).toList=some xs'/\xs'.size=cs.length/\
    ∀(j:Nat)(c:AS),cs[j]?=some c->(∃x,xs'[j]?=some x/\BG w (AT w0.heap.size F0 G) (tg a G) (((A[j]?).bind GC.src).bind fun p=>G p.1 p.2) c x)/\c.t.WF:=by
   unfold aH at l;unfold Program.built;split at l
   .rename_i it len e B C;simp only[B,C];split at l
    .rename_i z ie hz hie;simp only[hz,hie];exact key _ _ l
    .cases l
   .rename_i it V B C;simp only[B,C];split at l
    .rename_i z W hz M;simp only[hz,M];exact key _ _ l
    .cases l
   .cases l
  obtain ⟨xs',B,C,h3⟩:=built;refine⟨.agg xs',w,by simp[execOp,X,run_build w t _ _ B],_,_,h,L.regather hd (fun j=>(A[j]?).bind GC.src) hdq C (fun j q i e=>?_) (fun j j' p Y U=>Yz hn Y U) (fun j c m=>(h3 j c m).1) (fun c m=>?_) (fun q hq=>?_)⟩
  .rw[Option.bind_eq_some_iff]at e;obtain⟨g,I,e⟩:=e;refine List.mem_filterMap.2 ⟨g,List.mem_of_getElem? I,?_⟩;cases g<;>simp[GC.src]at e<;>simp[GC.slot,e.1]
  .grind[List.getElem?_of_mem]
  .obtain⟨g,I,e⟩:=List.mem_filterMap.1 hq;obtain⟨j,hj⟩:=List.getElem?_of_mem I;obtain⟨c,_,m⟩:=D j g hj;cases g with
   |z c=>cases e
   |v y k n=>cases e
   |w q'=>
    cases e;simp[GC.cell]at m;split at m
    .rename_i t e;exact Bi L e (by simp)
    .rename_i n es e;exact Bi L e (by simp)
    .cases m
   |g q' k n=>
    cases e;simp[GC.cell]at m;split at m
    .rename_i cs e;exact Bi L e (by simp)
    .cases m
end
end Go.Sf
