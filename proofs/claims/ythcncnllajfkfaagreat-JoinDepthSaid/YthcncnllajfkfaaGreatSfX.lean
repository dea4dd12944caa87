/- Lists that nobody else reads: stores into them, appends, calls that turn them. -/
import Derived.Test.YthcncnllajfkfaaGreatSfApp
import Derived.Lib.AppendZerosOnto
set_option linter.all false
open Option renaming some->Y,none->W
open Bool renaming true->X,false->T
open List renaming flatMap_cons->w_,mem_of_getElem?->w!,eq_nil_of_length_eq_zero->w?,getElem?_set->x_,mem_or_eq_of_mem_set->x!,getElem?_eq_getElem->x?,mem_of_mem_take->y_,mem_of_mem_drop->y!,take_append->y?,take_of_length_le->z_,map_map->z!,singleton_append->z?,map_cons->A_,flatMap_append->A',mem_append->A!,replicate->A?,replicate_succ->B_,length_replicate->B',eq_of_mem_replicate->B!,getElem?_drop->B?,getElem?_eq_some_iff->C_,getElem?_of_mem->C',length_drop->C!,getElem?_append_left->C?,getElem?_take->D_,getElem?_toArray->D',getElem?_append_right->D!,getElem?_take_of_lt->D?,all_eq_true->E_,getElem?_map->E',length_singleton->E!,take_left->E?,mem_filterMap->F_
open Nat renaming lt_or_ge->F!,zero_le->F?,lt_of_lt_of_le->G_,le_trans->G!,mul_le_mul_right->G?,min_eq_left->H_,mul_le_mul->H',add_zero->H!,add_sub_cancel_left->H?,zero_add->I_,eq_of_beq_eq_true->I'
open Array renaming length_toList->I!,replicate->I?,getElem?_toList->J_
open Option renaming map_some->J',map_eq_some_iff->J!,bind_eq_some_iff->J?
namespace Go.Sf
open Go.RowKit (Below)
def Tm:Operand->Bool
 |.const v=>Nz v|_=>T
variable{α:Type}
theorem gV{a:Array α}{x:α}(h:a.toList=[x]):a=#[x]:=by
 cases a;simp_all
section flat
variable{w w':World}{F F':Nat->Nat->Prop}
mutual
theorem Ul:∀(t:TV),t.flat=X->∀v,A1 w F t v->A1 w' F' t v
 |.int _ _,_,_,h=>h|.bool _,_,_,h=>h|.str _,_,_,h=>h|.agg cs,hf,v,h=>by
  have:=HN cs (by simpa[TV.flat]using hf)
  grind [A1]
 |.undef,hf,_,_=>by simp[TV.flat]at hf|.xl _ _,hf,_,_=>by simp[TV.flat]at hf|.nil,hf,_,_=>by simp[TV.flat]at hf|.list _ _,hf,_,_=>by simp[TV.flat]at hf|.pt _,hf,_,_=>by simp[TV.flat]at hf|.clo _ _,hf,_,_=>by simp[TV.flat]at hf
theorem HN:∀(ts:Fq),TV.Aab ts=X->∀vs,AQ w F ts vs->AQ w' F' ts vs
 |[],_,vs,h=>h|t::ts,hf,vs,h=>by
  simp [TV.Aab]at hf;simp[AQ]at h|-;obtain⟨v,r,g,j,k⟩:=h;exact⟨v,r,g,Ul t hf.1 v j,HN ts hf.2 r k⟩
end
theorem VV:∀(xs ys:Fq),TV.Aab (xs++ys)=(TV.Aab xs&&TV.Aab ys)
 |[],ys=>by simp[TV.Aab]|x::xs,ys=>by simp[TV.Aab,VV xs ys,Bool.and_assoc]
theorem g9(t:TV)(h:t.flat=X):TV.Aab t.cells=X:=by
 cases t<;>simp_all[TV.flat,TV.cells,TV.Aab]
theorem OO:∀(es:Fq),TV.Aab es=X->TV.Aab (es.flatMap TV.cells)=X
 |[],_=>rfl|e::es,h=>by
  simp [TV.Aab]at h;rw[w_,VV,g9 e h.1,OO es h.2];rfl
end flat
section
variable{P:Program}{S:FuncId->Fq->A9->Prop}{F0:Nat->Nat->Prop}{w0:W0}{O:AB}{a:Act}{w:World}{G:Bi}{d:Nat}{o:Oper}{K:EV->AB->Prop}
variable{q n:Nat}
theorem AB.xat_of_xo{O:AB}{es:Fq}(h:O.get q=.xo n es):O.wi q W=Y (n,es):=by simp[AB.wi,h]
variable{x:Operand}{y:AH}
theorem P0(k:AO F0 w0 O a w G)(g:AK x y=X){p:(Nat×Option Nat)×Nat×Fq}(h:y.z5 O=Y p):O.wi p.1.1 p.1.2=Y (p.2.1,p.2.2)/\XV a w p.1.1 p.1.2 (a.eval x):=by
 cases y with
 |c t=>simp[AH.z5]at h|s m=>
  have l:x=.tmp m:=by
   cases x<;>simp[AK]at g;rw[g]
  subst l;simp only[AH.z5]at h;split at h
  next n es he=>simp only[tl]at h;subst h;exact⟨by simp only[AB.wi,he],rfl⟩
  .rename_i q i he;split at h
   next u j=>simp only[tl]at h;subst h;have:=At k he V;simp only[AN]at this;exact⟨j,this ⟨_,j⟩⟩
   .cases h
  .cases h
variable{i:Option Nat}{v:Value}
theorem QW{es:Fq}(h:AO F0 w0 O a w G)(g:O.wi q i=Y (n,es))(hv:XV a w q i v):
  (TV.list n es).WF/\∃xs,K3 w n v es.length xs (G q i)/\AQ w (AW w0.heap.size F0 G) (es.flatMap TV.cells) xs/\(∀e∈es,e.cells.length=n)/\∀x∈xs,x.oneCell'=X:=by
 cases i with
 |none=>
  have g:=AB.x5 g;have hr:=At h g V;have j:=h.wf q;rw[g]at j;simp only[AN]at hr;simp only[XV]at hv;rw[hv];exact⟨j,hr⟩
 |some k=>
  obtain ⟨cs,m,u⟩:=AB.tg g;have hr:=At h m V;have j:=h.wf q;rw[m]at j;simp only[AN]at hr;obtain⟨b,c,θ,C,D,J,L,E⟩:=hr;obtain⟨M,c',N,l,A,B⟩:=hv;rw[C]at l;simp only[Value.pointer.injEq,tl,Addr.mk.injEq,and_true,and_self]at l;subst l;rw[D]at A;cases A;obtain⟨x,H,I⟩:=E k _ u;rw[H]at B;cases B;exact⟨j _ (w! u),I⟩
theorem tY{es:Fq}(h:AO F0 w0 O a w G)(k:O.wi q i=Y (n,es))(hv:XV a w q i v):∀b lo,G q i=Y (b,lo)->lo=0:=by
 intro b lo g;obtain⟨_,xs,⟨z0,_,j⟩,_⟩:=QW h k hv;rw[j]at g;cases z0 with
 |none=>simp at g|some p=>simp at g;exact g.2.symm
theorem mI{es:Fq}(h:AO F0 w0 O a w G)(u:O.wi q i=Y (n,es))(hv:XV a w q i v)(k:es≠[]):
  ∃g cap j e xs,v=.slice (Y ⟨g,0,W⟩) es.length cap/\w.heap[g]?=Y (.cells j e (0,0))/\es.length<=cap/\cap<=maxLen/\j.size=cap*n/\j.toList.take (es.length*n)=xs/\G q i=Y (g,0)/\AQ w (AW w0.heap.size F0 G) (es.flatMap TV.cells) xs/\(∀e∈es,e.cells.length=n)/\(∀x∈xs,x.oneCell'=X)/\xs.length=es.length*n:=by
 obtain ⟨_,xs,⟨z0,m,l⟩,A,B,C⟩:=QW h u hv;rcases m.2 with⟨_,D,_⟩|⟨g,cap,j,e,E,H,I,J,L,M,N⟩
 .exact absurd (w? D) k
 .exact⟨g,cap,j,e,xs,E,H,I,J,L,M,by rw[l,N];rfl,A,B,C,m.1⟩
theorem AO.rexo(h:AO F0 w0 O a w G){es:Fq}(L:O.wi q i=Y (n,es))(hv:XV a w q i v){w':World}(hb:SA (G q i) w w'){es':Fq}{xs':List Value}(M:K3 w' n v es'.length xs' (G q i))
  (η:Bt w w' (AW w0.heap.size F0 G) (AW w0.heap.size F0 G)->AQ w' (AW w0.heap.size F0 G) (es'.flatMap TV.cells) xs')(hn:∀e∈es',e.cells.length=n)(h1:∀x∈xs',x.oneCell'=X)(hw:(TV.list n es').WF):
  AO F0 w0 (O.Aah q i n es') a w' G:=by
 obtain ⟨b1,b2,b3,b4,b5⟩:=hb;have hz0:=tY h L hv;have ε:Bt w w' (AW w0.heap.size F0 G) (AW w0.heap.size F0 G):=by
  intro b o u hc hF;refine⟨?_,hF⟩;have κ:b<w.heap.size:=by
   grind [F!,World.cell?,Array.getElem?_eq_none]
  rw [World.cell?_of_block (w:=w) (a:=⟨b,o,W⟩) (b5 b κ (λlo B=>hF (.inr ⟨q,i,lo,B,by rw[hz0 b lo B];exact F? _⟩)))];exact hc
 have I:Hr F0 w0 w':=h.below.but b1 b2 b3 b4 (Z:=λk=>∃lo,G q i=Y (k,lo)) (λb⟨lo,B⟩=>(h.lt _ _ _ _ B).2.imp id (λe o=>e o (by rw[hz0 b lo B];exact F? _))) (λk hk B=>b5 k (G_ hk h.below.size) (λlo e=>B ⟨lo,e⟩));have κ:∀s i b lo,G s i=Y (b,lo)->b<w'.heap.size/\(w0.heap.size<=b\/∀o,lo<=o->w0.E b o):=λs i b lo H=>⟨G_ (h.lt s i b lo H).1 b4,(h.lt s i b lo H).2⟩;have hxv:∀r j,(∃m,O.wi r j=Y m)->∀v,XV a w r j v->XV a w' r j v:=by
  intro r j δ;cases j with
  |none=>exact λv hv=>hv|some k=>
   refine h.xv δ rfl (λb hb=>b5 b (h.lt _ _ _ _ hb).1 (λlo B=>?_));obtain⟨rfl,rfl⟩:=h.o3 _ _ _ _ _ _ _ B hb;have h1:=AB.x5 L
   grind [AB.tg]
 have hqsz:q<a.tmps.size:=by
  cases i with
  |none=>exact h.lts (by rw[AB.x5 L];simp)|some k=>obtain⟨cs,H,_⟩:=AB.tg L;exact h.lts (by rw[H];simp)
 have hrs:BY w w' (x7 a G):=by
  intro g j b lo hr;exact b5 b (h.lt _ _ _ _ hr).1 (λlo' B=>h.AbK hqsz B hr rfl)
 have hnh:∀r j,(∃m,O.nat r j=Y m)->∀k v,NH a w r j k v->NH a w' r j k v:=by
  intro r j δ k;refine h.nh δ rfl (λl b hl hb=>b5 b (h.lt _ _ _ _ hb).1 (λlo B=>?_));obtain⟨rfl,rfl⟩:=h.o3 _ _ _ _ _ _ _ B hb;obtain⟨es1,δ⟩:=δ;obtain⟨cs,C,N⟩:=AB.t2 δ;rcases hl with rfl|rfl
  .rw[AB.x5 L]at C;cases C
  grind [AB.tg]
 have oth:∀(p:Nat)(e:EV),p<a.tmps.size->p≠q->(∀j,(∃m,AB.nat ((q,e)::O) q j=Y m)->∃m,O.nat q j=Y m)->(∀cs,e=.bx cs->∃cs',O.get q=.bx cs')->(∀j,(∃m,AB.wi ((q,e)::O) q j=Y m)->∃m,O.wi q j=Y m)->AN a w' (AW w0.heap.size F0 G) G ((q,e)::O) p (O.get p) (slot a p):=by
  intro p e R hpq hnt hbx hxa;refine AN.kept ε (λ_=>rfl) (λj b lo B=>b5 b (h.lt _ _ _ _ B).1 (λlo' hz'=>hpq (h.o3 _ _ _ _ _ _ _ B hz').1)) rfl hrs (λr j k _⟨m,A⟩=>?_) (λr off _⟨cs,hcs⟩=>?_) (λr j _⟨m,A⟩=>?_) (h.slots p R)
  .have δ:∃m,O.nat r j=Y m:=by
    by_cases hqr:q=r
    .subst hqr;exact hnt j ⟨m,A⟩
    grind [AB.Aan]
   grind
  .grind[AB.eb]
  .have δ:∃m,O.wi r j=Y m:=by
    by_cases hqr:q=r
    .subst hqr;exact hxa j ⟨m,A⟩
    grind [AB.Aak]
   grind
 cases i with
 |none=>
  have L:=AB.x5 L;have hsz:=Bw h L V;refine⟨h.o3,κ,I,h.defers,λp R=>?_,λp R=>?_,λp=>?_⟩
  .simp only[AB.Aah];rw[AB.eb,ae U];exact h.dom p R
  .simp only[AB.Aah];rw[AB.eb];by_cases D:q=p
   .subst D;rw[ac rfl];simp only[AN];simp only[XV]at hv;rw[hv]at M;exact⟨xs',M,η ε,hn,h1⟩
   .rw[ae D];refine oth p _ R (λe=>D e.symm) (λj⟨m,A⟩=>by obtain⟨cs,e⟩:=AB.AaK A;cases e) V (λj⟨m,A⟩=>?_);cases j with
    |none=>exact⟨(n,es),by simp only[AB.wi,L]⟩|some k=>
     obtain ⟨n1,es1⟩:=m;obtain⟨cs,C,_⟩:=AB.tg A;rw[AB.eb,ac rfl]at C;cases C
  .simp only[AB.Aah];rw[AB.eb];split
   .exact hw
   .exact h.wf p
 |some k=>
  obtain ⟨cs,H,hk⟩:=AB.tg L;have hsz:=Bw h H V;have hwc:=h.wf q;rw[H]at hwc;have hr:=At h H V;simp only[AN]at hr;obtain⟨b,c,θ,e1,e2,e3,e4,e5⟩:=hr;obtain⟨b',c',T',f1,f2,f3⟩:=hv;rw[e1]at f1;simp only[Value.pointer.injEq,tl,Addr.mk.injEq,and_true,and_self]at f1;subst f1;rw[e2]at f2;cases f2;have hbb:w'.heap[b]?=w.heap[b]?:=b5 b (h.lt _ _ _ _ e4).1 (λlo B=>by
   have:=(h.o3 _ _ _ _ _ _ _ B e4).2;cases this)
  refine ⟨h.o3,κ,I,h.defers,λp R=>?_,λp R=>?_,λp=>?_⟩
  .simp only[AB.Aah,H];rw[AB.eb,ae U];exact h.dom p R
  .simp only[AB.Aah,H];rw[AB.eb];by_cases D:q=p
   .subst D;rw[ac rfl];simp only[AN];refine⟨b,c,θ,e1,by rw[hbb];exact e2,by simpa using e3,e4,λj d ζ=>?_⟩;rw[x_]at ζ;by_cases J:k=j
    .subst J;rw[ac rfl]at ζ;split at ζ
     .simp only[tl]at ζ;subst ζ;exact⟨v,f3,xs',M,η ε,hn,h1⟩
     .cases ζ
    .rw[ae J]at ζ;obtain⟨x,g1,g2⟩:=e5 j d ζ;exact⟨x,g1,g2.kept ε (λb lo B=>b5 b (h.lt _ _ _ _ B).1 (λlo' hz'=>J (by
      have:=(h.o3 _ _ _ _ _ _ _ hz' B).2;simpa using this))) hrs⟩
   .rw[ae D];refine oth p _ R (λe=>D e.symm) (λj⟨m,A⟩=>?_) (λ_ _=>⟨cs,H⟩) (λj⟨m,A⟩=>?_)
    .obtain⟨cs',C,N⟩:=AB.t2 A;rw[AB.eb,ac rfl]at C;simp only[EV.bx.injEq]at C;subst C;rw[x_]at N;split at N
     .split at N<;>simp at N
     .exact⟨m,by simp only[AB.nat,H,N]⟩
    obtain ⟨n1,es1⟩:=m;cases j with
    |none=>have C:=AB.x5 A;rw[AB.eb,ac rfl]at C;cases C
    |some j=>
     obtain ⟨cs',C,N⟩:=AB.tg A;rw[AB.eb,ac rfl]at C;simp only[EV.bx.injEq]at C;subst C;rw[x_]at N;by_cases J:k=j
     .subst J;exact⟨(n,es),L⟩
     .rw[ae J]at N;exact⟨(n1,es1),by simp only[AB.wi,H,N]⟩
  .simp only[AB.Aah,H];rw[AB.eb];split
   .intro y hy;rcases x! hy with hy|rfl
    .exact hwc y hy
    .exact hw
   .exact h.wf p
theorem AO.xgo(h:AO F0 w0 O a w G){es:Fq}(hq:O.get q=.xo n es)(hd:d<a.tmps.size)(hdq:d≠q){w':World}{e:EV}{z':Option (Nat×Nat)}
  (b1:w'.os=w.os)(b2:w'.tape=w.tape)(b3:w'.output=w.output)(b4:w.heap.size<=w'.heap.size)(η:∀k,k<w.heap.size->(∀lo,G q W≠Y (k,lo))->w'.heap[k]?=w.heap[k]?)
  (m:∀b lo,z'=Y (b,lo)->b<w'.heap.size/\(w.heap.size<=b\/∃l,G q W=Y (b,l)))
  (ζ:∀cs,e≠.bx cs)(hno:(∃n es,e=.xo n es)->O.ij d=X)
  (δ:∀(F':Nat->Nat->Prop)(I:Bi)(env':AB)(a':Act),Bt w w' (AW w0.heap.size F0 G) F'->I d W=z'->(∀b o,F' b o->b<w.heap.size\/∃lo,z'=Y (b,lo))->AN a' w' F' I env' d e v)(hw:e.WF):
  B9 F0 w0 ((d,e)::(q,.undef)::O) (a.put (Y d) v) w':=by
 let I:Bi:=Km (Km G q (λ_=>W)) d (λi=>if i=W then z' else W)
 have θ:=tY h (AB.xat_of_xo hq) (v:=slot a q) rfl;have H:∀p i b lo,I p i=Y (b,lo)->(p=d/\i=W/\z'=Y (b,lo))\/(p≠d/\p≠q/\G p i=Y (b,lo)):=by
  intro p i b lo R;by_cases C:p=d
  .grind[CM]
  .simp[I,BZ _ _ _ _ C]at R;by_cases hpq:p=q
   .grind[CM]
   .rw[BZ _ _ _ _ hpq]at R
    grind
 have hag:Bt w w' (AW w0.heap.size F0 G) (AW w0.heap.size F0 I):=by
  intro b o u hc hF;have hlt:b<w.heap.size:=World.block_lt_of_cell? w ⟨b,o,W⟩ hc;have hnz:∀lo,G q W≠Y (b,lo):=λlo D=>hF (.inr ⟨q,W,lo,D,by rw[θ b lo D];exact F? _⟩);refine⟨?_,?_⟩
  .grind[World.cell?_of_block]
  .rintro(L|⟨p,i,lo,L,N⟩)
   .exact hF (.inl L)
   .rcases H _ _ _ _ L with⟨_,_,J⟩|⟨_,_,J⟩
    .grind
    .exact hF (.inr ⟨p,i,lo,J,N⟩)
 refine ⟨I,?_,?_,h.below.but b1 b2 b3 b4 (Z:=λk=>∃lo,G q W=Y (k,lo)) (λb⟨lo,D⟩=>(h.lt _ _ _ _ D).2.imp id (λe o=>e o (by rw[θ b lo D];exact F? _))) (λk hk D=>η k (G_ hk h.below.size) (λlo e=>D ⟨lo,e⟩)),g!,?_,?_,?_⟩
 .intro p i p' i' b lo l J e2;have other:∀p i lo l,z'=Y (b,lo)->p≠q->G p i=Y (b,l)->False:=by
   intro p i lo l E κ f3;rcases(m _ _ E).2 with ε|⟨lo'',ε⟩
   .have:=(h.lt _ _ _ _ f3).1;omega
   .exact κ (h.o3 _ _ _ _ _ _ _ f3 ε).1
  rcases H _ _ _ _ J with⟨rfl,rfl,E⟩|⟨n1,n2,E⟩<;>rcases H _ _ _ _ e2 with⟨rfl,rfl,κ⟩|⟨m1,m2,κ⟩
  .exact⟨rfl,rfl⟩
  .exact(other _ _ _ _ E m2 κ).elim
  .exact(other _ _ _ _ κ n2 E).elim
  .exact h.o3 _ _ _ _ _ _ _ E κ
 .intro p i b lo J;rcases H _ _ _ _ J with⟨_,_,E⟩|⟨_,_,E⟩
  .refine⟨(m _ _ E).1,?_⟩;rcases(m _ _ E).2 with ε|⟨l,ε⟩
   .exact .inl (G! h.below.size ε)
   .exact(h.lt _ _ _ _ ε).2.imp id (λe o _=>e o (by rw[θ _ _ ε];exact F? _))
  .exact⟨G_ (h.lt _ _ _ _ E).1 b4,(h.lt _ _ _ _ E).2⟩
 .intro p R;rw[Bu]at R;have:=Bw h hq V;rw[AB.eb,ae U,AB.eb,ae U];exact h.dom p R
 .intro p R;rw[Bu]at R;rw[AB.eb];by_cases C:d=p
  .subst C;rw[ac rfl,C2 _ _ _ hd];refine δ _ _ _ _ hag (by simp[I,CM]) λb o hf=>?_;rcases hf with L|⟨p,i,lo,L,_⟩
   .exact .inl (G_ L.1 h.below.size)
   .rcases H _ _ _ _ L with⟨_,_,J⟩|⟨_,_,J⟩
    .exact .inr ⟨lo,J⟩
    .exact .inl (h.lt _ _ _ _ J).1
  .rw[ae C,AZ _ _ _ _ C,AB.eb];split
   .trivial
   .rename_i hqp;refine AN.kept hag (λi=>by simp[I];rw[BZ _ _ _ _ (λe=>C e.symm),BZ _ _ _ _ (λe=>hqp e.symm)]) (λi b lo D=>η b (h.lt _ _ _ _ D).1 (λl m=>hqp (h.o3 _ _ _ _ _ _ _ m D).1)) (OI (Bu _ _ _) λr hr=>by
     have:=Bw h hq V;simp[I];rw[BZ _ _ _ _ U,BZ _ _ _ _ U]) (λg j b lo hr=>by
     exact η b (h.lt _ _ _ _ hr).1 (λl D=>h.AbK (Bw h hq V) D hr rfl)) (λr i k hr⟨pp,M⟩=>?_) (λr off _⟨cs,A⟩=>?_) (λr i hr⟨pp,M⟩=>?_) (h.slots p R)
    .have L:=AB.Aac ζ M;have N:=AB.Aac V L.2;exact⟨⟨pp,N.2⟩,h.nh ⟨pp,N.2⟩ (AZ _ _ _ _ L.1) (λ_ b _ hb=>η b (h.lt _ _ _ _ hb).1 (λl m=>N.1 (h.o3 _ _ _ _ _ _ _ m hb).1))⟩
    .rw[AB.eb]at A;by_cases B:d=r
     .rw[ac B]at A;exact absurd A (ζ cs)
     .rw[ae B,AB.eb]at A;split at A
      .cases A
      .exact⟨⟨cs,A⟩,AZ _ _ _ _ B⟩
    .by_cases B:d=r
     .subst B;have hno':O.ij d=X:=by
       grind [AB.AaY]
      have hx:=AB.Aa0 d O hno' p;rcases hr with hr|⟨c,hr⟩
      .exact absurd hr (hx.1 i)
      .exact absurd hr (hx.2 i c)
     .rw[AB.Aak B]at M;have N:=AB.t1 V V M;exact⟨⟨pp,N.2⟩,h.xv ⟨pp,N.2⟩ (AZ _ _ _ _ B) (λb hb=>η b (h.lt _ _ _ _ hb).1 (λl m=>N.1 (h.o3 _ _ _ _ _ _ _ m hb).1))⟩
 .intro p;rw[AB.eb];split
  .exact hw
  .rw[AB.eb];split
   .trivial
   .exact h.wf p
variable{s:Nat}
theorem gR(j:AO F0 w0 O a w G)(hd:d<a.tmps.size)(g:o.op=.move (.tmp s)\/o.op=.assign (.tmp s))(h:(AE.xal s).wp S O (Y d) K):BI P F0 w0 a w o d K:=by
 simp only[AE.wp]at h;split at h
 .rename_i n es l;refine⟨slot a s,w,by rcases g with g|g<;>simp[execOp,g,show a.eval (.tmp s)=slot a s from rfl],_,_,h,_,j.quiet (Below.refl _ _) d hd (.la s W) _ (λ_=>W) V V V ?_ trivial⟩;simp only[AN];rintro⟨p,k⟩;have m:=AB.t1 V V k
  grind [XV,AZ]
 .exact h.elim
variable{t e:TypeId}
theorem pJ(j:AO F0 w0 O a w G)(hd:d<a.tmps.size)(k:o.op=.call {callee:=.builtin .len,args:=#[x],argTypes:=#[t]})(l:AK x y=X)
  (he:P.underlying t=Y (.slice e))(h:(AE.Abx y).wp S O (Y d) K):BI P F0 w0 a w o d K:=by
 simp only[AE.wp]at h;cases m:y.z5 O with
 |none=>rw[m]at h;exact h.elim|some p=>
  rw [m]at h;simp only[Ay]at h;obtain⟨B,C⟩:=P0 j l m;obtain⟨D,hr⟩:=QW j B C;simp only[TV.WF,LH]at D;obtain⟨xs,⟨z0,E,_⟩,_⟩:=hr;have hv:∃u cap,a.eval x=.slice u p.2.2.length cap:=by
   rcases E.2 with⟨A,H,_⟩|⟨g,cap,_,_,A,_⟩
   .grind
   .exact⟨_,_,A⟩
  obtain ⟨u,cap,hv⟩:=hv;refine Cx j hd (v:=.int .i64 p.2.2.length) (t:=.int .i64 p.2.2.length) ?_ rfl ⟨j?,r?⟩ h;simp[execOp,k,resolve,invoke,builtin,Builtin.len_,run_underlying he,hv,goInt]
theorem sS(l:AO F0 w0 O a w G)(hd:d<a.tmps.size){x i:Operand}{y j:AH}(E:o.op=.indexAddr t x i)(H:AK x y=X)(u:AK i j=X)(C:KI P t=Y n)(h:(AE.xia y j n).wp S O (Y d) K):BI P F0 w0 a w o d K:=by
 simp only[AE.wp]at h;cases I:y.z5 O with
 |none=>rw[I]at h;exact h.elim|some p=>
  obtain ⟨⟨q,κ⟩,m,es⟩:=p;rw[I]at h;simp only[Ay]at h;split at h
  .rename_i k D θ;obtain⟨⟨_,rfl⟩,η,M,ζ⟩:=h;obtain⟨δ,N⟩:=P0 l H I;have A:=BD l u θ;simp only[A1]at A;obtain⟨g,cap,cur,e,xs,R,_⟩:=mI l δ N (by rintro rfl;simp at M;omega);unfold KI at C;split at C
   .rename_i el ε;have J:0<=D/\D<(es.length:Int):=⟨η,M⟩;refine⟨.pointer (Y ⟨g,D.toNat*m,W⟩),w,?_,_,_,ζ,_,l.quiet (Below.refl _ _) d hd (.lp q κ (D.toNat*m)) _ (λ_=>W) V V V ?_ trivial⟩
    .simp[execOp,E,R,A.1,Instr.indexAt,asIntOf,run_underlying ε,J,CQ C,Addr.add_lit]
    .simp only[AN];rintro⟨pp,L⟩;have B:=AB.t1 V V L;exact⟨g,_,_,l.xv ⟨_,B.2⟩ (AZ _ _ _ _ B.1) (λ_ _=>rfl) _ (by rw[<-R];exact N),rfl⟩
   .cases C
  .exact h.elim
theorem kz(k:AO F0 w0 O a w G)(h:AK x y=X){q c:Nat}{p:Nat×Fq}(j:y.ev O=.lp q i c)(l:O.wi q i=Y p):∃g len cap,XV a w q i (.slice (Y ⟨g,0,W⟩) len cap)/\a.eval x=.pointer (Y ⟨g,c,W⟩):=by
 cases y with
 |c t=>simp[AH.ev]at j|s m=>
  have u:x=.tmp m:=by
   cases x<;>simp[AK]at h;rw[h]
  subst u;simp only[AH.ev]at j;have:=At k j V;simp only[AN]at this;exact this ⟨p,l⟩
theorem sR(l:AO F0 w0 O a w G)(hd:d<a.tmps.size){f k:Nat}(m:o.op=.fieldAddr t x f)(u:AK x y=X)(B:Q5 P t f=Y k)(h:(AE.xfa y k).wp S O (Y d) K):BI P F0 w0 a w o d K:=by
 simp only[AE.wp]at h;split at h
 .rename_i q i c C;split at h
  next I D=>obtain⟨g,len,cap,E,H⟩:=kz l u C D;refine⟨.pointer (Y ⟨g,c+k,W⟩),w,by simp[execOp,m,H,V4 B],_,_,h,_,l.quiet (Below.refl _ _) d hd (.lp q i (c+k)) _ (λ_=>W) V V V ?_ trivial⟩;simp only[AN];rintro⟨J,A⟩;have j:=AB.t1 V V A;exact⟨g,_,_,l.xv ⟨_,j.2⟩ (AZ _ _ _ _ j.1) (λ_ _=>rfl) _ E,rfl⟩
  .exact h.elim
 .exact h.elim
theorem sT(l:AO F0 w0 O a w G)(hd:d<a.tmps.size)(m:o.op=.load t x)(u:AK x y=X)(J:CL P t=Y T)(h:(AE.xld y).wp S O (Y d) K):BI P F0 w0 a w o d K:=by
 simp [AE.wp]at h;split at h
 .rename_i q i c L;split at h
  .rename_i M A;obtain⟨n,es⟩:=M;simp only at h;cases k:(es.flatMap TV.cells)[c]? with
   |none=>rw[k]at h;exact h.elim|some t'=>
    rw [k]at h;simp[Ay]at h;have B:es≠[]:=by rintro rfl;simp at k
    obtain ⟨g,len,cap,D,ε⟩:=kz l u L A;obtain⟨g',E,C,e,xs,H,κ,f3,f4,f5,f6,f7,I,f9,η,ζ⟩:=mI l A D B;simp at H;obtain⟨rfl,rfl,rfl⟩:=H;have N:c<(es.flatMap TV.cells).length:=by
     grind
    have R:=BX I;obtain⟨y,δ⟩:∃y,xs[c]?=Y y:=⟨_,x? U⟩;have j:w.cell? ⟨g,c,W⟩=Y y:=by
     rw [cell_of_row w g c C e (0,0) κ]
     grind
    have θ:=(QW l A D).1;refine Cx l hd (v:=y) ?_ (((Bs _ _).1 I).2 c t' _ k δ) ?_ h
    .simp[execOp,m,ε,Instr.loadAt,Instr.sureAddr,loadVar,Cz J,j]
    .have:=θ.2;rw[B7]at this;have hm:=w! k
     grind [B7,Iy]
  .exact h.elim
 .exact h.elim
theorem iP{t:TV}(h:TV.tc t.cells):t.WF:=by
 cases t<;>simp[TV.cells,TV.tc]at h<;>first|exact h|(simp[TV.WF];exact h)
theorem gZ{es:Fq}(h:TV.tc es):TV.tc (es.flatMap TV.cells):=by grind[B7,Iy]
theorem WA:∀{es:Fq},TV.tc (es.flatMap TV.cells)->TV.tc es
 |[],_=>trivial|e::es,h=>by
  rw [w_]at h;rw[Li]at h;exact⟨iP h.1,WA h.2⟩
variable{ts:Fq}
theorem iI{w:World}{F:Nat->Nat->Prop}{xs:List Value}(h:AQ w F ts xs)(c:Nat):AQ w F (ts.take c) (xs.take c):=by
 rw [Bs]at h|-
 grind
theorem iH{w:World}{F:Nat->Nat->Prop}{xs:List Value}(h:AQ w F ts xs)(c:Nat):AQ w F (ts.drop c) (xs.drop c):=by
 rw [Bs]at h|-
 grind
theorem sU(C:AO F0 w0 O a w G){x v:Operand}{x' η:AH}{m:Nat}(H:o.op=.store t x v)(ζ:AK x x'=X)(hv:AK v η=X)(hn:DB P t=Y m)(h:(AE.xst x' η m).wp S O W K):If P F0 w0 a w o K:=by
 simp [AE.wp]at h;split at h
 .rename_i q i c hy;split at h
  .rename_i n es u E hu;obtain⟨⟨h1,h0⟩,δ,es',h3,B,h5,hK⟩:=h;obtain⟨g,len,cap,θ,e2⟩:=kz C ζ hy E;have D:=(QW C E θ).1;have I:=BD C hv (t:=u) (by simp[AH.val,hu,EV.val]);have h6:TV.tc es':=by
    have h7:=gZ D.2
    grind [TV.tc,TV.cells,B7,y_,Iy,y!,WA]
   have J:es≠[]:=by rintro rfl;simp at δ;omega
   obtain ⟨g',cap',j,e,xs,f1,f2,f3,f4,f5,f6,f7,f8,f9,f10,ε⟩:=mI C E θ J;simp at f1;obtain⟨rfl,rfl,rfl⟩:=f1;obtain⟨k2,k3⟩:=HO I.1;obtain⟨ys,κ⟩:∃ys,(a.eval v).cells.toList=ys:=⟨_,rfl⟩;rw[κ]at k2 k3;have A:ys.length=m:=by rw[BX k2,h1]
   have hcc:c+m<=j.size:=by rw[f5];exact G! δ (G? _ f3)
   have l:=run_storeCells_at P g c e ys 0 j w f2 U k3;simp at l;have L:(a.eval v).cells.size=m:=by rw[<-I!,κ,A]
   have M:(execOp a.eval o).run P w=.ok .skip (w.setRow g (j.toList.take c++ys++j.toList.drop (c+m)).toArray):=by
    rw [A]at l;simp[execOp,H,e2,Instr.storeAt,Instr.sureAddr,storeVar,CQ hn,L,κ,l]
   refine ⟨_,M,_,hK,G,?_⟩;have N:xs.length=es.length*n:=ε;refine C.rexo E θ (w':=w.setRow g (j.toList.take c++ys++j.toList.drop (c+m)).toArray) (xs':=xs.take c++ys++xs.drop (c+m)) ⟨rfl,rfl,rfl,V,λk _ hk=>setRow_other w g k _ (λe=>hk 0 (by rw[e];exact f7))⟩ ⟨Y (g,es.length*n),⟨by simp[A,N,B];omega,.inr ⟨g,cap,_,e,by rw[B],setRow_heap w g j _ e _ f2,by rw[B];exact f3,f4,?_,?_,by rw[B]⟩⟩,by rw[f7];rfl⟩ (λhag=>?_) h5 (λx ζ=>?_) ⟨by rw[B];exact D.1,h6⟩
   .grind
   .rw[B,<-f6];have R:c<=j.toList.length:=by rw[I!];omega
    have hA:(j.toList.take c++ys).length=c+m:=by rw[b6,bk,A,H_ R]
    show (j.toList.take c++ys++j.toList.drop (c+m)).take (es.length*n)=_
    grind [y?,z_,H_,List.drop_take]
   .grind[A7,JF,iI,iH]
   grind
  .exact h.elim
 .exact h.elim
theorem gP(l:AO F0 w0 O a w G)(hd:d<a.tmps.size)(g:o.op=.move (.tmp s)\/o.op=.assign (.tmp s))(h:(AE.rel s).wp S O (Y d) K):BI P F0 w0 a w o d K:=by
 simp [AE.wp]at h;split at h
 .rename_i I n es k m;simp at k;subst k;obtain⟨u,D⟩:=h;have hr:=At l m V;have A:=l.wf s;rw[m]at A;simp[AN]at hr;obtain⟨xs,⟨z0,J,j⟩,L,M,N⟩:=hr;refine⟨slot a s,w,by rcases g with g|g<;>simp[execOp,g,show a.eval (.tmp s)=slot a s from rfl],_,_,D,l.xgo m hd u (z':=z0) rfl rfl rfl (az _) (λ_ _ _=>rfl) (λb lo B=>?_) V V (λF' E env' a' C H _=>?_) A⟩
  .rw[B]at j;exact⟨(l.lt _ _ _ _ j).1,.inr ⟨_,j⟩⟩
  grind [AN,CD,A7]
 .exact h.elim
theorem gQ(k:AO F0 w0 O a w G)(hd:d<a.tmps.size)(g:o.op=.move (.tmp s)\/o.op=.assign (.tmp s))(h:(AE.tkx s).wp S O (Y d) K):BI P F0 w0 a w o d K:=by
 simp [AE.wp]at h;split at h
 .rename_i I n es j l;simp at j;subst j;obtain⟨m,u,D⟩:=h;have hr:=At k l V;have B:=k.wf s;rw[l]at B;simp[AN]at hr;obtain⟨xs,J,L,M,N⟩:=hr;refine⟨slot a s,w,by rcases g with g|g<;>simp[execOp,g,show a.eval (.tmp s)=slot a s from rfl],_,_,D,k.xgo l hd u (z':=G s W) rfl rfl rfl (az _) (λ_ _ _=>rfl) (λb lo A=>⟨(k.lt _ _ _ _ A).1,.inr ⟨_,A⟩⟩) V (λ_=>m) (λF' E env' a' C H _=>?_) B⟩
  grind [AN,A7]
 .exact h.elim
theorem AO.Ab1(h:AO F0 w0 O a w G){w':World}(hb:Below w.heap.size w w')(hd:d<a.tmps.size)(u:O.ij d=X){es:Fq}{z:Option (Nat×Nat)}{xs:List Value}(j:Ge w' n v es.length xs z)
  (A:∀b lo,z=Y (b,lo)->w.heap.size<=b/\b<w'.heap.size)
  (k:∀F',(∀b o,F' b o->(b<w.heap.size/\AW w0.heap.size F0 G b o)\/∃lo,z=Y (b,lo))->AQ w' F' (es.flatMap TV.cells) xs)(B:∀e∈es,e.cells.length=n)(C:∀x∈xs,x.oneCell'=X)(D:(TV.list n es).WF):
  B9 F0 w0 ((d,.xo n es)::O) (a.put (Y d) v) w':=by
 refine ⟨_,h.quiet hb d hd (.xo n es) v (λi=>if i=W then z.map (λp=>(p.1,0))else W) (λi b lo hi=>?_) (λi H b lo E g m=>?_) (λ_=>u) ?_ D⟩
 .split at hi
  .cases z with
   |none=>simp at hi|some p=>
    simp at hi;exact hi.1▸A p.1 p.2 rfl
  .cases hi
 .split at g
  .split at m
   .simp_all
   .cases m
  .cases g
 .simp[AN];refine⟨xs,⟨z,j,by rw[CM];simp⟩,k _ (λb o hf=>?_),B,C⟩;rcases hf with hf|⟨p,i,lo,g,m⟩
  .exact .inl ⟨G_ hf.1 h.below.size,.inl hf⟩
  .by_cases l:p=d
   .subst l;rw[CM]at g;split at g
    .cases z with
     |none=>simp at g|some q=>
      simp at g;exact .inr ⟨q.2,by rw[<-g.1]⟩
    .cases g
   .rw[BZ _ _ _ _ l]at g;exact .inl ⟨(h.lt _ _ _ _ g).1,.inr ⟨p,i,lo,g,m⟩⟩
theorem bX(k:AO F0 w0 O a w G)(hd:d<a.tmps.size)(g:o.op=.move x\/o.op=.assign x)(l:∃v,x=.const v/\Nz v=X)(h:(AE.Abk n).wp S O (Y d) K):BI P F0 w0 a w o d K:=by
 simp [AE.wp]at h;obtain⟨j,m⟩:=h;obtain⟨v,rfl,hv⟩:=l;have hv:=Ko hv;subst hv;refine⟨.slice W 0 0,w,by rcases g with g|g<;>simp[execOp,g,Act.eval],_,_,m,k.Ab1 (Below.refl _ _) hd j (z:=W) (xs:=[]) ⟨V,.inl ⟨rfl,rfl,rfl⟩⟩ V (λ_ _=>rfl) V V ⟨V,trivial⟩⟩
variable{f:FuncId}{ats:Array TypeId}{Q:Exit->Act->World->Prop}
theorem l9(D:AO F0 w0 O a w G)(hd:d<a.tmps.size)(l:o.dst=Y d){xs:Array Operand}{ys:List AH}(M:o.op=.call {callee:=.value (.func f),args:=xs,argTypes:=ats})(N:Bq xs.toList ys=X)(h:(AE.AaL f ys).wp (AV P) O (Y d) K)
  {next:Act->World->Prop}(η:∀e env' a' w',K e env'->SC a d a'->B9 F0 w0 ((d,e)::env') a' w'->next a' w'):o.wp P a w next Q:=by
 simp [AE.wp]at h;obtain⟨ε,h⟩:=h;cases j:vals O ys with
 |none=>rw[j]at h;exact h.elim|some ts=>
  rw [j]at h;simp[Ay]at h;obtain⟨n,es,A,δ⟩:=h;have hv:=GT D N j;have m:(execOp a.eval o).run P w=(callFunc f (xs.map a.eval)).run P w:=by simp[execOp,M,resolve,Act.eval,Deferred.ofValue,invoke]
  have key:EB P f=X/\(TV.list n es).WF/\Calls P f (xs.map a.eval) w λe w'=>∃v z g,e=.returned v/\Below w.heap.size w w'/\Ge w' n v es.length g z/\(∀F',(∀b o,F' b o->(b<w.heap.size/\AW w0.heap.size F0 G b o)\/∃lo,z=Y (b,lo))->AQ w' F' (es.flatMap TV.cells) g)/\(∀e∈es,e.cells.length=n)/\(∀x∈g,x.oneCell'=X)/\∀b lo,z=Y (b,lo)->w.heap.size<=b/\b<w'.heap.size:=by
   rcases A with A|⟨A,hfl⟩
   .obtain⟨B,κ⟩:=(A.to0 rfl) hv.2;obtain⟨k,C⟩:=κ (AW w0.heap.size F0 G) w (xs.map a.eval) l' D.below.now;refine⟨B,k,C.mono ?_⟩;rintro e w' ⟨v,rfl,hb,z,g,E,H,I,J,L⟩;exact⟨v,z,g,rfl,hb,E,λF' R=>A7 (λb o u ζ hf=>⟨ζ,λθ=>hf (R b o θ)⟩) _ _ H,I,J,L⟩
   .obtain⟨B,κ⟩:=(A.to0 rfl) hv.2;obtain⟨k,C⟩:=κ (AW w0.heap.size F0 G) w (xs.map a.eval) l' D.below.now;refine⟨B,k,C.mono ?_⟩;rintro e w' ⟨v,rfl,hb,z,⟨g,E,H,I,J⟩,L⟩
    grind [HN,OO]
  obtain ⟨B,k,C⟩:=key;unfold Oper.wp;rw[m,FG B _,Oper.upon_enter];refine C.mono ?_;rintro e w' ⟨v,z,g,rfl,hb,E,H,I,J,L⟩;simp[l];exact η _ _ _ _ (δ k) ⟨_,rfl⟩ (D.Ab1 hb hd ε E L H I J k)
theorem l6(k:AO F0 w0 O a w G)(hd:d<a.tmps.size)(B:o.dst=Y d){xs:List Operand}{ys:List AH}(L:o.op=.call {callee:=.value (.func f),args:=(x::xs).toArray,argTypes:=ats})(M:AK x y=X)(C:Bq xs ys=X)(h:(AE.AaG f y ys).wp (AV P) O (Y d) K)
  {next:Act->World->Prop}(hn:∀e env' a' w',K e env'->SC a d a'->B9 F0 w0 ((d,e)::env') a' w'->next a' w'):o.wp P a w next Q:=by
 simp only[AE.wp]at h;cases R:y.z5 O with
 |none=>rw[R]at h;exact h.elim|some p=>
  obtain ⟨⟨q,i⟩,m,es⟩:=p;rw[R]at h;simp only[Ay]at h;obtain⟨rfl,h⟩:=h;cases l:vals O ys with
  |none=>rw[l]at h;exact h.elim|some ts=>
  rw [l]at h;obtain⟨zs,u,E,rfl,⟨A,ts2,g,hc,H,hS⟩,hK⟩:=h;simp only[List.cons.injEq,TV.list.injEq,true_and]at g;obtain⟨g,rfl⟩:=g;have θ:A=zs:=by
   have:=congrArg (List.map λt=>match t with|.int _ n=>n|_=>0) g;simpa[z!,Function.comp_def]using this.symm
  subst θ;obtain⟨hq,hx⟩:=P0 k M R;obtain⟨ζ,xs',h1,h2,h3,h4⟩:=QW k hq hx;obtain⟨hv,δ⟩:=GT k C l;have ε:xs'=A.map (Value.int .i64):=by
   have:∀(zs:Fp)(xs:List Value),AQ w (AW w0.heap.size F0 G) ((zs.map (TV.int .i64)).flatMap TV.cells) xs->xs=zs.map (Value.int .i64):=by
    intro zs
    induction zs with
    |nil=>intro xs h;exact h|cons z zs ih=>
     grind [TV.cells,z?,AQ,A1]
   exact this A xs' h2
  subst ε;have D:(execOp a.eval o).run P w=(callFunc f (a.eval x::xs.map a.eval).toArray).run P w:=by simp[execOp,L,resolve,Act.eval,Deferred.ofValue,invoke]
  unfold Oper.wp;rw[D,FG hc _,Oper.upon_enter];refine(hS _ w (a.eval x) _ (G q i) ζ δ (by simpa using h1) hv (λb lo o J N=>.inr ⟨q,i,lo,J,N⟩) (λb lo J=>⟨(k.lt _ _ _ _ J).1,k.low J⟩) k.below.now).mono ?_;rintro e w' ⟨⟨I,j⟩,⟨r,rfl,hu⟩,r1,r2⟩;simp only[B];have κ:=k.rexo hq hx r2 (es':=u.map (TV.int .i64)) (xs':=u.map (Value.int .i64)) (by rw[c9,I];exact r1) (λ_=>?_) (by simp[TV.cells]) k_ j.1
  .have η:∀F,RY w' F E r:=λF=>by
    rcases E with _|⟨t,_|⟨t',E⟩⟩
    .exact hu
    .exact Ul t (by simpa[TV.Aab]using H) _ hu
    .obtain⟨vs,e1,e2⟩:=hu;exact⟨vs,e1,HN _ H _ e2⟩
   rcases E with _|⟨t,_|⟨t',E⟩⟩
   all_goals
    refine hn _ _ _ _ (hK j) ⟨_,rfl⟩ ⟨_,κ.quiet (Below.refl _ _) d hd (EV.ofs _) _ (λ_=>W) (by simp[EV.ofs]) (by simp[EV.ofs]) (by simp[EV.ofs]) ?_ ?_⟩
    .simp only[EV.ofs,AN];exact η _
    .first|exact trivial|exact j.2.1|exact j.2
  .have:∀(zs:Fp),AQ w' (AW w0.heap.size F0 G) ((zs.map (TV.int .i64)).flatMap TV.cells) (zs.map (Value.int .i64)):=by
    intro zs
    induction zs with
    |nil=>rfl|cons z zs ih=>
     grind [TV.cells,z?,AQ,A1]
   exact this u
theorem aZ{w:World}{F:Nat->Nat->Prop}:∀(zs:Fp),AQ w F ((zs.map (TV.int .i64)).flatMap TV.cells) (zs.map (Value.int .i64))
 |[]=>rfl|z::zs=>by
  simp only[A_,w_,TV.cells,z?,AQ,A1];exact⟨_,_,rfl,rfl,aZ zs⟩
theorem bM{w:World}{F:Nat->Nat->Prop}:∀(zs:Fp)(xs:List Value),AQ w F ((zs.map (TV.int .i64)).flatMap TV.cells) xs->xs=zs.map (Value.int .i64)
 |[],xs,h=>h|z::zs,xs,h=>by
  simp [TV.cells,AQ,A1]at h;obtain⟨v,r,rfl,rfl,h⟩:=h;rw[bM zs r h];rfl
theorem lv(j:AO F0 w0 O a w G)(hd:d<a.tmps.size)(l:o.dst=Y d)(C:o.op=.call {callee:=.value (.func f),args:=#[x],argTypes:=ats})(D:AK x y=X)(h:(AE.Aa2 f y).wp (AV P) O (Y d) K)
  {next:Act->World->Prop}(η:∀e env' a' w',K e env'->SC a d a'->B9 F0 w0 ((d,e)::env') a' w'->next a' w'):o.wp P a w next Q:=by
 simp only[AE.wp]at h;cases H:y.z5 O with
 |none=>rw[H]at h;exact h.elim|some p=>
  obtain ⟨⟨q,i⟩,m,es⟩:=p;rw[H]at h;simp only[Ay]at h;obtain⟨⟨L,rfl⟩,rfl,M,zs,N,rfl,⟨R,A,hc,g,hS⟩,hK⟩:=h;simp only[List.cons.injEq,TV.list.injEq,true_and,and_true]at A;have I:R=zs:=by
   have:=congrArg (List.map λt=>match t with|.int _ n=>n|_=>0) A;simpa[z!,Function.comp_def]using this.symm
  subst I;obtain⟨B,ε⟩:=P0 j D H;replace B:=AB.x5 B;simp only[XV]at ε;replace g:=g (by have:=j.wf q;rw[B]at this;exact this);have hr:=At j B V;simp only[AN]at hr;obtain⟨xs,h1,h2,h3,h4⟩:=hr;have J:=bM _ _ h2;subst J;have u:(execOp a.eval o).run P w=(callFunc f #[slot a q]).run P w:=by simp[execOp,C,resolve,Act.eval,Deferred.ofValue,invoke,<-ε]
  unfold Oper.wp;rw[u,FG hc _,Oper.upon_enter];refine(hS w (slot a q) (G q W) (by simpa using h1)).mono ?_;rintro e w' ⟨v',rfl,r1,r2⟩;simp only[l];obtain⟨b1,b2,b3,κ,b5⟩:=r2;refine η _ _ _ _ (hK g) ⟨_,rfl⟩ (j.xgo B hd (λe=>L e.symm) (z':=G q W) b1 b2 b3 κ (λk E ζ=>b5 k E ζ) (λb lo θ=>⟨G_ (j.lt _ _ _ _ θ).1 κ,.inr ⟨_,θ⟩⟩) V (λ_=>M) (λF' G' env' a' δ hG _=>?_) g);simp only[AN];rw[hG];exact⟨_,by simpa using r1,aZ N,by simp[TV.cells],k_⟩
variable{z:Value}
theorem oz(δ:AO F0 w0 O a w G)(hd:d<a.tmps.size){i:TypeInfo}(hop:o.op=.call {callee:=.builtin .append,args:=#[.tmp s,x],argTypes:=#[t,t]})
  (ht:P.underlying t=Y (.slice e))(hi:P.info? e=Y i)(A:i.zero=Y z)(E:i.size=n)(hby:i.bytes<=4096)(hzs:z.cells.size=n)(hn:0<n)
  (hok:AK x y=X)(h:(AE.Aba n s y).wp S O (Y d) K):BI P F0 w0 a w o d K:=by
 simp only[AE.wp]at h;split at h
 .rename_i d' m es m' J N hs hy;simp only[tl]at N;subst N;obtain⟨hm1,hm2,ε,hno,hds,hK⟩:=h;subst hm2;subst hm1;have D:=At δ hs V;have H:=δ.wf s;rw[hs]at H;simp only[AN]at D;obtain⟨xs,⟨z0,h1,κ⟩,h2,h3,h4⟩:=D;have hv:=BD δ hok hy;simp only[A1]at hv;obtain⟨⟨ad,cap,h5,h6,h7,h8⟩,h9⟩:=hv;have I:∃g:List Value,AQ w (AW w0.heap.size F0 G) (J.flatMap TV.cells) g/\(∀x∈g,x.oneCell'=X)/\(∀f∈J,f.cells.length=m)/\∀b,ad=Y b->∀(j:Nat)(u:Value),g[j]?=Y u->w.cell? (b.add j)=Y u:=by
   cases ad with
   |none=>
    have:=h7 rfl;subst this;exact⟨[],rfl,V,V,V⟩
   |some b=>
    obtain ⟨C,h11⟩:=h8 b rfl;obtain⟨bb,B,sp⟩:=b;simp only at C h11;by_cases θ:J=[]
    .subst θ;exact⟨[],rfl,V,V,V⟩
    have C:sp=W:=C.resolve_left θ;subst C;have hrow:∀(l:Fq)(B:Nat),JK w (AW w0.heap.size F0 G) m l bb B->Df w (AW w0.heap.size F0 G) (l.flatMap TV.cells) bb B/\∀f∈l,f.cells.length=m:=by
     intro l
     induction l with
     |nil=>intro B _;exact⟨trivial,V⟩|cons f l ih=>
      grind [Ru,Jk]
    grind [Uo,tl]
  obtain ⟨g,n1,n2,n3,n4⟩:=I;have hnl:g.length=J.length*m:=by rw[BX n1,Qi m J n3]
  obtain ⟨v',w',z',η,r1,L⟩:=RP (P:=P) t o.type e i z m ht hi A E hby hzs hn (slot a s) es.length xs z0 h1 ad J.length cap g hnl (λe=>by rw[h7 e];rfl) h6 n4 n2 ε;have hnz:∀k,(∀lo,G s W≠Y (k,lo))->∀lo,z0≠Y (k,lo):=λk hk lo A=>hk 0 (by rw[κ,A];rfl);refine⟨v',w',?_,_,_,hK,δ.xgo hs hd hds (z':=z'.map λp=>(p.1,0)) L.os L.tape L.output L.size (λk hk A=>L.other k hk (hnz k A)) (λb lo A=>?_) V (λ_=>hno) (λF' G' env' a' M hG _=>?_) ?_⟩
  .simp[execOp,hop,resolve,invoke,builtin,show a.eval (.tmp s)=slot a s from rfl,h5,η]
  .cases z' with
   |none=>simp at A|some p=>
    simp only[J',tl,Prod.mk.injEq]at A;obtain⟨k1,ζ⟩:=L.AbI p.1 p.2 rfl;rw[<-A.1];refine⟨k1,?_⟩;rcases ζ with ζ|⟨lo',ζ,_⟩
    .exact .inl ζ
    .exact .inr ⟨0,by rw[κ,ζ];rfl⟩
  .simp only[AN];rw[hG];refine⟨xs++g,⟨z',by rw[b6];exact r1,rfl⟩,?_,?_,?_⟩
   .rw[A'];exact JF (A7 M _ _ h2) (A7 M _ _ n1)
   .intro e he;rcases A!.1 he with he|he
    .exact h3 e he
    .exact n3 e he
   .intro x R;rcases A!.1 R with R|R
    .exact h4 x R
    .exact n2 x R
  .simp only[EV.WF,TV.WF]at H h9|-;exact⟨by rw[b6];exact Vk U,Li.2 ⟨H.2,h9.2⟩⟩
 .exact h.elim
variable{z0:Value}
theorem sE(κ:AO F0 w0 O a w G)(hd:d<a.tmps.size){x x':Operand}{ty e:TypeId}{l:TypeInfo}{t:TV}(D:o.op=.makeSlice ty x x')(η:AK x y=X)(E:AK x' y=X)
  (A:P.underlying ty=Y (.slice e))(H:P.info? e=Y l)(θ:l.zero=Y z)(hs:l.size=1)(ζ:l.bytes<=4096)(δ:z.cells=#[z0])(hc:Eh t z0=X)(h1c:z0.oneCell'=X)(I:t.cells=[t])
  (h:(AE.mkx 1 [t] y).wp S O (Y d) K):BI P F0 w0 a w o d K:=by
 simp [AE.wp]at h;split at h
 .rename_i d' ik j J hy;simp[tl]at J;subst J;obtain⟨hno,h0,hmax,hK⟩:=h;have hv:=(BD κ η hy).1;have B:=(BD κ E hy).1;simp[A1]at hv B;obtain⟨m,rfl⟩:∃m:Nat,j=m:=⟨j.toNat,U⟩;have hm:m<=4096:=U
  have hw1:IntKind.i64.wrap (m:Int)=m:=by
   have e1:(2:Int)^ 64=18446744073709551616:=a!
   have e2:(2:Int)^ (64-1)=9223372036854775808:=a!
   simp [IntKind.wrap,IntKind.bits,IntKind.signed,Bool.true_and,tn,e1,e2,ge_iff_le];split<;>omega
  have ε:m*l.bytes<=16777216:=by
   calc m*l.bytes<=4096*4096:=H' hm ζ
    _=16777216:=a!
  have g:(Array.range m).map (λq=>([z0]:List Value)[q % 1]?.getD default)=I? m z0:=by
   grind
  have L:¬(281474976710656<(l.bytes:Int)*(m:Int)):=by
   grind
  have C:¬(m*l.bytes>roomBytes):=by
   have:roomBytes≥16777216:=a!
   omega
  have M:¬((m:Int)<0):=U
  have N:(execOp a.eval o).run P w=.ok (.value (.slice (Y ⟨w.heap.size,0,W⟩) m m)) (w.alloc (.cells (I? m z0) e)):=by
   by_cases R:m=0
   .subst R;have hw0:IntKind.i64.wrap 0=0:=a!
    simp [execOp,D,hv,B,Instr.makeSlice,run_underlying A,asInt,asIntOf,typeInfo,H,hw0,askRoom,sizeOf,hs,newRow]
    grind
   .simp[execOp,D,hv,B,Instr.makeSlice,run_underlying A,asInt,asIntOf,typeInfo,H,hw1,askRoom,sizeOf,hs,newRow,L,C,M,R,zeroValue,θ,δ,g]
  have hb:Below w.heap.size w (w.alloc (.cells (I? m z0) e)):=(Below.refl _ _).alloc (az _) _;have hcr:=IJ (w.alloc (.cells (I? m z0) e)) (λ_ _=>False) t z0 hc;have hfm:∀k,(A? k t).flatMap TV.cells=A? k t:=by
   intro k
   induction k with
   |zero=>rfl|succ k ih=>rw[B_,w_,ih,I];rfl
  simp [Int.toNat_natCast]at hK;refine⟨_,_,N,_,_,hK,κ.Ab1 hb hd hno (z:=Y (w.heap.size,m*1)) (xs:=A? m z0) ⟨V,.inr ⟨w.heap.size,m,_,e,V,heap_alloc_new w _,V,by simp[maxLen];omega,V,V,V⟩⟩ (λb lo θ=>?_) (λF' _=>?_) (λu A=>?_) (λv hv=>?_) ⟨by simp[B',LH];omega,?_⟩⟩
  .simp[tl,Prod.mk.injEq]at θ;rw[<-θ.1];exact⟨az _,V⟩
  .rw[hfm,Bs];refine⟨V,λi u v A hv=>?_⟩;rw[B! (w! A),B! (w! hv)];exact(IJ _ F' t z0 hc).1
  .rw[B! A,I];rfl
  .rw[B! hv];exact h1c
  .rw[B7];intro u A;rw[B! A];exact hcr.2
 .exact h.elim
def lD(P:Program)(t:TypeId)(f k n:Nat)(agg:Bool):Bool:=
 match P.underlying t with
 |some (.struct fs)=>(match fs[f]? with
  |some x=>x.offset==k&&DB P x.type==Y n&&CL P x.type==Y agg|none=>T)
 |_=>T
theorem pB(C:AO F0 w0 O a w G)(hd:d<a.tmps.size){f k n:Nat}{agg:Bool}(A:o.op=.field t x f)(D:AK x y=X)(hf:lD P t f k n agg=X)(h:(AE.AbA y k n agg).wp S O (Y d) K):BI P F0 w0 a w o d K:=by
 simp only[AE.wp]at h;split at h
 .rename_i cs N;obtain⟨κ,g⟩:=h;have hv:=BD C D N;simp only[A1,TV.WF]at hv;obtain⟨⟨vs,L,H,η⟩,M⟩:=hv;unfold lD at hf;split at hf
  .rename_i ε I;split at hf
   .rename_i j B;simp only[pq,beq_iff_eq]at hf;obtain⟨⟨rfl,θ⟩,ha⟩:=hf;have J:=BX H;rw[Bs]at H;rw[B7]at M;cases agg with
    |true=>
     simp only[if_true]at g;refine Cx C hd (v:=.agg (vs.extract j.offset (j.offset+n))) (t:=.agg ((cs.drop j.offset).take n)) ?_ ?_ ?_ g
     .simp[execOp,A,L,Instr.field,run_underlying I,B,part,Cz ha,CQ θ,asAgg]
     .simp only[A1];refine⟨_,rfl,?_,?_⟩
      .rw[Bs]
       grind
      grind
     .simp only[TV.WF];rw[B7]
      grind
    |false=>
     simp only[Bool.false_eq_true,if_false]at g;cases E:cs.drop j.offset with
     |nil=>rw[E]at g;simp[Hy,Ay]at g|cons u r=>
      rw [E]at g;simp only[Hy,Ay]at g;have m:cs[j.offset]?=Y u:=by
       have:=congrArg (λl=>l[0]?) E;simpa[B?]using this
      have R:j.offset<cs.length:=(C_.1 m).1;obtain⟨v,hv⟩:∃v,vs.toList[j.offset]?=Y v:=⟨_,x? U⟩;refine Cx C hd (v:=v) (t:=u) ?_ (H.2 _ u v m hv) (M u (w! m)) g;rw[J_]at hv;simp[execOp,A,L,Instr.field,run_underlying I,B,part,Cz ha,asAgg,hv]
   .cases hf
  .cases hf
 .exact h.elim
def qY(P:Program)(ty:TypeId)(n:Nat)(zero:Fq):Bool:=
 match P.underlying ty,zero with
 |some (.slice e),[t]=>(match P.info? e with
  |some ie=>(match ie.zero with
   |some z=>(match z.cells.toList with
    |[z0]=>n==1&&ie.size==1&&decide (ie.bytes<=4096)&&Eh t z0&&z0.oneCell'&&(match t with|.int _ _=>X|.bool _=>X|.str _=>X|_=>T)
    |_=>T)
   |none=>T)
  |none=>T)
 |_,_=>T
theorem vd(A:AO F0 w0 O a w G)(hd:d<a.tmps.size){x x':Operand}{ty:TypeId}{zero:Fq}(k:o.op=.makeSlice ty x x')(l:AK x y=X)(j:AK x' y=X)(g:qY P ty n zero=X)
  (h:(AE.mkx n zero y).wp S O (Y d) K):BI P F0 w0 a w o d K:=by
 unfold qY at g;split at g
 .rename_i e t B;split at g
  .rename_i L m;split at g
   .rename_i z C;split at g
    next z0 u=>simp[tn]at g;obtain⟨⟨⟨⟨⟨rfl,D⟩,E⟩,H⟩,I⟩,J⟩:=g;exact sE A hd k l j B m C D E (gV u) H I (by cases t<;>first|rfl|cases J) h
    .cases g
   .cases g
  .cases g
 .cases g
theorem xS{args:Fq}{t:TV}(h:AV P f args (.own t)):AV P f args (.sh t):=by
 intro l;obtain⟨A,B⟩:=h l;refine⟨A,λF0 w vs hv j=>?_⟩;obtain⟨C,D⟩:=B F0 w vs hv j;refine⟨C,D.mono ?_⟩;rintro e w' ⟨v,rfl,hb,z,E,I⟩;refine⟨v,rfl,hb,?_⟩;have m:=CD.rep E (λb lo o H ho=>by
  grind)
 exact CR (λb o u k hf=>⟨k,λg=>hf (.inl g)⟩) _ _ m
theorem RB(h:v.oneCell'=X):v.cells=#[v]:=by
 cases v<;>first|rfl|simp[Value.oneCell']at h
theorem sQ(u:AO F0 w0 O a w G){x v:Operand}(hop:o.op=.store t x v)(C:AK x (.s s)=X)(hv:AK v (.s q)=X)(hn:DB P t=Y n)(h:(AE.stx n s q).wp S O W K):If P F0 w0 a w o K:=by
 simp only[AE.wp]at h;split at h
 .rename_i cs ds hs hq;obtain⟨J,⟨κ,D⟩,ho,hK⟩:=h;have hp:(AH.s s).place O=Y (s,0):=by simp[AH.place,hs]
  revert hp ho hK
  suffices key:∀g,g+n<=cs.length->K .undef ((s,.bx (cs.take g++ds++cs.drop (g+n)))::(q,.undef)::O)->(AH.s s).place O=Y (s,g)->If P F0 w0 a w o K from key 0
  .intro g ho hK hp;have hvq:v=.tmp q:=by
    cases v<;>simp[AK]at hv;rw[hv]
   subst hvq;obtain⟨b,hsl,hadr⟩:=IC u C hp hs;have hr:=At u hs V;simp only[AN]at hr;obtain⟨δ,c,θ,h1,h2,h3,h4,h5⟩:=hr;rw[hsl]at h1;simp only[Value.pointer.injEq,tl,Addr.mk.injEq,and_true,and_self]at h1;subst h1;have hrq:=At u hq V;simp only[AN]at hrq;obtain⟨vs,B,m,e3⟩:=hrq;have ε:=u.wf s;rw[hs]at ε;have hwq:=u.wf q;rw[hq]at hwq;have hone:∀y∈vs.toList,y.oneCell'=X:=by
    intro y E;obtain⟨i,hi⟩:=C' E;have l:i<ds.length:=by have:=(C_.1 hi).1;simpa[m]using this
    obtain ⟨x,C,hc⟩:=e3 i _ (x? l);rw[J_,C]at hi;simp only[tl]at hi;subst hi;exact Hj hc
   have hev:a.eval (.tmp q)=.agg vs:=B;have hst:(execOp a.eval o).run P w=.ok .skip (w.setRow b (c.toList.take g++vs.toList++c.toList.drop (g+n)).toArray):=by
    have hln:vs.toList.length=n:=by rw[I!,m,κ]
    have I:=run_storeCells_at P b g θ vs.toList 0 c w h2 (by rw[hln];omega) hone;simp only[H!]at I;rw[hln]at I;simp[execOp,hop,hadr,hev,Instr.storeAt,Instr.sureAddr,storeVar,CQ hn,Value.cells,show vs.size=n by rw[m,κ],I]
   have hvl:vs.toList.length=n:=by rw[I!,m,κ]
   let zs:Option Nat->Option (Nat×Nat):=λi=>match i with|none=>Y (b,0)|some j=>if g<=j/\j<g+n then G q (Y (j-g))else G s (Y j)
   refine Exists.elim (u.AbP hs hsl h2 (cs':=cs.take g++ds++cs.drop (g+n)) (c':=(c.toList.take g++vs.toList++c.toList.drop (g+n)).toArray) (q:=Y q) (by simpa using J) (λp hp=>by cases hp;exact Bw u hq V) (zs:=zs) rfl ?_ ?_ ?_ ?_ ?_ ?_) (λG' h'=>⟨_,hst,_,hK,G',h'.1⟩)
   .intro i δ lo hi hz;cases i with
    |none=>exact absurd rfl hi|some j=>
     simp only[zs]at hz;split at hz
     .exact .inr ⟨q,rfl,_,hz⟩
     .exact .inl hz
   .intro i i' δ lo M B m;have zn:∀j δ lo M,zs (Y j)=Y (δ,lo)->zs W=Y (δ,M)->False:=by
     intro j δ lo M B m;simp only[zs,tl,Prod.mk.injEq]at m;obtain⟨rfl,_⟩:=m;simp only[zs]at B;split at B
     .exact J (u.o3 _ _ _ _ _ _ _ B h4).1
     .have:=(u.o3 _ _ _ _ _ _ _ B h4).2;cases this
    cases i with
    |none=>cases i' with
     |none=>rfl|some j=>exact(zn j _ _ _ m B).elim
    |some j=>cases i' with
     |none=>exact(zn j _ _ _ B m).elim|some j'=>
      simp only[zs]at B m;split at B<;>split at m
      .have:=(u.o3 _ _ _ _ _ _ _ B m).2;simp only[tl]at this;rw[show j=j' by omega]
      .exact absurd (u.o3 _ _ _ _ _ _ _ B m).1 J
      .exact absurd (u.o3 _ _ _ _ _ _ _ m B).1 J
      .exact(u.o3 _ _ _ _ _ _ _ B m).2
   .simp only[List.size_toArray,b6,bk,C!,I!];omega
   .intro F' w' N H R i y E;have hco:∀j,g+n<=j->cs[j]?=Y y->i=j->∃v,c[j]?=Y v/\BW w' F' (x7 a G) (G s (Y j)) y v:=by
     intro j hj hc hij;obtain⟨v,η,ζ⟩:=h5 j y hc;exact⟨v,η,ζ.kept N (λk lo A=>H k (λe=>by have:=(u.o3 _ _ _ _ _ _ _ (e▸A) h4).2;cases this)) R⟩
    rcases F! i g with l|hge
    .rw[ci,C? an,D_,ac l]at E;obtain⟨v,η,ζ⟩:=h5 i y E;refine⟨v,?_,?_⟩
     .rw[D',ci,C? an,D_,ac l,J_];exact η
     .simp only[zs,ae (show¬(g<=i/\i<g+n)by omega)];exact ζ.kept N (λk lo A=>H k (λe=>by have:=(u.o3 _ _ _ _ _ _ _ (e▸A) h4).2;cases this)) R
    .rcases F! i (g+n)with l|L
     .rw[ci,D! an,C? an]at E;simp only[bk]at E;rw[H_ U]at E;obtain⟨v,η,ζ⟩:=e3 (i-g) y E;refine⟨v,?_,?_⟩
      .rw[D',ci,D! an,C? an];simp only[bk,I!];rw[H_ U,J_];exact η
      .simp only[zs,ac (show g<=i/\i<g+n by omega)];exact ζ.kept N (λk lo A=>H k (λe=>J (u.o3 _ _ _ _ _ _ _ (e▸A) h4).1)) R
     .rw[D! an]at E;simp only[b6,bk]at E;rw[H_ U,κ,B?,show g+n+(i-(g+n))=i from U]at E;obtain⟨v,η,ζ⟩:=hco i L E rfl;refine⟨v,?_,?_⟩
      .rw[D',D! an];simp only[b6,bk,I!];rw[H_ U,m,κ,B?,show g+n+(i-(g+n))=i from U,J_];exact η
      .simp only[zs,ae (show¬(g<=i/\i<g+n)by omega)];exact ζ
   .intro x C;rcases A!.1 C with C|C
    .rcases A!.1 C with C|C
     .exact ε x (y_ C)
     .exact hwq x C
    .exact ε x (y! C)
   .intro k tx htx A;have hkl:k<cs.length:=by
     have:=(C_.1 A).1;simp only[b6,bk,C!]at this;omega
    rw [D'];rcases F! k g with l|hge
    .rw[ci,C? an,D? l]at A;refine .inr ⟨A,?_⟩;rw[ci,C? an,D? l,J_]
    .rcases F! k (g+n)with l|L
     .rw[ci,D! an,C? an]at A;rw[Bool.or_eq_true]at D;rcases D with D|D
      .have:=E_.1 D _ (w! A);simp[htx]at this
      .exact .inl (AB.noX_all D)
     .rw[D! an]at A;simp only[b6,bk,B?]at A;rw[H_ U,κ,show g+n+(k-(g+n))=k from U]at A;refine .inr ⟨A,?_⟩;rw[D! an];simp only[b6,bk,I!,B?];rw[H_ U,m,κ,show g+n+(k-(g+n))=k from U,J_]
 .exact h.elim
def Lk(a:Act)(w:World)(G:Bi)(d:Nat)(Z:Dt):Bi:=λp=>if p=d then Z 0 else if a.tmps.size+w.heap.size<=p then(λi=>match i with|some j=>Z (p-a.tmps.size+1) (Y j)|none=>W)else G p
variable{Z:Dt}{p:Nat}
theorem P1{a:Act}{w:World}{G:Bi}{d:Nat}{b lo:Nat}(h:Lk a w G d Z p i=Y (b,lo)):(p=d/\Z 0 i=Y (b,lo))\/(p≠d/\a.tmps.size+w.heap.size<=p/\Z (p-a.tmps.size+1) i=Y (b,lo))\/(p≠d/\¬a.tmps.size+w.heap.size<=p/\G p i=Y (b,lo)):=by
 simp [Lk]at h
 grind
theorem AO.quiet2{w':World}(h:AO F0 w0 O a w G)(hb:Below w.heap.size w w')(d:Nat)(hd:d<a.tmps.size)(e:EV)(v:Value)
  (Z:Dt)(L:∀q i b lo,Z q i=Y (b,lo)->w.heap.size<=b/\b<w'.heap.size)(C:KF Z)
  (I:(∃cs,e=.bx cs)\/(∃n es,e=.xo n es)->O.ij d=X)
  (N:Bt w w' (AW w0.heap.size F0 G) (AW w0.heap.size F0 (Lk a w G d Z))->AN (a.put (Y d) v) w' (AW w0.heap.size F0 (Lk a w G d Z)) (Lk a w G d Z) ((d,e)::O) d e v)(ε:e.WF):
  AO F0 w0 ((d,e)::O) (a.put (Y d) v) w' (Lk a w G d Z):=by
 have θ:Bt w w' (AW w0.heap.size F0 G) (AW w0.heap.size F0 (Lk a w G d Z)):=by
  intro b o u hc hf;have hlt:b<w.heap.size:=World.block_lt_of_cell? w ⟨b,o,W⟩ hc;refine⟨by rw[hb.cell (p:=⟨b,o,W⟩) hlt];exact hc,λκ=>hf ?_⟩;rcases κ with h|⟨s,i,lo,R,δ⟩
  .exact .inl h
  .rcases P1 R with⟨_,e⟩|⟨_,_,e⟩|⟨_,_,e⟩
   .grind
   .grind
   .exact .inr ⟨s,i,lo,e,δ⟩
 have η:∀s,s<a.tmps.size->s≠d->Lk a w G d Z s=G s:=by
  grind [Lk]
 refine ⟨?_,?_,h.below.go hb,g!,?_,?_,?_⟩
 .intro s i s' i' b lo lo' R δ;rcases P1 R with⟨e1,A⟩|⟨e1,e3,A⟩|⟨e1,e3,A⟩<;>rcases P1 δ with⟨e2,B⟩|⟨e2,e4,B⟩|⟨e2,e4,B⟩
  .exact⟨by rw[e1,e2],(C _ _ _ _ _ _ _ A B).2⟩
  .have:=(C _ _ _ _ _ _ _ A B).1;omega
  .have:=(L _ _ _ _ A).1;have:=(h.lt _ _ _ _ B).1;omega
  .have:=(C _ _ _ _ _ _ _ A B).1;omega
  .obtain⟨g1,g2⟩:=C _ _ _ _ _ _ _ A B;exact⟨U,g2⟩
  .have:=(L _ _ _ _ A).1;have:=(h.lt _ _ _ _ B).1;omega
  .have:=(L _ _ _ _ B).1;have:=(h.lt _ _ _ _ A).1;omega
  .have:=(L _ _ _ _ B).1;have:=(h.lt _ _ _ _ A).1;omega
  .exact h.o3 _ _ _ _ _ _ _ A B
 .intro s i b lo R;rcases P1 R with⟨_,f⟩|⟨_,_,f⟩|⟨_,_,f⟩
  .have:=L _ _ _ _ f;exact⟨this.2,.inl (G! h.below.size this.1)⟩
  .have:=L _ _ _ _ f;exact⟨this.2,.inl (G! h.below.size this.1)⟩
  .have:=h.lt _ _ _ _ f;exact⟨G_ this.1 hb.size,this.2⟩
 .intro s M;rw[Bu]at M;rw[AB.eb,ae U];exact h.dom s M
 .intro s M;rw[Bu]at M;rw[AB.eb];by_cases H:d=s
  .subst H;rw[ac rfl,C2 _ _ _ hd];exact N θ
  .rw[ae H,AZ _ _ _ _ H];refine AN.kept' θ (λi=>by rw[η s M (λe=>H e.symm)]) (λi b lo η=>hb.block b (h.lt s i b lo η).1) (λi g lo j hg=>?_) (λ_=>BY.spot (h.Aa5 hb)) (λq i k D⟨p,E⟩=>?_) (λq ζ D⟨cs,m⟩=>?_) (λq i D⟨p,E⟩=>?_) (h.slots s M)
   .have:=(h.lt _ _ _ _ hg).1;simp[x7,Bu,Lk];rw[ae U,ae U]
   .by_cases l:d=q
    .subst l;exact absurd D (AB.Abj d O (I (.inl (AB.AaK E))) s i k)
    .rw[AB.Aan l]at E;exact⟨⟨p,E⟩,h.nh ⟨p,E⟩ (AZ _ _ _ _ l) (λj b _ J=>hb.block b (h.lt _ _ _ _ J).1)⟩
   .rw[AB.eb]at m;by_cases l:d=q
    .subst l;rw[ac rfl]at m;exact absurd D (AB.AaT d O (I (.inl ⟨cs,m⟩)) s ζ)
    .rw[ae l]at m;exact⟨⟨cs,m⟩,AZ _ _ _ _ l⟩
   .by_cases l:d=q
    .subst l;have hx:=AB.Aa0 d O (I (AB.AaY E)) s;rcases D with D|⟨c,D⟩
     .exact absurd D (hx.1 i)
     .exact absurd D (hx.2 i c)
    .rw[AB.Aak l]at E;exact⟨⟨p,E⟩,h.xv ⟨p,E⟩ (AZ _ _ _ _ l) (λb J=>hb.block b (h.lt _ _ _ _ J).1)⟩
 .intro s;rw[AB.eb];split
  .exact ε
  .exact h.wf s
theorem lz(m:AO F0 w0 O a w G)(hd:d<a.tmps.size)(A:o.dst=Y d){xs:Array Operand}{ys:List AH}(C:o.op=.call {callee:=.value (.func f),args:=xs,argTypes:=ats})(D:Bq xs.toList ys=X)(h:(AE.Aa7 f ys).wp (AV P) O (Y d) K)
  {next:Act->World->Prop}(N:∀e env' a' w',K e env'->SC a d a'->B9 F0 w0 ((d,e)::env') a' w'->next a' w'):o.wp P a w next Q:=by
 simp only[AE.wp]at h;cases l:vals O ys with
 |none=>rw[l]at h;exact h.elim|some ts=>
  rw [l]at h;simp only[Ay]at h;obtain⟨cs,ε,κ⟩:=h;have hv:=GT m D l;have B:(execOp a.eval o).run P w=(callFunc f (xs.map a.eval)).run P w:=by simp[execOp,C,resolve,Act.eval,Deferred.ofValue,invoke]
  obtain ⟨η,ζ⟩:=(ε.to0 rfl) hv.2;obtain⟨M,δ⟩:=ζ (AW w0.heap.size F0 G) w (xs.map a.eval) l' m.below.now;unfold Oper.wp;rw[B,FG η _,Oper.upon_enter];refine δ.mono ?_;rintro e w' ⟨v,rfl,hb,Z,⟨vs,rfl,r1,r2⟩,r3,r5,I⟩;simp only[A];refine N _ _ _ _ (κ M) ⟨_,rfl⟩ ⟨_,m.quiet2 hb d hd (.oag cs) _ Z (λq i b lo L=>⟨(I q i b lo L).2,(I q i b lo L).1⟩) r3 V (λR=>?_) M⟩;simp only[AN];refine⟨vs,rfl,r1,λi c E=>?_⟩;obtain⟨x,k1,k2,_⟩:=r2 i c E;refine⟨x,k1,?_⟩;have H:Lk a w G d Z d (Y i)=Z 0 (Y i):=by simp[Lk]
  rw [H];refine(k2.kept (λb o u E hf=>⟨E,λk=>hf ?_⟩) (λ_ _ _=>rfl) BY.rfl').x7 (λg lo j θ=>?_)
  .rcases k with k|⟨p,j,lo,e1,J⟩
   .exact .inl ⟨G_ k.1 m.below.size,.inl k⟩
   .rcases P1 e1 with⟨_,e⟩|⟨_,_,e⟩|⟨_,_,e⟩
    .exact .inr ⟨_,_,lo,e,J⟩
    .exact .inr ⟨_,_,lo,e,J⟩
    .exact .inl ⟨(m.lt _ _ _ _ e).1,.inr ⟨p,j,lo,e,J⟩⟩
  .have:=(I _ _ _ _ θ).2;simp only[x7,Bu,Lk,Dt.x7];rw[ae U,ac U];simp only[H?]
theorem iN(C:AO F0 w0 O a w G)(hd:d<a.tmps.size)(l:o.dst=Y d){xs:Array Operand}{ys:List AH}(D:o.op=.call {callee:=.value (.func f),args:=xs,argTypes:=ats})(E:Bq xs.toList ys=X)(h:(AE.AaE f ys).wp (AV P) O (Y d) K)
  {next:Act->World->Prop}(ε:∀e env' a' w',K e env'->SC a d a'->B9 F0 w0 ((d,e)::env') a' w'->next a' w'):o.wp P a w next Q:=by
 simp only[AE.wp]at h;cases k:vals O ys with
 |none=>rw[k]at h;exact h.elim|some ts=>
  rw [k]at h;simp only[Ay]at h;obtain⟨cs,δ,hX,hK⟩:=h;have hv:=GT C E k;have u:(execOp a.eval o).run P w=(callFunc f (xs.map a.eval)).run P w:=by simp[execOp,D,resolve,Act.eval,Deferred.ofValue,invoke]
  obtain ⟨h2,h3⟩:=(δ.to0 rfl) hv.2;obtain⟨R,h5⟩:=h3 (AW w0.heap.size F0 G) w (xs.map a.eval) l' C.below.now;unfold Oper.wp;rw[u,FG h2 _,Oper.upon_enter];refine h5.mono ?_;rintro e w' ⟨v,rfl,hb,Z,⟨vs,rfl,r1,r2⟩,r3,r5,θ⟩;simp only[l]
  let B:Dt:=λq i=>(Z q i).map λp=>(p.1,0)
  have J:∀{q i b lo},B q i=Y (b,lo)->∃g,Z q i=Y (b,g)/\lo=0:=by
   grind [J!]
  have η:(EV.oag (cs.map AR.toX)).WF:=by
   intro c m;obtain⟨M,j,rfl⟩:=List.mem_map.1 m;obtain⟨n,es,e0,_⟩:=hX M j;have:=R _ j;rw[e0]at this|-;exact this
  refine ε _ _ _ _ (hK R) ⟨_,rfl⟩ ⟨_,C.quiet2 hb d hd (.oag (cs.map AR.toX)) _ B (λq i b lo A=>?_) (λq i q' i' b lo g H I=>?_) V (λκ=>?_) η⟩
  .obtain⟨g,A,_⟩:=J A;exact⟨(θ q i b g A).2,(θ q i b g A).1⟩
  .obtain⟨_,H,_⟩:=J H;obtain⟨_,I,_⟩:=J I;exact r3 _ _ _ _ _ _ _ H I
  simp only[AN];refine⟨vs,rfl,by simpa using r1,λi c m=>?_⟩;rw[E']at m;simp only[J!]at m;obtain⟨M,j,rfl⟩:=m;obtain⟨n,es,rfl,N⟩:=hX M (w! j);obtain⟨x,k1,k2,_⟩:=r2 i _ j;refine⟨x,k1,?_⟩;have L:Lk a w G d B d (Y i)=B 0 (Y i):=by simp[Lk]
  rw [L];have ζ:CD w' _ (Z 0 (Y i)) (.list n es) x:=k2;obtain⟨us,m1,m2,m3,m4⟩:=ζ;exact⟨us,⟨_,m1,rfl⟩,HN _ (OO _ N) _ m2,m3,m4⟩
def cj(P:Program)(t:TypeId):Bool:=match P.underlying t with|some (.slice _)=>X|_=>T
theorem qQ(h:Tm x=X):x=.const (.slice W 0 0):=by
 cases x<;>simp[Tm]at h
 grind [Ko]
variable{t':TypeId}
theorem bV(B:AO F0 w0 O a w G)(hd:d<a.tmps.size){x z:Operand}(k:o.op=.binOp .eql t x z t')(C:Tm z=X)(l:cj P t=X){j:Option Addr}{n cap:Nat}(m:a.eval x=.slice j n cap)(h:K (.tv (.bool j.isNone)) O):BI P F0 w0 a w o d K:=by
 have u:=qQ C;subst u;unfold cj at l;split at l
 .rename_i e D;refine Cx B hd (v:=.bool j.isNone) (t:=.bool j.isNone) ?_ rfl trivial h;have he:∀d,(Op.equalIn (d+1) t (.slice j n cap) (.slice W 0 0)).run P w=.ok j.isNone w:=by
   intro d;cases j<;>simp[Op.equalIn,run_underlying D]
  have A:(Op.equalIn 10000 t (.slice j n cap) (.slice W 0 0)).run P w=.ok j.isNone w:=he 9999;have H:(eqGuard .eql t x (.const (.slice W 0 0)) (.slice j n cap) (.slice W 0 0)).run P w=.ok () w:=by
   simp [eqGuard]
  have hb:(binOp .eql t (.slice j n cap) (.slice W 0 0)).run P w=.ok (.bool j.isNone) w:=by
   have e:(binOp .eql t (.slice j n cap) (.slice W 0 0)).run P w=((Op.equalIn 10000 t (.slice j n cap) (.slice W 0 0)).run P w).andThen λb w'=>.ok (.bool b) w':=by
    simp only[binOp];simp[Op.equal,Op.maxDepth]
   rw [e,A];rfl
  have I:a.eval (.const (.slice W 0 0))=.slice W 0 0:=rfl;have J:∀(g b:Sem Unit)(r:Sem Value),g.run P w=.ok () w->r.run P w=.ok (.bool j.isNone) w->(do let r <-(do g;r:Sem Value);pure (Next.value r):Sem Next).run P w=.ok (.value (.bool j.isNone)) w:=by
   intro g b r m E;simp[m,E]
  simp only[execOp,k,m,I];exact J _ (pure ()) _ H hb
 .cases l
theorem rx(k:AO F0 w0 O a w G)(hd:d<a.tmps.size){x z:Operand}(g:o.op=.binOp .eql t x z t')(j:AK x y=X)(m:Tm z=X)(u:cj P t=X)(h:(AE.isn y).wp S O (Y d) K):BI P F0 w0 a w o d K:=by
 simp only[AE.wp]at h;split at h
 next n es l=>have hv:=(BD k j l).1;simp only[A1]at hv;obtain⟨C,cap,A,D,B,E⟩:=hv;exact bV k hd g m u A (h _ λhb=>B (by simpa using hb))
 next l=>have hv:=(BD k j l).1;simp only[A1]at hv;exact bV k hd g m u hv h
 .exact h.elim
end
end Go.Sf
namespace Go.Sf
open Go.RowKit (Below)
section
variable{P:Program}{S:FuncId->Fq->A9->Prop}{F0:Nat->Nat->Prop}{w0:W0}{O:AB}{a:Act}{w:World}{G:Bi}{d:Nat}{o:Oper}{K:EV->AB->Prop}
variable{x:Operand}{y:AH}{t:TypeId}
theorem ry(A:AO F0 w0 O a w G)(hd:d<a.tmps.size)(B:o.op=.load t x)(C:AK x y=X)(J:CL P t=Y T)(h:(AE.lac y).wp S O (Y d) K):BI P F0 w0 a w o d K:=by
 simp [AE.wp]at h;split at h
 .rename_i s g j;have M:y.place O=Y (s,g):=by
   cases y with
   |c t=>simp[AH.ev]at j|s n=>simp[AH.ev]at j;simp[AH.place,j]
  split at h
  .rename_i p L;obtain⟨n,es⟩:=p;obtain⟨cs,H,N⟩:=AB.tg L;obtain⟨b,m,u⟩:=IC A C M H;have hr:=At A H V;simp only[AN]at hr;obtain⟨ε,c,θ,D,I,κ,η,R⟩:=hr;rw[m]at D;simp at D;subst D;obtain⟨v,hv,ζ⟩:=R g _ N;have k:w.cell? ⟨b,g,W⟩=Y v:=by rw[cell_of_row w b g c θ (0,0) I];exact hv
   refine ⟨v,w,by simp[execOp,B,u,Instr.loadAt,Instr.sureAddr,loadVar,Cz J,k],_,_,h,_,A.quiet (Below.refl _ _) d hd (.la s (Y g)) _ (λ_=>W) V V V ?_ trivial⟩;simp only[AN];rintro⟨δ,E⟩;have l:=AB.t1 V V E;exact A.xv ⟨_,l.2⟩ (AZ _ _ _ _ l.1) (λ_ _=>rfl) _ ⟨b,c,θ,m,I,hv⟩
  .exact h.elim
 .exact h.elim
theorem rn(A:AO F0 w0 O a w G)(hd:d<a.tmps.size)(C:o.op=.load t x)(D:AK x y=X)(N:CL P t=Y T)(h:(AE.ctk y).wp S O (Y d) K):BI P F0 w0 a w o d K:=by
 simp [AE.wp]at h;split at h
 .rename_i ζ s j E R;simp at E;subst E;split at h
  .rename_i cs B;split at h
   .rename_i n es H;obtain⟨m,I⟩:=h;obtain⟨b,k,l⟩:=IC A D R B;have hr:=At A B V;simp only[AN]at hr;obtain⟨ε,c,θ,u,J,κ,η,L⟩:=hr;rw[k]at u;simp at u;subst u;obtain⟨y,M,_⟩:=L j _ H;have g:w.cell? ⟨b,j,W⟩=Y y:=by rw[cell_of_row w b j c θ (0,0) J];exact M
    exact ⟨y,w,by simp[execOp,C,l,Instr.loadAt,Instr.sureAddr,loadVar,Cz N,g],_,_,I,A.Aa4 B H hd k g (.inr (.inl ⟨n,es,rfl,rfl,rfl,m⟩))⟩
   .rename_i es H;obtain⟨m,I⟩:=h;obtain⟨b,k,l⟩:=IC A D R B;have hr:=At A B V;simp only[AN]at hr;obtain⟨ε,c,θ,u,J,κ,η,L⟩:=hr;rw[k]at u;simp at u;subst u;obtain⟨y,M,_⟩:=L j _ H;have g:w.cell? ⟨b,j,W⟩=Y y:=by rw[cell_of_row w b j c θ (0,0) J];exact M
    exact ⟨y,w,by simp[execOp,C,l,Instr.loadAt,Instr.sureAddr,loadVar,Cz N,g],_,_,I,A.Aa4 B H hd k g (.inr (.inr ⟨es,rfl,rfl,rfl,m⟩))⟩
   .exact h.elim
  .exact h.elim
 .exact h.elim
variable{q:Nat}
theorem rm(m:AO F0 w0 O a w G){x v:Operand}{x':AH}(hop:o.op=.store t x v)(hx:AK x x'=X)(hv:AK v (.s q)=X)(hn:DB P t=Y 1)(h:(AE.cpt x' q).wp S O W K):If P F0 w0 a w o K:=by
 simp [AE.wp]at h
 suffices key:∀(ζ:TV)(s g:Nat),x'.place O=Y (s,g)->O.get q≠.undef->(∀cs,O.get q≠.bx cs)->Et w (AW w0.heap.size F0 G) (x7 a G) (G q W) ζ (slot a q)->ζ.WF->∀cs,O.get s=.bx cs->O.noX s (Y g)=X->g<cs.length->K .undef ((s,.bx (cs.set g ⟨X,ζ⟩))::(q,.undef)::O)->If P F0 w0 a w o K by
  split at h
  .rename_i s g n es ε I;split at h
   next cs J=>have l:=At m I V;have u:=m.wf q;rw[I]at u;exact key (.xl n es) s g ε (by rw[I];simp) (by rw[I];simp) l u cs J h.1 h.2.1 h.2.2
   .exact h.elim
  .rename_i s g es ε I;split at h
   next cs J=>have l:=At m I V;have u:=m.wf q;rw[I]at u;exact key (.xn es) s g ε (by rw[I];simp) (by rw[I];simp) l u cs J h.1 h.2.1 h.2.2
   .exact h.elim
  .exact h.elim
 intro ζ s g ε hqu hqb l u cs J hno δ hK;obtain⟨b,hsl,hadr⟩:=IC m hx ε J;have hr:=At m J V;simp only[AN]at hr;obtain⟨η,c,θ,h1,h2,h3,h4,h5⟩:=hr;rw[hsl]at h1;simp at h1;subst h1;have hw:=m.wf s;rw[J]at hw;have C:q≠s:=λe=>hqb cs (by rw[e];exact J);have hvq:v=.tmp q:=by
  cases v<;>simp[AK]at hv;rw[hv]
 subst hvq;have N:(slot a q).oneCell'=X:=QM l;have D:(a.eval (.tmp q)).cells.toList=[slot a q]:=by
  have:a.eval (.tmp q)=slot a q:=rfl;rw[this,RB N]
 have hst:(execOp a.eval o).run P w=.ok .skip (w.setRow b (c.toList.take g++[slot a q]++c.toList.drop (g+1)).toArray):=by
  have E:=run_storeCells_at P b g θ [slot a q] 0 c w h2 an (by simpa using N);simp only[H!]at E;have hsz:(a.eval (.tmp q)).cells.size=1:=by rw[<-I!,D];rfl
  simp at E;simp[execOp,hop,hadr,Instr.storeAt,Instr.sureAddr,storeVar,CQ hn,hsz,D,E]
 let zs:Option Nat->Option (Nat×Nat):=λi=>match i with|none=>Y (b,0)|some j=>if j=g then G q W else G s (Y j)
 refine Exists.elim (m.AbP J hsl h2 (cs':=cs.set g ⟨X,ζ⟩) (c':=(c.toList.take g++[slot a q]++c.toList.drop (g+1)).toArray) (q:=Y q) v5 (λp ε=>by cases ε;exact m.lts hqu) (zs:=zs) rfl ?_ ?_ ?_ ?_ ?_ ?_) (λG' h'=>⟨_,hst,_,hK,G',h'.1⟩)
 .intro i η lo hi hz;cases i with
  |none=>exact absurd rfl hi|some j=>
   simp [zs]at hz;split at hz
   .exact .inr ⟨q,rfl,W,hz⟩
   .exact .inl hz
 .intro i i' η lo R A B;have zn:∀j η lo R,zs (Y j)=Y (η,lo)->zs W=Y (η,R)->False:=by
   intro j η lo R A B;simp[zs]at B;obtain⟨rfl,_⟩:=B;simp[zs]at A;split at A
   .exact C (m.o3 _ _ _ _ _ _ _ A h4).1
   .have:=(m.o3 _ _ _ _ _ _ _ A h4).2;cases this
  cases i with
  |none=>cases i' with
   |none=>rfl|some j=>exact(zn j _ _ _ B A).elim
  |some j=>cases i' with
   |none=>exact(zn j _ _ _ A B).elim|some j'=>
    simp [zs]at A B;split at A<;>split at B
    next e3 e4=>rw[e3,e4]
    .exact absurd (m.o3 _ _ _ _ _ _ _ A B).1 C
    .exact absurd (m.o3 _ _ _ _ _ _ _ B A).1 C
    .exact(m.o3 _ _ _ _ _ _ _ A B).2
 .simp;omega
 .intro F' w' hag M hrs i y H;rw[x_]at H;by_cases hi:g=i
  .subst hi;rw[ac rfl,ac δ]at H;simp at H;subst H;refine⟨slot a q,?_,?_⟩
   .rw[D',ci,D! an];simp;rw[H_ U,Nat.sub_self];rfl
   .simp[BW,zs];exact l.kept hag (λk lo L=>M k (λe=>C (m.o3 _ _ _ _ _ _ _ (e▸L) h4).1)) hrs
  .rw[ae hi]at H;obtain⟨vv,A,B⟩:=h5 i y H;refine⟨vv,?_,?_⟩
   .rw[D'];rcases F! i g with κ|hge
    .rw[ci,C? an,D? κ];simpa using A
    .rw[D! an];simp only[b6,bk,I!,E!];rw[H_ U,B?,show g+1+(i-(g+1))=i from U];simpa using A
   .have hi':¬i=g:=λe=>hi e.symm;simp[zs];rw[ae hi'];exact B.kept hag (λk lo L=>M k (λe=>by have:=(m.o3 _ _ _ _ _ _ _ (e▸L) h4).2;cases this)) hrs
 .intro y H;rcases x! H with H|rfl
  .exact hw y H
  .exact u
 .intro k tx htx L;rw[x_]at L;by_cases hi:g=k
  .subst hi;exact .inl hno
  .rw[ae hi]at L;refine .inr ⟨L,?_⟩;have hkc:k<c.size:=by
    have:=(C_.1 L).1;omega
   rw [D'];rcases F! k g with κ|hge
   .rw[ci,C? an,D? κ,J_]
   .rw[D! an];simp only[b6,bk,I!,E!];rw[H_ U,B?,show g+1+(k-(g+1))=k from U,J_]
variable{s n:Nat}
theorem rq(B:AO F0 w0 O a w G)(hd:d<a.tmps.size){hi:Operand}{E:AH}(hop:o.op=.slice t (.tmp s) W (Y hi) W)(hh:AK hi E=X)(D:KI P t=Y n)(h:(AE.cut n s E).wp S O (Y d) K):BI P F0 w0 a w o d K:=by
 simp [AE.wp]at h;split at h
 .rename_i d' m es k hb L hs hv;simp at L;subst L;obtain⟨⟨hm,η,ζ⟩,h0,h2,hK⟩:=h;subst hm;have hr:=At B hs V;have hw:=B.wf s;rw[hs]at hw;simp[AN]at hr;obtain⟨xs,⟨z0,k1,k2⟩,k3,k4,k5⟩:=hr;have b2:=(BD B hh hv).1;simp[A1]at b2;unfold KI at D;split at D
  .rename_i e hu;obtain⟨j,rfl⟩:∃j:Nat,hb=j:=⟨hb.toNat,U⟩;simp at hK;have θ:j<=es.length:=U
   have hlx:=k1.1;have key:∀(δ:Option Addr)(cap:Nat),slot a s=.slice δ es.length cap->es.length<=cap->(execOp a.eval o).run P w=.ok (.value (.slice (if cap=0 then δ else δ.map (·.add (0*m))) (j-0) (cap-0))) w:=by
    intro δ cap M N;have ε:=Ur (P:=P) (w:=w) (isS:=X) (lo:=W) (hi:=Y (a.eval hi)) (l:=0) (h:=(j:Int)) (len:=es.length) (cap:=cap) U U h2 N (.inl ⟨rfl,rfl⟩) (.inr ⟨k,by rw[b2]⟩);simp[execOp,hop,Instr.sliceAt,Instr.slice,run_underlying hu,show a.eval (.tmp s)=slot a s from rfl,M,ε,CQ D]
   have A:∀F' C env'(a':Act)(v:Value),Bt w w (AW w0.heap.size F0 G) F'->C d W=G s W->K3 w m v (es.take j).length (xs.take (j*m)) (G s W)->AN a' w F' C env' d (.xo m (es.take j)) v:=by
    intro F' C env' a' v u J H;simp only[AN];rw[J];refine⟨xs.take (j*m),H,?_,λe he=>k4 e (y_ he),λx H=>k5 x (y_ H)⟩;have hfl:∀(l:Fq)(j:Nat),(∀e∈l,e.cells.length=m)->(l.take j).flatMap TV.cells=(l.flatMap TV.cells).take (j*m):=by
     intro l
     induction l with
     |nil=>intro j _;simp|cons e l ih=>
      intro j R;cases j with
      |zero=>simp|succ j=>
       rw [List.take_succ_cons,w_,w_,ih j (λx H=>R x (by simp[H])),y?,R e V];have h1:(j+1)*m=m+j*m:=j!
       have h2:e.cells.take (m+j*m)=e.cells:=z_ (by rw[R e V];omega);rw[h1,h2,show m+j*m-m=j*m from U]
    grind [Bs,A7,bk]
   have κ:(EV.xo m (es.take j)).WF:=by
    simp only[EV.WF,TV.WF]at hw|-;refine⟨an,?_⟩;rw[B7]at hw|-;exact λt D=>hw.2 t (y_ D)
   have hjm:j*m<=es.length*m:=G? _ θ;rcases k1.2 with⟨M,N,e3⟩|⟨g,cap,cur,ty,M,N,e3,e4,e5,e6,e7⟩
   .have hes:es=[]:=w? N;subst hes;have hj:j=0:=by simpa using θ
    subst hj;refine⟨_,w,key W 0 (by simpa using M) V,_,_,hK,B.xgo hs hd ζ (z':=G s W) rfl rfl rfl (az _) (λ_ _ _=>rfl) (λb lo I=>⟨(B.lt _ _ _ _ I).1,.inr ⟨lo,I⟩⟩) V (λ_=>η) (λF' C env' a' u J _=>A F' C env' a' _ u J ?_) κ⟩;refine⟨W,⟨V,.inl ⟨V,V,rfl⟩⟩,?_⟩;rw[k2,e3]
   .refine⟨_,w,key _ _ M e3,_,_,hK,B.xgo hs hd ζ (z':=G s W) rfl rfl rfl (az _) (λ_ _ _=>rfl) (λb lo I=>⟨(B.lt _ _ _ _ I).1,.inr ⟨lo,I⟩⟩) V (λ_=>η) (λF' C env' a' u J _=>A F' C env' a' _ u J ?_) κ⟩;have R:(es.take j).length=j:=h?
    rw [R];refine⟨Y (g,j*m),⟨by rw[bk,hlx];omega,.inr ⟨g,cap,cur,ty,?_,N,U,e4,e5,?_,rfl⟩⟩,?_⟩
    .simp only[Nat.zero_mul,Nat.sub_zero,J',Addr.add_zero'];split<;>rfl
    .rw[<-e6,List.take_take,H_ hjm]
    .rw[k2,e7];rfl
  .cases D
 .exact h.elim
variable{v:Value}
theorem bi{F:Nat->Nat->Prop}{es:Fq}{xs:List Value}{z:Option (Nat×Nat)}(h:K3 w n v es.length xs z)(g:AQ w F (es.flatMap TV.cells) xs)(j:∀e∈es,e.cells.length=n)(k:∀x∈xs,x.oneCell'=X):A1 w (λ_ _=>False) (.list n es) v:=by
 obtain ⟨z0,m,_⟩:=h;refine CD.rep (z:=z0) ?_ (λ_ _ _ _ _ h=>h);simp[CD];exact⟨xs,m,A7 (λb o u l _=>⟨l,λh=>h⟩) _ _ g,j,k⟩
theorem Zb{F:Nat->Nat->Prop}:Bt w w F (λ_ _=>False):=λ_ _ _ g _=>⟨g,λh=>h⟩
variable{c:AR}
theorem uU(h:c.t.WF):c.Abq.WF:=by
 obtain ⟨_|_,t⟩:=c
 .exact h
 .cases t<;>exact h
variable{i:Option Nat}
theorem qU(j:AO F0 w0 O a w G){ρ:I5}{x:Value}(h:BW w (AW w0.heap.size F0 G) ρ (G s i) c x):A1 w (λ_ _=>False) c.Abq x:=by
 by_cases g:∃n es,c=⟨X,.xl n es⟩
 .obtain⟨n,es,rfl⟩:=g;simp[BW,Et]at h;obtain⟨xs,k,l,m,u⟩:=h;exact bi k l m u
 .have:c.Abq=c.t:=by
   obtain ⟨_|_,t⟩:=c
   .rfl
   .cases t<;>first|rfl|exact absurd ⟨_,_,rfl⟩ g
  rw [this];exact CR Zb _ _ (XH j h)
variable{b:Nat}
theorem eW(m:AO F0 w0 O a w G){cs:List AR}(A:O.get s=.bx cs)(k:slot a s=.pointer (Y ⟨b,0,W⟩))(g:Nat):Df w (λ_ _=>False) ((cs.drop g).map AR.Abq) b g:=by
 have hr:=At m A V;simp only[AN]at hr;obtain⟨E,c,θ,l,B,H,I,C⟩:=hr;rw[k]at l;simp at l;subst l;rw[Jk];intro i t u;simp[E',B?]at u;obtain⟨cell,j,rfl⟩:=u;obtain⟨x,D,hr⟩:=C _ cell j;exact⟨x,by rw[cell_of_row w b (g+i) c θ (0,0) B];exact D,λh=>h,Hj hr,qU m hr⟩
theorem eX{cs:List AR}(h:∀c∈cs,c.t.WF):TV.tc (cs.map AR.Abq):=by grind[B7,uU]
theorem qV(j:AO F0 w0 O a w G)(g:AK x y=X){t:TV}(h:y.AbC O=Y t):A1 w (λ_ _=>False) t (a.eval x)/\t.WF:=by
 unfold AH.AbC at h;split at h
 .rename_i p E;simp at h;subst h;obtain⟨u,C⟩:=P0 j g E
  grind [QW,bi]
 .have B:∀e,y.ev O=e->(∀t,e≠.tv t)->∃n,y=.s n/\x=.tmp n/\O.get n=e:=by
   intro e he A;cases y with
   |c t=>exact absurd he.symm (A t)|s n=>
    cases x<;>simp[AK]at g;subst g;exact⟨_,rfl,rfl,he⟩
  split at h
  next cs he=>simp at h;subst h;obtain⟨n,rfl,rfl,k⟩:=B _ he V;have hr:=At j k V;have m:=j.wf n;rw[k]at m;simp only[AN]at hr;obtain⟨b,c,θ,u,_⟩:=hr;refine⟨?_,eX m⟩;simp[A1];exact⟨b,0,u,by simpa using eW j k u 0⟩
  .rename_i q l he;split at h
   next cs k=>simp only[tl]at h;subst h;obtain⟨n,rfl,rfl,H⟩:=B _ he V;have hr:=At j H V;simp only[AN]at hr;obtain⟨b,u,C⟩:=hr ⟨cs,k⟩;have m:=j.wf q;rw[k]at m;refine⟨?_,eX (λc D=>m c (y! D))⟩;simp only[A1];exact⟨b,l,C,eW j k u l⟩
   .cases h
  .have:=BD j g (t:=t) h;exact⟨CR Zb _ _ this.1,this.2⟩
theorem al(j:AO F0 w0 O a w G):∀{xs:List Operand}{ys:List AH},Bq xs ys=X->∀{ts:Fq},Aax O ys=Y ts->AQ w (λ_ _=>False) ts (xs.map a.eval)/\TV.tc ts
 |[],[],_,ts,hv=>by simp[Aax]at hv;subst hv;exact⟨rfl,trivial⟩|[],_::_,g,_,_=>by simp[Bq]at g|_::_,[],g,_,_=>by simp[Bq]at g|x::xs,y::ys,g,ts,hv=>by
  simp [Bq]at g;simp[Aax]at hv;split at hv
  next t m u h=>simp at hv;subst hv;have k:=qV j g.1 u;have l:=al j g.2 h;exact⟨⟨_,_,rfl,k.1,l.1⟩,k.2,l.2⟩
  .cases hv
variable{r:A9}
theorem oc{w':World}{F F':Nat->Nat->Prop}{base:Nat}(g:r.Abu=X)(h:JL w' F base r v):JL w' F' base r v:=by
 cases r with
 |sh t=>exact Ul t g v h|tp ts=>obtain⟨vs,k,j⟩:=h;exact⟨vs,k,HN ts g _ j⟩
 |own t=>
  obtain ⟨z,k,j⟩:=h;refine⟨z,?_,j⟩;cases t<;>simp[A9.Abu]at g
  grind [CD,HN,OO]
 |_=>simp[A9.Abu]at g
theorem Wu(h:r.Abu=X):r.plain=X:=by
 cases r<;>first|rfl|(simp[A9.Abu]at h)
variable{f:FuncId}{ats:Array TypeId}{Q:Exit->Act->World->Prop}
theorem l5(l:AO F0 w0 O a w G)(hd:d<a.tmps.size)(j:o.dst=Y d){xs:Array Operand}{ys:List AH}(m:o.op=.call {callee:=.value (.func f),args:=xs,argTypes:=ats})(u:Bq xs.toList ys=X)(h:(AE.AaQ f ys).wp (AV P) O (Y d) K)
  {next:Act->World->Prop}(D:∀e env' a' w',K e env'->SC a d a'->B9 F0 w0 ((d,e)::env') a' w'->next a' w'):o.wp P a w next Q:=by
 simp [AE.wp]at h;cases g:Aax O ys with
 |none=>rw[g]at h;exact h.elim|some ts=>
  rw [g]at h;simp[Ay]at h;obtain⟨r,⟨E,A⟩,H⟩:=h;have hv:=al l u g;have k:(execOp a.eval o).run P w=(callFunc f (xs.map a.eval)).run P w:=by simp[execOp,m,resolve,Act.eval,Deferred.ofValue,invoke]
  obtain ⟨I,B⟩:=(E.to0 (Wu A)) hv.2;obtain⟨C,B⟩:=B (λ_ _=>False) w (xs.map a.eval) l' l.below.now;unfold Oper.wp;rw[k,FG I _,Oper.upon_enter];refine B.mono ?_;rintro e w' ⟨v,rfl,hb,hr⟩;simp[j];exact D _ _ _ _ (H C) ⟨_,rfl⟩ (l.called hd hb (Wu A) (oc A hr) C)
theorem ON:∀{g:List (Option AR)}{ts:Fq}{cs:List AR},Ew g ts=Y cs->cs.length=ts.length/\∀(i:Nat)(c:AR),cs[i]?=Y c->∃t,ts[i]?=Y t/\(c=⟨T,t⟩\/(t=.nil/\∃n,c=⟨X,.list n []⟩\/c=⟨X,.xl n []⟩\/c=⟨X,.xn []⟩))
 |[],[],cs,h=>by simp[Ew]at h;subst h;simp|[],_::_,cs,h=>by simp[Ew]at h|none::g,[],cs,h=>by simp[Ew]at h|some _::g,[],cs,h=>by simp[Ew]at h|none::g,t::ts,cs,h=>by
  simp [Ew]at h;split at h
  .rename_i cs' k;simp at h;subst h;obtain⟨l,m⟩:=ON k
   grind
  .cases h
 |some A::g,t::ts,cs,h=>by
  cases t<;>simp[Ew]at h<;>try cases h
  have key:∃cs' j,Ew g ts=Y cs'/\cs=j::cs'/\∃n,j=⟨X,.list n []⟩\/j=⟨X,.xl n []⟩\/j=⟨X,.xn []⟩:=by
   grind
  obtain ⟨cs',j,k,rfl,u⟩:=key;obtain⟨l,m⟩:=ON k
  grind
theorem o8(E:AO F0 w0 O a w G)(hd:d<a.tmps.size){H:List (Option AR)}(k:o.op=.box t x)(l:AK x y=X)(h:(AE.Abh H y).wp S O (Y d) K):BI P F0 w0 a w o d K:=by
 simp [AE.wp]at h;split at h
 .rename_i u ζ hv j;simp at j;subst j;cases hb:Ew H u.cells with
  |none=>rw[hb]at h;exact h.elim|some cs=>
   rw [hb]at h;simp[Ay]at h;obtain⟨B,ε⟩:=h;obtain⟨κ,C⟩:=ON hb;have M:=BD E l hv;have A:=HO M.1;have N:=BX A.1;refine⟨_,_,by simp[execOp,k,Instr.box,newVar,newRow],_,_,ε,E.box hd B (c:=(a.eval x).cells) (θ:=t) (by rw[κ];simpa using N) (λF' m i c I=>?_) (λc I=>?_)⟩
   .obtain⟨η,L,D⟩:=C i c I;have R:i<u.cells.length:=(C_.1 L).1;have J:(a.eval x).cells.toList[i]?=Y ((a.eval x).cells.toList[i]' U):=x? U;have g:=((Bs _ _).1 A.1).2 i η _ L J;refine⟨(a.eval x).cells.toList[i]' U,by rw[<-J_];exact J,?_⟩;rcases D with rfl|⟨rfl,n,rfl|rfl|rfl⟩
    .exact⟨CR m _ _ g,A.2 _ (List.getElem_mem _)⟩
    .simp[A1]at g;simp only[BW,Et,CD];exact⟨[],⟨V,.inl ⟨g,rfl,rfl⟩⟩,rfl,V,V⟩
    .simp[A1]at g;simp only[BW,Et];exact⟨[],⟨W,⟨V,.inl ⟨g,rfl,rfl⟩⟩,rfl⟩,rfl,V,V⟩
    .simp[A1]at g;simp[BW,Et];exact⟨[],⟨W,⟨V,.inl ⟨g,rfl,rfl⟩⟩,rfl⟩,V,V⟩
   grind [C',B7,Iy,w!,TV.WF,TV.tc]
 .exact h.elim
theorem Z1(k:AO F0 w0 O a w G):∀{i:Nat}{xs:List Operand}{ys:List AH},Bq xs ys=X->∀{ts:Fq},JQ O i ys=Y ts->(∀x,xs[i]?=Y x->(a.eval x).oneCell'=X)->AQ w (AW w0.heap.size F0 G) ts (xs.map a.eval)/\TV.tc ts
 |i,[],[],_,ts,hv,_=>by cases i<;>simp[JQ]at hv<;>subst hv<;>exact⟨rfl,trivial⟩
 |_,[],_::_,g,_,_,_=>by simp[Bq]at g|_,_::_,[],g,_,_,_=>by simp[Bq]at g|0,x::xs,y::ys,g,ts,hv,ho=>by
  simp [Bq]at g;simp[JQ]at hv;split at hv
  next l h=>simp at hv;subst hv;have j:=GT k g.2 h;exact⟨⟨_,_,rfl,by simp[A1];exact ho x rfl,j.1⟩,trivial,j.2⟩
  .cases hv
 |i+1,x::xs,y::ys,g,ts,hv,ho=>by
  simp [Bq]at g;simp[JQ]at hv;split at hv
  next t l A h=>simp at hv;subst hv;have m:=BD k g.1 A;have j:=Z1 k g.2 h (λx u=>ho x i9);exact⟨⟨_,_,rfl,m.1,j.1⟩,m.2,j.2⟩
  .cases hv
noncomputable def B8(a:Act)(G:Bi)(s:Nat):Dt:=open Classical in λq i=>if q=0 then G s i else if∃k lo,G s k=Y (q-1,lo)then(match i with|some j=>G (a.tmps.size+(q-1)) (Y j)|none=>W)else W
theorem WB{a:Act}{G:Bi}{b lo:Nat}(h:B8 a G s q i=Y (b,lo)):(q=0/\G s i=Y (b,lo))\/(q≠0/\(∃k g,G s k=Y (q-1,g))/\G (a.tmps.size+(q-1)) i=Y (b,lo)):=by
 simp [B8]at h;split at h
 .grind
 .rename_i e;split at h
  .grind
  .cases h
theorem Db{a:Act}{G:Bi}:B8 a G s 0=G s:=by
 funext i;simp[B8]
theorem QY{a:Act}{G:Bi}{s g lo:Nat}{k:Option Nat}(h:G s k=Y (g,lo))(j:Nat):(B8 a G s).x7 g j=x7 a G g j:=by
 simp only[Dt.x7,B8,x7];rw[ae U,ac ⟨k,lo,b?⟩];rfl
theorem Kx(h:AO F0 w0 O a w G)(B:s<a.tmps.size):KF (B8 a G s):=by
 intro q i C D b lo m u A;rcases WB u with⟨k,g⟩|⟨k,_,g⟩<;>rcases WB A with⟨l,j⟩|⟨l,_,j⟩
 .exact⟨by rw[k,l],(h.o3 _ _ _ _ _ _ _ g j).2⟩
 .have:=(h.o3 _ _ _ _ _ _ _ g j).1;omega
 .have:=(h.o3 _ _ _ _ _ _ _ g j).1;omega
 .have:=h.o3 _ _ _ _ _ _ _ g j
  grind
theorem Ca{b lo:Nat}(l:B8 a G s q i=Y (b,lo)):∃p j,G p j=Y (b,lo)/\(p=s\/∃g k h,p=a.tmps.size+g/\G s k=Y (g,h)):=by grind[WB]
noncomputable def Ch(a:Act)(G:Bi)(s d:Nat)(Z:Dt):Bi:=open Classical in λp=>if p=d then Z 0 else if p=s then λ_=>W else
 if a.tmps.size<=p/\∃k lo,Z 0 k=Y (p-a.tmps.size,lo)then(λi=>match i with|some j=>Z (p-a.tmps.size+1) (Y j)|none=>W)else
 if a.tmps.size<=p/\∃k lo,G s k=Y (p-a.tmps.size,lo)then λ_=>W else G p
variable{Z:Dt}{p:Nat}
theorem Qw{a:Act}{G:Bi}{s d:Nat}{b lo:Nat}(h:Ch a G s d Z p i=Y (b,lo)):
  (p=d/\Z 0 i=Y (b,lo))\/(p≠d/\a.tmps.size<=p/\Z (p-a.tmps.size+1) i=Y (b,lo))\/(p≠d/\p≠s/\¬(a.tmps.size<=p/\∃k lo,G s k=Y (p-a.tmps.size,lo))/\G p i=Y (b,lo)):=by
 simp [Ch]at h;split at h
 next e=>exact .inl ⟨e,h⟩
 .rename_i e;split at h
  .cases h
  .rename_i g;split at h
   .rename_i l;cases i with
    |none=>cases h
    |some j=>exact .inr (.inl ⟨e,l.1,h⟩)
   .split at h
    .cases h
    next m=>exact .inr (.inr ⟨e,g,m,h⟩)
theorem AO.AaF(h:AO F0 w0 O a w G){s d:Nat}(hsz:s<a.tmps.size)(hd:d<a.tmps.size){w':World}(hb:HU (B8 a G s) w w'){env':AB}{a':Act}(ha':a'.tmps.size=a.tmps.size)(had:a'.defers=a.defers)
  (hzu:KF Z)(hz:∀q i b lo,Z q i=Y (b,lo)->b<w'.heap.size/\(w.heap.size<=b\/∃p j l,B8 a G s p j=Y (b,l)/\l<=lo))
  (hdom:∀p,a.tmps.size<=p->env'.get p=.undef)(hwf:∀p,(env'.get p).WF)
  (D:∀p,p≠d->p≠s->slot a' p=slot a p)(M:∀p,p≠d->p≠s->env'.get p=O.get p)(hgs:s≠d->env'.get s=.undef)
  (m:O.ij d=X\/(d=s/\(∃cs0,O.get s=.bx cs0)/\O.noX s W=X/\(∀n es,env'.get d≠.xo n es)/\slot a' s=slot a s)\/((∀cs,env'.get d≠.bx cs)/\∀n es,env'.get d≠.xo n es))
  (hrep:∀F',(∀b o,F' b o->(b<w.heap.size/\AW w0.heap.size F0 G b o/\¬ZF (B8 a G s) b o)\/ZF Z b o)->AN a' w' F' (Ch a G s d Z) env' d (env'.get d) (slot a' d)):
  AO F0 w0 env' a' w' (Ch a G s d Z)/\∀b o,AW w0.heap.size F0 (Ch a G s d Z) b o->(b<w.heap.size/\AW w0.heap.size F0 G b o/\¬ZF (B8 a G s) b o)\/ZF Z b o:=by
 have κ:∀p i b lo,p≠s->¬(a.tmps.size<=p/\∃k lo,G s k=Y (p-a.tmps.size,lo))->G p i=Y (b,lo)->∀q j l,B8 a G s q j≠Y (b,l):=by
  intro p i b lo I hn A q j l H;obtain⟨p',j',N,ε⟩:=Ca H;obtain⟨rfl,_⟩:=h.o3 _ _ _ _ _ _ _ A N;rcases ε with ε|⟨g,k,lo0,rfl,f3⟩
  .exact I ε
  .exact hn ⟨U,k,lo0,by rw[H?];exact f3⟩
 have hE:∀b o,b<w0.heap.size->ZF (B8 a G s) b o->w0.E b o:=λb o hlt⟨q,i,lo,A,H⟩=>by
  obtain ⟨p,j,N,_⟩:=Ca A;exact(h.lt _ _ _ _ N).2.elim (λe=>U) (λe=>e o H)
 have hforb:∀b o,AW w0.heap.size F0 (Ch a G s d Z) b o->(b<w0.heap.size/\F0 b o)\/(∃p i lo,p≠s/\¬(a.tmps.size<=p/\∃k lo,G s k=Y (p-a.tmps.size,lo))/\G p i=Y (b,lo)/\lo<=o)\/ZF Z b o:=by
  rintro b o (A|⟨p,i,lo,A,H⟩)
  .exact .inl A
  .rcases Qw A with⟨_,e⟩|⟨_,_,e⟩|⟨_,e1,e2,e3⟩
   .exact .inr (.inr ⟨_,i,lo,e,H⟩)
   .exact .inr (.inr ⟨_,i,lo,e,H⟩)
   grind
 have ζ:∀b o,AW w0.heap.size F0 (Ch a G s d Z) b o->(b<w.heap.size/\AW w0.heap.size F0 G b o/\¬ZF (B8 a G s) b o)\/ZF Z b o:=by
  intro b o hf;rcases hforb b o hf with A|⟨p,i,lo,e1,e0,e2,e3⟩|A
  .exact .inl ⟨G_ A.1 h.below.size,.inl A,λhz=>h.below.free _ _ _ (hE b o A.1 hz) A.2⟩
  .exact .inl ⟨(h.lt _ _ _ _ e2).1,.inr ⟨p,i,lo,e2,e3⟩,λ⟨q,j,l,N,_⟩=>κ p i b lo e1 e0 e2 q j l N⟩
  .exact .inr A
 have hag:Bt w w' (AW w0.heap.size F0 G) (AW w0.heap.size F0 (Ch a G s d Z)):=by
  intro b o u hc hF;have hlt:b<w.heap.size:=World.block_lt_of_cell? w ⟨b,o,W⟩ hc;have hnf:¬ZF (B8 a G s) b o:=λ⟨q,i,lo,A,H⟩=>by
   obtain ⟨p,j,N,_⟩:=Ca A;exact hF (.inr ⟨p,j,lo,N,H⟩)
  refine ⟨hb.cell b o u hnf hc,λhF'=>?_⟩;rcases ζ b o hF' with⟨_,A,_⟩|⟨q,i,lo,A,H⟩
  .exact hF A
  .rcases(hz q i b lo A).2 with h3|⟨p,j,l,h3,h4⟩
   .omega
   .exact hnf ⟨p,j,l,h3,G! h4 H⟩
 have hlow:∀p,p<a.tmps.size->p≠d->p≠s->Ch a G s d Z p=G p:=by
  intro p hp A H;simp[Ch];rw[ae A,ae H,ae (λe=>o?),ae (λe=>o?)]
 refine ⟨⟨?_,?_,?_,had.trans h.defers,λp hp=>hdom p U,?_,hwf⟩,ζ⟩
 .intro p i p' i' b lo l e1 e2;have mix:∀p i q i' lo l,p≠s->¬(a.tmps.size<=p/\∃k lo,G s k=Y (p-a.tmps.size,lo))->G p i=Y (b,lo)->Z q i'=Y (b,l)->False:=by
   intro p i q i' lo l hp hn N ε;rcases(hz q i' b l ε).2 with h3|⟨p2,j,R,h3,_⟩
   .have:=(h.lt _ _ _ _ N).1;omega
   .exact κ p i b lo hp hn N p2 j R h3
  rcases Qw e1 with⟨N,L⟩|⟨N,f3,L⟩|⟨_,f3,f4,L⟩<;>rcases Qw e2 with⟨ε,g2⟩|⟨ε,f5,g2⟩|⟨_,f5,f6,g2⟩
  .exact⟨by rw[N,ε],(hzu _ _ _ _ _ _ _ L g2).2⟩
  .have:=(hzu _ _ _ _ _ _ _ L g2).1;omega
  .exact(mix _ _ _ _ _ _ f5 f6 g2 L).elim
  .have:=(hzu _ _ _ _ _ _ _ L g2).1;omega
  .have:=hzu _ _ _ _ _ _ _ L g2;exact⟨U,this.2⟩
  .exact(mix _ _ _ _ _ _ f5 f6 g2 L).elim
  .exact(mix _ _ _ _ _ _ f3 f4 L g2).elim
  .exact(mix _ _ _ _ _ _ f3 f4 L g2).elim
  .exact h.o3 _ _ _ _ _ _ _ L g2
 .intro p i b lo e1;have znew:∀q i,Z q i=Y (b,lo)->b<w'.heap.size/\(w0.heap.size<=b\/∀o,lo<=o->w0.E b o):=by
   intro q i N;obtain⟨A,H⟩:=hz q i b lo N;refine⟨A,?_⟩;rcases H with H|⟨p,j,l,H,h3⟩
   .exact .inl (G! h.below.size H)
   .obtain⟨p',j',ε,_⟩:=Ca H;exact(h.lt _ _ _ _ ε).2.imp id (λe o ho=>e o (G! h3 ho))
  rcases Qw e1 with⟨_,L⟩|⟨_,_,L⟩|⟨_,_,_,L⟩
  .exact znew _ _ L
  .exact znew _ _ L
  .exact⟨G_ (h.lt _ _ _ _ L).1 hb.size,(h.lt _ _ _ _ L).2⟩
 .refine h.below.trans hb.os hb.tape hb.output hb.size (λk hk he=>hb.block k (G_ hk h.below.size) (λq i lo θ=>he lo (hE k lo hk ⟨q,i,lo,θ,az _⟩))) (λb o u hlt he hu=>hb.cell b o u (λθ=>he (hE b o hlt θ)) hu)
 .intro p hp;rw[ha']at hp;by_cases δ:p=d
  .subst δ;exact hrep _ ζ
  .by_cases I:p=s
   .subst I;rw[hgs δ];trivial
   .rw[M p δ I,D p δ I];have hn:¬(a.tmps.size<=p/\∃k lo,G s k=Y (p-a.tmps.size,lo)):=λe=>o?
    have hsame:∀r,(r≠d->r≠s)->r≠d->slot a' r=slot a r:=λr A H=>D r H (A H);refine AN.kept' hag (λi=>by rw[hlow p hp δ I]) (λi b lo θ=>hb.block b (h.lt _ _ _ _ θ).1 (λq j l=>κ p i b lo I hn θ q j l)) (λi g lo j hg=>?_) (λi g lo j b l hg hr=>?_) (λr i k hr⟨pp,J⟩=>?_) (λr off hr⟨cs2,hcs⟩=>?_) (λr i hr⟨pp,J⟩=>?_) (h.slots p hp)
    .show Ch a G s d Z (a'.tmps.size+g) (Y j)=G (a.tmps.size+g) (Y j);rw[ha'];simp[Ch];rw[ae U,ae U,ae,ae]
     .rintro⟨_,k,l,e⟩;rw[H?]at e;exact I (h.o3 _ _ _ _ _ _ _ hg e).1
     .rintro⟨_,k,l,e⟩;rw[H?]at e;rcases(hz _ _ _ _ e).2 with h3|⟨p2,j2,R,h3,_⟩
      .have:=(h.lt _ _ _ _ hg).1;omega
      .exact κ p i g lo I hn hg p2 j2 R h3
    .refine hb.block b (h.lt _ _ _ _ hr).1 (λq j2 R hzf=>?_);obtain⟨p',j',N,ε⟩:=Ca hzf;obtain⟨e1,_⟩:=h.o3 _ _ _ _ _ _ _ hr N;rcases ε with ε|⟨g',k,lo0,f3,f4⟩
     .omega
     .have:g=g':=U
      subst this;exact I (h.o3 _ _ _ _ _ _ _ hg f4).1
    .obtain⟨cs,A,H⟩:=AB.t2 J;by_cases B:r=d
     .subst B;rcases m with m|⟨rfl,_,m,_⟩|⟨m,_⟩
      .exact absurd hr (AB.Abj _ O m p i k)
      .exact absurd hr (AB.noX_nh m p i (.inl rfl) k)
      .exact absurd A (m cs)
     .by_cases C:r=s
      .subst C;rw[hgs B]at A;cases A
      .have h4:O.nat r i=Y pp:=by rw[<-J];exact(AB.Aaz (M r B C)).symm
       have hrl:r<a.tmps.size:=h.lts (by rw[<-M r B C,A];simp);exact⟨⟨pp,h4⟩,h.nh ⟨pp,h4⟩ (D r B C) (λj b _ η=>hb.block b (h.lt _ _ _ _ η).1 (λq j2 R=>κ r j b 0 C (λe=>o?) η q j2 R))⟩
    .by_cases B:r=d
     .subst B;rcases m with m|⟨e1,⟨cs0,e2⟩,_,_,hds⟩|⟨m,_⟩
      .exact absurd hr (AB.AaT _ O m p off)
      .exact⟨⟨cs0,by rw[e1];exact e2⟩,by rw[e1];exact hds⟩
      .exact absurd hcs (m cs2)
     .by_cases C:r=s
      .subst C;rw[hgs B]at hcs;cases hcs
      .exact⟨⟨cs2,by rw[<-M r B C];exact hcs⟩,D r B C⟩
    .by_cases B:r=d
     .subst B;obtain⟨n,es⟩:=pp;rcases m with m|⟨rfl,_,m,hxo,_⟩|⟨m,hxo⟩
      .have hx:=AB.Aa0 _ O m p;rcases hr with hr|⟨c,hr⟩
       .exact absurd hr (hx.1 i)
       .exact absurd hr (hx.2 i c)
      .cases i with
       |none=>exact absurd (AB.x5 J) (hxo n es)|some k=>
        have h5:=AB.noX_spec m p k (.inl rfl);rcases hr with hr|⟨c,hr⟩
        .exact absurd hr h5.1
        .exact absurd hr (h5.2 c)
      .cases i with
       |none=>exact absurd (AB.x5 J) (hxo n es)|some k=>
        obtain ⟨cs,A,_⟩:=AB.tg J;exact absurd A (m cs)
     .by_cases C:r=s
      .subst C;rw[AB.AaM (hgs B)]at J;cases J
      .have h4:O.wi r i=Y pp:=by rw[<-J];exact(AB.Aaq (M r B C)).symm
       have hrl:r<a.tmps.size:=by
        refine h.lts (λe=>?_);rw[AB.AaM e]at h4;cases h4
       exact ⟨⟨pp,h4⟩,h.xv ⟨pp,h4⟩ (D r B C) (λb η=>hb.block b (h.lt _ _ _ _ η).1 (λq j2 R=>κ r W b 0 C (λe=>o?) η q j2 R))⟩
theorem Ry{a a':Act}{G:Bi}{s d:Nat}(ha:a'.tmps.size=a.tmps.size)(hd:d<a.tmps.size)(l:s<a.tmps.size){k:Option Nat}{g lo:Nat}(h:Z 0 k=Y (g,lo))(j:Nat):x7 a' (Ch a G s d Z) g j=Z.x7 g j:=by
 show Ch a G s d Z (a'.tmps.size+g) (Y j)=Z.x7 g j;rw[ha];simp only[Ch,Dt.x7];rw[ae U,ae U,ac ⟨U,k,lo,by rw[H?];exact h⟩]
 grind
theorem AO.reboxed(h:AO F0 w0 O a w G){cs cs':List AR}(J:O.get s=.bx cs)(C:O.noX s W=X){w':World}(hb:HU (B8 a G s) w w')
  (l:O6 w' (λb o=>(b<w.heap.size/\AW w0.heap.size F0 G b o/\¬ZF (B8 a G s) b o)\/ZF Z b o) Z cs' (slot a s))
  (D:KF Z)(L:∀q i b lo,Z q i=Y (b,lo)->b<w'.heap.size/\(w.heap.size<=b\/∃p j m,B8 a G s p j=Y (b,m)/\m<=lo))(M:∀c∈cs',c.t.WF):
  AO F0 w0 ((s,.bx cs')::O) a w' (Ch a G s s Z)/\∀b o,AW w0.heap.size F0 (Ch a G s s Z) b o->(b<w.heap.size/\AW w0.heap.size F0 G b o/\¬ZF (B8 a G s) b o)\/ZF Z b o:=by
 have k:s<a.tmps.size:=Bw h J V;have A:AB.get ((s,EV.bx cs')::O) s=.bx cs':=by rw[AB.eb,ac rfl]
 refine h.AaF k k hb rfl rfl D L (λp N=>by rw[AB.eb,ae U];exact h.dom p N) (λp=>?_) (λ_ _ _=>rfl) (λp _ E=>by rw[AB.eb,ae (λe=>E e.symm)]) (λe=>absurd rfl e) (.inr (.inl ⟨rfl,⟨cs,J⟩,C,(λn es e=>by rw[A]at e;cases e),rfl⟩)) (λF' H=>?_)
 .rw[AB.eb];split
  .exact M
  .exact h.wf p
 .rw[A];obtain⟨b,c,θ,κ,η,ζ,δ,h5⟩:=l;have B:Ch a G s s Z s=Z 0:=by simp[Ch]
  simp only[AN];refine⟨b,c,θ,κ,η,ζ,by rw[B];exact δ,λi d hd=>?_⟩;obtain⟨x,e1,e2⟩:=h5 i d hd;refine⟨x,e1,?_⟩;rw[B];exact(e2.kept (λb o u R hf=>⟨R,λI=>hf (H b o I)⟩) (λ_ _ _=>rfl) BY.rfl').x7 (λg lo j ε=>Ry rfl k k ε j)
theorem lu(k:AO F0 w0 O a w G)(hd:d<a.tmps.size)(L:o.dst=Y d){xs:Array Operand}{ys:List AH}{i:Nat}(hop:o.op=.call {callee:=.value (.func f),args:=xs,argTypes:=ats})(M:Bq xs.toList ys=X)(h:(AE.AaA f ys i).wp (AV P) O (Y d) K)
  {next:Act->World->Prop}(hn:∀e env' a' w',K e env'->SC a d a'->B9 F0 w0 ((d,e)::env') a' w'->next a' w'):o.wp P a w next Q:=by
 simp only[AE.wp]at h;split at h
 .rename_i d' s R D;simp at R;subst R;split at h
  .rename_i cs ε;obtain⟨⟨hno,hds⟩,h⟩:=h;cases H:JQ O i ys with
   |none=>rw[H]at h;exact h.elim|some ts=>
    rw [H]at h;simp only[Ay]at h;obtain⟨cs',m,hS,hK⟩:=h;rw[J?]at D;obtain⟨y,hy,D⟩:=D;have hxi:∀(xs:List Operand)(ys:List AH)(i:Nat)(y:AH),Bq xs ys=X->ys[i]?=Y y->∃x,xs[i]?=Y x/\AK x y=X:=by
     intro xs
     induction xs with
     |nil=>intro ys i y A B;cases ys<;>simp[Bq]at A B
     |cons x xs ih=>
      intro ys i y A B;cases ys with
      |nil=>simp[Bq]at A|cons z ys=>
       simp [Bq]at A
       grind
    obtain ⟨x,hx,hxy⟩:=hxi _ _ _ _ M hy;obtain⟨b,hsl,C⟩:=IC k hxy D ε;have hv:=Z1 k M H (λx' N=>by rw[hx]at N;cases N;rw[C];rfl);have κ:=k.wf s;rw[ε]at κ;have hbx:=At k ε V;have hsplit:∀b o,AW w0.heap.size F0 G b o↔((AW w0.heap.size F0 G b o/\¬ZF (B8 a G s) b o)\/ZF (B8 a G s) b o):=by
     intro b o;constructor
     .grind
     .rintro(hf|⟨q,i,lo,A,B⟩)
      .exact hf.1
      .obtain⟨p,j,I,_⟩:=Ca A;exact .inr ⟨p,j,lo,I,B⟩
    have hF:(λb o=>(AW w0.heap.size F0 G b o/\¬ZF (B8 a G s) b o)\/ZF (B8 a G s) b o)=AW w0.heap.size F0 G:=by
     grind
    obtain ⟨B,h3⟩:=hS hv.2 κ;have hbr:O6 w (λb o=>(AW w0.heap.size F0 G b o/\¬ZF (B8 a G s) b o)\/ZF (B8 a G s) b o) (B8 a G s) cs (slot a s):=by
     rw [hF];obtain⟨b,c,θ,A,B,h3,h4,h5⟩:=hbx;refine⟨b,c,θ,A,B,h3,by rw[Db];exact h4,λi d hd=>?_⟩;obtain⟨x,e1,e2⟩:=h5 i d hd;exact⟨x,e1,by rw[Db];exact e2.x7 (λg lo j hg=>QY hg j)⟩
    obtain ⟨⟨k1,k2⟩,k3⟩:=h3 (λb o=>AW w0.heap.size F0 G b o/\¬ZF (B8 a G s) b o) w (xs.map a.eval) (slot a s) (B8 a G s) (by rw[hF];simpa using hv.1)
     (by rw[Array.getElem?_map];rw[<-J_,hx];simp;rw[C,hsl]) hbr (Kx k (Bw k ε V)) (λq i b lo e=>by obtain⟨p,j,I,_⟩:=Ca e;exact(k.lt _ _ _ _ I).1)
     (by
      rintro b o o' ⟨q,i,lo,e1,e2⟩ ⟨hf,hnz⟩;by_cases hlo:lo<=o'
      .exact hnz ⟨q,i,lo,e1,hlo⟩
      .obtain⟨p,j,I,_⟩:=Ca e1;exact QN k b lo o' I U hf)
     ⟨k.below.now,λb o⟨_,_,_,e,_⟩=>by obtain⟨_,_,I,_⟩:=Ca e;exact k.low I⟩
    have η:(execOp a.eval o).run P w=(callFunc f (xs.map a.eval)).run P w:=by simp[execOp,hop,resolve,Act.eval,Deferred.ofValue,invoke]
    unfold Oper.wp;rw[η,FG B _,Oper.upon_enter];refine k3.mono ?_;rintro e w' ⟨r,J,rfl,r1,r2,r3,r4,r5⟩;simp[L];obtain⟨δ,E⟩:=k.reboxed ε hno r1 r2 r3 r4 k1;refine hn _ _ _ _ (hK ⟨k1,k2⟩) ⟨_,rfl⟩ ?_;have ζ:∀b o,AW w0.heap.size F0 (Km (Ch a G s s J) d λ_=>W) b o->(b<w.heap.size/\AW w0.heap.size F0 G b o/\¬ZF (B8 a G s) b o)\/ZF J b o:=by
     intro b o hf;have hf2:AW w0.heap.size F0 (Ch a G s s J) b o:=AW.mono (λp i b lo D=>by
      by_cases hpd:p=d
      .grind[CM]
      .rw[BZ _ _ _ _ hpd]at D;exact⟨p,i,lo,D,az _⟩) hf
     exact E b o hf2
    have l:Bt w' w' (λb o=>(b<w.heap.size/\AW w0.heap.size F0 G b o/\¬ZF (B8 a G s) b o)\/ZF J b o) (AW w0.heap.size F0 (Km (Ch a G s s J) d λ_=>W)):=λb o u hc hf=>⟨hc,λE=>hf (ζ b o E)⟩;by_cases hus:∃t,m=[t]
    .obtain⟨t,rfl⟩:=hus;exact δ.tv (Below.refl _ _) d hd t r (CR l t r r5) k2.1
    .have hof:EV.ofs m=.tp m:=by
      rcases m with _|⟨t,_|⟨t',m⟩⟩
      .rfl
      .grind
      .rfl
     have hur:∃vs,r=.tuple vs/\AQ w' (λb o=>(b<w.heap.size/\AW w0.heap.size F0 G b o/\¬ZF (B8 a G s) b o)\/ZF J b o) m vs.toList:=by
      rcases m with _|⟨t,_|⟨t',m⟩⟩
      .exact r5
      .grind
      .exact r5
     obtain ⟨vs,rfl,hvs⟩:=hur;rw[hof];refine⟨_,δ.quiet (Below.refl _ _) d hd (.tp m) _ (λ_=>W) V V V ?_ k2⟩;simp only[AN];exact⟨vs,rfl,A7 l m _ hvs⟩
  .exact h.elim
 .exact h.elim
end
end Go.Sf
namespace Go.Sf
open Go.RowKit (Below)
variable{z z0:Value}
theorem Lw(h:z.cells=#[z0])(k:Nat):Builtin.zeroCells z.cells k=(A? k z0).toArray:=by
 rw [h];apply Array.ext
 .simp[Builtin.zeroCells]
 .intro i g j;simp[Builtin.zeroCells,Nat.mod_one]
section
variable{P:Program}{w:World}
theorem Tw(t J ty e L:TypeId)(i:TypeInfo)(z z0:Value)(ε κ:IntKind)(M:P.underlying t=Y (.slice e))(B:P.underlying J=Y (.int κ))(hi:P.info? e=Y i)(η:i.zero=Y z)(N:i.size=1)(H:z.cells=#[z0])(ζ:z0.oneCell'=X)
  (g h j:Nat)(l:Array Value)(δ:w.heap[g]?=Y (.cells l L (0,0)))
  (k:Nat)(h48:k*i.bytes<=281474976710656)(R:(k:Int)<=9223372036854775807)(A:h+k<=j)(C:h+k<=l.size):
  (Builtin.append_ #[t,J] ty #[.slice (Y ⟨g,0,W⟩) h j,.int ε k]).run P w=
   .ok (.slice (Y ⟨g,0,W⟩) (h+k) j) (w.setRow g (l.toList.take h++A? k z0++l.toList.drop (h+k)).toArray):=by
 have hw:IntKind.i64.wrap (k:Int)=k:=by rw[IntKind.wrap_i64];omega
 have D:¬((k:Int)<0):=U
 have E:¬(281474976710656<(k:Int)*(i.bytes:Int)):=by
  grind
 have m:=run_storeCells_at P g h L (A? k z0) 0 l w δ v5 (λu hu=>by rw[B! hu];exact ζ);simp at m;by_cases θ:k=0
 .subst θ;simp at m;have I:IntKind.i64.wrap 0=0:=a!
  simp [Builtin.append_,run_underlying M,run_underlying B,sizeOf,typeInfo,hi,asInt,asIntOf,I,N,show h<=j from U,Addr.add_lit,m]
 .simp[Builtin.append_,run_underlying M,run_underlying B,sizeOf,typeInfo,zeroValue,hi,η,asInt,asIntOf,hw,D,E,N,θ,A,Addr.add_lit,Lw H,m]
theorem U7(t h ty e:TypeId)(i:TypeInfo)(j k:IntKind)(l:P.underlying t=Y (.slice e))(g:P.underlying h=Y (.int k))(hi:P.info? e=Y i):
  (Builtin.append_ #[t,h] ty #[.slice W 0 0,.int j 0]).run P w=.ok (.slice W 0 0) w:=by
 have m:IntKind.i64.wrap 0=0:=a!
 simp [Builtin.append_,run_underlying l,run_underlying g,sizeOf,typeInfo,hi,asInt,asIntOf,m]
theorem rX(t ε ty e:TypeId)(i:TypeInfo)(z z0:Value)(η ζ:IntKind)(ht:P.underlying t=Y (.slice e))(I:P.underlying ε=Y (.int ζ))(hi:P.info? e=Y i)(hz:i.zero=Y z)
  (hs:i.size=1)(hby:i.bytes<=4096)(B:z.cells=#[z0])(h1:z0.oneCell'=X)(v:Value)(len:Nat)(xs:List Value)(zo:Option (Nat×Nat))(l:Ge w 1 v len xs zo)(k:Nat)(hk:k<=4096)(L:len+k<=AX):
  ∃v' w' z',(Builtin.append_ #[t,ε] ty #[v,.int η k]).run P w=.ok v' w'/\Ge w' 1 v' (len+k) (xs++A? k z0) z'/\Jv w w' zo z':=by
 have m:(xs++A? k z0).length=(len+k)*1:=by rw[b6,l.1,B'];omega
 have J:(len+k)*i.bytes<=140737488355328:=by
  calc (len+k)*i.bytes<=AX*4096:=H' L hby
   _<=140737488355328:=a!
 have M:k*i.bytes<=281474976710656:=by
  grind
 have hml:len+k<=maxLen:=by simp[maxLen,AX]at *;omega
 have δ:∀b lo,zo=Y (b,lo)->b<w.heap.size:=by
  intro b lo hb;rcases l.2 with⟨_,_,h⟩|⟨g,cap,E,θ,_,hg,_,_,_,_,h⟩
  .rw[h]at hb;cases hb
  grind
 have C:∀(old:Nat),old<len+k ->
   Ge (w.drew.alloc (.cells (xs.toArray++Builtin.zeroCells z.cells k++Builtin.zeroCells z.cells (grownCap w (len+k) old e-(len+k))) e)) 1
    (.slice (Y ⟨w.heap.size,0,W⟩) (len+k) (grownCap w (len+k) old e)) (len+k) (xs++A? k z0) (Y (w.heap.size,(len+k)*1))/\
   Jv w (w.drew.alloc (.cells (xs.toArray++Builtin.zeroCells z.cells k++Builtin.zeroCells z.cells (grownCap w (len+k) old e-(len+k))) e)) zo (Y (w.heap.size,(len+k)*1)):=by
  intro old ho;have hge:=grownCap_ge w (len+k) old e;have N:grownCap w (len+k) old e<=maxLen:=grownCap_le_maxLen w (len+k) old e hml;have hxl:xs.length=len:=by simpa using l.1
  refine ⟨⟨m,.inr ⟨w.heap.size,_,_,e,rfl,heap_alloc_new w.drew _,hge,N,?_,?_,rfl⟩⟩,⟨rfl,rfl,rfl,V,λk hk _=>Below.heap_alloc w.drew _ k hk,λb o v κ _=>?_,λb lo hb=>?_⟩⟩
  .rw[Lw B,Lw B];simp[hxl];omega
  .rw[Lw B,Lw B];simp only[Array.toList_append,ci];rw[<-ci,<-m];exact E?
  .have hb:b<w.heap.size:=World.block_lt_of_cell? w ⟨b,o,W⟩ κ;rw[World.cell?_alloc_lt _ _ (a:=⟨b,o,W⟩) (by simpa using hb)];simpa using κ
  .simp at hb;rw[<-hb.1];exact⟨V,.inl (az _)⟩
 rcases l.2 with⟨rfl,rfl,rfl⟩|⟨g,cap,E,θ,rfl,hg,hnc,N,hcs,H,rfl⟩
 .have hx:xs=[]:=w? (by simpa using l.1);subst hx;by_cases hk0:k=0
  .subst hk0;exact⟨_,_,W,U7 t ε ty e i η ζ ht I hi,⟨V,.inl ⟨rfl,rfl,rfl⟩⟩,Jv.refl w W V⟩
  .have hr:=Lib.run_append_nil_zeros (P:=P) w t ε ty e i z η ζ ht I hi hz k U U U M;have A:=C 0 U;simp only[I_,List.nil_append,Array.empty_append]at A hr|-;exact⟨_,_,_,hr,A.1,A.2⟩
 .have hxl:xs.length=len:=by simpa using l.1
  simp at hcs H;by_cases D:len+k<=cap
  .have hr:=Tw (P:=P) (w:=w) t ε ty e θ i z z0 η ζ ht I hi hz hs B h1 g len cap E hg k M U D U;refine⟨_,_,Y (g,(len+k)*1),hr,⟨m,.inr ⟨g,cap,_,θ,rfl,setRow_heap w g E _ θ _ hg,D,N,?_,?_,rfl⟩⟩,⟨rfl,rfl,rfl,V,λj _ hj=>setRow_other w g j _ (λe=>hj (len*1) (by rw[e])),λb o u κ hlo=>?_,λb lo hb=>?_⟩⟩
   .simp;omega
   .rw[H,<-m];exact E?
   .by_cases hbg:b=g
    .subst hbg;have ho:=hlo (len*1) rfl;rw[cell_of_row _ b o _ θ (0,0) (setRow_heap w b E _ θ _ hg)];rw[cell_of_row w b o E θ (0,0) hg]at κ;rw[D',ci,C? an,D? U];simpa using κ
    .rw[World.cell?_of_block (w:=w) (a:=⟨b,o,W⟩) (setRow_other w g b _ (λe=>hbg e))];exact κ
   .simp only[tl,Prod.mk.injEq]at hb;obtain⟨rfl,rfl⟩:=hb;refine⟨by simpa using δ g (len*1) rfl,.inr ⟨len*1,rfl,G? _ U⟩⟩
  .have R:(Builtin.firstCells i.size len (.slice (Y ⟨g,0,W⟩) len cap)).run P w.drew=.ok xs.toArray w.drew:=by
    refine run_firstCells_some (P:=P) w.drew i.size len ⟨g,0,W⟩ len cap xs (by rw[hs];omega) (λj u hu=>?_);rw[Addr.add_lit,I_];have:=l.cell rfl j u hu;simpa using this
   have hr:=Lib.run_append_grow_zeros (P:=P) w t ε ty e i z η ζ ht I hi hz (Y ⟨g,0,W⟩) len cap xs R k U U U (by simp[AX]at L;omega) M (growslice_fits U J);have A:=C cap U;exact⟨_,_,_,hr,A.1,A.2⟩
end
def Operand.AbN(n:Nat):Operand->Bool
 |.tmp m=>m==n|_=>T
variable{n:Nat}{x:Operand}
theorem Operand.isTmp_eq'(h:Operand.AbN n x=X):x=.tmp n:=by
 cases x<;>simp[Operand.AbN]at h;rw[h]
def nc(P:Program)(n s:Nat)(z:TV)(x:AH)(c:Call):Bool:=
 match c.callee,c.args.toList,c.argTypes.toList with
 |.builtin .append,[p,q],[t,t']=>Operand.AbN s p&&AK q x&&(match P.underlying t,P.underlying t' with
  |some (.slice e),Y (.int _)=>(match P.info? e with
   |some i=>(match i.zero with
    |some zz=>(match zz.cells.toList with
     |[z0]=>n==1&&i.size==1&&decide (i.bytes<=4096)&&Eh z z0&&z0.oneCell'|_=>T)
    |none=>T)
   |none=>T)
  |_,_=>T)
 |_,_,_=>T
section
variable{P:Program}{S:FuncId->Fq->A9->Prop}{F0:Nat->Nat->Prop}{w0:W0}{O:AB}{a:Act}{w:World}{G:Bi}{d:Nat}{o:Oper}{K:EV->AB->Prop}
variable{s:Nat}{x:Operand}{y:AH}{t t' e:TypeId}
theorem o0(N:AO F0 w0 O a w G)(hd:d<a.tmps.size){kn:IntKind}{i:TypeInfo}{R z0:Value}{z:TV}(θ:o.op=.call {callee:=.builtin .append,args:=#[.tmp s,x],argTypes:=#[t,t']})
  (ht:P.underlying t=Y (.slice e))(ε:P.underlying t'=Y (.int kn))(hi:P.info? e=Y i)(l:i.zero=Y R)(κ:i.size=1)(η:i.bytes<=4096)(ζ:R.cells=#[z0])(D:Eh z z0=X)(h1:z0.oneCell'=X)
  (δ:AK x y=X)(h:(AE.Abo 1 s z y).wp S O (Y d) K):BI P F0 w0 a w o d K:=by
 simp [AE.wp]at h;split at h
 .rename_i d' m es kk j E hs hy;simp at E;subst E;obtain⟨⟨⟨rfl,_⟩,I⟩,⟨h0,h4⟩,⟨g,hno,hds⟩,hK⟩:=h;obtain⟨k,rfl⟩:∃k:Nat,j=k:=⟨j.toNat,U⟩;simp at g hK;have A:=At N hs V;have B:=N.wf s;rw[hs]at B;simp[AN]at A;obtain⟨xs,⟨zo,k1,J⟩,k2,k3,k4⟩:=A;have hv:=(BD N δ hy).1;simp[A1]at hv;obtain⟨v',w',z',L,r1,C⟩:=rX (P:=P) t t' o.type e i R z0 kk kn ht ε hi l κ η ζ h1 (slot a s) es.length xs zo k1 k U g;have hnz:∀k,(∀lo,G s W≠Y (k,lo))->∀lo,zo≠Y (k,lo):=λk hk lo l=>hk 0 (by rw[J,l];rfl);have hfm:∀k,(A? k z).flatMap TV.cells=A? k z:=by
   intro k
   induction k with
   |zero=>rfl|succ k ih=>rw[B_,w_,ih,I];rfl
  refine ⟨v',w',?_,_,_,hK,N.xgo hs hd hds (z':=z'.map λp=>(p.1,0)) C.os C.tape C.output C.size (λk hk l=>C.other k hk (hnz k l)) (λb lo l=>?_) V (λ_=>hno) (λF' G' env' a' hag hG _=>?_) ?_⟩
  .simp[execOp,θ,resolve,invoke,builtin,show a.eval (.tmp s)=slot a s from rfl,hv,L]
  .cases z' with
   |none=>simp at l|some p=>
    simp at l;obtain⟨q1,M⟩:=C.AbI p.1 p.2 rfl;rw[<-l.1];refine⟨q1,?_⟩;rcases M with M|⟨lo',M,_⟩
    .exact .inl M
    .exact .inr ⟨0,by rw[J,M];rfl⟩
  .simp only[AN];rw[hG];refine⟨xs++A? k z0,⟨z',by rw[b6,B'];exact r1,rfl⟩,?_,?_,?_⟩
   .rw[A',hfm];refine JF (A7 hag _ _ k2) ?_;rw[Bs];refine⟨V,λi u v hu hv=>?_⟩;rw[B! (w! hu),B! (w! hv)];exact(IJ _ F' z z0 D).1
   .intro e he;rcases A!.1 he with he|he
    .exact k3 e he
    .rw[B! he,I];rfl
   .intro x H;rcases A!.1 H with H|H
    .exact k4 x H
    .rw[B! H];exact h1
  .simp only[EV.WF,TV.WF]at B|-;refine⟨by rw[b6,B'];exact Vk g,Li.2 ⟨B.2,?_⟩⟩;rw[B7];intro u hu;rw[B! hu];exact(IJ w (λ_ _=>False) z z0 D).2
 .exact h.elim
variable{f:FuncId}{ats:Array TypeId}
theorem lw(l:AO F0 w0 O a w G)(hd:d<a.tmps.size){xs:Array Operand}{ys:List AH}(j:o.op=.call {callee:=.value (.func f),args:=xs,argTypes:=ats})(k:Bq xs.toList ys=X)(h:(AE.Aa8 f ys).wp (AV P) O (Y d) K):BI P F0 w0 a w o d K:=by
 simp [AE.wp]at h;cases g:vals O ys with
 |none=>rw[g]at h;exact h.elim|some ts=>
  rw [g]at h;simp[Ay]at h;obtain⟨m,u,A⟩:=h;have hv:=GT l k g;obtain⟨⟨E,B⟩,C⟩:=u hv.2;obtain⟨r,D,H⟩:=C w (xs.map a.eval) (by simpa using A7 Zb _ _ hv.1);refine⟨.tuple r,w,by simp[execOp,j,resolve,Act.eval,Deferred.ofValue,invoke,<-D],_,_,A,_,l.quiet (Below.refl _ _) d hd (.tp m) _ (λ_=>W) V V V ?_ B⟩
  grind [AN,HN]
def fB(P:Program)(t:TypeId)(n:Nat):Bool:=
 match P.underlying t with
 |some (.slice e)=>(match P.info? e with
  |some ie=>ie.size==n|none=>T)
 |_=>T
variable{n:Nat}
theorem pE(A:AO F0 w0 O a w G)(hd:d<a.tmps.size)(k:o.op=.buildSlice t 0 #[])(g:fB P t n=X)(h:(AE.Abl n).wp S O (Y d) K):BI P F0 w0 a w o d K:=by
 simp [AE.wp]at h;obtain⟨m,C⟩:=h;unfold fB at g;split at g
 .rename_i e B;split at g
  .rename_i D l;have j:(execOp a.eval o).run P w=.ok (.value (.slice (Y ⟨w.heap.size,0,W⟩) 0 0)) (w.alloc (.cells #[] e)):=by
    simp [execOp,k,Instr.buildSlice,run_underlying B,sizeOf,typeInfo,l,Instr.fill,newRow]
    grind
   have hb:Below w.heap.size w (w.alloc (.cells #[] e)):=(Below.refl _ _).alloc (az _) _;refine⟨_,_,j,_,_,C,A.Ab1 hb hd m (z:=Y (w.heap.size,0*n)) (xs:=[]) ⟨V,.inr ⟨w.heap.size,0,_,e,V,heap_alloc_new w _,V,by simp[maxLen],V,V,V⟩⟩ (λb lo u=>?_) (λF' _=>rfl) V V ⟨V,trivial⟩⟩;simp at u;rw[<-u.1];exact⟨az _,V⟩
  .cases g
 .cases g
theorem LG(h:AB):∀(g:QQ)(O:AB)(n:Nat),AB.get (SQ h g O) n=if n∈g then(h.get n).gave else O.get n
 |[],_,_=>by simp[SQ]|q::g,O,n=>by
  rw [SQ,AB.eb,LG h g O n]
  grind
theorem NN(e:EV):(∃t,e=.ow t/\e.gave=.tv t)\/e.gave=.undef:=by
 cases e<;>first|exact .inl ⟨_,rfl,rfl⟩|exact .inr rfl
abbrev Sy:=Value ⊕ (Operand×Nat×Nat)
def V7:List Sy->Nat->List Sy->List Sy
 |l,_,[]=>l|l,i,y::ys=>V7 (l.set i y) (i+1) ys
def Ty(place:Nat->Option (Nat×Nat)):List (Nat×Operand)->List Sy->Option (List Sy)
 |[],row=>Y row|(i,x)::ps,row=>match place i with
  |some (off,n)=>if off+n<=row.length then Ty place ps (V7 row off ((List.range n).map λk=>.inr (x,k,n)))else W|none=>W
def Sy.is(a:Act):Sy->Value->Prop
 |.inl u,v=>v=u|.inr (x,k,_),v=>(a.eval x).cells[k]?=Y v
def Sn(a:Act)(row:List Sy)(xs:List Value):Prop:=xs.length=row.length/\∀(j:Nat)(s:Sy)(v:Value),row[j]?=Y s->xs[j]?=Y v->s.is a v
variable{v:Value}
theorem oe{a:Act}{row:List Sy}{xs:List Value}(h:Sn a row xs){s:Sy}(m:s.is a v)(i:Nat):Sn a (row.set i s) (xs.set i v):=by
 refine ⟨by simp[h.1],λj s' l g k=>?_⟩;rw[x_]at g k;by_cases e:i=j
 .grind
 .rw[ae e]at g k;exact h.2 j s' l g k
theorem bN{a:Act}:∀{g:List Sy}{vs:List Value}{row:List Sy}{xs:List Value}(i:Nat),Sn a row xs->Sn a g vs->Sn a (V7 row i g) (Xf xs i vs)
 |[],[],_,_,_,h,_=>h|[],_::_,_,_,_,_,h=>by have:=h.1;simp at this|_::_,[],_,_,_,_,h=>by have:=h.1;simp at this|s::g,v::vs,row,xs,i,h,k=>by
  rw [V7,Xf];exact bN (i+1) (oe h (k.2 0 s v rfl rfl) i) ⟨by have:=k.1;simpa using this,λj s' l m u=>k.2 (j+1) s' l n? i9⟩
theorem dx{a:Act}{place:Nat->Option (Nat×Nat)}:∀{u:List (Nat×Operand)}{row g:List Sy}{xs:Array Value},Sn a row xs.toList->(∀p∈u,∀l n,place p.1=Y (l,n)->(a.eval p.2).cells.size=n)->Ty place u row=Y g ->
  ∃xs',Instr.fill place xs (u.map λ(i,x)=>(i,a.eval x))=Y xs'/\Sn a g xs'.toList
 |[],row,g,xs,h,_,hf=>by
  simp [Ty]at hf;subst hf;exact⟨xs,rfl,h⟩
 |(i,x)::u,row,g,xs,h,D,hf=>by
  rw [Ty]at hf;split at hf
  .rename_i l n A;split at hf
   .rename_i E;have m:=D (i,x) V l n A;simp only at m;have H:=h.1;rw[I!]at H;have hr:Sn a (V7 row l ((List.range n).map λk=>.inr (x,k,n))) (((a.eval x).cells.zipIdx.foldl (λcs(y:Value×Nat)=>cs.setIfInBounds (l+y.2) y.1) xs)).toList:=by
     rw [<-Array.foldl_toList,Array.toList_zipIdx,Sx,H!];refine bN l h ⟨by simp[m],λj s v B J=>?_⟩;rw[E']at B;simp at B;obtain⟨k,L,rfl⟩:=B;have C:k=j:=by
      grind
     subst C;show(a.eval x).cells[k]?=Y v
     grind
    obtain ⟨xs',M,I⟩:=dx hr (λp A=>D p (by simp[A])) hf;refine⟨xs',?_,I⟩;simp[A_,Instr.fill,A]
    grind
   .cases hf
  .cases hf
def Tl:GC->Sy->Bool
 |.z c,.inl v=>Vn c v|.v y k n,.inr (x,k',n')=>AK x y&&k==k'&&n==n'|.w q,.inr (x,k',n')=>AK x (.s q)&&k'==0&&n'==1|.g q k n,.inr (x,k',n')=>AK x (.s q)&&k==k'&&n==n'|_,_=>T
def UM:List GC->List Sy->Bool
 |[],[]=>X|g::gs,s::ss=>Tl g s&&UM gs ss|_,_=>T
def Vc(x:Operand)(n:Nat):GC->Bool
 |.z _=>T|.v y _ m=>AK x y&&m==n|.w q=>AK x (.s q)&&1==n|.g q _ m=>AK x (.s q)&&m==n
def Uc(place:Nat->Option (Nat×Nat))(z:List Value)(ps:List (Nat×Operand))(gs:List GC):Bool:=
 (ps.all λp=>match place p.1 with
  |some (_,n)=>gs.any (Vc p.2 n)|none=>T) &&
 match Ty place ps (z.map .inl)with
 |some row=>UM gs row|none=>T
def ez(P:Program)(t:TypeId)(ps:List (Nat×Operand))(gs:List GC):Bool:=
 match P.info? t,P.underlying t with
 |some it,Y (.array _ e)=>
  match it.zero,P.info? e with
  |some z,Y ie=>Uc (λi=>Y (i*ie.size,ie.size)) z.cells.toList ps gs|_,_=>T
 |some it,Y (.struct fields)=>
  match it.zero,fields.toList.mapM (λf=>(P.info? f.type).map λi=>(f.offset,i.size))with
  |some z,Y places=>Uc (places.toArray[·]?) z.cells.toList ps gs|_,_=>T
 |_,_=>T
theorem Vb:∀{k:List GC}{l:List Sy},UM k l=X->l.length=k.length/\∀(j:Nat)(g:GC),k[j]?=Y g->∃s,l[j]?=Y s/\Tl g s=X
 |[],[],_=>⟨rfl,λj g h=>by simp at h⟩|[],_::_,h=>d_
 |_::_,[],h=>d_
 |g::k,s::l,h=>by
  rw [UM,pq]at h;obtain⟨m,u⟩:=Vb h.2
  grind
theorem YN:∀{k:List GC}{cs:List AR},KY O k=Y cs->cs.length=k.length/\∀(j:Nat)(g:GC),k[j]?=Y g->∃c,cs[j]?=Y c/\g.cell O=Y c
 |[],cs,h=>by simp[KY]at h;subst h;exact⟨rfl,λj g h=>by simp at h⟩|g::k,cs,h=>by
  rw [KY]at h;split at h
  .rename_i c cs' m l;cases h;obtain⟨u,A⟩:=YN l
   grind
  .cases h
variable{q:Nat}
theorem LD(h:AK x (.s q)=X):a.eval x=slot a q:=by
 cases x<;>simp[AK]at h;rw[h];rfl
variable{c:AR}
theorem qL(l:AO F0 w0 O a w G){g:GC}(h:g.cell O=Y c)(j:Vc x n g=X):(a.eval x).cells.size=n:=by
 cases g with
 |z c=>cases j
 |v y k m=>
  simp [Vc]at j;obtain⟨j,rfl⟩:=j;simp[GC.cell]at h;split at h
  .rename_i t B;split at h
   .rename_i u A;have:=BX (HO (BD l j B).1).1
    grind [I!,I']
   .cases h
  .cases h
 |w q=>
  simp [Vc]at j;obtain⟨j,rfl⟩:=j;rw[LD j];have:(slot a q).oneCell'=X:=by
   simp [GC.cell]at h;split at h
   .rename_i t e;have:=At l e V
    grind [AN,Wa]
   next m es e=>have:=At l e V;exact Hj (ρ:=x7 a G) (c:=⟨X,.xl m es⟩) this
   .cases h
  rw [RB this];rfl
 |g q k m=>
  simp [Vc]at j;obtain⟨j,rfl⟩:=j;rw[LD j];simp[GC.cell]at h;split at h
  .rename_i cs e;split at h
   next u=>have:=At l e V;simp[AN]at this;obtain⟨vs,A,C,_⟩:=this;rw[A];show vs.size=m;rw[C,I' u]
   .cases h
  .cases h
theorem w5(A:AO F0 w0 O a w G){g:GC}(h:g.cell O=Y c){s:Sy}(l:Tl g s=X)(hv:s.is a v):BW w (AW w0.heap.size F0 G) (x7 a G) (g.src.bind λp=>G p.1 p.2) c v/\c.t.WF:=by
 cases g with
 |z c'=>
  cases s with
  |inr p=>cases l
  |inl u=>
   simp [GC.cell]at h;subst h;have:v=u:=hv;subst this;exact Wy l
 |v y k m=>
  cases s with
  |inl u=>cases l
  |inr p=>
   obtain ⟨x,E,H⟩:=p;simp[Tl]at l;obtain⟨⟨B,rfl⟩,_⟩:=l;have hv:(a.eval x).cells[k]?=Y v:=hv;simp[GC.cell]at h;split at h
   .rename_i t J;split at h
    next c' ε C=>cases h;obtain⟨L,M⟩:=BD A B J;obtain⟨N,R⟩:=HO L;rw[<-J_]at hv;exact⟨⟨((Bs _ _).1 N).2 k _ _ C hv,R v (w! hv)⟩,B7.1 (Iy M) _ (w! C)⟩
    .cases h
   .cases h
 |w q=>
  cases s with
  |inl u=>cases l
  |inr p=>
   obtain ⟨x,E,H⟩:=p;simp[Tl]at l;obtain⟨⟨B,rfl⟩,_⟩:=l;have hv:(a.eval x).cells[0]?=Y v:=hv;rw[LD B]at hv;have j:=A.wf q;simp[GC.cell]at h;split at h
   next t e=>cases h;have:=At A e V;simp[AN]at this;rw[RB (Wa this)]at hv;cases hv;rw[e]at j;exact⟨this.c,j⟩
   next m es e=>cases h;have:=At A e V;have D:BW w (AW w0.heap.size F0 G) (x7 a G) (G q W) ⟨X,.xl m es⟩ (slot a q):=this;rw[RB (Hj D)]at hv;cases hv;rw[e]at j;exact⟨D,j⟩
   .cases h
 |g q k m=>
  cases s with
  |inl u=>cases l
  |inr p=>
   obtain ⟨x,E,H⟩:=p;simp[Tl]at l;obtain⟨⟨B,rfl⟩,_⟩:=l;have hv:(a.eval x).cells[k]?=Y v:=hv;rw[LD B]at hv;have j:=A.wf q;simp[GC.cell]at h;split at h
   .rename_i cs e;split at h
    .have:=At A e V;simp[AN]at this;obtain⟨vs,C,_,θ⟩:=this;rw[C]at hv;have hv:vs[k]?=Y v:=hv;obtain⟨x',I,D⟩:=θ k c h;rw[hv]at I;cases I;rw[e]at j;exact⟨D,j c (w! h)⟩
    .cases h
   .cases h
theorem AO.regather(h:AO F0 w0 O a w G)(hd:d<a.tmps.size){C:QQ}{cs:List AR}{vs:Array Value}(σ:Nat->Option (Nat×Option Nat))(hdq:d∉C)(δ:vs.size=cs.length)(hσ:∀j q i,σ j=Y (q,i)->q∈C)
  (R:∀j θ p,σ j=Y p->σ θ=Y p->j=θ)(hc:∀(j:Nat)(c:AR),cs[j]?=Y c->∃x,vs[j]?=Y x/\BW w (AW w0.heap.size F0 G) (x7 a G) ((σ j).bind λp=>G p.1 p.2) c x)(hwf:∀c∈cs,c.t.WF)(hq:∀q∈C,q<a.tmps.size):
  B9 F0 w0 ((d,.oag cs)::SQ O C O) (a.put (Y d) (.agg vs)) w:=by
 let A:Bi:=λp i=>if p=d then i.bind λj=>(σ j).bind λp=>G p.1 p.2 else if p∈C then W else G p i
 have I:∀p i b lo,A p i=Y (b,lo)->(∃j q k,p=d/\i=Y j/\σ j=Y (q,k)/\G q k=Y (b,lo))\/(p≠d/\p∉C/\G p i=Y (b,lo)):=by
  intro p i b lo m;simp[A]at m;split at m
  .rename_i u;cases i with
   |none=>cases m
   |some j=>
    simp at m;cases hj:σ j with
    |none=>rw[hj]at m;cases m
    |some q=>rw[hj]at m;exact .inl ⟨j,q.1,q.2,u,rfl,hj,m⟩
  grind
 have hF:∀b o,AW w0.heap.size F0 A b o->AW w0.heap.size F0 G b o:=λb o hf=>AW.mono (λp i b lo m=>by
  grind) hf
 have J:Bt w w (AW w0.heap.size F0 G) (AW w0.heap.size F0 A):=λb o v hc hf=>⟨hc,λhf'=>hf (hF b o hf')⟩;have D:x7 (a.put (Y d) (.agg vs)) A=x7 a G:=OI (Bu _ _ _) λp m=>by
  grind
 refine ⟨A,?_,?_,h.below,g!,?_,?_,?_⟩
 .intro p i p' i' b lo lo' e1 g;rcases I _ _ _ _ e1 with⟨j,q,k,rfl,rfl,η,f2⟩|⟨n1,n2,η⟩<;>rcases I _ _ _ _ g with⟨θ,q',k',rfl,rfl,ζ,g2⟩|⟨m1,m2,ζ⟩
  .obtain⟨κ,e4⟩:=h.o3 _ _ _ _ _ _ _ f2 g2;subst κ;subst e4;exact⟨rfl,by rw[R j θ _ η ζ]⟩
  .obtain⟨κ,_⟩:=h.o3 _ _ _ _ _ _ _ f2 ζ;exact absurd (κ▸hσ j q k η) m2
  .obtain⟨κ,_⟩:=h.o3 _ _ _ _ _ _ _ g2 η;exact absurd (κ▸hσ θ q' k' ζ) n2
  .exact h.o3 _ _ _ _ _ _ _ η ζ
 .intro p i b lo e1;rcases I _ _ _ _ e1 with⟨j,q,k,_,_,_,f⟩|⟨_,_,f⟩<;>exact h.lt _ _ _ _ f
 .intro p m;rw[Bu]at m;rw[AB.eb,ae U,LG];split
  next hm=>have:=hq p hm;omega
  .exact h.dom p m
 .intro p m;rw[Bu]at m;rw[AB.eb];by_cases u:d=p
  .subst u;rw[ac rfl,C2 _ _ _ hd];simp only[AN];refine⟨_,rfl,δ,λi c hci=>?_⟩;obtain⟨x,M,hr⟩:=hc i c hci;refine⟨x,M,?_⟩;have:A d (Y i)=(σ i).bind λp=>G p.1 p.2:=by simp only[A,if_true];rfl
   rw [this,D];exact hr.kept J (λ_ _ _=>rfl) BY.rfl'
  .rw[ae u,AZ _ _ _ _ u,LG];split
   .rcases NN (O.get p)with⟨t,e,g⟩|g
    .have E:=At h e V;rw[g];simp[AN]at E|-;exact CR J _ _ (CD.rep E (λb lo o hz ho=>QN h b lo o hz ho))
    .rw[g];simp[AN]
   .rename_i hnq;refine AN.kept J (λi=>by simp[A];rw[ae (λe=>u e.symm),ae hnq]) (λ_ _ _ _=>rfl) D BY.rfl' (λr i k _⟨pp,H⟩=>?_) (λr off _⟨cs',l⟩=>?_) (λr i _⟨pp,H⟩=>?_) (h.slots p m)
    .have L:=AB.Aac V H;have B:=LG O C O r;split at B
     .have ε:=L.2;rcases NN (O.get r)with⟨t,_,g⟩|g<;>rw[g]at B<;>simp[AB.nat,B]at ε<;>cases ε
     .have M:∃p,O.nat r i=Y p:=⟨pp,by rw[<-L.2];exact(AB.Aaz B).symm⟩;exact⟨M,h.nh M (AZ _ _ _ _ L.1) (λ_ _ _ _=>rfl)⟩
    .rw[AB.eb]at l;by_cases N:d=r
     .rw[ac N]at l;cases l
     .rw[ae N,LG]at l;split at l
      .rcases NN (O.get r)with⟨t,_,g⟩|g<;>(rw[g]at l;cases l)
      .exact⟨⟨cs',l⟩,AZ _ _ _ _ N⟩
    .have L:=AB.t1 V V H;have B:=LG O C O r;split at B
     .have ε:=L.2;rcases NN (O.get r)with⟨t,_,g⟩|g<;>rw[g]at B<;>cases i<;>simp[AB.wi,B]at ε<;>cases ε
     .have M:∃p,O.wi r i=Y p:=⟨pp,by rw[<-L.2];exact(AB.Aaq B).symm⟩;exact⟨M,h.xv M (AZ _ _ _ _ L.1) (λ_ _=>rfl)⟩
 .intro p;rw[AB.eb];split
  .exact hwf
  .rw[LG];have:=h.wf p;split
   .rcases NN (O.get p)with⟨t,e,g⟩|g
    .rw[e]at this;rw[g];exact this
    .rw[g];trivial
   .exact this
theorem cP{α β:Type}{f:α->Option β}{l:List α}(g:(l.filterMap f).Nodup){i j:Nat}{p:β}(hi:(l[i]?).bind f=Y p)(u:(l[j]?).bind f=Y p):i=j:=by
 have key:∀(l:List α)(i j:Nat),(l.filterMap f).Nodup->(l[i]?).bind f=Y p->(l[j]?).bind f=Y p->i<j->False:=by
  intro l
  induction l with
  |nil=>intro i j _ h;simp at h|cons x l C=>
   intro i j g A B m;obtain⟨j,rfl⟩:∃k,j=k+1:=⟨j-1,U⟩
   grind
 grind
theorem o5(L:AO F0 w0 O a w G)(hd:d<a.tmps.size){E:Array (Nat×Operand)}{A:List GC}(ζ:o.op=.build t E)(l:ez P t E.toList A=X)(h:(AE.Aao A).wp S O (Y d) K):BI P F0 w0 a w o d K:=by
 simp only[AE.wp]at h;obtain⟨⟨hn,hdq⟩,h⟩:=h;cases H:KY O A with
 |none=>rw[H]at h;exact h.elim|some cs=>
  rw [H]at h;simp[Ay]at h;obtain⟨hl,D⟩:=YN H;have key:∀(place:Nat->Option (Nat×Nat))(z:Array Value),Uc place z.toList E.toList A=X->∃xs',Instr.fill place z (E.map λ(i,x)=>(i,a.eval x)).toList=Y xs'/\xs'.size=cs.length/\
    ∀(j:Nat)(c:AR),cs[j]?=Y c->(∃x,xs'[j]?=Y x/\BW w (AW w0.heap.size F0 G) (x7 a G) (((A[j]?).bind GC.src).bind λp=>G p.1 p.2) c x)/\c.t.WF:=by
   intro place z hp;unfold Uc at hp;rw[pq,E_]at hp;obtain⟨hp1,J⟩:=hp;split at J
   .rename_i row N;have h5:(E.map λ(i,x)=>(i,a.eval x)).toList=E.toList.map λ(i,x)=>(i,a.eval x):=V
    obtain ⟨xs',δ,ε⟩:=dx (a:=a) (xs:=z) (row:=z.toList.map .inl) ⟨V,λj s v B C=>by
     rw [E']at B;simp only[J!]at B;obtain⟨u,hu,rfl⟩:=B;rw[hu]at C;cases C;rfl⟩ (λp hm off n M=>by
     grind [List.any_eq_true,C',qL]) N
    obtain ⟨m1,m2⟩:=Vb J;have R:=ε.1;rw[I!]at R;refine⟨xs',by rw[h5];exact δ,U,λj c m=>?_⟩;have hj:j<A.length:=by have:=(C_.1 m).1;omega
    have I:A[j]?=Y A[j]:=x? hj;obtain⟨c',θ,hc2⟩:=D j _ I;rw[m]at θ;cases θ;obtain⟨s,hs1,hs2⟩:=m2 j _ I;have hx:xs'[j]?=Y (xs'[j]' U):=Array.getElem?_eq_getElem U;obtain⟨r1,r2⟩:=w5 L hc2 hs2 (ε.2 j s _ hs1 (by rw[J_];exact hx));rw[I];exact⟨⟨_,hx,r1⟩,r2⟩
   .cases J
  have built:∃xs',P.built t (E.map λ(i,x)=>(i,a.eval x)).toList=Y xs'/\xs'.size=cs.length/\
    ∀(j:Nat)(c:AR),cs[j]?=Y c->(∃x,xs'[j]?=Y x/\BW w (AW w0.heap.size F0 G) (x7 a G) (((A[j]?).bind GC.src).bind λp=>G p.1 p.2) c x)/\c.t.WF:=by
   unfold ez at l;unfold Program.built;split at l
   .rename_i it len e B C;simp only[B,C];split at l
    next z ie hz hie=>simp only[hz,hie];exact key _ _ l
    .cases l
   .rename_i it κ B C;simp only[B,C];split at l
    next z η hz M=>simp only[hz,M];exact key _ _ l
    .cases l
   .cases l
  obtain ⟨xs',B,C,h3⟩:=built;refine⟨.agg xs',w,by simp[execOp,ζ,run_build w t _ _ B],_,_,h,L.regather hd (λj=>(A[j]?).bind GC.src) hdq C (λj q i e=>?_) (λj j' p δ ε=>cP hn δ ε) (λj c m=>(h3 j c m).1) (λc m=>?_) (λq hq=>?_)⟩
  .rw[J?]at e;obtain⟨g,I,e⟩:=e;refine F_.2 ⟨g,w! I,?_⟩;cases g<;>simp[GC.src]at e<;>simp[GC.slot,e.1]
  .grind[C']
  .obtain⟨g,I,e⟩:=F_.1 hq;obtain⟨j,hj⟩:=C' I;obtain⟨c,_,m⟩:=D j g hj;cases g with
   |z c=>cases e
   |v y k n=>cases e
   |w q'=>
    cases e;simp[GC.cell]at m;split at m
    next t e=>exact Bw L e V
    next n es e=>exact Bw L e V
    .cases m
   |g q' k n=>
    cases e;simp[GC.cell]at m;split at m
    next cs e=>exact Bw L e V
    .cases m
end
end Go.Sf
