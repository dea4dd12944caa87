/- Lists that nobody else reads: stores into them, appends, calls that turn them. -/
import Derived.Test.YtlbmpkmkmkgniaaGreatDoorSfTake
set_option linter.all false
namespace Go.Sf
open Go.RowKit (Below)
def SS:Operand->Bool
 | .const v=>Lv v
 | _=>false
theorem XP {α:Type} {a:Array α} {x:α} (h:a.toList=[x]):a=#[x]:=by
 cases a; simp_all
section flat
variable {w w':World} {F F':Nat->Nat->Prop}
mutual
theorem W9:∀ (t:TV),t.flat=true->∀ v,A7 w F t v->A7 w' F' t v
 | .int _ _,_,_,h=>h
 | .bool _,_,_,h=>h
 | .str _,_,_,h=>h
 | .agg cs,b,v,h=>by
  simp only [A7] at h ⊢;obtain ⟨vs,c,g,j⟩:=h;exact ⟨vs,c,KB cs (by simpa [TV.flat] using b) _ g,j⟩
 | .undef,b,_,_=>by simp [TV.flat] at b
 | .xl _ _,b,_,_=>by simp [TV.flat] at b
 | .nil,b,_,_=>by simp [TV.flat] at b
 | .list _ _,b,_,_=>by simp [TV.flat] at b
 | .pt _,b,_,_=>by simp [TV.flat] at b
 | .clo _ _,b,_,_=>by simp [TV.flat] at b
theorem KB:∀ (b:QQ),TV.flats b=true->∀ vs,AS w F b vs->AS w' F' b vs
 | [],_,vs,h=>h
 | t::b,c,vs,h=>by
  simp only [TV.flats,zzZ] at c;simp only [AS] at h ⊢;obtain ⟨v,r,g,j,k⟩:=h;exact ⟨v,r,g,W9 t c.1 v j,KB b c.2 r k⟩
end
theorem R2:∀ (xs ys:QQ),TV.flats (xs++ys)=(TV.flats xs&&TV.flats ys)
 | [],ys=>by simp [TV.flats]
 | x::xs,ys=>by simp [TV.flats,R2 xs ys,Bool.and_assoc]
theorem Xk (t:TV) (h:t.flat=true):TV.flats t.cells=true:=by
 cases t <;> simp_all [TV.flat,TV.cells,TV.flats]
theorem OH:∀ (es:QQ),TV.flats es=true->TV.flats (es.flatMap TV.cells)=true
 | [],_=>rfl
 | e::es,h=>by
  simp only [TV.flats,zzZ] at h;rw [List.flatMap_cons,R2,Xk e h.1,OH es h.2]; rfl
end flat
section
variable {P:Program} {S:FuncId->QQ->CS->Prop} {F0:Nat->Nat->Prop} {w0:W0} {O:AD} {a:Act} {w:World} {G:DT} {d:Nat} {o:Oper} {K:EV->AD->Prop}
variable {q n:Nat}
theorem AD.xat_of_xo {O:AD} {es:QQ} (h:O.get q=.xo n es):O.xat q none=some (n,es):=by simp only [AD.xat,h]
variable {x:Operand} {y:AL}
theorem NK (k:AY F0 w0 O a w G) (b:AR x y=true) {p:(Nat × Option Nat) × Nat × QQ} (h:y.xlist O=some p):O.xat p.1.1 p.1.2=some (p.2.1,p.2.2)∧XV a w p.1.1 p.1.2 (a.eval x):=by
 cases y with
 | c t=>simp [AL.xlist] at h
 | s m=>
  have l:x=.tmp m:=by
   cases x <;> simp [AR] at b;rw [b]
  subst l;simp only [AL.xlist] at h;split at h
  ·rename_i n es g;simp only [zzY] at h;subst h;exact ⟨by simp only [AD.xat,g],rfl⟩
  ·rename_i q i g;split at h
   ·rename_i r j;simp only [zzY] at h;subst h;have:=A9 k g (by simp);simp only [AX] at this;exact ⟨j,this ⟨_,j⟩⟩
   ·cases h
  ·cases h
variable {i:Option Nat} {v:Value}
theorem Nj {es:QQ} (h:AY F0 w0 O a w G) (g:O.xat q i=some (n,es)) (hv:XV a w q i v) :
  (TV.list n es).WF∧∃ xs,K5 w n v es.length xs (G q i)∧AS w (A2 w0.heap.size F0 G) (es.flatMap TV.cells) xs∧(∀ e∈es,e.cells.length=n)∧∀ x∈xs,x.oneCell'=true:=by
 cases i with
 | none=>
  have g:=AD.xat_none g;have j:=A9 h g (by simp);have l:=h.wf q;rw [g] at l;simp only [AX] at j;simp only [XV] at hv;rw [hv];exact ⟨l,j⟩
 | some k=>
  obtain ⟨cs,p,r⟩:=AD.xat_some g;have j:=A9 h p (by simp);have l:=h.wf q;rw [p] at l;simp only [AX] at j;obtain ⟨b,c,T,B,C,I,J,D⟩:=j;obtain ⟨L,c',M,m,u,A⟩:=hv;rw [B] at m;simp only [Value.pointer.injEq,zzY,Addr.mk.injEq,and_true,and_self] at m;subst m;rw [C] at u;cases u;obtain ⟨x,E,H⟩:=D k _ r;rw [E] at A;cases A;exact ⟨l _ (List.mem_of_getElem? r),H⟩
theorem ef {es:QQ} (h:AY F0 w0 O a w G) (j:O.xat q i=some (n,es)) (hv:XV a w q i v):∀ b lo,G q i=some (b,lo)->lo=0:=by
 intro b lo c;obtain ⟨_,xs,⟨k,_,g⟩,_⟩:=Nj h j hv;rw [g] at c;cases k with
 | none=>simp at c
 | some p=>simp only [Option.map_some,zzY,Prod.mk.injEq] at c; exact c.2.symm
theorem Zw {es:QQ} (h:AY F0 w0 O a w G) (l:O.xat q i=some (n,es)) (hv:XV a w q i v) (c:es≠[]) :
  ∃ g cap b e xs,v=.slice (some ⟨g,0,none⟩) es.length cap∧w.heap[g]?=some (.cells b e (0,0))∧es.length<=cap∧cap<=maxLen∧b.size=cap*n∧b.toList.take (es.length*n)=xs∧G q i=some (g,0)∧AS w (A2 w0.heap.size F0 G) (es.flatMap TV.cells) xs∧(∀ e∈es,e.cells.length=n)∧(∀ x∈xs,x.oneCell'=true)∧xs.length=es.length*n:=by
 obtain ⟨_,xs,⟨J,k,j⟩,m,p,r⟩:=Nj h l hv;rcases k.2 with ⟨_,u,_⟩ | ⟨g,cap,b,e,A,B,C,D,E,H,I⟩
 ·exact absurd (List.eq_nil_of_length_eq_zero u) c
 ·exact ⟨g,cap,b,e,xs,A,B,C,D,E,H,by rw [j,I]; rfl,m,p,r,k.1⟩
theorem AY.rexo (h:AY F0 w0 O a w G) {es:QQ} (R:O.xat q i=some (n,es)) (hv:XV a w q i v) {w':World} (hb:Pp (G q i) w w') {es':QQ} {xs':List Value} (H:K5 w' n v es'.length xs' (G q i))
  (U:D0 w w' (A2 w0.heap.size F0 G) (A2 w0.heap.size F0 G)->AS w' (A2 w0.heap.size F0 G) (es'.flatMap TV.cells) xs') (hn:∀ e∈es',e.cells.length=n) (h1:∀ x∈xs',x.oneCell'=true) (hw:(TV.list n es').WF) :
  AY F0 w0 (O.xput q i n es') a w' G:=by
 obtain ⟨b1,b2,b3,b4,Y⟩:=hb;have hz0:=ef h R hv;have M:D0 w w' (A2 w0.heap.size F0 G) (A2 w0.heap.size F0 G):=by
  intro b o u hc hF;refine ⟨?_,hF⟩;have N:b<w.heap.size:=by
   rcases Nat.lt_or_ge b w.heap.size with h | h
   ·exact h
   ·simp [World.cell?,Array.getElem?_eq_none h] at hc
  rw [World.cell?_of_block (w:=w) (a:=⟨b,o,none⟩) (Y b N (fun lo g=>hF (.inr ⟨q,i,lo,g,by rw [hz0 b lo g]; exact Nat.zero_le _⟩)))];exact hc
 have B:Jt F0 w0 w':=h.below.but b1 b2 b3 b4 (Z:=fun k=>∃ lo,G q i=some (k,lo)) (fun b ⟨lo,g⟩=>(h.lt _ _ _ _ g).2.imp id (fun e o=>e o (by rw [hz0 b lo g]; exact Nat.zero_le _))) (fun k hk g=>Y k (Nat.lt_of_lt_of_le hk h.below.size) (fun lo e=>g ⟨lo,e⟩));have N:∀ s i b lo,G s i=some (b,lo)->b<w'.heap.size∧(w0.heap.size<=b∨∀ o,lo<=o->w0.E b o):=fun s i b lo I=>⟨Nat.lt_of_lt_of_le (h.lt s i b lo I).1 b4,(h.lt s i b lo I).2⟩;have hxv:∀ r j,(∃ A,O.xat r j=some A)->∀ v,XV a w r j v->XV a w' r j v:=by
  intro r j hx;cases j with
  | none=>exact fun v hv=>hv
  | some k=>
   refine h.xv hx rfl (fun b hb=>Y b (h.lt _ _ _ _ hb).1 (fun lo g=>?_));obtain ⟨rfl,rfl⟩:=h.uniq _ _ _ _ _ _ _ g hb;have h1:=AD.xat_none R;obtain ⟨⟨n1,X⟩,hx1⟩:=hx;obtain ⟨cs,D,_⟩:=AD.xat_some hx1;rw [h1] at D; cases D
 have oth:∀ (p:Nat) (e:EV),p<a.tmps.size->p≠q->(∀ cs,e=.bx cs->∃ cs',O.get q=.bx cs')->(∀ j,(∃ A,AD.xat ((q,e)::O) q j=some A)->∃ A,O.xat q j=some A)->AX a w' (A2 w0.heap.size F0 G) G ((q,e)::O) p (O.get p) (slot a p):=by
  intro p e L hpq hbx hxa;refine AX.kept M (fun _=>rfl) (fun j b lo g=>Y b (h.lt _ _ _ _ g).1 (fun lo' W=>hpq (h.uniq _ _ _ _ _ _ _ g W).1)) (fun r off _ ⟨cs,J⟩=>?_) (fun r j _ ⟨A,l⟩=>?_) (h.slots p L)
  ·rw [AD.get_cons] at J;split at J
   ·rename_i er; subst er; exact ⟨hbx cs J,rfl⟩
   ·exact ⟨⟨cs,J⟩,rfl⟩
  ·have hx:∃ A,O.xat r j=some A:=by
    by_cases hqr:q=r
    ·subst hqr; exact hxa j ⟨A,l⟩
    ·rw [AD.xat_cons hqr] at l; exact ⟨A,l⟩
   exact ⟨hx,hxv r j hx⟩
 cases i with
 | none=>
  have R:=AD.xat_none R;have hsz:=G9 h R (by simp);refine ⟨h.uniq,N,B,h.defers,fun p L=>?_,fun p L=>?_,fun p=>?_⟩
  ·simp only [AD.xput]; rw [AD.get_cons,d2 (by omega)]; exact h.dom p L
  ·simp only [AD.xput];rw [AD.get_cons];by_cases m:q=p
   ·subst m;rw [d1 rfl];simp only [AX];simp only [XV] at hv;rw [hv] at H;exact ⟨xs',H,U M,hn,h1⟩
   ·rw [d2 m];refine oth p _ L (fun e=>m e.symm) (by simp) (fun j ⟨A,l⟩=>?_);cases j with
    | none=>exact ⟨(n,es),by simp only [AD.xat,R]⟩
    | some k=>
     obtain ⟨n1,X⟩:=A;obtain ⟨cs,D,_⟩:=AD.xat_some l;rw [AD.get_cons,d1 rfl] at D; cases D
  ·simp only [AD.xput];rw [AD.get_cons];split
   ·exact hw
   ·exact h.wf p
 | some k=>
  obtain ⟨cs,I,hk⟩:=AD.xat_some R;have hsz:=G9 h I (by simp);have hwc:=h.wf q;rw [I] at hwc;have hr:=A9 h I (by simp);simp only [AX] at hr;obtain ⟨b,c,T,e1,e2,e3,e4,e5⟩:=hr;obtain ⟨b',c',T',f1,f2,f3⟩:=hv;rw [e1] at f1;simp only [Value.pointer.injEq,zzY,Addr.mk.injEq,and_true,and_self] at f1;subst f1;rw [e2] at f2;cases f2;have hbb:w'.heap[b]?=w.heap[b]?:=Y b (h.lt _ _ _ _ e4).1 (fun lo g=>by
   have:=(h.uniq _ _ _ _ _ _ _ g e4).2; cases this)
  refine ⟨h.uniq,N,B,h.defers,fun p L=>?_,fun p L=>?_,fun p=>?_⟩
  ·simp only [AD.xput,I]; rw [AD.get_cons,d2 (by omega)]; exact h.dom p L
  ·simp only [AD.xput,I];rw [AD.get_cons];by_cases m:q=p
   ·subst m;rw [d1 rfl];simp only [AX];refine ⟨b,c,T,e1,by rw [hbb]; exact e2,by simpa using e3,e4,fun j d V=>?_⟩;rw [List.getElem?_set] at V;by_cases C:k=j
    ·subst C;rw [d1 rfl] at V;split at V
     ·simp only [zzY] at V;subst V;exact ⟨v,f3,xs',H,U M,hn,h1⟩
     ·cases V
    ·rw [d2 C] at V;obtain ⟨x,g1,g2⟩:=e5 j d V;exact ⟨x,g1,g2.kept M (fun b lo g=>Y b (h.lt _ _ _ _ g).1 (fun lo' W=>C (by
      have:=(h.uniq _ _ _ _ _ _ _ W g).2;simpa using this)))⟩
   ·rw [d2 m];refine oth p _ L (fun e=>m e.symm) (fun _ _=>⟨cs,I⟩) (fun j ⟨A,l⟩=>?_);obtain ⟨n1,X⟩:=A;cases j with
    | none=>have D:=AD.xat_none l; rw [AD.get_cons,d1 rfl] at D; cases D
    | some j=>
     obtain ⟨cs',D,h3⟩:=AD.xat_some l;rw [AD.get_cons,d1 rfl] at D;simp only [EV.bx.injEq] at D;subst D;rw [List.getElem?_set] at h3;by_cases C:k=j
     ·subst C; exact ⟨(n,es),R⟩
     ·rw [d2 C] at h3;exact ⟨(n1,X),by simp only [AD.xat,I,h3]⟩
  ·simp only [AD.xput,I];rw [AD.get_cons];split
   ·intro y hy;rcases List.mem_or_eq_of_mem_set hy with hy | rfl
    ·exact hwc y hy
    ·exact hw
   ·exact h.wf p
theorem AY.xgo (h:AY F0 w0 O a w G) {es:QQ} (hq:O.get q=.xo n es) (hd:d<a.tmps.size) (hdq:d≠q) {w':World} {e:EV} {z':Option (Nat × Nat)}
  (b1:w'.os=w.os) (b2:w'.tape=w.tape) (b3:w'.output=w.output) (b4:w.heap.size<=w'.heap.size) (b5:∀ k,k<w.heap.size->(∀ lo,G q none≠some (k,lo))->w'.heap[k]?=w.heap[k]?)
  (j:∀ b lo,z'=some (b,lo)->b<w'.heap.size∧(w.heap.size<=b∨∃ g,G q none=some (b,g)))
  (U:∀ cs,e≠.bx cs) (hno:(∃ n es,e=.xo n es)->O.noRef d=true)
  (V:∀ (F':Nat->Nat->Prop) (D:DT) (env':AD) (a':Act),D0 w w' (A2 w0.heap.size F0 G) F'->D d none=z'->AX a' w' F' D env' d e v) (hw:e.WF) :
  DJ F0 w0 ((d,e)::(q,.undef)::O) (a.put (some d) v) w':=by
 let D:DT:=G0 (G0 G q (fun _=>none)) d (fun i=>if i=none then z' else none)
 have M:=ef h (AD.xat_of_xo hq) (v:=slot a q) rfl;have I:∀ p i b lo,D p i=some (b,lo)->(p=d∧i=none∧z'=some (b,lo))∨(p≠d∧p≠q∧G p i=some (b,lo)):=by
  intro p i b lo A;by_cases l:p=d
  ·subst l;simp only [D,CD] at A;split at A
   ·rename_i hi; exact .inl ⟨rfl,hi,A⟩
   ·cases A
  ·simp only [D,B2 _ _ _ _ l] at A;by_cases N:p=q
   ·subst N; rw [CD] at A; cases A
   ·rw [B2 _ _ _ _ N] at A;exact .inr ⟨l,N,A⟩
 have Y:D0 w w' (A2 w0.heap.size F0 G) (A2 w0.heap.size F0 D):=by
  intro b o u R hF;have hlt:b<w.heap.size:=World.block_lt_of_cell? w ⟨b,o,none⟩ R;have hnz:∀ lo,G q none≠some (b,lo):=fun lo E=>hF (.inr ⟨q,none,lo,E,by rw [M b lo E]; exact Nat.zero_le _⟩);refine ⟨?_,?_⟩
  ·rw [World.cell?_of_block (w:=w) (a:=⟨b,o,none⟩) (b5 b hlt hnz)];exact R
  ·rintro (h1 | ⟨p,i,lo,h1,h2⟩)
   ·exact hF (.inl h1)
   ·rcases I _ _ _ _ h1 with ⟨_,_,L⟩ | ⟨_,_,L⟩
    ·rcases (j _ _ L).2 with H | ⟨g,H⟩
     ·omega
     ·exact hnz _ H
    ·exact hF (.inr ⟨p,i,lo,L,h2⟩)
 refine ⟨D,?_,?_,h.below.but b1 b2 b3 b4 (Z:=fun k=>∃ lo,G q none=some (k,lo)) (fun b ⟨lo,E⟩=>(h.lt _ _ _ _ E).2.imp id (fun e o=>e o (by rw [M b lo E]; exact Nat.zero_le _))) (fun k hk E=>b5 k (Nat.lt_of_lt_of_le hk h.below.size) (fun lo e=>E ⟨lo,e⟩)),by rw [LT]; exact h.defers,?_,?_,?_⟩
 ·intro p i p' i' b lo g L e2;have other:∀ p i lo g,z'=some (b,lo)->p≠q->G p i=some (b,g)->False:=by
   intro p i lo g C T f3;rcases (j _ _ C).2 with H | ⟨lo'',H⟩
   ·have:=(h.lt _ _ _ _ f3).1; omega
   ·exact T (h.uniq _ _ _ _ _ _ _ f3 H).1
  rcases I _ _ _ _ L with ⟨rfl,rfl,C⟩ | ⟨n1,n2,C⟩ <;> rcases I _ _ _ _ e2 with ⟨rfl,rfl,T⟩ | ⟨m1,m2,T⟩
  ·exact ⟨rfl,rfl⟩
  ·exact (other _ _ _ _ C m2 T).elim
  ·exact (other _ _ _ _ T n2 C).elim
  ·exact h.uniq _ _ _ _ _ _ _ C T
 ·intro p i b lo L;rcases I _ _ _ _ L with ⟨_,_,C⟩ | ⟨_,_,C⟩
  ·refine ⟨(j _ _ C).1,?_⟩;rcases (j _ _ C).2 with H | ⟨g,H⟩
   ·exact .inl (Nat.le_trans h.below.size H)
   ·exact (h.lt _ _ _ _ H).2.imp id (fun e o _=>e o (by rw [M _ _ H]; exact Nat.zero_le _))
  ·exact ⟨Nat.lt_of_lt_of_le (h.lt _ _ _ _ C).1 b4,(h.lt _ _ _ _ C).2⟩
 ·intro p A;rw [F1] at A;have:=G9 h hq (by simp);rw [AD.get_cons,d2 (by omega),AD.get_cons,d2 (by omega)];exact h.dom p A
 ·intro p A;rw [F1] at A;rw [AD.get_cons];by_cases l:d=p
  ·subst l;rw [d1 rfl,IY _ _ _ hd];exact V _ _ _ _ Y (by simp only [D,CD,if_true])
  ·rw [d2 l,BN _ _ _ _ l,AD.get_cons];split
   ·trivial
   ·rename_i X;refine AX.kept Y (fun i=>by simp only [D]; rw [B2 _ _ _ _ (fun e=>l e.symm),B2 _ _ _ _ (fun e=>X e.symm)]) (fun i b lo E=>b5 b (h.lt _ _ _ _ E).1 (fun g j=>X (h.uniq _ _ _ _ _ _ _ j E).1)) (fun r off _ ⟨cs,m⟩=>?_) (fun r i W ⟨pp,J⟩=>?_) (h.slots p A)
    ·rw [AD.get_cons] at m;by_cases B:d=r
     ·rw [d1 B] at m; exact absurd m (U cs)
     ·rw [d2 B,AD.get_cons] at m;split at m
      ·cases m
      ·exact ⟨⟨cs,m⟩,BN _ _ _ _ B⟩
    ·by_cases B:d=r
     ·subst B;have hno':O.noRef d=true:=by
       rcases AD.xat_same J with ⟨cs,R⟩ | R
       ·exact absurd R (U cs)
       ·exact hno R
      have hx:=AD.noRef_x d O hno' p;rcases W with W | ⟨c,W⟩
      ·exact absurd W (hx.1 i)
      ·exact absurd W (hx.2 i c)
     ·rw [AD.xat_cons B] at J;have h2:=AD.xat_drop (by simp) (by simp) J;exact ⟨⟨pp,h2.2⟩,h.xv ⟨pp,h2.2⟩ (BN _ _ _ _ B) (fun b hb=>b5 b (h.lt _ _ _ _ hb).1 (fun g j=>h2.1 (h.uniq _ _ _ _ _ _ _ j hb).1))⟩
 ·intro p;rw [AD.get_cons];split
  ·exact hw
  ·rw [AD.get_cons];split
   ·trivial
   ·exact h.wf p
variable {s:Nat}
theorem XM (c:AY F0 w0 O a w G) (g:d<a.tmps.size) (b:o.op=.move (.tmp s)∨o.op=.assign (.tmp s)) (h:(AJ.xal s).wp S O (some d) K):B3 P F0 w0 a w o d K:=by
 simp only [AJ.wp] at h;split at h
 ·rename_i n es l;refine ⟨slot a s,w,by rcases b with b | b <;> simp [execOp,b,show a.eval (.tmp s)=slot a s from rfl],_,_,h,_,c.quiet (Below.refl _ _) d g (.la s none) _ (fun _=>none) (by simp) (by simp) (by simp) ?_ trivial⟩;simp only [AX];rintro ⟨p,k⟩;have j:=AD.xat_drop (by simp) (by simp) k;simp only [XV];rw [BN _ _ _ _ j.1]
 ·exact h.elim
variable {t e:TypeId}
theorem bc (b:AY F0 w0 O a w G) (r:d<a.tmps.size) (c:o.op=.call { callee:=.builtin .len,args:=#[x],argTypes:=#[t] }) (j:AR x y=true)
  (u:P.underlying t=some (.slice e)) (h:(AJ.xlen y).wp S O (some d) K):B3 P F0 w0 a w o d K:=by
 simp only [AJ.wp] at h;cases k:y.xlist O with
 | none=>rw [k] at h; exact h.elim
 | some p=>
  rw [k] at h;simp only [BB] at h;obtain ⟨A,B⟩:=NK b j k;obtain ⟨C,D⟩:=Nj b A B;simp only [TV.WF,I0] at C;obtain ⟨xs,⟨I,E,_⟩,_⟩:=D;have hv:∃ m cap,a.eval x=.slice m p.2.2.length cap:=by
   rcases E.2 with ⟨l,H,_⟩ | ⟨g,cap,_,_,l,_⟩
   ·exact ⟨none,0,by rw [l,H]⟩
   ·exact ⟨_,_,l⟩
  obtain ⟨m,cap,hv⟩:=hv;refine DZ b r (v:=.int .i64 p.2.2.length) (t:=.int .i64 p.2.2.length) ?_ rfl ⟨by simp only [IntKind.min,IntKind.signed,IntKind.bits,if_true]; omega,by simp only [IntKind.max_i64]; omega⟩ h;simp [execOp,c,resolve,invoke,builtin,Builtin.len_,run_underlying u,hv,goInt]
theorem dh (b:AY F0 w0 O a w G) (M:d<a.tmps.size) {x i:Operand} {y j:AL} (B:o.op=.indexAddr t x i) (C:AR x y=true) (c:AR i j=true) (u:LU P t=some n) (h:(AJ.xia y j n).wp S O (some d) K):B3 P F0 w0 a w o d K:=by
 simp only [AJ.wp] at h;cases D:y.xlist O with
 | none=>rw [D] at h; exact h.elim
 | some p=>
  obtain ⟨⟨q,T⟩,m,es⟩:=p;rw [D] at h;simp only [BB] at h;split at h
  ·rename_i k A N;obtain ⟨⟨_,rfl⟩,U,I,V⟩:=h;obtain ⟨W,J⟩:=NK b C D;have l:=BU b c N;simp only [A7] at l;obtain ⟨g,cap,X,e,xs,L,_⟩:=Zw b W J (by rintro rfl; simp at I; omega);unfold LU at u;split at u
   ·rename_i el R;have E:0<=A∧A<(es.length:Int):=⟨U,I⟩;refine ⟨.pointer (some ⟨g,A.toNat*m,none⟩),w,?_,_,_,V,_,b.quiet (Below.refl _ _) d M (.lp q T (A.toNat*m)) _ (fun _=>none) (by simp) (by simp) (by simp) ?_ trivial⟩
    ·simp [execOp,B,L,l.1,Instr.indexAt,asIntOf,run_underlying R,E,D7 u,Addr.add_lit]
    ·simp only [AX];rintro ⟨Y,H⟩;have r:=AD.xat_drop (by simp) (by simp) H;exact ⟨g,_,_,b.xv ⟨_,r.2⟩ (BN _ _ _ _ r.1) (fun _ _=>rfl) _ (by rw [←L]; exact J),rfl⟩
   ·cases u
  ·exact h.elim
theorem ZD (j:AY F0 w0 O a w G) (b:AR x y=true) {q c:Nat} {p:Nat × QQ} (h:y.ev O=.lp q i c) (k:O.xat q i=some p):∃ g len cap,XV a w q i (.slice (some ⟨g,0,none⟩) len cap)∧a.eval x=.pointer (some ⟨g,c,none⟩):=by
 cases y with
 | c t=>simp [AL.ev] at h
 | s m=>
  have l:x=.tmp m:=by
   cases x <;> simp [AR] at b;rw [b]
  subst l;simp only [AL.ev] at h;have:=A9 j h (by simp);simp only [AX] at this;exact this ⟨p,k⟩
theorem dg (j:AY F0 w0 O a w G) (r:d<a.tmps.size) {f k:Nat} (l:o.op=.fieldAddr t x f) (m:AR x y=true) (u:Ow P t f=some k) (h:(AJ.xfa y k).wp S O (some d) K):B3 P F0 w0 a w o d K:=by
 simp only [AJ.wp] at h;split at h
 ·rename_i q i c A;split at h
  ·rename_i E B;obtain ⟨g,len,cap,C,D⟩:=ZD j m A B;refine ⟨.pointer (some ⟨g,c+k,none⟩),w,by simp [execOp,l,D,SJ u],_,_,h,_,j.quiet (Below.refl _ _) d r (.lp q i (c+k)) _ (fun _=>none) (by simp) (by simp) (by simp) ?_ trivial⟩;simp only [AX];rintro ⟨H,p⟩;have b:=AD.xat_drop (by simp) (by simp) p;exact ⟨g,_,_,j.xv ⟨_,b.2⟩ (BN _ _ _ _ b.1) (fun _ _=>rfl) _ C,rfl⟩
  ·exact h.elim
 ·exact h.elim
theorem di (k:AY F0 w0 O a w G) (M:d<a.tmps.size) (l:o.op=.load t x) (m:AR x y=true) (N:DV P t=some false) (h:(AJ.xld y).wp S O (some d) K):B3 P F0 w0 a w o d K:=by
 simp only [AJ.wp] at h;split at h
 ·rename_i q i c R;split at h
  ·rename_i T p;obtain ⟨n,es⟩:=T;simp only at h;cases b:(es.flatMap TV.cells)[c]? with
   | none=>rw [b] at h; exact h.elim
   | some L=>
    rw [b] at h;simp only [BB] at h;have r:es≠[]:=by rintro rfl; simp at b
    obtain ⟨g,len,cap,D,X⟩:=ZD k m R p;obtain ⟨g',E,u,e,xs,H,Y,f3,f4,f5,Z,f7,I,f9,f10,f11⟩:=Zw k p D r;simp only [Value.slice.injEq,zzY,Addr.mk.injEq,and_true] at H;obtain ⟨rfl,rfl,rfl⟩:=H;have U:c<(es.flatMap TV.cells).length:=by
     rcases Nat.lt_or_ge c (es.flatMap TV.cells).length with h | h
     ·exact h
     ·rw [List.getElem?_eq_none h] at b; cases b
    have V:=CN I;obtain ⟨y,J⟩:∃ y,xs[c]?=some y:=⟨_,List.getElem?_eq_getElem (by omega)⟩;have j:w.cell? ⟨g,c,none⟩=some y:=by
     rw [cell_of_row w g c u e (0,0) Y];have:=J;rw [←Z,List.getElem?_take] at this;split at this
     ·simpa using this
     ·cases this
    have W:=(Nj k p D).1;refine DZ k M (v:=y) ?_ (((CP _ _).1 I).2 c L _ b J) ?_ h
    ·simp [execOp,l,X,Instr.loadAt,Instr.sureAddr,loadVar,FV N,j]
    ·have:=W.2;rw [CW] at this;have C:=List.mem_of_getElem? b;rw [List.mem_flatMap] at C;obtain ⟨e',A,B⟩:=C;exact CW.1 (KY (this e' A)) L B
  ·exact h.elim
 ·exact h.elim
theorem X2 {t:TV} (h:TV.WFs t.cells):t.WF:=by
 cases t <;> simp only [TV.cells,TV.WFs,and_true] at h <;> first | exact h | (simp only [TV.WF]; exact h)
theorem XT {es:QQ} (h:TV.WFs es):TV.WFs (es.flatMap TV.cells):=by
 rw [CW] at h ⊢;intro t b;rw [List.mem_flatMap] at b;obtain ⟨e,c,b⟩:=b;exact CW.1 (KY (h e c)) t b
theorem SN:∀ {es:QQ},TV.WFs (es.flatMap TV.cells)->TV.WFs es
 | [],_=>trivial
 | e::es,h=>by
  rw [List.flatMap_cons] at h;rw [Lg] at h;exact ⟨X2 h.1,SN h.2⟩
theorem dj (A:AY F0 w0 O a w G) {x v:Operand} {x' v':AL} (R:o.op=.store t x v) (C:AR x x'=true) (hv:AR v v'=true) (hn:FK P t=some 1) (h:(AJ.xst x' v').wp S O none K):NP P F0 w0 a w o K:=by
 simp only [AJ.wp] at h;split at h
 ·rename_i q i c hy;split at h
  ·rename_i n es u N hu;obtain ⟨h1,h2,es',h3,B,h5,hK⟩:=h;obtain ⟨g,len,cap,Z,e2⟩:=ZD A C hy N;have E:=(Nj A N Z).1;have h6:TV.WFs es':=by
    have h7:=XT E.2;have h8:TV.WFs (es'.flatMap TV.cells):=by
     rw [h3,CW];intro t U;rcases List.mem_or_eq_of_mem_set U with U | rfl
     ·exact CW.1 h7 t U
     ·have:=(BU A hv (t:=t) (by simp [AL.val,hu,EV.val])).2;exact this
    exact SN h8
   have V:es≠[]:=by rintro rfl; simp at h2
   obtain ⟨g',cap',l,e,xs,f1,f2,f3,f4,f5,f6,f7,f8,f9,f10,f11⟩:=Zw A N Z V;simp only [Value.slice.injEq,zzY,Addr.mk.injEq,and_true] at f1;obtain ⟨rfl,rfl,rfl⟩:=f1;have W:=BU A hv (t:=u) (by simp [AL.val,hu,EV.val]);have H:=JW W.1;rw [h1] at H;have I:∃ y,(a.eval v).cells.toList=[y]∧A7 w (A2 w0.heap.size F0 G) u y∧y.oneCell'=true:=by
    obtain ⟨L,k2⟩:=H;simp only [AS] at L;obtain ⟨y,r,M,k4,rfl⟩:=L;exact ⟨y,M,k4,k2 y (by rw [M]; simp)⟩
   obtain ⟨y,L,k2,M⟩:=I;have hcc:c<l.size:=by rw [f5]; exact Nat.lt_of_lt_of_le h2 (Nat.mul_le_mul_right _ f3)
   have m:=run_storeCells_at P g c e [y] 0 l w f2 (by simp only [List.length_singleton]; omega) (by simpa using M);simp only [Nat.add_zero] at m;have X:(a.eval v).cells.size=1:=by rw [←Array.length_toList,L]; rfl
   have Y:(execOp a.eval o).run P w=.ok .skip (w.setRow g (l.toList.take c++[y]++l.toList.drop (c+1)).toArray):=by
    simp only [List.length_singleton] at m;simp [execOp,R,e2,Instr.storeAt,Instr.sureAddr,storeVar,D7 hn,X,L,m]
   refine ⟨_,Y,_,hK,G,?_⟩;refine A.rexo N Z (w':=w.setRow g (l.toList.take c++[y]++l.toList.drop (c+1)).toArray) (xs':=xs.set c y) ⟨rfl,rfl,rfl,by simp,fun k _ hk=>setRow_other w g k _ (fun e=>hk 0 (by rw [e]; exact f7))⟩ ⟨some (g,es.length*n),⟨by rw [List.length_set,f11,B],.inr ⟨g,cap,_,e,by rw [B],setRow_heap w g l _ e _ f2,by rw [B]; exact f3,f4,?_,?_,by rw [B]⟩⟩,by rw [f7]; rfl⟩ (fun D=>?_) h5 (fun x C=>?_) ⟨by rw [B]; exact E.1,h6⟩
   ·simp only [List.size_toArray,d4,d5,List.length_drop,Array.length_toList,List.length_singleton]; omega
   ·rw [B,←f6];apply List.ext_getElem?;intro i;simp only [List.getElem?_take,List.getElem?_set,d5,Array.length_toList,d6,List.length_nil];by_cases hi:i<es.length*n
    ·rw [d1 hi];by_cases p:c=i
     ·subst p;rw [d1 rfl,d1 (by rw [f5]; have:=Nat.mul_le_mul_right n f3; omega)];rw [ea,List.getElem?_append_right (by simp; omega)];simp only [d5,Array.length_toList];rw [Nat.min_eq_left (by omega),Nat.sub_self]; rfl
     ·rw [d2 p];rcases Nat.lt_or_ge i c with hlt | hge
      ·rw [ea,List.getElem?_append_left (by simp; omega),List.getElem?_take,d1 hlt,d1 hi]
      ·rw [List.getElem?_append_right (by simp; omega),List.getElem?_drop,d1 hi];simp only [d4,d5,Array.length_toList,d6,List.length_nil];rw [Nat.min_eq_left (by omega),show c+(0+1)+(i - (c+(0+1)))=i from by omega]
    ·rw [d2 hi,d2 (by omega)];rw [d2 hi]
   ·rw [h3];rw [CP];have J:=(CP _ _).1 (BS D _ _ f8);refine ⟨by rw [List.length_set,List.length_set]; exact J.1,fun i t' T j b=>?_⟩;rw [List.getElem?_set] at j b;by_cases p:c=i
    ·subst p;rw [d1 rfl] at j b;split at j
     ·split at b
      ·simp only [zzY] at j b;subst j b;exact DH D _ _ k2
      ·cases b
     ·cases j
    ·rw [d2 p] at j b;exact J.2 i t' T j b
   ·rcases List.mem_or_eq_of_mem_set C with C | rfl
    ·exact f10 x C
    ·exact M
  ·exact h.elim
 ·exact h.elim
theorem XK (k:AY F0 w0 O a w G) (A:d<a.tmps.size) (c:o.op=.move (.tmp s)∨o.op=.assign (.tmp s)) (h:(AJ.rel s).wp S O (some d) K):B3 P F0 w0 a w o d K:=by
 simp only [AJ.wp] at h;split at h
 ·rename_i R n es j m;simp only [zzY] at j;subst j;obtain ⟨p,D⟩:=h;have r:=A9 k m (by simp);have u:=k.wf s;rw [m] at u;simp only [AX] at r;obtain ⟨xs,⟨E,H,g⟩,I,J,L⟩:=r;refine ⟨slot a s,w,by rcases c with c | c <;> simp [execOp,c,show a.eval (.tmp s)=slot a s from rfl],_,_,D,k.xgo m A p (z':=E) rfl rfl rfl (d3 _) (fun _ _ _=>rfl) (fun b lo B=>?_) (by simp) (by simp) (fun F' M env' N l C=>?_) u⟩
  ·rw [B] at g;exact ⟨(k.lt _ _ _ _ g).1,.inr ⟨_,g⟩⟩
  ·simp only [AX,C3];rw [C];exact ⟨xs,H,BS l _ _ I,J,L⟩
 ·exact h.elim
theorem XL (j:AY F0 w0 O a w G) (B:d<a.tmps.size) (c:o.op=.move (.tmp s)∨o.op=.assign (.tmp s)) (h:(AJ.tkx s).wp S O (some d) K):B3 P F0 w0 a w o d K:=by
 simp only [AJ.wp] at h;split at h
 ·rename_i N n es g l;simp only [zzY] at g;subst g;obtain ⟨m,p,D⟩:=h;have u:=A9 j l (by simp);have A:=j.wf s;rw [l] at A;simp only [AX] at u;obtain ⟨xs,E,H,I,J⟩:=u;refine ⟨slot a s,w,by rcases c with c | c <;> simp [execOp,c,show a.eval (.tmp s)=slot a s from rfl],_,_,D,j.xgo l B p (z':=G s none) rfl rfl rfl (d3 _) (fun _ _ _=>rfl) (fun b lo r=>⟨(j.lt _ _ _ _ r).1,.inr ⟨_,r⟩⟩) (by simp) (fun _=>m) (fun F' L env' M k C=>?_) A⟩;simp only [AX];rw [C];exact ⟨xs,E,BS k _ _ H,I,J⟩
 ·exact h.elim
theorem AY.xnew (h:AY F0 w0 O a w G) {w':World} (u:Below w.heap.size w w') (A:d<a.tmps.size) (r:O.noRef d=true) {es:QQ} {z:Option (Nat × Nat)} {xs:List Value} (g:ID w' n v es.length xs z)
  (B:∀ b lo,z=some (b,lo)->w.heap.size<=b∧b<w'.heap.size)
  (j:∀ F',(∀ b o,F' b o->(b<w.heap.size∧A2 w0.heap.size F0 G b o)∨∃ lo,z=some (b,lo))->AS w' F' (es.flatMap TV.cells) xs) (C:∀ e∈es,e.cells.length=n) (D:∀ x∈xs,x.oneCell'=true) (E:(TV.list n es).WF) :
  DJ F0 w0 ((d,.xo n es)::O) (a.put (some d) v) w':=by
 refine ⟨_,h.quiet u d A (.xo n es) v (fun i=>if i=none then z.map (fun p=>(p.1,0)) else none) (fun i b lo hi=>?_) (fun i I b lo H c l=>?_) (fun _=>r) ?_ E⟩
 ·split at hi
  ·cases z with
   | none=>simp at hi
   | some p=>
    simp only [Option.map_some,zzY,Prod.mk.injEq] at hi;exact hi.1 ▸ B p.1 p.2 rfl
  ·cases hi
 ·split at c
  ·split at l
   ·simp_all
   ·cases l
  ·cases c
 ·simp only [AX];refine ⟨xs,⟨z,g,by rw [CD]; simp⟩,j _ (fun b o m=>?_),C,D⟩;rcases m with m | ⟨p,i,lo,c,l⟩
  ·exact .inl ⟨Nat.lt_of_lt_of_le m.1 h.below.size,.inl m⟩
  ·by_cases k:p=d
   ·subst k;rw [CD] at c;split at c
    ·cases z with
     | none=>simp at c
     | some q=>
      simp only [Option.map_some,zzY,Prod.mk.injEq] at c;exact .inr ⟨q.2,by rw [←c.1]⟩
    ·cases c
   ·rw [B2 _ _ _ _ k] at c;exact .inl ⟨(h.lt _ _ _ _ c).1,.inr ⟨p,i,lo,c,l⟩⟩
theorem VW (g:AY F0 w0 O a w G) (j:d<a.tmps.size) (b:o.op=.move x∨o.op=.assign x) (k:∃ v,x=.const v∧Lv v=true) (h:(AJ.nilx n).wp S O (some d) K):B3 P F0 w0 a w o d K:=by
 simp only [AJ.wp] at h;obtain ⟨c,l⟩:=h;obtain ⟨v,rfl,hv⟩:=k;have hv:=LD hv;subst hv;refine ⟨.slice none 0 0,w,by rcases b with b | b <;> simp [execOp,b,Act.eval],_,_,l,g.xnew (Below.refl _ _) j c (z:=none) (xs:=[]) ⟨by simp,.inl ⟨rfl,rfl,rfl⟩⟩ (by simp) (fun _ _=>rfl) (by simp) (by simp) ⟨by simp,trivial⟩⟩
variable {f:FuncId} {ys:List AL} {ats:Array TypeId} {Q:Exit->Act->World->Prop}
theorem Zq (V:AY F0 w0 O a w G) (W:d<a.tmps.size) (k:o.dst=some d) {xs:Array Operand} (J:o.op=.call { callee:=.value (.func f),args:=xs,argTypes:=ats }) (L:DL xs.toList ys=true) (h:(AJ.callx f ys).wp (AU P) O (some d) K)
  {next:Act->World->Prop} (X:∀ e env' M w',K e env'->Q1 a d M->DJ F0 w0 ((d,e)::env') M w'->next M w'):o.wp P a w next Q:=by
 simp only [AJ.wp] at h;obtain ⟨R,h⟩:=h;cases g:vals O ys with
 | none=>rw [g] at h; exact h.elim
 | some ts=>
  rw [g] at h;simp only [BB] at h;obtain ⟨n,es,p,hK⟩:=h;have hv:=KH V L g;have m:(execOp a.eval o).run P w=(callFunc f (xs.map a.eval)).run P w:=by simp [execOp,J,resolve,Act.eval,Deferred.ofValue,invoke]
  have key:GY P f=true∧(TV.list n es).WF∧Calls P f (xs.map a.eval) w fun e w'=>∃ v z c,e=.returned v∧Below w.heap.size w w'∧ID w' n v es.length c z∧(∀ F',(∀ b o,F' b o->(b<w.heap.size∧A2 w0.heap.size F0 G b o)∨∃ lo,z=some (b,lo))->AS w' F' (es.flatMap TV.cells) c)∧(∀ e∈es,e.cells.length=n)∧(∀ x∈c,x.oneCell'=true)∧∀ b lo,z=some (b,lo)->w.heap.size<=b∧b<w'.heap.size:=by
   rcases p with p | ⟨p,U⟩
   ·obtain ⟨r,T⟩:=(p.to0 rfl) hv.2;obtain ⟨j,A⟩:=T (A2 w0.heap.size F0 G) w (xs.map a.eval) (by simpa using hv.1);refine ⟨r,j,A.mono ?_⟩;rintro e w' ⟨v,rfl,B,z,c,C,D,E,H,I⟩;exact ⟨v,z,c,rfl,B,C,fun F' l=>BS (fun b o u Y Z=>⟨Y,fun N=>Z (l b o N)⟩) _ _ D,E,H,I⟩
   ·obtain ⟨r,T⟩:=(p.to0 rfl) hv.2;obtain ⟨j,A⟩:=T (A2 w0.heap.size F0 G) w (xs.map a.eval) (by simpa using hv.1);refine ⟨r,j,A.mono ?_⟩;rintro e w' ⟨v,rfl,B,z,⟨c,C,D,E,H⟩,I⟩;exact ⟨v,z,c,rfl,B,C,fun F' l=>KB _ (OH _ U) _ D,E,H,I⟩
  obtain ⟨r,j,A⟩:=key;unfold Oper.wp;rw [m,I4 r _,Oper.upon_enter];refine A.mono ?_;rintro e w' ⟨v,z,c,rfl,B,C,D,E,H,I⟩;simp only [k];exact X _ _ _ _ (hK j) ⟨_,rfl⟩ (V.xnew B W R C I D E H j)
theorem Zo (A:AY F0 w0 O a w G) (T:d<a.tmps.size) (j:o.dst=some d) (B:o.op=.call { callee:=.value (.func f),args:=#[x],argTypes:=ats }) (C:AR x y=true) (h:(AJ.callm f y).wp (AU P) O (some d) K)
  {next:Act->World->Prop} (U:∀ e env' D w',K e env'->Q1 a d D->DJ F0 w0 ((d,e)::env') D w'->next D w'):o.wp P a w next Q:=by
 simp only [AJ.wp] at h;cases E:y.xlist O with
 | none=>rw [E] at h; exact h.elim
 | some p=>
  obtain ⟨⟨q,i⟩,m,es⟩:=p;rw [E] at h;simp only [BB] at h;obtain ⟨rfl,zs,c,rfl,⟨g,l,V,u,b,W⟩,X⟩:=h;simp only [List.cons.injEq,TV.list.injEq,true_and,and_true] at l;have H:g=zs:=by
   have:=congrArg (List.map fun t=>match t with | .int _ n=>n | _=>0) l;simpa [List.map_map,Function.comp_def] using this.symm
  subst H;obtain ⟨N,R⟩:=NK A C E;obtain ⟨L,xs,Y,Z,h3,h4⟩:=Nj A N R;replace b:=b L;have I:xs=g.map (Value.int .i64):=by
   have:∀ (zs:Ne) (xs:List Value),AS w (A2 w0.heap.size F0 G) ((zs.map (TV.int .i64)).flatMap TV.cells) xs->xs=zs.map (Value.int .i64):=by
    intro zs
    induction zs with
    | nil=>intro xs h; exact h
    | cons z zs M=>
     intro xs h;simp only [List.map_cons,List.flatMap_cons,TV.cells,List.singleton_append,AS,A7] at h;obtain ⟨v,r,rfl,rfl,h⟩:=h;rw [M r h]; rfl
   exact this g xs Z
  subst I;have k:(execOp a.eval o).run P w=(callFunc f #[a.eval x]).run P w:=by simp [execOp,B,resolve,Act.eval,Deferred.ofValue,invoke]
  unfold Oper.wp;rw [k,I4 V _,Oper.upon_enter];refine (W w (a.eval x) (G q i) (by simpa using Y)).mono ?_;rintro e w' ⟨rfl,r1,r2⟩;simp only [j];have J:=A.rexo N R r2 (es':=c.map (TV.int .i64)) (xs':=c.map (Value.int .i64)) (by rw [d7,u]; exact r1) (fun _=>?_) (by simp [TV.cells]) (by simp [Value.oneCell']) b
  ·refine U _ _ _ _ (X b) ⟨_,rfl⟩ ⟨_,J.quiet (Below.refl _ _) d T (.tp []) _ (fun _=>none) (by simp) (by simp) (by simp) ?_ trivial⟩;simp only [AX];exact ⟨#[],rfl,rfl⟩
  ·have:∀ (zs:Ne),AS w' (A2 w0.heap.size F0 G) ((zs.map (TV.int .i64)).flatMap TV.cells) (zs.map (Value.int .i64)):=by
    intro zs
    induction zs with
    | nil=>rfl
    | cons z zs M=>
     simp only [List.map_cons,List.flatMap_cons,TV.cells,List.singleton_append,AS,A7];exact ⟨_,_,rfl,rfl,M⟩
   exact this c
theorem VB {w:World} {F:Nat->Nat->Prop}:∀ (zs:Ne),AS w F ((zs.map (TV.int .i64)).flatMap TV.cells) (zs.map (Value.int .i64))
 | []=>rfl
 | z::zs=>by
  simp only [List.map_cons,List.flatMap_cons,TV.cells,List.singleton_append,AS,A7];exact ⟨_,_,rfl,rfl,VB zs⟩
theorem VS {w:World} {F:Nat->Nat->Prop}:∀ (zs:Ne) (xs:List Value),AS w F ((zs.map (TV.int .i64)).flatMap TV.cells) xs->xs=zs.map (Value.int .i64)
 | [],xs,h=>h
 | z::zs,xs,h=>by
  simp only [List.map_cons,List.flatMap_cons,TV.cells,List.singleton_append,AS,A7] at h;obtain ⟨v,r,rfl,rfl,h⟩:=h;rw [VS zs r h]; rfl
theorem Zk (g:AY F0 w0 O a w G) (W:d<a.tmps.size) (j:o.dst=some d) (B:o.op=.call { callee:=.value (.func f),args:=#[x],argTypes:=ats }) (C:AR x y=true) (h:(AJ.callc f y).wp (AU P) O (some d) K)
  {next:Act->World->Prop} (X:∀ e env' A w',K e env'->Q1 a d A->DJ F0 w0 ((d,e)::env') A w'->next A w'):o.wp P a w next Q:=by
 simp only [AJ.wp] at h;cases E:y.xlist O with
 | none=>rw [E] at h; exact h.elim
 | some p=>
  obtain ⟨⟨q,i⟩,m,es⟩:=p;rw [E] at h;simp only [BB] at h;obtain ⟨⟨J,rfl⟩,rfl,L,zs,M,rfl,⟨N,r,hc,c,hS⟩,hK⟩:=h;simp only [List.cons.injEq,TV.list.injEq,true_and,and_true] at r;have H:N=zs:=by
   have:=congrArg (List.map fun t=>match t with | .int _ n=>n | _=>0) r;simpa [List.map_map,Function.comp_def] using this.symm
  subst H;obtain ⟨u,U⟩:=NK g C E;replace u:=AD.xat_none u;simp only [XV] at U;replace c:=c (by have:=g.wf q; rw [u] at this; exact this);have T:=A9 g u (by simp);simp only [AX] at T;obtain ⟨xs,h1,h2,h3,h4⟩:=T;have I:=VS _ _ h2;subst I;have l:(execOp a.eval o).run P w=(callFunc f #[slot a q]).run P w:=by simp [execOp,B,resolve,Act.eval,Deferred.ofValue,invoke,←U]
  unfold Oper.wp;rw [l,I4 hc _,Oper.upon_enter];refine (hS w (slot a q) (G q none) (by simpa using h1)).mono ?_;rintro e w' ⟨v',rfl,r1,r2⟩;simp only [j];obtain ⟨b1,b2,b3,V,b5⟩:=r2;refine X _ _ _ _ (hK c) ⟨_,rfl⟩ (g.xgo u W (fun e=>J e.symm) (z':=G q none) b1 b2 b3 V (fun k D Y=>b5 k D Y) (fun b lo R=>⟨Nat.lt_of_lt_of_le (g.lt _ _ _ _ R).1 V,.inr ⟨_,R⟩⟩) (by simp) (fun _=>L) (fun F' G' env' A Z hG=>?_) c);simp only [AX];rw [hG];exact ⟨_,by simpa using r1,VB M,by simp [TV.cells],by simp [Value.oneCell']⟩
variable {z:Value}
theorem bO (hI:AY F0 w0 O a w G) (hd:d<a.tmps.size) {i:TypeInfo} (hop:o.op=.call { callee:=.builtin .append,args:=#[.tmp s,x],argTypes:=#[t,t] })
  (ht:P.underlying t=some (.slice e)) (hi:P.info? e=some i) (r:i.zero=some z) (D:i.size=n) (hby:i.bytes<=4096) (hzs:z.cells.size=n) (hn:0<n)
  (hok:AR x y=true) (h:(AJ.appx n s y).wp S O (some d) K):B3 P F0 w0 a w o d K:=by
 simp only [AJ.wp] at h;split at h
 ·rename_i d' m es m' E L hs hy;simp only [zzY] at L;subst L;obtain ⟨hm1,hm2,V,hno,hds,hK⟩:=h;subst hm2;subst hm1;have B:=A9 hI hs (by simp);have H:=hI.wf s;rw [hs] at H;simp only [AX] at B;obtain ⟨xs,⟨z0,h1,W⟩,h2,h3,h4⟩:=B;have hv:=BU hI hok hy;simp only [A7] at hv;obtain ⟨⟨ad,cap,h5,h6,h7,h8⟩,h9⟩:=hv;have I:∃ c:List Value,AS w (A2 w0.heap.size F0 G) (E.flatMap TV.cells) c∧(∀ x∈c,x.oneCell'=true)∧(∀ f∈E,f.cells.length=m)∧∀ b,ad=some b->∀ (j:Nat) (u:Value),c[j]?=some u->w.cell? (b.add j)=some u:=by
   cases ad with
   | none=>
    have:=h7 rfl;subst this;exact ⟨[],rfl,by simp,by simp,by simp⟩
   | some b=>
    obtain ⟨A,X⟩:=h8 b rfl;obtain ⟨bb,g,sp⟩:=b;simp only at A X;by_cases T:E=[]
    ·subst T;exact ⟨[],rfl,by simp,by simp,by simp⟩
    have A:sp=none:=A.resolve_left T;subst A;have U:∀ (l:QQ) (g:Nat),IN w (A2 w0.heap.size F0 G) m l bb g->EN w (A2 w0.heap.size F0 G) (l.flatMap TV.cells) bb g∧∀ f∈l,f.cells.length=m:=by
     intro l
     induction l with
     | nil=>intro g _; exact ⟨trivial,by simp⟩
     | cons f l ih=>
      intro g M;rw [OZ] at M;obtain ⟨i1,i2⟩:=ih _ M.2.2;refine ⟨?_,by simp only [List.mem_cons,forall_eq_or_imp]; exact ⟨M.2.1,i2⟩⟩;rw [List.flatMap_cons,GU];intro j u hj;rw [List.getElem?_append] at hj;split at hj
      ·exact (GU _ _ _).1 M.1 j u hj
      ·rename_i hge;have:=(GU _ _ _).1 i1 _ u hj;have hfl:=M.2.1
       rwa [show g+m+(j - f.cells.length)=g+j from by omega] at this
    obtain ⟨r1,C⟩:=U E g X;obtain ⟨vs,q1,q2,q3⟩:=Qp r1;exact ⟨vs,q1,q2,C,fun b hb=>by simp only [zzY] at hb; subst hb; exact q3⟩
  obtain ⟨c,n1,n2,n3,n4⟩:=I;have hnl:c.length=E.length*m:=by rw [CN n1,Nn m E n3]
  obtain ⟨v',w',z',Y,r1,C⟩:=Q5 (P:=P) t o.type e i z m ht hi r D hby hzs hn (slot a s) es.length xs z0 h1 ad E.length cap c hnl (fun e=>by rw [h7 e]; rfl) h6 n4 n2 V;have hnz:∀ k,(∀ lo,G s none≠some (k,lo))->∀ lo,z0≠some (k,lo):=fun k hk lo r=>hk 0 (by rw [W,r]; rfl);refine ⟨v',w',?_,_,_,hK,hI.xgo hs hd hds (z':=z'.map fun p=>(p.1,0)) C.os C.tape C.output C.size (fun k hk r=>C.other k hk (hnz k r)) (fun b lo r=>?_) (by simp) (fun _=>hno) (fun F' G' env' a' J hG=>?_) ?_⟩
  ·simp [execOp,hop,resolve,invoke,builtin,show a.eval (.tmp s)=slot a s from rfl,h5,Y]
  ·cases z' with
   | none=>simp at r
   | some p=>
    simp only [Option.map_some,zzY,Prod.mk.injEq] at r;obtain ⟨k1,Z⟩:=C.zone p.1 p.2 rfl;rw [←r.1];refine ⟨k1,?_⟩;rcases Z with Z | ⟨lo',Z,_⟩
    ·exact .inl Z
    ·exact .inr ⟨0,by rw [W,Z]; rfl⟩
  ·simp only [AX];rw [hG];refine ⟨xs++c,⟨z',by rw [d4]; exact r1,rfl⟩,?_,?_,?_⟩
   ·rw [List.flatMap_append];exact Kf (BS J _ _ h2) (BS J _ _ n1)
   ·intro e N;rcases List.mem_append.1 N with N | N
    ·exact h3 e N
    ·exact n3 e N
   ·intro x R;rcases List.mem_append.1 R with R | R
    ·exact h4 x R
    ·exact n2 x R
  ·simp only [EV.WF,TV.WF] at H h9 ⊢;exact ⟨by rw [d4]; exact Tx (by omega),Lg.2 ⟨H.2,h9.2⟩⟩
 ·exact h.elim
variable {ty:TypeId}
theorem da (T:AY F0 w0 O a w G) (hd:d<a.tmps.size) {x x':Operand} {g:TypeInfo} {z c:Value} {t:TV} (C:o.op=.makeSlice ty x x') (U:AR x y=true) (D:AR x' y=true)
  (r:P.underlying ty=some (.slice e)) (E:P.info? e=some g) (R:g.zero=some z) (hs:g.size=1) (V:g.bytes<=4096) (W:z.cells=#[c]) (hc:FT t c=true) (X:c.oneCell'=true) (H:t.cells=[t])
  (h:(AJ.mkx 1 [t] y).wp S O (some d) K):B3 P F0 w0 a w o d K:=by
 simp only [AJ.wp] at h;split at h
 ·rename_i d' ik j I hy;simp only [zzY] at I;subst I;obtain ⟨hno,h0,hmax,hK⟩:=h;have hv:=(BU T U hy).1;have A:=(BU T D hy).1;simp only [A7] at hv A;obtain ⟨m,rfl⟩:∃ m:Nat,j=m:=⟨j.toNat,by omega⟩;have hm:m<=4096:=by omega
  have Y:IntKind.i64.wrap (m:Int)=m:=by
   have e1:(2:Int) ^ 64=18446744073709551616:=by decide
   have e2:(2:Int) ^ (64 - 1)=9223372036854775808:=by decide
   simp only [IntKind.wrap,IntKind.bits,IntKind.signed,Bool.true_and,zzX,e1,e2,ge_iff_le];split <;> omega
  have l:m*g.bytes<=16777216:=by
   calc m*g.bytes<=4096*4096:=Nat.mul_le_mul hm V
    _=16777216:=by decide
  have p:(Array.range m).map (fun q=>([c]:List Value)[q % 1]?.getD default)=Array.replicate m c:=by
   apply Array.ext
   ·simp
   ·intro i h1 h2;simp [Nat.mod_one]
  have J:¬ (281474976710656<(g.bytes:Int)*(m:Int)):=by
   have h1:((m*g.bytes:Nat):Int)<=((16777216:Nat):Int):=Int.ofNat_le.2 l;rw [Nat.mul_comm,Int.natCast_mul] at h1;omega
  have B:¬ (m*g.bytes > roomBytes):=by
   have:roomBytes ≥ 16777216:=by decide
   omega
  have L:¬ ((m:Int)<0):=by omega
  have M:(execOp a.eval o).run P w=.ok (.value (.slice (some ⟨w.heap.size,0,none⟩) m m)) (w.alloc (.cells (Array.replicate m c) e)):=by
   by_cases N:m=0
   ·subst N;have Z:IntKind.i64.wrap 0=0:=by decide
    simp [execOp,C,hv,A,Instr.makeSlice,run_underlying r,asInt,asIntOf,typeInfo,E,Z,askRoom,sizeOf,hs,newRow];rw [Array.range_zero']; simp
   ·simp [execOp,C,hv,A,Instr.makeSlice,run_underlying r,asInt,asIntOf,typeInfo,E,Y,askRoom,sizeOf,hs,newRow,J,B,L,N,zeroValue,R,W,p]
  have hb:Below w.heap.size w (w.alloc (.cells (Array.replicate m c) e)):=(Below.refl _ _).alloc (d3 _) _;have hcr:=Ik (w.alloc (.cells (Array.replicate m c) e)) (fun _ _=>False) t c hc;have hfm:∀ k,(List.replicate k t).flatMap TV.cells=List.replicate k t:=by
   intro k
   induction k with
   | zero=>rfl
   | succ k ih=>rw [List.replicate_succ,List.flatMap_cons,ih,H]; rfl
  simp only [Int.toNat_natCast] at hK;refine ⟨_,_,M,_,_,hK,T.xnew hb hd hno (z:=some (w.heap.size,m*1)) (xs:=List.replicate m c) ⟨by simp,.inr ⟨w.heap.size,m,_,e,by simp,heap_alloc_new w _,by simp,by simp only [maxLen]; omega,by simp,by simp,by simp⟩⟩ (fun b lo R=>?_) (fun F' _=>?_) (fun u r=>?_) (fun v hv=>?_) ⟨by simp only [List.length_replicate,I0]; omega,?_⟩⟩
  ·simp only [zzY,Prod.mk.injEq] at R;rw [←R.1]; exact ⟨d3 _,by simp⟩
  ·rw [hfm,CP];refine ⟨by simp,fun i u v r hv=>?_⟩;rw [List.eq_of_mem_replicate (List.mem_of_getElem? r),List.eq_of_mem_replicate (List.mem_of_getElem? hv)];exact (Ik _ F' t c hc).1
  ·rw [List.eq_of_mem_replicate r,H]; rfl
  ·rw [List.eq_of_mem_replicate hv]; exact X
  ·rw [CW];intro u r;rw [List.eq_of_mem_replicate r]; exact hcr.2
 ·exact h.elim
def ZK (P:Program) (t:TypeId) (f k n:Nat) (agg:Bool):Bool:=
 match P.underlying t with
 | some (.struct fs)=>(match fs[f]? with
  | some x=>x.offset==k&&FK P x.type==some n&&DV P x.type==some agg
  | none=>false)
 | _=>false
theorem bV (D:AY F0 w0 O a w G) (J:d<a.tmps.size) {f k n:Nat} {agg:Bool} (m:o.op=.field t x f) (E:AR x y=true) (c:ZK P t f k n agg=true) (h:(AJ.fldv y k n agg).wp S O (some d) K):B3 P F0 w0 a w o d K:=by
 simp only [AJ.wp] at h;split at h
 ·rename_i cs U;obtain ⟨X,b⟩:=h;have hv:=BU D E U;simp only [A7,TV.WF] at hv;obtain ⟨⟨vs,N,C,R⟩,I⟩:=hv;unfold ZK at c;split at c
  ·rename_i W B;split at c
   ·rename_i g p;simp only [zzZ,beq_iff_eq] at c;obtain ⟨⟨rfl,V⟩,T⟩:=c;have M:=CN C;rw [CP] at C;rw [CW] at I;cases agg with
    | true=>
     simp only [if_true] at b;refine DZ D J (v:=.agg (vs.extract g.offset (g.offset+n))) (t:=.agg ((cs.drop g.offset).take n)) ?_ ?_ ?_ b
     ·simp [execOp,m,N,Instr.field,run_underlying B,p,part,FV T,D7 V,asAgg]
     ·simp only [A7];refine ⟨_,rfl,?_,?_⟩
      ·rw [CP];simp only [Array.toList_extract];refine ⟨by simp only [d5,List.length_drop,List.extract_eq_take_drop]; omega,fun i t v hi hv=>?_⟩;rw [List.extract_eq_take_drop] at hv;simp only [List.getElem?_take,List.getElem?_drop,Nat.add_sub_cancel_left] at hi hv;split at hi
       ·rename_i A;rw [d1 A] at hv;exact C.2 _ t v hi hv
       ·cases hi
      ·rw [List.all_eq_true] at R ⊢;intro x L;simp only [Array.toList_extract,List.extract_eq_take_drop] at L;exact R x (List.mem_of_mem_drop (List.mem_of_mem_take L))
     ·simp only [TV.WF];rw [CW];exact fun u B=>I u (List.mem_of_mem_drop (List.mem_of_mem_take B))
    | false=>
     simp only [Bool.false_eq_true,if_false] at b;cases H:cs.drop g.offset with
     | nil=>rw [H] at b; simp [IG,BB] at b
     | cons u r=>
      rw [H] at b;simp only [IG,BB] at b;have j:cs[g.offset]?=some u:=by
       have:=congrArg (fun l=>l[0]?) H;simpa [List.getElem?_drop] using this
      have A:g.offset<cs.length:=(List.getElem?_eq_some_iff.1 j).1;obtain ⟨v,hv⟩:∃ v,vs.toList[g.offset]?=some v:=⟨_,List.getElem?_eq_getElem (by omega)⟩;refine DZ D J (v:=v) (t:=u) ?_ (C.2 _ u v j hv) (I u (List.mem_of_getElem? j)) b;rw [Array.getElem?_toList] at hv;simp [execOp,m,N,Instr.field,run_underlying B,p,part,FV T,asAgg,hv]
   ·cases c
  ·cases c
 ·exact h.elim
def cg (P:Program) (ty:TypeId) (n:Nat) (zero:QQ):Bool:=
 match P.underlying ty,zero with
 | some (.slice e),[t]=>(match P.info? e with
  | some ie=>(match ie.zero with
   | some z=>(match z.cells.toList with
    | [z0]=>n==1&&ie.size==1&&decide (ie.bytes<=4096)&&FT t z0&&z0.oneCell'&&(match t with | .int _ _=>true | .bool _=>true | .str _=>true | _=>false)
    | _=>false)
   | none=>false)
  | none=>false)
 | _,_=>false
theorem gl (m:AY F0 w0 O a w G) (p:d<a.tmps.size) {x x':Operand} {zero:QQ} (g:o.op=.makeSlice ty x x') (j:AR x y=true) (c:AR x' y=true) (b:cg P ty n zero=true)
  (h:(AJ.mkx n zero y).wp S O (some d) K):B3 P F0 w0 a w o d K:=by
 unfold cg at b;split at b
 ·rename_i e t r;split at b
  ·rename_i H k;split at b
   ·rename_i z u;split at b
    ·rename_i I l;simp only [zzZ,beq_iff_eq,zzX] at b;obtain ⟨⟨⟨⟨⟨rfl,A⟩,B⟩,C⟩,D⟩,E⟩:=b;exact da m p g j c r k u A B (XP l) C D (by cases t <;> first | rfl | cases E) h
    ·cases b
   ·cases b
  ·cases b
 ·cases b
theorem jD {args:QQ} {t:TV} (h:AU P f args (.own t)):AU P f args (.sh t):=by
 intro m;obtain ⟨r,A⟩:=h m;refine ⟨r,fun F0 w vs hv=>?_⟩;obtain ⟨B,C⟩:=A F0 w vs hv;refine ⟨B,C.mono ?_⟩;rintro e w' ⟨v,rfl,D,z,E,H⟩;refine ⟨v,rfl,D,?_⟩;have p:=C3.rep E (fun b lo o j ho=>by
  rintro (g | ⟨I,g,J⟩)
  ·have:=(H b lo j).1; omega
  ·rw [j] at g;simp only [zzY,Prod.mk.injEq,true_and] at g;omega)
 exact DH (fun b o u k l=>⟨k,fun c=>l (.inl c)⟩) _ _ p
theorem PW (h:v.oneCell'=true):v.cells=#[v]:=by
 cases v <;> first | rfl | simp [Value.oneCell'] at h
theorem df (r:AY F0 w0 O a w G) {x v:Operand} (hop:o.op=.store t x v) (B:AR x (.s s)=true) (hv:AR v (.s q)=true) (hn:FK P t=some n) (h:(AJ.stx n s q).wp S O none K):NP P F0 w0 a w o K:=by
 simp only [AJ.wp] at h;split at h
 ·rename_i cs ds M hq;obtain ⟨I,⟨U,C⟩,ho,hK⟩:=h;have hp:(AL.s s).place O=some (s,0):=by simp [AL.place,M]
  revert hp ho hK
  suffices key:∀ g,g+n<=cs.length->K .undef ((s,.bx (cs.take g++ds++cs.drop (g+n)))::(q,.undef)::O)->(AL.s s).place O=some (s,g)->NP P F0 w0 a w o K from key 0
  ·intro g ho hK hp;have hvq:v=.tmp q:=by
    cases v <;> simp [AR] at hv;rw [hv]
   subst hvq;obtain ⟨b,hsl,hadr⟩:=KT r B hp M;have hr:=A9 r M (by simp);simp only [AX] at hr;obtain ⟨X,c,T,h1,h2,h3,h4,h5⟩:=hr;rw [hsl] at h1;simp only [Value.pointer.injEq,zzY,Addr.mk.injEq,and_true,and_self] at h1;subst h1;have Y:=A9 r hq (by simp);simp only [AX] at Y;obtain ⟨vs,A,p,e3⟩:=Y;have R:=r.wf s;rw [M] at R;have Z:=r.wf q;rw [hq] at Z;have hone:∀ y∈vs.toList,y.oneCell'=true:=by
    intro y D;obtain ⟨i,hi⟩:=List.getElem?_of_mem D;have l:i<ds.length:=by have:=(List.getElem?_eq_some_iff.1 hi).1; simpa [p] using this
    obtain ⟨x,B,hc⟩:=e3 i _ (List.getElem?_eq_getElem l);rw [Array.getElem?_toList,B] at hi;simp only [zzY] at hi;subst hi;exact ML hc
   have hev:a.eval (.tmp q)=.agg vs:=A;have hst:(execOp a.eval o).run P w=.ok .skip (w.setRow b (c.toList.take g++vs.toList++c.toList.drop (g+n)).toArray):=by
    have hln:vs.toList.length=n:=by rw [Array.length_toList,p,U]
    have H:=run_storeCells_at P b g T vs.toList 0 c w h2 (by rw [hln]; omega) hone;simp only [Nat.add_zero] at H;rw [hln] at H;simp [execOp,hop,hadr,hev,Instr.storeAt,Instr.sureAddr,storeVar,D7 hn,Value.cells,show vs.size=n by rw [p,U],H]
   have hvl:vs.toList.length=n:=by rw [Array.length_toList,p,U]
   let zs:Option Nat->Option (Nat × Nat):=fun i=>match i with | none=>some (b,0) | some j=>if g<=j∧j<g+n then G q (some (j - g)) else G s (some j)
   refine Exists.elim (r.rebox M hsl h2 (cs':=cs.take g++ds++cs.drop (g+n)) (c':=(c.toList.take g++vs.toList++c.toList.drop (g+n)).toArray) (q:=some q) (by simpa using I) (zs:=zs) rfl ?_ ?_ ?_ ?_ ?_ ?_) (fun G' h'=>⟨_,hst,_,hK,G',h'.1⟩)
   ·intro i X lo hi hz;cases i with
    | none=>exact absurd rfl hi
    | some j=>
     simp only [zs] at hz;split at hz
     ·exact .inr ⟨q,rfl,_,hz⟩
     ·exact .inl hz
   ·intro i i' X lo L A p;have zn:∀ j X lo L,zs (some j)=some (X,lo)->zs none=some (X,L)->False:=by
     intro j X lo L A p;simp only [zs,zzY,Prod.mk.injEq] at p;obtain ⟨rfl,_⟩:=p;simp only [zs] at A;split at A
     ·exact I (r.uniq _ _ _ _ _ _ _ A h4).1
     ·have:=(r.uniq _ _ _ _ _ _ _ A h4).2; cases this
    cases i with
    | none=>cases i' with
     | none=>rfl
     | some j=>exact (zn j _ _ _ p A).elim
    | some j=>cases i' with
     | none=>exact (zn j _ _ _ A p).elim
     | some j'=>
      simp only [zs] at A p;split at A <;> split at p
      ·have:=(r.uniq _ _ _ _ _ _ _ A p).2;simp only [zzY] at this;rw [show j=j' by omega]
      ·exact absurd (r.uniq _ _ _ _ _ _ _ A p).1 I
      ·exact absurd (r.uniq _ _ _ _ _ _ _ p A).1 I
      ·exact (r.uniq _ _ _ _ _ _ _ A p).2
   ·simp only [List.size_toArray,d4,d5,List.length_drop,Array.length_toList]; omega
   ·intro F' w' N E i y D;have hco:∀ j,g+n<=j->cs[j]?=some y->i=j->∃ v,c[j]?=some v∧C6 w' F' (G s (some j)) y v:=by
     intro j hj hc hij;obtain ⟨v,V,W⟩:=h5 j y hc;exact ⟨v,V,W.kept N (fun k lo u=>E k (fun e=>by have:=(r.uniq _ _ _ _ _ _ _ (e ▸ u) h4).2; cases this))⟩
    rcases Nat.lt_or_ge i g with l | hge
    ·rw [ea,List.getElem?_append_left (by simp; omega),List.getElem?_take,d1 l] at D;obtain ⟨v,V,W⟩:=h5 i y D;refine ⟨v,?_,?_⟩
     ·rw [List.getElem?_toArray,ea,List.getElem?_append_left (by simp; omega),List.getElem?_take,d1 l,Array.getElem?_toList]; exact V
     ·simp only [zs,d2 (show ¬ (g<=i∧i<g+n) by omega)];exact W.kept N (fun k lo u=>E k (fun e=>by have:=(r.uniq _ _ _ _ _ _ _ (e ▸ u) h4).2; cases this))
    ·rcases Nat.lt_or_ge i (g+n) with l | J
     ·rw [ea,List.getElem?_append_right (by simp; omega),List.getElem?_append_left (by simp; omega)] at D;simp only [d5] at D;rw [Nat.min_eq_left (by omega)] at D;obtain ⟨v,V,W⟩:=e3 (i - g) y D;refine ⟨v,?_,?_⟩
      ·rw [List.getElem?_toArray,ea,List.getElem?_append_right (by simp; omega),List.getElem?_append_left (by simp; omega)];simp only [d5,Array.length_toList];rw [Nat.min_eq_left (by omega),Array.getElem?_toList]; exact V
      ·simp only [zs,d1 (show g<=i∧i<g+n by omega)];exact W.kept N (fun k lo u=>E k (fun e=>I (r.uniq _ _ _ _ _ _ _ (e ▸ u) h4).1))
     ·rw [List.getElem?_append_right (by simp; omega)] at D;simp only [d4,d5] at D;rw [Nat.min_eq_left (by omega),U,List.getElem?_drop,show g+n+(i - (g+n))=i from by omega] at D;obtain ⟨v,V,W⟩:=hco i J D rfl;refine ⟨v,?_,?_⟩
      ·rw [List.getElem?_toArray,List.getElem?_append_right (by simp; omega)];simp only [d4,d5,Array.length_toList];rw [Nat.min_eq_left (by omega),p,U,List.getElem?_drop,show g+n+(i - (g+n))=i from by omega,Array.getElem?_toList]; exact V
      ·simp only [zs,d2 (show ¬ (g<=i∧i<g+n) by omega)];exact W
   ·intro x B;rcases List.mem_append.1 B with B | B
    ·rcases List.mem_append.1 B with B | B
     ·exact R x (List.mem_of_mem_take B)
     ·exact Z x B
    ·exact R x (List.mem_of_mem_drop B)
   ·intro k m es u;have hkl:k<cs.length:=by
     have:=(List.getElem?_eq_some_iff.1 u).1;simp only [d4,d5,List.length_drop] at this; omega
    rw [List.getElem?_toArray];rcases Nat.lt_or_ge k g with l | hge
    ·rw [ea,List.getElem?_append_left (by simp; omega),List.getElem?_take_of_lt l] at u;refine .inr ⟨⟨(m,es),by simp only [AD.xat,M,u]⟩,?_⟩;rw [ea,List.getElem?_append_left (by simp; omega),List.getElem?_take_of_lt l,Array.getElem?_toList]
    ·rcases Nat.lt_or_ge k (g+n) with l | J
     ·rw [ea,List.getElem?_append_right (by simp; omega),List.getElem?_append_left (by simp; omega)] at u;rw [Bool.or_eq_true] at C;rcases C with C | C
      ·have:=List.all_eq_true.1 C _ (List.mem_of_getElem? u);simp [TV.isXl] at this
      ·exact .inl (AD.noX_all C)
     ·rw [List.getElem?_append_right (by simp; omega)] at u;simp only [d4,d5,List.getElem?_drop] at u;rw [Nat.min_eq_left (by omega),U,show g+n+(k - (g+n))=k from by omega] at u;refine .inr ⟨⟨(m,es),by simp only [AD.xat,M,u]⟩,?_⟩;rw [List.getElem?_append_right (by simp; omega)];simp only [d4,d5,Array.length_toList,List.getElem?_drop];rw [Nat.min_eq_left (by omega),p,U,show g+n+(k - (g+n))=k from by omega,Array.getElem?_toList]
 ·exact h.elim
theorem Zm (C:AY F0 w0 O a w G) (M:d<a.tmps.size) (m:o.dst=some d) {xs:Array Operand} (D:o.op=.call { callee:=.value (.func f),args:=xs,argTypes:=ats }) (E:DL xs.toList ys=true) (h:(AJ.callg f ys).wp (AU P) O (some d) K)
  {next:Act->World->Prop} (N:∀ e env' H w',K e env'->Q1 a d H->DJ F0 w0 ((d,e)::env') H w'->next H w'):o.wp P a w next Q:=by
 simp only [AJ.wp] at h;cases l:vals O ys with
 | none=>rw [l] at h; exact h.elim
 | some ts=>
  rw [l] at h;simp only [BB] at h;obtain ⟨cs,U,V⟩:=h;have hv:=KH C E l;have A:(execOp a.eval o).run P w=(callFunc f (xs.map a.eval)).run P w:=by simp [execOp,D,resolve,Act.eval,Deferred.ofValue,invoke]
  obtain ⟨W,X⟩:=(U.to0 rfl) hv.2;obtain ⟨L,Y⟩:=X (A2 w0.heap.size F0 G) w (xs.map a.eval) (by simpa using hv.1);unfold Oper.wp;rw [A,I4 W _,Oper.upon_enter];refine Y.mono ?_;rintro e w' ⟨v,rfl,hb,vs,zs,rfl,r1,r2,r3,r4⟩;simp only [m];refine N _ _ _ _ (V L) ⟨_,rfl⟩ ⟨_,C.quiet hb d M (.oag cs) _ (fun i=>match i with | none=>none | some j=>zs j) (fun i b lo hi=>?_) (fun i R b lo I g r=>?_) (by simp) ?_ L⟩
  ·cases i with
   | none=>cases hi
   | some j=>exact r4 j b lo hi
  ·cases i with
   | none=>cases g
   | some j=>cases R with
    | none=>cases r
    | some j'=>rw [r3 j j' b lo I g r]
  ·simp only [AX];refine ⟨vs,rfl,r1,fun i c J=>?_⟩;obtain ⟨x,Z,k2,_⟩:=r2 i c J;refine ⟨x,Z,?_⟩;rw [CD];refine k2.kept (fun b o u J T=>⟨J,fun k=>T ?_⟩) (fun _ _ _=>rfl);rcases k with k | ⟨p,j,lo,g,r⟩
   ·exact .inl ⟨Nat.lt_of_lt_of_le k.1 C.below.size,.inl k⟩
   ·by_cases B:p=d
    ·subst B;rw [CD] at g;cases j with
     | none=>cases g
     | some j=>exact .inr ⟨j,lo,g,r⟩
    ·rw [B2 _ _ _ _ B] at g;exact .inl ⟨(C.lt _ _ _ _ g).1,.inr ⟨p,j,lo,g,r⟩⟩
def ZL (P:Program) (t:TypeId):Bool:=match P.underlying t with | some (.slice _)=>true | _=>false
theorem cV (h:SS x=true):x=.const (.slice none 0 0):=by
 cases x <;> simp [SS] at h;rename_i v;rw [LD h]
theorem dV (B:AY F0 w0 O a w G) (D:d<a.tmps.size) {x z:Operand} {t E:TypeId} (j:o.op=.binOp .eql t x z E) (k:AR x y=true) (H:SS z=true) (l:ZL P t=true) (h:(AJ.isn y).wp S O (some d) K):B3 P F0 w0 a w o d K:=by
 simp only [AJ.wp] at h;split at h
 ·rename_i n es I;have hv:=(BU B k I).1;simp only [A7] at hv;obtain ⟨c,cap,p,C,U,V⟩:=hv;have u:=cV H;subst u;unfold ZL at l;split at l
  ·rename_i e J;refine DZ B D (v:=.bool c.isNone) (t:=.bool c.isNone) ?_ rfl trivial (h _ (fun m=>U (by simpa using m)));have L:∀ d,(Op.equalIn (d+1) t (.slice c es.length cap) (.slice none 0 0)).run P w=.ok c.isNone w:=by
    intro d;cases c <;> simp [Op.equalIn,run_underlying J]
   have A:(Op.equalIn 10000 t (.slice c es.length cap) (.slice none 0 0)).run P w=.ok c.isNone w:=L 9999;have M:(eqGuard .eql t x (.const (.slice none 0 0)) (.slice c es.length cap) (.slice none 0 0)).run P w=.ok () w:=by
    simp [eqGuard]
   have m:(binOp .eql t (.slice c es.length cap) (.slice none 0 0)).run P w=.ok (.bool c.isNone) w:=by
    have e:(binOp .eql t (.slice c es.length cap) (.slice none 0 0)).run P w=((Op.equalIn 10000 t (.slice c es.length cap) (.slice none 0 0)).run P w).andThen fun b w'=>.ok (.bool b) w':=by
     simp only [binOp];simp [Op.equal,Op.maxDepth]
    rw [e,A]; rfl
   have N:a.eval x=.slice c es.length cap:=p;have R:a.eval (.const (.slice none 0 0))=.slice none 0 0:=rfl;have T:∀ (g b:Sem Unit) (r:Sem Value),g.run P w=.ok () w->r.run P w=.ok (.bool c.isNone) w->(do let r ←(do g; r:Sem Value); pure (Next.value r):Sem Next).run P w=.ok (.value (.bool c.isNone)) w:=by
    intro g b r p C;simp [p,C]
   simp only [execOp,j,N,R];exact T _ (pure ()) _ M m
  ·cases l
 ·exact h.elim
end
end Go.Sf
