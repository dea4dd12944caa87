/- Lists that nobody else reads: stores into them, appends, calls that turn them. -/
import Derived.Test.YtlbmpkmkmkgniaaGreatDoorSfTake
set_option linter.all false
namespace Go.Sf
open Go.RowKit (Below)
def R4:Operand->Bool
 | .const v=>Lu v
 | _=>false
theorem XT {α:Type} {a:Array α} {x:α} (h:a.toList=[x]):a=#[x]:=by
 cases a; simp_all
section flat
variable {w w':World} {F F':Nat->Nat->Prop}
mutual
theorem XF:∀ (t:TV),t.flat=true->∀ v,A7 w F t v->A7 w' F' t v
 | .int _ _,_,_,h=>h
 | .bool _,_,_,h=>h
 | .str _,_,_,h=>h
 | .agg cs,b,v,h=>by
  simp only [A7] at h ⊢;obtain ⟨vs,c,e,f⟩:=h;exact ⟨vs,c,KD cs (by simpa [TV.flat] using b) _ e,f⟩
 | .undef,b,_,_=>by simp [TV.flat] at b
 | .xl _ _,b,_,_=>by simp [TV.flat] at b
 | .nil,b,_,_=>by simp [TV.flat] at b
 | .list _ _,b,_,_=>by simp [TV.flat] at b
 | .pt _,b,_,_=>by simp [TV.flat] at b
 | .clo _ _,b,_,_=>by simp [TV.flat] at b
theorem KD:∀ (b:QQ),TV.flats b=true->∀ vs,AS w F b vs->AS w' F' b vs
 | [],_,vs,h=>h
 | t::b,c,vs,h=>by
  simp only [TV.flats,zzZ] at c;simp only [AS] at h ⊢;obtain ⟨v,r,e,f,g⟩:=h;exact ⟨v,r,e,XF t c.1 v f,KD b c.2 r g⟩
end
theorem Rc:∀ (xs b:QQ),TV.flats (xs++b)=(TV.flats xs&&TV.flats b)
 | [],b=>by simp [TV.flats]
 | x::xs,b=>by simp [TV.flats,Rc xs b,Bool.and_assoc]
theorem Xl (t:TV) (h:t.flat=true):TV.flats t.cells=true:=by
 cases t <;> simp_all [TV.flat,TV.cells,TV.flats]
theorem OI:∀ (es:QQ),TV.flats es=true->TV.flats (es.flatMap TV.cells)=true
 | [],_=>rfl
 | e::es,h=>by
  simp only [TV.flats,zzZ] at h;rw [List.flatMap_cons,Rc,Xl e h.1,OI es h.2]; rfl
end flat
section
variable {P:Program} {S:FuncId->QQ->CS->Prop} {F0:Nat->Nat->Prop} {w0:W0} {O:AD} {a:Act} {w:World} {G:DP} {d:Nat} {o:Oper} {K:EV->AD->Prop}
theorem AD.xat_of_xo {O:AD} {q n:Nat} {es:QQ} (h:O.get q=.xo n es):O.xat q none=some (n,es):=by simp only [AD.xat,h]
theorem NO {x:Operand} {y:AL} (g:AZ F0 w0 O a w G) (b:AP x y=true) {p:(Nat × Option Nat) × Nat × QQ} (h:y.xlist O=some p):O.xat p.1.1 p.1.2=some (p.2.1,p.2.2)∧XV a w p.1.1 p.1.2 (a.eval x):=by
 cases y with
 | c t=>simp [AL.xlist] at h
 | s m=>
  have j:x=.tmp m:=by
   cases x <;> simp [AP] at b;rw [b]
  subst j;simp only [AL.xlist] at h;split at h
  ·rename_i n es e;simp only [zzY] at h;subst h;exact ⟨by simp only [AD.xat,e],rfl⟩
  ·rename_i q i e;split at h
   ·rename_i k f;simp only [zzY] at h;subst h;have:=A9 g e (by simp);simp only [AY] at this;exact ⟨f,this ⟨_,f⟩⟩
   ·cases h
  ·cases h
theorem Nl {q:Nat} {i:Option Nat} {n:Nat} {es:QQ} (h:AZ F0 w0 O a w G) (f:O.xat q i=some (n,es)) {v:Value} (hv:XV a w q i v) :
  (TV.list n es).WF∧∃ xs,K5 w n v es.length xs (G q i)∧AS w (A3 w0.heap.size F0 G) (es.flatMap TV.cells) xs∧(∀ e∈es,e.cells.length=n)∧∀ x∈xs,x.oneCell'=true:=by
 cases i with
 | none=>
  have f:=AD.xat_none f;have g:=A9 h f (by simp);have j:=h.wf q;rw [f] at j;simp only [AY] at g;simp only [XV] at hv;rw [hv];exact ⟨j,g⟩
 | some k=>
  obtain ⟨cs,m,p⟩:=AD.xat_some f;have g:=A9 h m (by simp);have j:=h.wf q;rw [m] at j;simp only [AY] at g;obtain ⟨b,c,T,t,u,B,C,y⟩:=g;obtain ⟨D,c',E,l,r,s⟩:=hv;rw [t] at l;simp only [Value.pointer.injEq,zzY,Addr.mk.injEq,and_true,and_self] at l;subst l;rw [u] at r;cases r;obtain ⟨x,z,A⟩:=y k _ p;rw [z] at s;cases s;exact ⟨j _ (List.mem_of_getElem? p),A⟩
theorem en {q:Nat} {i:Option Nat} {n:Nat} {es:QQ} (h:AZ F0 w0 O a w G) (f:O.xat q i=some (n,es)) {v:Value} (hv:XV a w q i v):∀ b lo,G q i=some (b,lo)->lo=0:=by
 intro b lo c;obtain ⟨_,xs,⟨g,_,e⟩,_⟩:=Nl h f hv;rw [e] at c;cases g with
 | none=>simp at c
 | some p=>simp only [Option.map_some,zzY,Prod.mk.injEq] at c; exact c.2.symm
theorem Z1 {q:Nat} {i:Option Nat} {n:Nat} {es:QQ} (h:AZ F0 w0 O a w G) (k:O.xat q i=some (n,es)) {v:Value} (hv:XV a w q i v) (c:es≠[]) :
  ∃ g cap b e xs,v=.slice (some ⟨g,0,none⟩) es.length cap∧w.heap[g]?=some (.cells b e (0,0))∧es.length<=cap∧cap<=maxLen∧b.size=cap*n∧b.toList.take (es.length*n)=xs∧G q i=some (g,0)∧AS w (A3 w0.heap.size F0 G) (es.flatMap TV.cells) xs∧(∀ e∈es,e.cells.length=n)∧(∀ x∈xs,x.oneCell'=true)∧xs.length=es.length*n:=by
 obtain ⟨_,xs,⟨C,j,f⟩,l,m,p⟩:=Nl h k hv;rcases j.2 with ⟨_,r,_⟩ | ⟨g,cap,b,e,s,t,u,y,z,A,B⟩
 ·exact absurd (List.eq_nil_of_length_eq_zero r) c
 ·exact ⟨g,cap,b,e,xs,s,t,u,y,z,A,by rw [f,B]; rfl,l,m,p,j.1⟩
theorem AZ.rexo (h:AZ F0 w0 O a w G) {q:Nat} {i:Option Nat} {n:Nat} {es:QQ} (L:O.xat q i=some (n,es)) {v:Value} (hv:XV a w q i v) {w':World} (hb:P0 (G q i) w w') {es':QQ} {xs':List Value} (B:K5 w' n v es'.length xs' (G q i))
  (M:DW w w' (A3 w0.heap.size F0 G) (A3 w0.heap.size F0 G)->AS w' (A3 w0.heap.size F0 G) (es'.flatMap TV.cells) xs') (hn:∀ e∈es',e.cells.length=n) (h1:∀ x∈xs',x.oneCell'=true) (hw:(TV.list n es').WF) :
  AZ F0 w0 (O.xput q i n es') a w' G:=by
 obtain ⟨b1,b2,b3,b4,U⟩:=hb;have W:=en h L hv;have I:DW w w' (A3 w0.heap.size F0 G) (A3 w0.heap.size F0 G):=by
  intro b o u hc hF;refine ⟨?_,hF⟩;have J:b<w.heap.size:=by
   rcases Nat.lt_or_ge b w.heap.size with h | h
   ·exact h
   ·simp [World.cell?,Array.getElem?_eq_none h] at hc
  rw [World.cell?_of_block (w:=w) (a:=⟨b,o,none⟩) (U b J (fun lo f=>hF (.inr ⟨q,i,lo,f,by rw [W b lo f]; exact Nat.zero_le _⟩)))];exact hc
 have t:Jw F0 w0 w':=h.below.but b1 b2 b3 b4 (Z:=fun k=>∃ lo,G q i=some (k,lo)) (fun b ⟨lo,f⟩=>(h.lt _ _ _ _ f).2.imp id (fun e o=>e o (by rw [W b lo f]; exact Nat.zero_le _))) (fun k hk f=>U k (Nat.lt_of_lt_of_le hk h.below.size) (fun lo e=>f ⟨lo,e⟩));have J:∀ s i b lo,G s i=some (b,lo)->b<w'.heap.size∧(w0.heap.size<=b∨∀ o,lo<=o->w0.E b o):=fun s i b lo C=>⟨Nat.lt_of_lt_of_le (h.lt s i b lo C).1 b4,(h.lt s i b lo C).2⟩;have hxv:∀ r j,(∃ m,O.xat r j=some m)->∀ v,XV a w r j v->XV a w' r j v:=by
  intro r j V;cases j with
  | none=>exact fun v hv=>hv
  | some k=>
   refine h.xv V rfl (fun b hb=>U b (h.lt _ _ _ _ hb).1 (fun lo f=>?_));obtain ⟨rfl,rfl⟩:=h.uniq _ _ _ _ _ _ _ f hb;have h1:=AD.xat_none L;obtain ⟨⟨n1,R⟩,hx1⟩:=V;obtain ⟨cs,A,_⟩:=AD.xat_some hx1;rw [h1] at A; cases A
 have X:∀ (p:Nat) (e:EV),p<a.tmps.size->p≠q->(∀ cs,e=.bx cs->∃ cs',O.get q=.bx cs')->(∀ j,(∃ m,AD.xat ((q,e)::O) q j=some m)->∃ m,O.xat q j=some m)->AY a w' (A3 w0.heap.size F0 G) G ((q,e)::O) p (O.get p) (slot a p):=by
  intro p e H hpq hbx hxa;refine AY.kept I (fun _=>rfl) (fun j b lo f=>U b (h.lt _ _ _ _ f).1 (fun lo' Q=>hpq (h.uniq _ _ _ _ _ _ _ f Q).1)) (fun r off _ ⟨cs,D⟩=>?_) (fun r j _ ⟨m,g⟩=>?_) (h.slots p H)
  ·rw [AD.get_cons] at D;split at D
   ·rename_i er; subst er; exact ⟨hbx cs D,rfl⟩
   ·exact ⟨⟨cs,D⟩,rfl⟩
  ·have V:∃ m,O.xat r j=some m:=by
    by_cases Y:q=r
    ·subst Y; exact hxa j ⟨m,g⟩
    ·rw [AD.xat_cons Y] at g; exact ⟨m,g⟩
   exact ⟨V,hxv r j V⟩
 cases i with
 | none=>
  have L:=AD.xat_none L;have hsz:=G7 h L (by simp);refine ⟨h.uniq,J,t,h.defers,fun p H=>?_,fun p H=>?_,fun p=>?_⟩
  ·simp only [AD.xput]; rw [AD.get_cons,d2 (by omega)]; exact h.dom p H
  ·simp only [AD.xput];rw [AD.get_cons];by_cases l:q=p
   ·subst l;rw [d1 rfl];simp only [AY];simp only [XV] at hv;rw [hv] at B;exact ⟨xs',B,M I,hn,h1⟩
   ·rw [d2 l];refine X p _ H (fun e=>l e.symm) (by simp) (fun j ⟨m,g⟩=>?_);cases j with
    | none=>exact ⟨(n,es),by simp only [AD.xat,L]⟩
    | some k=>
     obtain ⟨n1,R⟩:=m;obtain ⟨cs,A,_⟩:=AD.xat_some g;rw [AD.get_cons,d1 rfl] at A; cases A
  ·simp only [AD.xput];rw [AD.get_cons];split
   ·exact hw
   ·exact h.wf p
 | some k=>
  obtain ⟨cs,C,hk⟩:=AD.xat_some L;have hsz:=G7 h C (by simp);have hwc:=h.wf q;rw [C] at hwc;have hr:=A9 h C (by simp);simp only [AY] at hr;obtain ⟨b,c,T,e1,e2,e3,e4,e5⟩:=hr;obtain ⟨b',c',T',f1,f2,f3⟩:=hv;rw [e1] at f1;simp only [Value.pointer.injEq,zzY,Addr.mk.injEq,and_true,and_self] at f1;subst f1;rw [e2] at f2;cases f2;have hbb:w'.heap[b]?=w.heap[b]?:=U b (h.lt _ _ _ _ e4).1 (fun lo f=>by
   have:=(h.uniq _ _ _ _ _ _ _ f e4).2; cases this)
  refine ⟨h.uniq,J,t,h.defers,fun p H=>?_,fun p H=>?_,fun p=>?_⟩
  ·simp only [AD.xput,C]; rw [AD.get_cons,d2 (by omega)]; exact h.dom p H
  ·simp only [AD.xput,C];rw [AD.get_cons];by_cases l:q=p
   ·subst l;rw [d1 rfl];simp only [AY];refine ⟨b,c,T,e1,by rw [hbb]; exact e2,by simpa using e3,e4,fun j d N=>?_⟩;rw [List.getElem?_set] at N;by_cases z:k=j
    ·subst z;rw [d1 rfl] at N;split at N
     ·simp only [zzY] at N;subst N;exact ⟨v,f3,xs',B,M I,hn,h1⟩
     ·cases N
    ·rw [d2 z] at N;obtain ⟨x,g1,g2⟩:=e5 j d N;exact ⟨x,g1,g2.kept I (fun b lo f=>U b (h.lt _ _ _ _ f).1 (fun lo' Q=>z (by
      have:=(h.uniq _ _ _ _ _ _ _ Q f).2;simpa using this)))⟩
   ·rw [d2 l];refine X p _ H (fun e=>l e.symm) (fun _ _=>⟨cs,C⟩) (fun j ⟨m,g⟩=>?_);obtain ⟨n1,R⟩:=m;cases j with
    | none=>have A:=AD.xat_none g; rw [AD.get_cons,d1 rfl] at A; cases A
    | some j=>
     obtain ⟨cs',A,h3⟩:=AD.xat_some g;rw [AD.get_cons,d1 rfl] at A;simp only [EV.bx.injEq] at A;subst A;rw [List.getElem?_set] at h3;by_cases z:k=j
     ·subst z; exact ⟨(n,es),L⟩
     ·rw [d2 z] at h3;exact ⟨(n1,R),by simp only [AD.xat,C,h3]⟩
  ·simp only [AD.xput,C];rw [AD.get_cons];split
   ·intro y hy;rcases List.mem_or_eq_of_mem_set hy with hy | rfl
    ·exact hwc y hy
    ·exact hw
   ·exact h.wf p
theorem AZ.xgo (h:AZ F0 w0 O a w G) {q n:Nat} {es:QQ} (hq:O.get q=.xo n es) (hd:d<a.tmps.size) (hdq:d≠q) {w':World} {v:Value} {e:EV} {z':Option (Nat × Nat)}
  (b1:w'.os=w.os) (b2:w'.tape=w.tape) (b3:w'.output=w.output) (b4:w.heap.size<=w'.heap.size) (V:∀ k,k<w.heap.size->(∀ lo,G q none≠some (k,lo))->w'.heap[k]?=w.heap[k]?)
  (g:∀ b lo,z'=some (b,lo)->b<w'.heap.size∧(w.heap.size<=b∨∃ f,G q none=some (b,f)))
  (J:∀ cs,e≠.bx cs) (W:(∃ n es,e=.xo n es)->O.noRef d=true)
  (L:∀ (F':Nat->Nat->Prop) (x:DP) (env':AD) (a':Act),DW w w' (A3 w0.heap.size F0 G) F'->x d none=z'->AY a' w' F' x env' d e v) (hw:e.WF) :
  DI F0 w0 ((d,e)::(q,.undef)::O) (a.put (some d) v) w':=by
 let x:DP:=GX (GX G q (fun _=>none)) d (fun i=>if i=none then z' else none)
 have D:=en h (AD.xat_of_xo hq) (v:=slot a q) rfl;have A:∀ p i b lo,x p i=some (b,lo)->(p=d∧i=none∧z'=some (b,lo))∨(p≠d∧p≠q∧G p i=some (b,lo)):=by
  intro p i b lo m;by_cases j:p=d
  ·subst j;simp only [x,CB] at m;split at m
   ·rename_i hi; exact .inl ⟨rfl,hi,m⟩
   ·cases m
  ·simp only [x,B1 _ _ _ _ j] at m;by_cases E:p=q
   ·subst E; rw [CB] at m; cases m
   ·rw [B1 _ _ _ _ E] at m;exact .inr ⟨j,E,m⟩
 have Q:DW w w' (A3 w0.heap.size F0 G) (A3 w0.heap.size F0 x):=by
  intro b o u H X;have Y:b<w.heap.size:=World.block_lt_of_cell? w ⟨b,o,none⟩ H;have R:∀ lo,G q none≠some (b,lo):=fun lo y=>X (.inr ⟨q,none,lo,y,by rw [D b lo y]; exact Nat.zero_le _⟩);refine ⟨?_,?_⟩
  ·rw [World.cell?_of_block (w:=w) (a:=⟨b,o,none⟩) (V b Y R)];exact H
  ·rintro (h1 | ⟨p,i,lo,h1,U⟩)
   ·exact X (.inl h1)
   ·rcases A _ _ _ _ h1 with ⟨_,_,C⟩ | ⟨_,_,C⟩
    ·rcases (g _ _ C).2 with z | ⟨f,z⟩
     ·omega
     ·exact R _ z
    ·exact X (.inr ⟨p,i,lo,C,U⟩)
 refine ⟨x,?_,?_,h.below.but b1 b2 b3 b4 (Z:=fun k=>∃ lo,G q none=some (k,lo)) (fun b ⟨lo,y⟩=>(h.lt _ _ _ _ y).2.imp id (fun e o=>e o (by rw [D b lo y]; exact Nat.zero_le _))) (fun k hk y=>V k (Nat.lt_of_lt_of_le hk h.below.size) (fun lo e=>y ⟨lo,e⟩)),by rw [LS]; exact h.defers,?_,?_,?_⟩
 ·intro p i p' i' b lo f C e2;have other:∀ p i lo f,z'=some (b,lo)->p≠q->G p i=some (b,f)->False:=by
   intro p i lo f t I f3;rcases (g _ _ t).2 with z | ⟨lo'',z⟩
   ·have:=(h.lt _ _ _ _ f3).1; omega
   ·exact I (h.uniq _ _ _ _ _ _ _ f3 z).1
  rcases A _ _ _ _ C with ⟨rfl,rfl,t⟩ | ⟨n1,n2,t⟩ <;> rcases A _ _ _ _ e2 with ⟨rfl,rfl,I⟩ | ⟨m1,m2,I⟩
  ·exact ⟨rfl,rfl⟩
  ·exact (other _ _ _ _ t m2 I).elim
  ·exact (other _ _ _ _ I n2 t).elim
  ·exact h.uniq _ _ _ _ _ _ _ t I
 ·intro p i b lo C;rcases A _ _ _ _ C with ⟨_,_,t⟩ | ⟨_,_,t⟩
  ·refine ⟨(g _ _ t).1,?_⟩;rcases (g _ _ t).2 with z | ⟨f,z⟩
   ·exact .inl (Nat.le_trans h.below.size z)
   ·exact (h.lt _ _ _ _ z).2.imp id (fun e o _=>e o (by rw [D _ _ z]; exact Nat.zero_le _))
  ·exact ⟨Nat.lt_of_lt_of_le (h.lt _ _ _ _ t).1 b4,(h.lt _ _ _ _ t).2⟩
 ·intro p m;rw [FW] at m;have:=G7 h hq (by simp);rw [AD.get_cons,d2 (by omega),AD.get_cons,d2 (by omega)];exact h.dom p m
 ·intro p m;rw [FW] at m;rw [AD.get_cons];by_cases j:d=p
  ·subst j;rw [d1 rfl,Ia _ _ _ hd];exact L _ _ _ _ Q (by simp only [x,CB,if_true])
  ·rw [d2 j,BJ _ _ _ _ j,AD.get_cons];split
   ·trivial
   ·rename_i N;refine AY.kept Q (fun i=>by simp only [x]; rw [B1 _ _ _ _ (fun e=>j e.symm),B1 _ _ _ _ (fun e=>N e.symm)]) (fun i b lo y=>V b (h.lt _ _ _ _ y).1 (fun f g=>N (h.uniq _ _ _ _ _ _ _ g y).1)) (fun r off _ ⟨cs,l⟩=>?_) (fun r i M ⟨pp,B⟩=>?_) (h.slots p m)
    ·rw [AD.get_cons] at l;by_cases s:d=r
     ·rw [d1 s] at l; exact absurd l (J cs)
     ·rw [d2 s,AD.get_cons] at l;split at l
      ·cases l
      ·exact ⟨⟨cs,l⟩,BJ _ _ _ _ s⟩
    ·by_cases s:d=r
     ·subst s;have T:O.noRef d=true:=by
       rcases AD.xat_same B with ⟨cs,H⟩ | H
       ·exact absurd H (J cs)
       ·exact W H
      have hx:=AD.noRef_x d O T p;rcases M with M | ⟨c,M⟩
      ·exact absurd M (hx.1 i)
      ·exact absurd M (hx.2 i c)
     ·rw [AD.xat_cons s] at B;have U:=AD.xat_drop (by simp) (by simp) B;exact ⟨⟨pp,U.2⟩,h.xv ⟨pp,U.2⟩ (BJ _ _ _ _ s) (fun b hb=>V b (h.lt _ _ _ _ hb).1 (fun f g=>U.1 (h.uniq _ _ _ _ _ _ _ g hb).1))⟩
 ·intro p;rw [AD.get_cons];split
  ·exact hw
  ·rw [AD.get_cons];split
   ·trivial
   ·exact h.wf p
theorem XR (c:AZ F0 w0 O a w G) (e:d<a.tmps.size) {s:Nat} (b:o.op=.move (.tmp s)∨o.op=.assign (.tmp s)) (h:(AJ.xal s).wp S O (some d) K):B2 P F0 w0 a w o d K:=by
 simp only [AJ.wp] at h;split at h
 ·rename_i n es i;refine ⟨slot a s,w,by rcases b with b | b <;> simp [execOp,b,show a.eval (.tmp s)=slot a s from rfl],_,_,h,_,c.quiet (Below.refl _ _) d e (.la s none) _ (fun _=>none) (by simp) (by simp) (by simp) ?_ trivial⟩;simp only [AY];rintro ⟨p,g⟩;have f:=AD.xat_drop (by simp) (by simp) g;simp only [XV];rw [BJ _ _ _ _ f.1]
 ·exact h.elim
theorem bg (b:AZ F0 w0 O a w G) (l:d<a.tmps.size) {x:Operand} {y:AL} {t e:TypeId} (c:o.op=.call { callee:=.builtin .len,args:=#[x],argTypes:=#[t] }) (f:AP x y=true)
  (m:P.underlying t=some (.slice e)) (h:(AJ.xlen y).wp S O (some d) K):B2 P F0 w0 a w o d K:=by
 simp only [AJ.wp] at h;cases i:y.xlist O with
 | none=>rw [i] at h; exact h.elim
 | some p=>
  rw [i] at h;simp only [BA] at h;obtain ⟨n,q⟩:=NO b f i;obtain ⟨r,s⟩:=Nl b n q;simp only [TV.WF,I3] at r;obtain ⟨xs,⟨A,u,_⟩,_⟩:=s;have hv:∃ k cap,a.eval x=.slice k p.2.2.length cap:=by
   rcases u.2 with ⟨j,z,_⟩ | ⟨g,cap,_,_,j,_⟩
   ·exact ⟨none,0,by rw [j,z]⟩
   ·exact ⟨_,_,j⟩
  obtain ⟨k,cap,hv⟩:=hv;refine DV b l (v:=.int .i64 p.2.2.length) (t:=.int .i64 p.2.2.length) ?_ rfl ⟨by simp only [IntKind.min,IntKind.signed,IntKind.bits,if_true]; omega,by simp only [IntKind.max_i64]; omega⟩ h;simp [execOp,c,resolve,invoke,builtin,Builtin.len_,run_underlying m,hv,goInt]
theorem dn (b:AZ F0 w0 O a w G) (H:d<a.tmps.size) {x i:Operand} {y j:AL} {t:TypeId} {n:Nat} (u:o.op=.indexAddr t x i) (v:AP x y=true) (c:AP i j=true) (r:LT P t=some n) (h:(AJ.xia y j n).wp S O (some d) K):B2 P F0 w0 a w o d K:=by
 simp only [AJ.wp] at h;cases z:y.xlist O with
 | none=>rw [z] at h; exact h.elim
 | some p=>
  obtain ⟨⟨q,L⟩,m,es⟩:=p;rw [z] at h;simp only [BA] at h;split at h
  ·rename_i k s I;obtain ⟨⟨_,rfl⟩,M,C,N⟩:=h;obtain ⟨Q,D⟩:=NO b v z;have f:=BR b c I;simp only [A7] at f;obtain ⟨g,cap,R,e,xs,E,_⟩:=Z1 b Q D (by rintro rfl; simp at C; omega);unfold LT at r;split at r
   ·rename_i el J;have A:0<=s∧s<(es.length:Int):=⟨M,C⟩;refine ⟨.pointer (some ⟨g,s.toNat*m,none⟩),w,?_,_,_,N,_,b.quiet (Below.refl _ _) d H (.lp q L (s.toNat*m)) _ (fun _=>none) (by simp) (by simp) (by simp) ?_ trivial⟩
    ·simp [execOp,u,E,f.1,Instr.indexAt,asIntOf,run_underlying J,A,D7 r,Addr.add_lit]
    ·simp only [AY];rintro ⟨T,B⟩;have l:=AD.xat_drop (by simp) (by simp) B;exact ⟨g,_,_,b.xv ⟨_,l.2⟩ (BJ _ _ _ _ l.1) (fun _ _=>rfl) _ (by rw [←E]; exact D),rfl⟩
   ·cases r
  ·exact h.elim
theorem ZI {x:Operand} {y:AL} (f:AZ F0 w0 O a w G) (b:AP x y=true) {q c:Nat} {i:Option Nat} {p:Nat × QQ} (e:y.ev O=.lp q i c) (h:O.xat q i=some p):∃ g len cap,XV a w q i (.slice (some ⟨g,0,none⟩) len cap)∧a.eval x=.pointer (some ⟨g,c,none⟩):=by
 cases y with
 | c t=>simp [AL.ev] at e
 | s m=>
  have j:x=.tmp m:=by
   cases x <;> simp [AP] at b;rw [b]
  subst j;simp only [AL.ev] at e;have:=A9 f e (by simp);simp only [AY] at this;exact this ⟨p,h⟩
theorem dm (e:AZ F0 w0 O a w G) (n:d<a.tmps.size) {x:Operand} {y:AL} {t:TypeId} {f k:Nat} (j:o.op=.fieldAddr t x f) (l:AP x y=true) (p:O1 P t f=some k) (h:(AJ.xfa y k).wp S O (some d) K):B2 P F0 w0 a w o d K:=by
 simp only [AJ.wp] at h;split at h
 ·rename_i q i c r;split at h
  ·rename_i z s;obtain ⟨g,len,cap,u,v⟩:=ZI e l r s;refine ⟨.pointer (some ⟨g,c+k,none⟩),w,by simp [execOp,j,v,Rv p],_,_,h,_,e.quiet (Below.refl _ _) d n (.lp q i (c+k)) _ (fun _=>none) (by simp) (by simp) (by simp) ?_ trivial⟩;simp only [AY];rintro ⟨A,m⟩;have b:=AD.xat_drop (by simp) (by simp) m;exact ⟨g,_,_,e.xv ⟨_,b.2⟩ (BJ _ _ _ _ b.1) (fun _ _=>rfl) _ u,rfl⟩
  ·exact h.elim
 ·exact h.elim
theorem dr (j:AZ F0 w0 O a w G) (I:d<a.tmps.size) {x:Operand} {y:AL} {t:TypeId} (k:o.op=.load t x) (l:AP x y=true) (J:DR P t=some false) (h:(AJ.xld y).wp S O (some d) K):B2 P F0 w0 a w o d K:=by
 simp only [AJ.wp] at h;split at h
 ·rename_i q i c L;split at h
  ·rename_i M m;obtain ⟨n,es⟩:=M;simp only at h;cases b:(es.flatMap TV.cells)[c]? with
   | none=>rw [b] at h; exact h.elim
   | some H=>
    rw [b] at h;simp only [BA] at h;have p:es≠[]:=by rintro rfl; simp at b
    obtain ⟨g,len,cap,A,T⟩:=ZI j l L m;obtain ⟨Z,B,r,e,xs,C,U,f3,f4,f5,V,f7,D,f9,W,X⟩:=Z1 j m A p;simp only [Value.slice.injEq,zzY,Addr.mk.injEq,and_true] at C;obtain ⟨rfl,rfl,rfl⟩:=C;have N:c<(es.flatMap TV.cells).length:=by
     rcases Nat.lt_or_ge c (es.flatMap TV.cells).length with h | h
     ·exact h
     ·rw [List.getElem?_eq_none h] at b; cases b
    have Q:=CN D;obtain ⟨y,E⟩:∃ y,xs[c]?=some y:=⟨_,List.getElem?_eq_getElem (by omega)⟩;have f:w.cell? ⟨g,c,none⟩=some y:=by
     rw [cell_of_row w g c r e (0,0) U];have:=E;rw [←V,List.getElem?_take] at this;split at this
     ·simpa using this
     ·cases this
    have R:=(Nl j m A).1;refine DV j I (v:=y) ?_ (((CP _ _).1 D).2 c H _ b E) ?_ h
    ·simp [execOp,k,T,Instr.loadAt,Instr.sureAddr,loadVar,FQ J,f]
    ·have:=R.2;rw [CU] at this;have z:=List.mem_of_getElem? b;rw [List.mem_flatMap] at z;obtain ⟨Y,s,u⟩:=z;exact CU.1 (Ka (this Y s)) H u
  ·exact h.elim
 ·exact h.elim
theorem X3 {t:TV} (h:TV.WFs t.cells):t.WF:=by
 cases t <;> simp only [TV.cells,TV.WFs,and_true] at h <;> first | exact h | (simp only [TV.WF]; exact h)
theorem XY {es:QQ} (h:TV.WFs es):TV.WFs (es.flatMap TV.cells):=by
 rw [CU] at h ⊢;intro t b;rw [List.mem_flatMap] at b;obtain ⟨e,c,b⟩:=b;exact CU.1 (Ka (h e c)) t b
theorem Rz:∀ {es:QQ},TV.WFs (es.flatMap TV.cells)->TV.WFs es
 | [],_=>trivial
 | e::es,h=>by
  rw [List.flatMap_cons] at h;rw [Lf] at h;exact ⟨X3 h.1,Rz h.2⟩
theorem dt (p:AZ F0 w0 O a w G) {x v:Operand} {x' v':AL} {t:TypeId} (L:o.op=.store t x v) (z:AP x x'=true) (hv:AP v v'=true) (hn:FH P t=some 1) (h:(AJ.xst x' v').wp S O none K):NT P F0 w0 a w o K:=by
 simp only [AJ.wp] at h;split at h
 ·rename_i q i c hy;split at h
  ·rename_i n es u J hu;obtain ⟨h1,h2,es',h3,s,h5,hK⟩:=h;obtain ⟨g,len,cap,V,e2⟩:=ZI p z hy J;have B:=(Nl p J V).1;have h6:TV.WFs es':=by
    have h7:=XY B.2;have h8:TV.WFs (es'.flatMap TV.cells):=by
     rw [h3,CU];intro t N;rcases List.mem_or_eq_of_mem_set N with N | rfl
     ·exact CU.1 h7 t N
     ·have:=(BR p hv (t:=t) (by simp [AL.val,hu,EV.val])).2;exact this
    exact Rz h8
   have Q:es≠[]:=by rintro rfl; simp at h2
   obtain ⟨g',cap',j,e,xs,f1,f2,W,f4,f5,f6,f7,f8,f9,X,Y⟩:=Z1 p J V Q;simp only [Value.slice.injEq,zzY,Addr.mk.injEq,and_true] at f1;obtain ⟨rfl,rfl,rfl⟩:=f1;have R:=BR p hv (t:=u) (by simp [AL.val,hu,EV.val]);have C:=Ja R.1;rw [h1] at C;have D:∃ y,(a.eval v).cells.toList=[y]∧A7 w (A3 w0.heap.size F0 G) u y∧y.oneCell'=true:=by
    obtain ⟨H,Z⟩:=C;simp only [AS] at H;obtain ⟨y,r,I,k4,rfl⟩:=H;exact ⟨y,I,k4,Z y (by rw [I]; simp)⟩
   obtain ⟨y,H,Z,I⟩:=D;have hcc:c<j.size:=by rw [f5]; exact Nat.lt_of_lt_of_le h2 (Nat.mul_le_mul_right _ W)
   have l:=run_storeCells_at P g c e [y] 0 j w f2 (by simp only [List.length_singleton]; omega) (by simpa using I);simp only [Nat.add_zero] at l;have T:(a.eval v).cells.size=1:=by rw [←Array.length_toList,H]; rfl
   have U:(execOp a.eval o).run P w=.ok .skip (w.setRow g (j.toList.take c++[y]++j.toList.drop (c+1)).toArray):=by
    simp only [List.length_singleton] at l;simp [execOp,L,e2,Instr.storeAt,Instr.sureAddr,storeVar,D7 hn,T,H,l]
   refine ⟨_,U,_,hK,G,?_⟩;refine p.rexo J V (w':=w.setRow g (j.toList.take c++[y]++j.toList.drop (c+1)).toArray) (xs':=xs.set c y) ⟨rfl,rfl,rfl,by simp,fun k _ hk=>setRow_other w g k _ (fun e=>hk 0 (by rw [e]; exact f7))⟩ ⟨some (g,es.length*n),⟨by rw [List.length_set,Y,s],.inr ⟨g,cap,_,e,by rw [s],setRow_heap w g j _ e _ f2,by rw [s]; exact W,f4,?_,?_,by rw [s]⟩⟩,by rw [f7]; rfl⟩ (fun A=>?_) h5 (fun x z=>?_) ⟨by rw [s]; exact B.1,h6⟩
   ·simp only [List.size_toArray,d4,d5,List.length_drop,Array.length_toList,List.length_singleton]; omega
   ·rw [s,←f6];apply List.ext_getElem?;intro i;simp only [List.getElem?_take,List.getElem?_set,d5,Array.length_toList,d6,List.length_nil];by_cases hi:i<es.length*n
    ·rw [d1 hi];by_cases m:c=i
     ·subst m;rw [d1 rfl,d1 (by rw [f5]; have:=Nat.mul_le_mul_right n W; omega)];rw [ea,List.getElem?_append_right (by simp; omega)];simp only [d5,Array.length_toList];rw [Nat.min_eq_left (by omega),Nat.sub_self]; rfl
     ·rw [d2 m];rcases Nat.lt_or_ge i c with hlt | hge
      ·rw [ea,List.getElem?_append_left (by simp; omega),List.getElem?_take,d1 hlt,d1 hi]
      ·rw [List.getElem?_append_right (by simp; omega),List.getElem?_drop,d1 hi];simp only [d4,d5,Array.length_toList,d6,List.length_nil];rw [Nat.min_eq_left (by omega),show c+(0+1)+(i - (c+(0+1)))=i from by omega]
    ·rw [d2 hi,d2 (by omega)];rw [d2 hi]
   ·rw [h3];rw [CP];have E:=(CP _ _).1 (BP A _ _ f8);refine ⟨by rw [List.length_set,List.length_set]; exact E.1,fun i t' M f b=>?_⟩;rw [List.getElem?_set] at f b;by_cases m:c=i
    ·subst m;rw [d1 rfl] at f b;split at f
     ·split at b
      ·simp only [zzY] at f b;subst f b;exact DG A _ _ Z
      ·cases b
     ·cases f
    ·rw [d2 m] at f b;exact E.2 i t' M f b
   ·rcases List.mem_or_eq_of_mem_set z with z | rfl
    ·exact X x z
    ·exact I
  ·exact h.elim
 ·exact h.elim
theorem XP (g:AZ F0 w0 O a w G) (p:d<a.tmps.size) {s:Nat} (c:o.op=.move (.tmp s)∨o.op=.assign (.tmp s)) (h:(AJ.rel s).wp S O (some d) K):B2 P F0 w0 a w o d K:=by
 simp only [AJ.wp] at h;split at h
 ·rename_i C n es f j;simp only [zzY] at f;subst f;obtain ⟨k,t⟩:=h;have l:=A9 g j (by simp);have m:=g.wf s;rw [j] at m;simp only [AY] at l;obtain ⟨xs,⟨u,v,e⟩,x,y,z⟩:=l;refine ⟨slot a s,w,by rcases c with c | c <;> simp [execOp,c,show a.eval (.tmp s)=slot a s from rfl],_,_,t,g.xgo j p k (z':=u) rfl rfl rfl (d3 _) (fun _ _ _=>rfl) (fun b lo q=>?_) (by simp) (by simp) (fun F' A env' B i r=>?_) m⟩
  ·rw [q] at e;exact ⟨(g.lt _ _ _ _ e).1,.inr ⟨_,e⟩⟩
  ·simp only [AY,C1];rw [r];exact ⟨xs,v,BP i _ _ x,y,z⟩
 ·exact h.elim
theorem XQ (f:AZ F0 w0 O a w G) (q:d<a.tmps.size) {s:Nat} (c:o.op=.move (.tmp s)∨o.op=.assign (.tmp s)) (h:(AJ.tkx s).wp S O (some d) K):B2 P F0 w0 a w o d K:=by
 simp only [AJ.wp] at h;split at h
 ·rename_i B n es e i;simp only [zzY] at e;subst e;obtain ⟨j,k,t⟩:=h;have m:=A9 f i (by simp);have p:=f.wf s;rw [i] at p;simp only [AY] at m;obtain ⟨xs,u,v,x,y⟩:=m;refine ⟨slot a s,w,by rcases c with c | c <;> simp [execOp,c,show a.eval (.tmp s)=slot a s from rfl],_,_,t,f.xgo i q k (z':=G s none) rfl rfl rfl (d3 _) (fun _ _ _=>rfl) (fun b lo l=>⟨(f.lt _ _ _ _ l).1,.inr ⟨_,l⟩⟩) (by simp) (fun _=>j) (fun F' z env' A g r=>?_) p⟩;simp only [AY];rw [r];exact ⟨xs,u,BP g _ _ v,x,y⟩
 ·exact h.elim
theorem AZ.xnew (h:AZ F0 w0 O a w G) {w':World} (r:Below w.heap.size w w') (s:d<a.tmps.size) (m:O.noRef d=true) {n:Nat} {es:QQ} {v:Value} {z:Option (Nat × Nat)} {xs:List Value} (f:IB w' n v es.length xs z)
  (t:∀ b lo,z=some (b,lo)->w.heap.size<=b∧b<w'.heap.size)
  (g:∀ F',(∀ b o,F' b o->(b<w.heap.size∧A3 w0.heap.size F0 G b o)∨∃ lo,z=some (b,lo))->AS w' F' (es.flatMap TV.cells) xs) (u:∀ e∈es,e.cells.length=n) (y:∀ x∈xs,x.oneCell'=true) (A:(TV.list n es).WF) :
  DI F0 w0 ((d,.xo n es)::O) (a.put (some d) v) w':=by
 refine ⟨_,h.quiet r d s (.xo n es) v (fun i=>if i=none then z.map (fun p=>(p.1,0)) else none) (fun i b lo hi=>?_) (fun i C b lo B c k=>?_) (fun _=>m) ?_ A⟩
 ·split at hi
  ·cases z with
   | none=>simp at hi
   | some p=>
    simp only [Option.map_some,zzY,Prod.mk.injEq] at hi;exact hi.1 ▸ t p.1 p.2 rfl
  ·cases hi
 ·split at c
  ·split at k
   ·simp_all
   ·cases k
  ·cases c
 ·simp only [AY];refine ⟨xs,⟨z,f,by rw [CB]; simp⟩,g _ (fun b o l=>?_),u,y⟩;rcases l with l | ⟨p,i,lo,c,k⟩
  ·exact .inl ⟨Nat.lt_of_lt_of_le l.1 h.below.size,.inl l⟩
  ·by_cases j:p=d
   ·subst j;rw [CB] at c;split at c
    ·cases z with
     | none=>simp at c
     | some q=>
      simp only [Option.map_some,zzY,Prod.mk.injEq] at c;exact .inr ⟨q.2,by rw [←c.1]⟩
    ·cases c
   ·rw [B1 _ _ _ _ j] at c;exact .inl ⟨(h.lt _ _ _ _ c).1,.inr ⟨p,i,lo,c,k⟩⟩
theorem Vj (e:AZ F0 w0 O a w G) (f:d<a.tmps.size) {x:Operand} {n:Nat} (b:o.op=.move x∨o.op=.assign x) (g:∃ v,x=.const v∧Lu v=true) (h:(AJ.nilx n).wp S O (some d) K):B2 P F0 w0 a w o d K:=by
 simp only [AJ.wp] at h;obtain ⟨c,i⟩:=h;obtain ⟨v,rfl,hv⟩:=g;have hv:=LC hv;subst hv;refine ⟨.slice none 0 0,w,by rcases b with b | b <;> simp [execOp,b,Act.eval],_,_,i,e.xnew (Below.refl _ _) f c (z:=none) (xs:=[]) ⟨by simp,.inl ⟨rfl,rfl,rfl⟩⟩ (by simp) (fun _ _=>rfl) (by simp) (by simp) ⟨by simp,trivial⟩⟩
theorem Zv (R:AZ F0 w0 O a w G) (T:d<a.tmps.size) (j:o.dst=some d) {f:FuncId} {xs:Array Operand} {C:List AL} {D:Array TypeId} (E:o.op=.call { callee:=.value (.func f),args:=xs,argTypes:=D }) (H:DK xs.toList C=true) (h:(AJ.callx f C).wp (AT P) O (some d) K)
  {next:Act->World->Prop} {Q:Exit->Act->World->Prop} (U:∀ e env' I w',K e env'->Q6 a d I->DI F0 w0 ((d,e)::env') I w'->next I w'):o.wp P a w next Q:=by
 simp only [AJ.wp] at h;obtain ⟨L,h⟩:=h;cases g:vals O C with
 | none=>rw [g] at h; exact h.elim
 | some Y=>
  rw [g] at h;simp only [BA] at h;obtain ⟨n,es,m,X⟩:=h;have hv:=KJ R H g;have l:(execOp a.eval o).run P w=(callFunc f (xs.map a.eval)).run P w:=by simp [execOp,E,resolve,Act.eval,Deferred.ofValue,invoke]
  have key:GV P f=true∧(TV.list n es).WF∧Calls P f (xs.map a.eval) w fun e w'=>∃ v z c,e=.returned v∧Below w.heap.size w w'∧IB w' n v es.length c z∧(∀ F',(∀ b o,F' b o->(b<w.heap.size∧A3 w0.heap.size F0 G b o)∨∃ lo,z=some (b,lo))->AS w' F' (es.flatMap TV.cells) c)∧(∀ e∈es,e.cells.length=n)∧(∀ x∈c,x.oneCell'=true)∧∀ b lo,z=some (b,lo)->w.heap.size<=b∧b<w'.heap.size:=by
   rcases m with m | ⟨m,N⟩
   ·obtain ⟨p,M⟩:=(m.to0 rfl) hv.2;obtain ⟨i,q⟩:=M (A3 w0.heap.size F0 G) w (xs.map a.eval) (by simpa using hv.1);refine ⟨p,i,q.mono ?_⟩;rintro e w' ⟨v,rfl,r,z,c,s,t,y,A,B⟩;exact ⟨v,z,c,rfl,r,s,fun F' k=>BP (fun b o u V W=>⟨V,fun J=>W (k b o J)⟩) _ _ t,y,A,B⟩
   ·obtain ⟨p,M⟩:=(m.to0 rfl) hv.2;obtain ⟨i,q⟩:=M (A3 w0.heap.size F0 G) w (xs.map a.eval) (by simpa using hv.1);refine ⟨p,i,q.mono ?_⟩;rintro e w' ⟨v,rfl,r,z,⟨c,s,t,y,A⟩,B⟩;exact ⟨v,z,c,rfl,r,s,fun F' k=>KD _ (OI _ N) _ t,y,A,B⟩
  obtain ⟨p,i,q⟩:=key;unfold Oper.wp;rw [l,I7 p _,Oper.upon_enter];refine q.mono ?_;rintro e w' ⟨v,z,c,rfl,r,s,t,y,A,B⟩;simp only [j];exact U _ _ _ _ (X i) ⟨_,rfl⟩ (R.xnew r T L s B t y A i)
theorem Zt (u:AZ F0 w0 O a w G) (T:d<a.tmps.size) (j:o.dst=some d) {f:FuncId} {x:Operand} {y:AL} {A:Array TypeId} (B:o.op=.call { callee:=.value (.func f),args:=#[x],argTypes:=A }) (C:AP x y=true) (h:(AJ.callm f y).wp (AT P) O (some d) K)
  {next:Act->World->Prop} {Q:Exit->Act->World->Prop} (U:∀ e env' D w',K e env'->Q6 a d D->DI F0 w0 ((d,e)::env') D w'->next D w'):o.wp P a w next Q:=by
 simp only [AJ.wp] at h;cases E:y.xlist O with
 | none=>rw [E] at h; exact h.elim
 | some p=>
  obtain ⟨⟨q,i⟩,m,es⟩:=p;rw [E] at h;simp only [BA] at h;obtain ⟨rfl,zs,c,rfl,⟨g,l,V,s,b,W⟩,X⟩:=h;simp only [List.cons.injEq,TV.list.injEq,true_and,and_true] at l;have H:g=zs:=by
   have:=congrArg (List.map fun t=>match t with | .int _ n=>n | _=>0) l;simpa [List.map_map,Function.comp_def] using this.symm
  subst H;obtain ⟨N,R⟩:=NO u C E;obtain ⟨L,xs,Y,Z,h3,h4⟩:=Nl u N R;replace b:=b L;have I:xs=g.map (Value.int .i64):=by
   have:∀ (zs:Ne) (xs:List Value),AS w (A3 w0.heap.size F0 G) ((zs.map (TV.int .i64)).flatMap TV.cells) xs->xs=zs.map (Value.int .i64):=by
    intro zs
    induction zs with
    | nil=>intro xs h; exact h
    | cons z zs M=>
     intro xs h;simp only [List.map_cons,List.flatMap_cons,TV.cells,List.singleton_append,AS,A7] at h;obtain ⟨v,r,rfl,rfl,h⟩:=h;rw [M r h]; rfl
   exact this g xs Z
  subst I;have k:(execOp a.eval o).run P w=(callFunc f #[a.eval x]).run P w:=by simp [execOp,B,resolve,Act.eval,Deferred.ofValue,invoke]
  unfold Oper.wp;rw [k,I7 V _,Oper.upon_enter];refine (W w (a.eval x) (G q i) (by simpa using Y)).mono ?_;rintro e w' ⟨rfl,r1,r2⟩;simp only [j];have J:=u.rexo N R r2 (es':=c.map (TV.int .i64)) (xs':=c.map (Value.int .i64)) (by rw [d7,s]; exact r1) (fun _=>?_) (by simp [TV.cells]) (by simp [Value.oneCell']) b
  ·refine U _ _ _ _ (X b) ⟨_,rfl⟩ ⟨_,J.quiet (Below.refl _ _) d T (.tp []) _ (fun _=>none) (by simp) (by simp) (by simp) ?_ trivial⟩;simp only [AY];exact ⟨#[],rfl,rfl⟩
  ·have:∀ (zs:Ne),AS w' (A3 w0.heap.size F0 G) ((zs.map (TV.int .i64)).flatMap TV.cells) (zs.map (Value.int .i64)):=by
    intro zs
    induction zs with
    | nil=>rfl
    | cons z zs M=>
     simp only [List.map_cons,List.flatMap_cons,TV.cells,List.singleton_append,AS,A7];exact ⟨_,_,rfl,rfl,M⟩
   exact this c
theorem VO {w:World} {F:Nat->Nat->Prop}:∀ (zs:Ne),AS w F ((zs.map (TV.int .i64)).flatMap TV.cells) (zs.map (Value.int .i64))
 | []=>rfl
 | z::zs=>by
  simp only [List.map_cons,List.flatMap_cons,TV.cells,List.singleton_append,AS,A7];exact ⟨_,_,rfl,rfl,VO zs⟩
theorem Ve {w:World} {F:Nat->Nat->Prop}:∀ (zs:Ne) (xs:List Value),AS w F ((zs.map (TV.int .i64)).flatMap TV.cells) xs->xs=zs.map (Value.int .i64)
 | [],xs,h=>h
 | z::zs,xs,h=>by
  simp only [List.map_cons,List.flatMap_cons,TV.cells,List.singleton_append,AS,A7] at h;obtain ⟨v,r,rfl,rfl,h⟩:=h;rw [Ve zs r h]; rfl
theorem Zp (g:AZ F0 w0 O a w G) (U:d<a.tmps.size) (j:o.dst=some d) {f:FuncId} {x:Operand} {y:AL} {v:Array TypeId} (z:o.op=.call { callee:=.value (.func f),args:=#[x],argTypes:=v }) (A:AP x y=true) (h:(AJ.callc f y).wp (AT P) O (some d) K)
  {next:Act->World->Prop} {Q:Exit->Act->World->Prop} (V:∀ e env' u w',K e env'->Q6 a d u->DI F0 w0 ((d,e)::env') u w'->next u w'):o.wp P a w next Q:=by
 simp only [AJ.wp] at h;cases C:y.xlist O with
 | none=>rw [C] at h; exact h.elim
 | some p=>
  obtain ⟨⟨q,i⟩,m,es⟩:=p;rw [C] at h;simp only [BA] at h;obtain ⟨⟨H,rfl⟩,rfl,I,zs,J,rfl,⟨L,r,Z,c,hS⟩,hK⟩:=h;simp only [List.cons.injEq,TV.list.injEq,true_and,and_true] at r;have D:L=zs:=by
   have:=congrArg (List.map fun t=>match t with | .int _ n=>n | _=>0) r;simpa [List.map_map,Function.comp_def] using this.symm
  subst D;obtain ⟨s,R⟩:=NO g A C;replace s:=AD.xat_none s;simp only [XV] at R;replace c:=c (by have:=g.wf q; rw [s] at this; exact this);have N:=A9 g s (by simp);simp only [AY] at N;obtain ⟨xs,h1,h2,h3,h4⟩:=N;have E:=Ve _ _ h2;subst E;have l:(execOp a.eval o).run P w=(callFunc f #[slot a q]).run P w:=by simp [execOp,z,resolve,Act.eval,Deferred.ofValue,invoke,←R]
  unfold Oper.wp;rw [l,I7 Z _,Oper.upon_enter];refine (hS w (slot a q) (G q none) (by simpa using h1)).mono ?_;rintro e w' ⟨v',rfl,r1,r2⟩;simp only [j];obtain ⟨b1,b2,b3,T,b5⟩:=r2;refine V _ _ _ _ (hK c) ⟨_,rfl⟩ (g.xgo s U (fun e=>H e.symm) (z':=G q none) b1 b2 b3 T (fun k B W=>b5 k B W) (fun b lo M=>⟨Nat.lt_of_lt_of_le (g.lt _ _ _ _ M).1 T,.inr ⟨_,M⟩⟩) (by simp) (fun _=>I) (fun F' G' env' u X Y=>?_) c);simp only [AY];rw [Y];exact ⟨_,by simpa using r1,VO J,by simp [TV.cells],by simp [Value.oneCell']⟩
theorem bS (X:AZ F0 w0 O a w G) (hd:d<a.tmps.size) {s:Nat} {x:Operand} {y:AL} {t e:TypeId} {i:TypeInfo} {z:Value} {n:Nat} (Z:o.op=.call { callee:=.builtin .append,args:=#[.tmp s,x],argTypes:=#[t,t] })
  (ht:P.underlying t=some (.slice e)) (hi:P.info? e=some i) (q:i.zero=some z) (B:i.size=n) (hby:i.bytes<=4096) (hzs:z.cells.size=n) (hn:0<n)
  (hok:AP x y=true) (h:(AJ.appx n s y).wp S O (some d) K):B2 P F0 w0 a w o d K:=by
 simp only [AJ.wp] at h;split at h
 ·rename_i d' m es m' C I hs hy;simp only [zzY] at I;subst I;obtain ⟨hm1,hm2,R,hno,hds,hK⟩:=h;subst hm2;subst hm1;have v:=A9 X hs (by simp);have D:=X.wf s;rw [hs] at D;simp only [AY] at v;obtain ⟨xs,⟨z0,h1,T⟩,h2,h3,h4⟩:=v;have hv:=BR X hok hy;simp only [A7] at hv;obtain ⟨⟨ad,cap,h5,h6,h7,h8⟩,h9⟩:=hv;have E:∃ c:List Value,AS w (A3 w0.heap.size F0 G) (C.flatMap TV.cells) c∧(∀ x∈c,x.oneCell'=true)∧(∀ f∈C,f.cells.length=m)∧∀ b,ad=some b->∀ (j:Nat) (u:Value),c[j]?=some u->w.cell? (b.add j)=some u:=by
   cases ad with
   | none=>
    have:=h7 rfl;subst this;exact ⟨[],rfl,by simp,by simp,by simp⟩
   | some b=>
    obtain ⟨r,U⟩:=h8 b rfl;obtain ⟨bb,g,sp⟩:=b;simp only at r U;by_cases N:C=[]
    ·subst N;exact ⟨[],rfl,by simp,by simp,by simp⟩
    have r:sp=none:=r.resolve_left N;subst r;have Q:∀ (l:QQ) (g:Nat),IN w (A3 w0.heap.size F0 G) m l bb g->EN w (A3 w0.heap.size F0 G) (l.flatMap TV.cells) bb g∧∀ f∈l,f.cells.length=m:=by
     intro l
     induction l with
     | nil=>intro g _; exact ⟨trivial,by simp⟩
     | cons f l ih=>
      intro g J;rw [Oa] at J;obtain ⟨i1,i2⟩:=ih _ J.2.2;refine ⟨?_,by simp only [List.mem_cons,forall_eq_or_imp]; exact ⟨J.2.1,i2⟩⟩;rw [List.flatMap_cons,GQ];intro j u Y;rw [List.getElem?_append] at Y;split at Y
      ·exact (GQ _ _ _).1 J.1 j u Y
      ·rename_i hge;have:=(GQ _ _ _).1 i1 _ u Y;have hfl:=J.2.1
       rwa [show g+m+(j - f.cells.length)=g+j from by omega] at this
    obtain ⟨r1,A⟩:=Q C g U;obtain ⟨vs,q1,q2,q3⟩:=Qw r1;exact ⟨vs,q1,q2,A,fun b hb=>by simp only [zzY] at hb; subst hb; exact q3⟩
  obtain ⟨c,n1,n2,n3,n4⟩:=E;have hnl:c.length=C.length*m:=by rw [CN n1,Nr m C n3]
  obtain ⟨v',w',z',V,r1,A⟩:=RA (P:=P) t o.type e i z m ht hi q B hby hzs hn (slot a s) es.length xs z0 h1 ad C.length cap c hnl (fun e=>by rw [h7 e]; rfl) h6 n4 n2 R;have hnz:∀ k,(∀ lo,G s none≠some (k,lo))->∀ lo,z0≠some (k,lo):=fun k hk lo q=>hk 0 (by rw [T,q]; rfl);refine ⟨v',w',?_,_,_,hK,X.xgo hs hd hds (z':=z'.map fun p=>(p.1,0)) A.os A.tape A.output A.size (fun k hk q=>A.other k hk (hnz k q)) (fun b lo q=>?_) (by simp) (fun _=>hno) (fun F' G' env' a' H hG=>?_) ?_⟩
  ·simp [execOp,Z,resolve,invoke,builtin,show a.eval (.tmp s)=slot a s from rfl,h5,V]
  ·cases z' with
   | none=>simp at q
   | some p=>
    simp only [Option.map_some,zzY,Prod.mk.injEq] at q;obtain ⟨k1,W⟩:=A.zone p.1 p.2 rfl;rw [←q.1];refine ⟨k1,?_⟩;rcases W with W | ⟨lo',W,_⟩
    ·exact .inl W
    ·exact .inr ⟨0,by rw [T,W]; rfl⟩
  ·simp only [AY];rw [hG];refine ⟨xs++c,⟨z',by rw [d4]; exact r1,rfl⟩,?_,?_,?_⟩
   ·rw [List.flatMap_append];exact Kg (BP H _ _ h2) (BP H _ _ n1)
   ·intro e L;rcases List.mem_append.1 L with L | L
    ·exact h3 e L
    ·exact n3 e L
   ·intro x M;rcases List.mem_append.1 M with M | M
    ·exact h4 x M
    ·exact n2 x M
  ·simp only [EV.WF,TV.WF] at D h9 ⊢;exact ⟨by rw [d4]; exact T7 (by omega),Lf.2 ⟨D.2,h9.2⟩⟩
 ·exact h.elim
theorem dh (M:AZ F0 w0 O a w G) (hd:d<a.tmps.size) {x x':Operand} {y:AL} {ty e:TypeId} {f:TypeInfo} {z c:Value} {t:TV} (s:o.op=.makeSlice ty x x') (N:AP x y=true) (A:AP x' y=true)
  (n:P.underlying ty=some (.slice e)) (B:P.info? e=some f) (L:f.zero=some z) (Z:f.size=1) (Q:f.bytes<=4096) (R:z.cells=#[c]) (hc:FO t c=true) (T:c.oneCell'=true) (C:t.cells=[t])
  (h:(AJ.mkx 1 [t] y).wp S O (some d) K):B2 P F0 w0 a w o d K:=by
 simp only [AJ.wp] at h;split at h
 ·rename_i d' ik j D hy;simp only [zzY] at D;subst D;obtain ⟨Y,h0,hmax,hK⟩:=h;have hv:=(BR M N hy).1;have p:=(BR M A hy).1;simp only [A7] at hv p;obtain ⟨m,rfl⟩:∃ m:Nat,j=m:=⟨j.toNat,by omega⟩;have hm:m<=4096:=by omega
  have U:IntKind.i64.wrap (m:Int)=m:=by
   have e1:(2:Int) ^ 64=18446744073709551616:=by decide
   have e2:(2:Int) ^ (64 - 1)=9223372036854775808:=by decide
   simp only [IntKind.wrap,IntKind.bits,IntKind.signed,Bool.true_and,zzX,e1,e2,ge_iff_le];split <;> omega
  have g:m*f.bytes<=16777216:=by
   calc m*f.bytes<=4096*4096:=Nat.mul_le_mul hm Q
    _=16777216:=by decide
  have l:(Array.range m).map (fun q=>([c]:List Value)[q % 1]?.getD default)=Array.replicate m c:=by
   apply Array.ext
   ·simp
   ·intro i h1 h2;simp [Nat.mod_one]
  have E:¬ (281474976710656<(f.bytes:Int)*(m:Int)):=by
   have h1:((m*f.bytes:Nat):Int)<=((16777216:Nat):Int):=Int.ofNat_le.2 g;rw [Nat.mul_comm,Int.natCast_mul] at h1;omega
  have r:¬ (m*f.bytes > roomBytes):=by
   have:roomBytes ≥ 16777216:=by decide
   omega
  have H:¬ ((m:Int)<0):=by omega
  have I:(execOp a.eval o).run P w=.ok (.value (.slice (some ⟨w.heap.size,0,none⟩) m m)) (w.alloc (.cells (Array.replicate m c) e)):=by
   by_cases J:m=0
   ·subst J;have V:IntKind.i64.wrap 0=0:=by decide
    simp [execOp,s,hv,p,Instr.makeSlice,run_underlying n,asInt,asIntOf,typeInfo,B,V,askRoom,sizeOf,Z,newRow];rw [Array.range_zero']; simp
   ·simp [execOp,s,hv,p,Instr.makeSlice,run_underlying n,asInt,asIntOf,typeInfo,B,U,askRoom,sizeOf,Z,newRow,E,r,H,J,zeroValue,L,R,l]
  have hb:Below w.heap.size w (w.alloc (.cells (Array.replicate m c) e)):=(Below.refl _ _).alloc (d3 _) _;have W:=Il (w.alloc (.cells (Array.replicate m c) e)) (fun _ _=>False) t c hc;have X:∀ k,(List.replicate k t).flatMap TV.cells=List.replicate k t:=by
   intro k
   induction k with
   | zero=>rfl
   | succ k ih=>rw [List.replicate_succ,List.flatMap_cons,ih,C]; rfl
  simp only [Int.toNat_natCast] at hK;refine ⟨_,_,I,_,_,hK,M.xnew hb hd Y (z:=some (w.heap.size,m*1)) (xs:=List.replicate m c) ⟨by simp,.inr ⟨w.heap.size,m,_,e,by simp,heap_alloc_new w _,by simp,by simp only [maxLen]; omega,by simp,by simp,by simp⟩⟩ (fun b lo L=>?_) (fun F' _=>?_) (fun u n=>?_) (fun v hv=>?_) ⟨by simp only [List.length_replicate,I3]; omega,?_⟩⟩
  ·simp only [zzY,Prod.mk.injEq] at L;rw [←L.1]; exact ⟨d3 _,by simp⟩
  ·rw [X,CP];refine ⟨by simp,fun i u v n hv=>?_⟩;rw [List.eq_of_mem_replicate (List.mem_of_getElem? n),List.eq_of_mem_replicate (List.mem_of_getElem? hv)];exact (Il _ F' t c hc).1
  ·rw [List.eq_of_mem_replicate n,C]; rfl
  ·rw [List.eq_of_mem_replicate hv]; exact T
  ·rw [CU];intro u n;rw [List.eq_of_mem_replicate n]; exact W.2
 ·exact h.elim
def ZP (P:Program) (t:TypeId) (f k n:Nat) (agg:Bool):Bool:=
 match P.underlying t with
 | some (.struct fs)=>(match fs[f]? with
  | some x=>x.offset==k&&FH P x.type==some n&&DR P x.type==some agg
  | none=>false)
 | _=>false
theorem bZ (z:AZ F0 w0 O a w G) (D:d<a.tmps.size) {x:Operand} {y:AL} {t:TypeId} {f k n:Nat} {agg:Bool} (j:o.op=.field t x f) (A:AP x y=true) (c:ZP P t f k n agg=true) (h:(AJ.fldv y k n agg).wp S O (some d) K):B2 P F0 w0 a w o d K:=by
 simp only [AJ.wp] at h;split at h
 ·rename_i cs M;obtain ⟨R,b⟩:=h;have hv:=BR z A M;simp only [A7,TV.WF] at hv;obtain ⟨⟨vs,I,s,J⟩,C⟩:=hv;unfold ZP at c;split at c
  ·rename_i Q q;split at c
   ·rename_i e m;simp only [zzZ,beq_iff_eq] at c;obtain ⟨⟨rfl,N⟩,L⟩:=c;have H:=CN s;rw [CP] at s;rw [CU] at C;cases agg with
    | true=>
     simp only [if_true] at b;refine DV z D (v:=.agg (vs.extract e.offset (e.offset+n))) (t:=.agg ((cs.drop e.offset).take n)) ?_ ?_ ?_ b
     ·simp [execOp,j,I,Instr.field,run_underlying q,m,part,FQ L,D7 N,asAgg]
     ·simp only [A7];refine ⟨_,rfl,?_,?_⟩
      ·rw [CP];simp only [Array.toList_extract];refine ⟨by simp only [d5,List.length_drop,List.extract_eq_take_drop]; omega,fun i t v hi hv=>?_⟩;rw [List.extract_eq_take_drop] at hv;simp only [List.getElem?_take,List.getElem?_drop,Nat.add_sub_cancel_left] at hi hv;split at hi
       ·rename_i p;rw [d1 p] at hv;exact s.2 _ t v hi hv
       ·cases hi
      ·rw [List.all_eq_true] at J ⊢;intro x E;simp only [Array.toList_extract,List.extract_eq_take_drop] at E;exact J x (List.mem_of_mem_drop (List.mem_of_mem_take E))
     ·simp only [TV.WF];rw [CU];exact fun u q=>C u (List.mem_of_mem_drop (List.mem_of_mem_take q))
    | false=>
     simp only [Bool.false_eq_true,if_false] at b;cases B:cs.drop e.offset with
     | nil=>rw [B] at b; simp [IE,BA] at b
     | cons u r=>
      rw [B] at b;simp only [IE,BA] at b;have g:cs[e.offset]?=some u:=by
       have:=congrArg (fun l=>l[0]?) B;simpa [List.getElem?_drop] using this
      have p:e.offset<cs.length:=(List.getElem?_eq_some_iff.1 g).1;obtain ⟨v,hv⟩:∃ v,vs.toList[e.offset]?=some v:=⟨_,List.getElem?_eq_getElem (by omega)⟩;refine DV z D (v:=v) (t:=u) ?_ (s.2 _ u v g hv) (C u (List.mem_of_getElem? g)) b;rw [Array.getElem?_toList] at hv;simp [execOp,j,I,Instr.field,run_underlying q,m,part,FQ L,asAgg,hv]
   ·cases c
  ·cases c
 ·exact h.elim
def co (P:Program) (ty:TypeId) (n:Nat) (zero:QQ):Bool:=
 match P.underlying ty,zero with
 | some (.slice e),[t]=>(match P.info? e with
  | some ie=>(match ie.zero with
   | some z=>(match z.cells.toList with
    | [z0]=>n==1&&ie.size==1&&decide (ie.bytes<=4096)&&FO t z0&&z0.oneCell'&&(match t with | .int _ _=>true | .bool _=>true | .str _=>true | _=>false)
    | _=>false)
   | none=>false)
  | none=>false)
 | _,_=>false
theorem gx (k:AZ F0 w0 O a w G) (l:d<a.tmps.size) {x x':Operand} {y:AL} {ty:TypeId} {n:Nat} {zero:QQ} (f:o.op=.makeSlice ty x x') (g:AP x y=true) (c:AP x' y=true) (b:co P ty n zero=true)
  (h:(AJ.mkx n zero y).wp S O (some d) K):B2 P F0 w0 a w o d K:=by
 unfold co at b;split at b
 ·rename_i e t m;split at b
  ·rename_i A i;split at b
   ·rename_i z p;split at b
    ·rename_i B j;simp only [zzZ,beq_iff_eq,zzX] at b;obtain ⟨⟨⟨⟨⟨rfl,q⟩,r⟩,s⟩,u⟩,v⟩:=b;exact dh k l f g c m i p q r (XT j) s u (by cases t <;> first | rfl | cases v) h
    ·cases b
   ·cases b
  ·cases b
 ·cases b
theorem jK {f:FuncId} {args:QQ} {t:TV} (h:AT P f args (.own t)):AT P f args (.sh t):=by
 intro l;obtain ⟨n,p⟩:=h l;refine ⟨n,fun F0 w vs hv=>?_⟩;obtain ⟨q,r⟩:=p F0 w vs hv;refine ⟨q,r.mono ?_⟩;rintro e w' ⟨v,rfl,s,z,x,y⟩;refine ⟨v,rfl,s,?_⟩;have m:=C1.rep x (fun b lo o i ho=>by
  rintro (g | ⟨A,g,B⟩)
  ·have:=(y b lo i).1; omega
  ·rw [i] at g;simp only [zzY,Prod.mk.injEq,true_and] at g;omega)
 exact DG (fun b o u j k=>⟨j,fun c=>k (.inl c)⟩) _ _ m
theorem Ph {v:Value} (h:v.oneCell'=true):v.cells=#[v]:=by
 cases v <;> first | rfl | simp [Value.oneCell'] at h
theorem dl (p:AZ F0 w0 O a w G) {x v:Operand} {t:TypeId} {n s q:Nat} (hop:o.op=.store t x v) (z:AP x (.s s)=true) (hv:AP v (.s q)=true) (hn:FH P t=some n) (h:(AJ.stx n s q).wp S O none K):NT P F0 w0 a w o K:=by
 simp only [AJ.wp] at h;split at h
 ·rename_i cs ds J hq;obtain ⟨E,⟨N,A⟩,ho,hK⟩:=h;have hp:(AL.s s).place O=some (s,0):=by simp [AL.place,J]
  revert hp ho hK
  suffices key:∀ f,f+n<=cs.length->K .undef ((s,.bx (cs.take f++ds++cs.drop (f+n)))::(q,.undef)::O)->(AL.s s).place O=some (s,f)->NT P F0 w0 a w o K from key 0
  ·intro f ho hK hp;have hvq:v=.tmp q:=by
    cases v <;> simp [AP] at hv;rw [hv]
   subst hvq;obtain ⟨b,Z,hadr⟩:=KV p z hp J;have hr:=A9 p J (by simp);simp only [AY] at hr;obtain ⟨U,c,T,h1,h2,h3,h4,h5⟩:=hr;rw [Z] at h1;simp only [Value.pointer.injEq,zzY,Addr.mk.injEq,and_true,and_self] at h1;subst h1;have V:=A9 p hq (by simp);simp only [AY] at V;obtain ⟨vs,u,l,e3⟩:=V;have M:=p.wf s;rw [J] at M;have W:=p.wf q;rw [hq] at W;have X:∀ y∈vs.toList,y.oneCell'=true:=by
    intro y B;obtain ⟨i,hi⟩:=List.getElem?_of_mem B;have g:i<ds.length:=by have:=(List.getElem?_eq_some_iff.1 hi).1; simpa [l] using this
    obtain ⟨x,z,hc⟩:=e3 i _ (List.getElem?_eq_getElem g);rw [Array.getElem?_toList,z] at hi;simp only [zzY] at hi;subst hi;exact MN hc
   have hev:a.eval (.tmp q)=.agg vs:=u;have hst:(execOp a.eval o).run P w=.ok .skip (w.setRow b (c.toList.take f++vs.toList++c.toList.drop (f+n)).toArray):=by
    have Y:vs.toList.length=n:=by rw [Array.length_toList,l,N]
    have D:=run_storeCells_at P b f T vs.toList 0 c w h2 (by rw [Y]; omega) X;simp only [Nat.add_zero] at D;rw [Y] at D;simp [execOp,hop,hadr,hev,Instr.storeAt,Instr.sureAddr,storeVar,D7 hn,Value.cells,show vs.size=n by rw [l,N],D]
   have hvl:vs.toList.length=n:=by rw [Array.length_toList,l,N]
   let zs:Option Nat->Option (Nat × Nat):=fun i=>match i with | none=>some (b,0) | some j=>if f<=j∧j<f+n then G q (some (j - f)) else G s (some j)
   refine Exists.elim (p.rebox J Z h2 (cs':=cs.take f++ds++cs.drop (f+n)) (c':=(c.toList.take f++vs.toList++c.toList.drop (f+n)).toArray) (q:=some q) (by simpa using E) (zs:=zs) rfl ?_ ?_ ?_ ?_ ?_ ?_) (fun G' h'=>⟨_,hst,_,hK,G',h'.1⟩)
   ·intro i U lo hi hz;cases i with
    | none=>exact absurd rfl hi
    | some j=>
     simp only [zs] at hz;split at hz
     ·exact .inr ⟨q,rfl,_,hz⟩
     ·exact .inl hz
   ·intro i i' U lo I u l;have zn:∀ j U lo I,zs (some j)=some (U,lo)->zs none=some (U,I)->False:=by
     intro j U lo I u l;simp only [zs,zzY,Prod.mk.injEq] at l;obtain ⟨rfl,_⟩:=l;simp only [zs] at u;split at u
     ·exact E (p.uniq _ _ _ _ _ _ _ u h4).1
     ·have:=(p.uniq _ _ _ _ _ _ _ u h4).2; cases this
    cases i with
    | none=>cases i' with
     | none=>rfl
     | some j=>exact (zn j _ _ _ l u).elim
    | some j=>cases i' with
     | none=>exact (zn j _ _ _ u l).elim
     | some j'=>
      simp only [zs] at u l;split at u <;> split at l
      ·have:=(p.uniq _ _ _ _ _ _ _ u l).2;simp only [zzY] at this;rw [show j=j' by omega]
      ·exact absurd (p.uniq _ _ _ _ _ _ _ u l).1 E
      ·exact absurd (p.uniq _ _ _ _ _ _ _ l u).1 E
      ·exact (p.uniq _ _ _ _ _ _ _ u l).2
   ·simp only [List.size_toArray,d4,d5,List.length_drop,Array.length_toList]; omega
   ·intro F' w' L C i y B;have hco:∀ j,f+n<=j->cs[j]?=some y->i=j->∃ v,c[j]?=some v∧C3 w' F' (G s (some j)) y v:=by
     intro j hj hc hij;obtain ⟨v,Q,R⟩:=h5 j y hc;exact ⟨v,Q,R.kept L (fun k lo r=>C k (fun e=>by have:=(p.uniq _ _ _ _ _ _ _ (e ▸ r) h4).2; cases this))⟩
    rcases Nat.lt_or_ge i f with g | hge
    ·rw [ea,List.getElem?_append_left (by simp; omega),List.getElem?_take,d1 g] at B;obtain ⟨v,Q,R⟩:=h5 i y B;refine ⟨v,?_,?_⟩
     ·rw [List.getElem?_toArray,ea,List.getElem?_append_left (by simp; omega),List.getElem?_take,d1 g,Array.getElem?_toList]; exact Q
     ·simp only [zs,d2 (show ¬ (f<=i∧i<f+n) by omega)];exact R.kept L (fun k lo r=>C k (fun e=>by have:=(p.uniq _ _ _ _ _ _ _ (e ▸ r) h4).2; cases this))
    ·rcases Nat.lt_or_ge i (f+n) with g | H
     ·rw [ea,List.getElem?_append_right (by simp; omega),List.getElem?_append_left (by simp; omega)] at B;simp only [d5] at B;rw [Nat.min_eq_left (by omega)] at B;obtain ⟨v,Q,R⟩:=e3 (i - f) y B;refine ⟨v,?_,?_⟩
      ·rw [List.getElem?_toArray,ea,List.getElem?_append_right (by simp; omega),List.getElem?_append_left (by simp; omega)];simp only [d5,Array.length_toList];rw [Nat.min_eq_left (by omega),Array.getElem?_toList]; exact Q
      ·simp only [zs,d1 (show f<=i∧i<f+n by omega)];exact R.kept L (fun k lo r=>C k (fun e=>E (p.uniq _ _ _ _ _ _ _ (e ▸ r) h4).1))
     ·rw [List.getElem?_append_right (by simp; omega)] at B;simp only [d4,d5] at B;rw [Nat.min_eq_left (by omega),N,List.getElem?_drop,show f+n+(i - (f+n))=i from by omega] at B;obtain ⟨v,Q,R⟩:=hco i H B rfl;refine ⟨v,?_,?_⟩
      ·rw [List.getElem?_toArray,List.getElem?_append_right (by simp; omega)];simp only [d4,d5,Array.length_toList];rw [Nat.min_eq_left (by omega),l,N,List.getElem?_drop,show f+n+(i - (f+n))=i from by omega,Array.getElem?_toList]; exact Q
      ·simp only [zs,d2 (show ¬ (f<=i∧i<f+n) by omega)];exact R
   ·intro x z;rcases List.mem_append.1 z with z | z
    ·rcases List.mem_append.1 z with z | z
     ·exact M x (List.mem_of_mem_take z)
     ·exact W x z
    ·exact M x (List.mem_of_mem_drop z)
   ·intro k m es r;have hkl:k<cs.length:=by
     have:=(List.getElem?_eq_some_iff.1 r).1;simp only [d4,d5,List.length_drop] at this; omega
    rw [List.getElem?_toArray];rcases Nat.lt_or_ge k f with g | hge
    ·rw [ea,List.getElem?_append_left (by simp; omega),List.getElem?_take_of_lt g] at r;refine .inr ⟨⟨(m,es),by simp only [AD.xat,J,r]⟩,?_⟩;rw [ea,List.getElem?_append_left (by simp; omega),List.getElem?_take_of_lt g,Array.getElem?_toList]
    ·rcases Nat.lt_or_ge k (f+n) with g | H
     ·rw [ea,List.getElem?_append_right (by simp; omega),List.getElem?_append_left (by simp; omega)] at r;rw [Bool.or_eq_true] at A;rcases A with A | A
      ·have:=List.all_eq_true.1 A _ (List.mem_of_getElem? r);simp [TV.isXl] at this
      ·exact .inl (AD.noX_all A)
     ·rw [List.getElem?_append_right (by simp; omega)] at r;simp only [d4,d5,List.getElem?_drop] at r;rw [Nat.min_eq_left (by omega),N,show f+n+(k - (f+n))=k from by omega] at r;refine .inr ⟨⟨(m,es),by simp only [AD.xat,J,r]⟩,?_⟩;rw [List.getElem?_append_right (by simp; omega)];simp only [d4,d5,Array.length_toList,List.getElem?_drop];rw [Nat.min_eq_left (by omega),l,N,show f+n+(k - (f+n))=k from by omega,Array.getElem?_toList]
 ·exact h.elim
theorem Zr (s:AZ F0 w0 O a w G) (H:d<a.tmps.size) (m:o.dst=some d) {f:FuncId} {xs:Array Operand} {t:List AL} {y:Array TypeId} (z:o.op=.call { callee:=.value (.func f),args:=xs,argTypes:=y }) (A:DK xs.toList t=true) (h:(AJ.callg f t).wp (AT P) O (some d) K)
  {next:Act->World->Prop} {Q:Exit->Act->World->Prop} (I:∀ e env' B w',K e env'->Q6 a d B->DI F0 w0 ((d,e)::env') B w'->next B w'):o.wp P a w next Q:=by
 simp only [AJ.wp] at h;cases l:vals O t with
 | none=>rw [l] at h; exact h.elim
 | some ts=>
  rw [l] at h;simp only [BA] at h;obtain ⟨cs,M,N⟩:=h;have hv:=KJ s A l;have q:(execOp a.eval o).run P w=(callFunc f (xs.map a.eval)).run P w:=by simp [execOp,z,resolve,Act.eval,Deferred.ofValue,invoke]
  obtain ⟨R,T⟩:=(M.to0 rfl) hv.2;obtain ⟨E,U⟩:=T (A3 w0.heap.size F0 G) w (xs.map a.eval) (by simpa using hv.1);unfold Oper.wp;rw [q,I7 R _,Oper.upon_enter];refine U.mono ?_;rintro e w' ⟨v,rfl,X,vs,zs,rfl,Y,Z,r3,r4⟩;simp only [m];refine I _ _ _ _ (N E) ⟨_,rfl⟩ ⟨_,s.quiet X d H (.oag cs) _ (fun i=>match i with | none=>none | some j=>zs j) (fun i b lo hi=>?_) (fun i J b lo C g n=>?_) (by simp) ?_ E⟩
  ·cases i with
   | none=>cases hi
   | some j=>exact r4 j b lo hi
  ·cases i with
   | none=>cases g
   | some j=>cases J with
    | none=>cases n
    | some j'=>rw [r3 j j' b lo C g n]
  ·simp only [AY];refine ⟨vs,rfl,Y,fun i c D=>?_⟩;obtain ⟨x,V,W,_⟩:=Z i c D;refine ⟨x,V,?_⟩;rw [CB];refine W.kept (fun b o u D L=>⟨D,fun k=>L ?_⟩) (fun _ _ _=>rfl);rcases k with k | ⟨p,j,lo,g,n⟩
   ·exact .inl ⟨Nat.lt_of_lt_of_le k.1 s.below.size,.inl k⟩
   ·by_cases r:p=d
    ·subst r;rw [CB] at g;cases j with
     | none=>cases g
     | some j=>exact .inr ⟨j,lo,g,n⟩
    ·rw [B1 _ _ _ _ r] at g;exact .inl ⟨(s.lt _ _ _ _ g).1,.inr ⟨p,j,lo,g,n⟩⟩
def ZQ (P:Program) (t:TypeId):Bool:=match P.underlying t with | some (.slice _)=>true | _=>false
theorem cZ {x:Operand} (h:R4 x=true):x=.const (.slice none 0 0):=by
 cases x <;> simp [R4] at h;rename_i v;rw [LC h]
theorem db (q:AZ F0 w0 O a w G) (u:d<a.tmps.size) {x z:Operand} {y:AL} {t A:TypeId} (f:o.op=.binOp .eql t x z A) (i:AP x y=true) (B:R4 z=true) (j:ZQ P t=true) (h:(AJ.isn y).wp S O (some d) K):B2 P F0 w0 a w o d K:=by
 simp only [AJ.wp] at h;split at h
 ·rename_i n es C;have hv:=(BR q i C).1;simp only [A7] at hv;obtain ⟨c,cap,l,s,M,N⟩:=hv;have m:=cZ B;subst m;unfold ZQ at j;split at j
  ·rename_i e D;refine DV q u (v:=.bool c.isNone) (t:=.bool c.isNone) ?_ rfl trivial (h _ (fun k=>M (by simpa using k)));have E:∀ d,(Op.equalIn (d+1) t (.slice c es.length cap) (.slice none 0 0)).run P w=.ok c.isNone w:=by
    intro d;cases c <;> simp [Op.equalIn,run_underlying D]
   have p:(Op.equalIn 10000 t (.slice c es.length cap) (.slice none 0 0)).run P w=.ok c.isNone w:=E 9999;have H:(eqGuard .eql t x (.const (.slice none 0 0)) (.slice c es.length cap) (.slice none 0 0)).run P w=.ok () w:=by
    simp [eqGuard]
   have k:(binOp .eql t (.slice c es.length cap) (.slice none 0 0)).run P w=.ok (.bool c.isNone) w:=by
    have e:(binOp .eql t (.slice c es.length cap) (.slice none 0 0)).run P w=((Op.equalIn 10000 t (.slice c es.length cap) (.slice none 0 0)).run P w).andThen fun b w'=>.ok (.bool b) w':=by
     simp only [binOp];simp [Op.equal,Op.maxDepth]
    rw [e,p]; rfl
   have I:a.eval x=.slice c es.length cap:=l;have J:a.eval (.const (.slice none 0 0))=.slice none 0 0:=rfl;have L:∀ (g b:Sem Unit) (r:Sem Value),g.run P w=.ok () w->r.run P w=.ok (.bool c.isNone) w->(do let r ←(do g; r:Sem Value); pure (Next.value r):Sem Next).run P w=.ok (.value (.bool c.isNone)) w:=by
    intro g b r l s;simp [l,s]
   simp only [execOp,f,I,J];exact L _ (pure ()) _ H k
  ·cases j
 ·exact h.elim
end
end Go.Sf
