/- Taking an own list out of a box; calls. -/
import Derived.Test.YtlbmpkmkmkgniaaGreatDoorSfStore
set_option linter.all false
namespace Go.Sf
open Go.RowKit (Below)
section
variable {P:Program} {S:FuncId->QQ->CS->Prop} {F0:Nat->Nat->Prop} {w0:W0} {O:AD} {a:Act} {w:World} {G:DT} {d:Nat} {o:Oper} {K:EV->AD->Prop}
theorem AY.takeCell (h:AY F0 w0 O a w G) {s g:Nat} {cs:List At} (U:O.get s=.bx cs) {t:TV} (V:cs[g]?=some ⟨true,t⟩) (hd:d<a.tmps.size) {b:Nat} (W:slot a s=.pointer (some ⟨b,0,none⟩)) {x:Value} (hx:w.cell? ⟨b,g,none⟩=some x) {e:EV} {t':TV} (z:(e=.ow t∧t'=t∧t.isXl=false)∨∃ n es,t=.xl n es∧e=.xo n es∧t'=.undef∧O.noRef d=true) :
  DJ F0 w0 ((d,e)::(s,.bx (cs.set g ⟨false,t'⟩))::O) (a.put (some d) x) w:=by
 have D:=A9 h U (by simp);have hw:=h.wf s;rw [U] at hw;simp only [AX] at D;obtain ⟨J,c,T,R,M,h3,h4,h5⟩:=D;rw [W] at R;simp only [Value.pointer.injEq,zzY,Addr.mk.injEq,and_true,and_self] at R;subst R;obtain ⟨x',Z,l⟩:=h5 g _ V;have F:x'=x:=by
  rw [cell_of_row w b g c T (0,0) M] at hx;rw [Z] at hx; simpa using hx
 subst F;simp only [C6] at l
 let H:DT:=fun p i=>if p=d then (if i=none then G s (some g) else none) else if p=s∧i=some g then none else G p i
 have I:∀ p i J lo,H p i=some (J,lo)->(p=d∧i=none∧G s (some g)=some (J,lo))∨(p≠d∧¬ (p=s∧i=some g)∧G p i=some (J,lo)):=by
  intro p i J lo q;simp only [H] at q;split at q
  ·rename_i m;split at q
   ·rename_i hi; exact .inl ⟨m,hi,q⟩
   ·cases q
  ·rename_i m;split at q
   ·cases q
   ·rename_i hn; exact .inr ⟨m,hn,q⟩
 have C:D0 w w (A2 w0.heap.size F0 G) (A2 w0.heap.size F0 H):=fun J o v V hF=>⟨V,fun hF'=>hF (A2.mono (fun p i b'' lo q=>by
  rcases I _ _ _ _ q with ⟨_,_,e⟩ | ⟨_,_,e⟩
  ·exact ⟨_,_,lo,e,d3 _⟩
  ·exact ⟨_,_,lo,e,d3 _⟩) hF')⟩
 refine ⟨H,?_,?_,h.below,by rw [LT]; exact h.defers,?_,?_,?_⟩
 ·intro p i p' i' J lo lo' L e2;rcases I _ _ _ _ L with ⟨rfl,rfl,f1⟩ | ⟨n1,n2,f1⟩ <;> rcases I _ _ _ _ e2 with ⟨rfl,rfl,f2⟩ | ⟨m1,m2,f2⟩
  ·exact ⟨rfl,rfl⟩
  ·exact absurd ((h.uniq _ _ _ _ _ _ _ f1 f2).imp Eq.symm Eq.symm) m2
  ·exact absurd (h.uniq _ _ _ _ _ _ _ f1 f2) n2
  ·exact h.uniq _ _ _ _ _ _ _ f1 f2
 ·intro p i J lo L;rcases I _ _ _ _ L with ⟨_,_,L⟩ | ⟨_,_,L⟩ <;> exact h.lt _ _ _ _ L
 ·intro p q;rw [F1] at q;have hsz:s<a.tmps.size:=G9 h U (by simp);rw [AD.get_cons,d2 (by omega),AD.get_cons,d2 (by omega)];exact h.dom p q
 ·intro p q;rw [F1] at q;rw [AD.get_cons];by_cases m:d=p
  ·subst m;rw [d1 rfl,IY _ _ _ hd];rcases z with ⟨rfl,rfl,hxl⟩ | ⟨n,es,rfl,rfl,rfl,_⟩
   ·simp only [AX,H,if_true];exact (l.own hxl).kept C (fun _ _ _=>rfl)
   ·have:=l.kept C (fun _ _ _=>rfl);simp only [JE] at this;simp only [AX,H,if_true];exact this
  ·rw [d2 m,BN _ _ _ _ m,AD.get_cons];by_cases N:s=p
   ·subst N;rw [d1 rfl];have X:¬ s=d:=fun e=>m e.symm;simp only [AX];refine ⟨b,c,T,W,M,by simpa using h3,by simp only [H]; rw [d2 X,d2 (by simp)]; exact h4,fun i y B=>?_⟩;rw [List.getElem?_set] at B;by_cases hi:g=i
    ·subst hi;rw [d1 rfl] at B;split at B
     ·simp only [zzY] at B;subst B;refine ⟨x',Z,?_,TB l⟩;rcases z with ⟨rfl,rfl,hxl⟩ | ⟨n,es,rfl,rfl,rfl,_⟩
      ·exact DH C _ _ (JE.rep l (fun b lo o hz ho=>O0 h b lo o hz ho))
      ·exact TB l
     ·cases B
    ·rw [d2 hi] at B;obtain ⟨v,L,e2⟩:=h5 i y B;refine ⟨v,L,?_⟩;simp only [H];rw [d2 X,d2 (by rintro ⟨_,e⟩; exact hi (by simpa using e.symm))];exact e2.kept C (fun _ _ _=>rfl)
   ·rw [d2 N];refine AX.kept C (fun i=>by simp only [H]; rw [d2 (fun e=>m e.symm),d2 (fun e=>N e.1.symm)]) (fun _ _ _ _=>rfl) (fun r off' D ⟨cs',j⟩=>?_) (fun r i D ⟨pp,A⟩=>?_) (h.slots p q)
    ·rw [AD.get_cons] at j;by_cases u:d=r
     ·rw [d1 u] at j;rcases z with ⟨rfl,_⟩ | ⟨n,es,_,rfl,_⟩ <;> cases j
     ·rw [d2 u,AD.get_cons] at j;refine ⟨?_,BN _ _ _ _ u⟩;split at j
      ·rename_i E; subst E; exact ⟨cs,U⟩
      ·exact ⟨_,j⟩
    ·by_cases u:d=r
     ·subst u;rcases z with ⟨rfl,_⟩ | ⟨n,es,_,rfl,_,hno⟩
      ·exact absurd rfl (AD.xat_drop (by simp) (by simp) A).1
      ·have F:=AD.noRef_x d O hno p;rcases D with D | ⟨c,D⟩
       ·exact absurd D (F.1 i)
       ·exact absurd D (F.2 i c)
     ·rw [AD.xat_cons u] at A;have Y:∃ p,O.xat r i=some p:=by
       by_cases E:s=r
       ·subst E;obtain ⟨n,es⟩:=pp;cases i with
        | none=>have:=AD.xat_none A; rw [AD.get_cons,d1 rfl] at this; cases this
        | some k=>
         obtain ⟨cs'',R,M⟩:=AD.xat_some A;rw [AD.get_cons,d1 rfl] at R;simp only [EV.bx.injEq] at R;subst R;rw [List.getElem?_set] at M;split at M
         ·split at M <;> simp at M
         ·exact ⟨(n,es),by simp only [AD.xat,U,M]⟩
       ·rw [AD.xat_cons E] at A; exact ⟨pp,A⟩
      exact ⟨Y,h.xv Y (BN _ _ _ _ u) (fun _ _=>rfl)⟩
 ·intro p;rw [AD.get_cons];split
  ·have:=hw _ (List.mem_of_getElem? V);rcases z with ⟨rfl,_⟩ | ⟨n,es,rfl,rfl,_⟩
   ·exact this
   ·exact this
  ·rw [AD.get_cons];split
   ·intro y B;rcases List.mem_or_eq_of_mem_set B with B | rfl
    ·exact hw y B
    ·rcases z with ⟨_,rfl,_⟩ | ⟨n,es,_,_,rfl,_⟩
     ·exact (hw ⟨true,_⟩ (List.mem_of_getElem? V):_)
     ·trivial
   ·exact h.wf p
variable {x:Operand}
theorem dX (k:AY F0 w0 O a w G) (v:d<a.tmps.size) {x':AL} {t:TypeId} (l:o.op=.load t x) (z:AR x x'=true) (A:DV P t=some false) (h:(AJ.ldt x').wp S O (some d) K):B3 P F0 w0 a w o d K:=by
 simp only [AJ.wp] at h;split at h
 ·rename_i s g B;split at h
  ·rename_i cs m;split at h
   ·rename_i n es q;obtain ⟨b,i,j⟩:=KT k z B m;have u:=A9 k m (by simp);simp only [AX] at u;obtain ⟨F,c,T,p,C,H,I,D⟩:=u;rw [i] at p;simp only [Value.pointer.injEq,zzY,Addr.mk.injEq,and_true,and_self] at p;subst p;obtain ⟨y,E,_⟩:=D g _ q;have e:w.cell? ⟨b,g,none⟩=some y:=by rw [cell_of_row w b g c T (0,0) C]; exact E
    exact ⟨y,w,by simp [execOp,l,j,Instr.loadAt,Instr.sureAddr,loadVar,FV A,e],_,_,h,k.takeCell m q v i e (.inl ⟨rfl,rfl,rfl⟩)⟩
   ·exact h.elim
  ·exact h.elim
 ·exact h.elim
end
def Ju (w':World) (F:Nat->Nat->Prop) (base:Nat):CS->Value->Prop
 | .sh t,v=>A7 w' F t v
 | .own t,v=>∃ z,C3 w' (fun b o=>F b o∨∃ lo,z=some (b,lo)∧lo<=o) z t v∧∀ b lo,z=some (b,lo)->base<=b∧b<w'.heap.size
 | .tp ts,v=>∃ vs,v=.tuple vs∧AS w' F ts vs.toList
 | .xown n es,v=>∃ z xs,ID w' n v es.length xs z∧AS w' (fun b o=>F b o∨∃ lo,z=some (b,lo)) (es.flatMap TV.cells) xs∧(∀ e∈es,e.cells.length=n)∧(∀ x∈xs,x.oneCell'=true)∧∀ b lo,z=some (b,lo)->base<=b∧b<w'.heap.size
 | .oag cs,v=>∃ (vs:Array Value) (zs:Nat->Option (Nat × Nat)),v=.agg vs∧vs.size=cs.length∧(∀ (i:Nat) (d:At),cs[i]?=some d->∃ x,vs[i]?=some x∧C6 w' (fun b o=>F b o∨∃ j lo,zs j=some (b,lo)∧lo<=o) (zs i) d x∧x.oneCell'=true)∧(∀ i j b lo lo',zs i=some (b,lo)->zs j=some (b,lo')->i=j)∧∀ i b lo,zs i=some (b,lo)->base<=b∧b<w'.heap.size
 | _,_=>False
def GY (P:Program) (f:FuncId):Bool:=
 match P.funcs[f]? with
 | some fn => fn.name != "runtime.NumGoroutine" && fn.body.isSome
 | none=>false
def Vv (P:Program) (f:FuncId) (args:QQ) (r:CS):Prop:=
 TV.WFs args->GY P f=true∧∀ (F0:Nat->Nat->Prop) (w:World) (vs:Array Value),AS w F0 args vs.toList ->
  r.WF∧Calls P f vs w fun e w'=>∃ v,e=.returned v∧Below w.heap.size w w'∧Ju w' (fun b o=>b<w.heap.size∧F0 b o) w.heap.size r v
def Pp (z:Option (Nat × Nat)) (w w':World):Prop:=
 w'.os=w.os∧w'.tape=w.tape∧w'.output=w.output∧w.heap.size<=w'.heap.size∧∀ k,k<w.heap.size->(∀ lo,z≠some (k,lo))->w'.heap[k]?=w.heap[k]?
def ra (P:Program) (f:FuncId) (args:QQ) (zs':Ne):Prop:=
 ∃ zs:Ne,args=[.list 1 (zs.map (TV.int .i64))]∧GY P f=true∧zs'.length=zs.length∧((TV.list 1 (zs.map (TV.int .i64))).WF->(TV.list 1 (zs'.map (TV.int .i64))).WF) ∧
  ∀ (w:World) (v:Value) (z:Option (Nat × Nat)),K5 w 1 v zs.length (zs.map (Value.int .i64)) z ->
   Calls P f #[v] w fun e w'=>e=.returned (.tuple #[])∧K5 w' 1 v zs.length (zs'.map (Value.int .i64)) z∧Pp z w w'
def rY (P:Program) (f:FuncId) (args:QQ) (zs':Ne):Prop:=
 ∃ zs:Ne,args=[.list 1 (zs.map (TV.int .i64))]∧GY P f=true∧((TV.list 1 (zs.map (TV.int .i64))).WF->(TV.list 1 (zs'.map (TV.int .i64))).WF) ∧
  ∀ (w:World) (v:Value) (z:Option (Nat × Nat)),K5 w 1 v zs.length (zs.map (Value.int .i64)) z ->
   Calls P f #[v] w fun e w'=>∃ v',e=.returned v'∧K5 w' 1 v' zs'.length (zs'.map (Value.int .i64)) z∧Pp z w w'
def Oj (w:World) (F:Nat->Nat->Prop) (zs:Option Nat->Option (Nat × Nat)) (cs:List At) (v:Value):Prop:=
 ∃ b c T,v=.pointer (some ⟨b,0,none⟩)∧w.heap[b]?=some (.cells c T (0,0))∧c.size=cs.length∧zs none=some (b,0)∧∀ (i:Nat) (d:At),cs[i]?=some d->∃ x,c[i]?=some x∧C6 w F (zs (some i)) d x
def ZF (zs:Option Nat->Option (Nat × Nat)) (b o:Nat):Prop:=∃ i lo,zs i=some (b,lo)∧lo<=o
structure SP (zs:Option Nat->Option (Nat × Nat)) (w w':World):Prop where
 os:w'.os=w.os
 tape:w'.tape=w.tape
 output:w'.output=w.output
 size:w.heap.size<=w'.heap.size
 block:∀ k,k<w.heap.size->(∀ i lo,zs i≠some (k,lo))->w'.heap[k]?=w.heap[k]?
 cell:∀ b o u,¬ ZF zs b o->w.cell? ⟨b,o,none⟩=some u->w'.cell? ⟨b,o,none⟩=some u
def Vk (w:World) (F:Nat->Nat->Prop):QQ->Value->Prop
 | [t],v=>A7 w F t v
 | us,v=>∃ vs,v=.tuple vs∧AS w F us vs.toList
def rZ (P:Program) (f:FuncId) (args us:QQ):Prop:=
 TV.WFs args->(TV.flats us=true∧TV.WFs us)∧∀ (w:World) (vs:Array Value),AS w (fun _ _=>False) args vs.toList->∃ r:Array Value,(callFunc f vs).run P w=.ok (.value (.tuple r)) w∧AS w (fun _ _=>False) us r.toList
def rX (P:Program) (f:FuncId) (args:QQ) (cs cs':List At) (i:Nat) (us:QQ):Prop:=
 TV.WFs args->(∀ c∈cs,c.t.WF)->GY P f=true∧∀ (F0:Nat->Nat->Prop) (w:World) (vs:Array Value) (v:Value) (zs:Option Nat->Option (Nat × Nat)),
  AS w (fun b o=>F0 b o∨ZF zs b o) args vs.toList->vs[i]?=some v->Oj w (fun b o=>F0 b o∨ZF zs b o) zs cs v ->
  (∀ i i' b lo lo',zs i=some (b,lo)->zs i'=some (b,lo')->i=i')->(∀ i b lo,zs i=some (b,lo)->b<w.heap.size)->(∀ b o o',ZF zs b o->¬ F0 b o') ->
  ((∀ c∈cs',c.t.WF)∧TV.WFs us)∧Calls P f vs w fun e w'=>∃ r zs',e=.returned r∧SP zs w w'∧Oj w' (fun b o=>(b<w.heap.size∧F0 b o)∨ZF zs' b o) zs' cs' v ∧
   (∀ i i' b lo lo',zs' i=some (b,lo)->zs' i'=some (b,lo')->i=i')∧(∀ i b lo,zs' i=some (b,lo)->b<w'.heap.size∧(w.heap.size<=b∨∃ j lo',zs j=some (b,lo')∧lo'<=lo)) ∧
   Vk w' (fun b o=>(b<w.heap.size∧F0 b o)∨ZF zs' b o) us r
def AU (P:Program) (f:FuncId) (args:QQ) (r:CS):Prop:=
 match r with
 | .turn zs=>ra P f args zs
 | .cut zs=>rY P f args zs
 | .bo cs cs' i us=>rX P f args cs cs' i us
 | .ext us=>rZ P f args us
 | r=>Vv P f args r
variable {f:FuncId} {r:CS}
theorem AU.to0 {P:Program} {args:QQ} (h:AU P f args r) (b:r.plain=true):Vv P f args r:=by
 cases r <;> first | exact h | cases b
theorem AU.of0 {P:Program} {args:QQ} (h:Vv P f args r) (b:r.plain=true):AU P f args r:=by
 cases r <;> first | exact h | cases b
section
variable {P:Program} {F0:Nat->Nat->Prop} {w0:W0} {O:AD} {a:Act} {w:World} {G:DT} {d:Nat} {o:Oper} {K:EV->AD->Prop}
variable {r:CS}
theorem AY.called (h:AY F0 w0 O a w G) (C:d<a.tmps.size) {w':World} (D:Below w.heap.size w w') {v:Value} (A:Ju w' (fun b o=>b<w.heap.size∧A2 w0.heap.size F0 G b o) w.heap.size r v) (E:r.WF) :
  DJ F0 w0 ((d,r.ev)::O) (a.put (some d) v) w':=by
 have old:∀ (L:Option Nat->Option (Nat × Nat)) b o,A2 w0.heap.size F0 (G0 G d L) b o->(b<w.heap.size∧A2 w0.heap.size F0 G b o)∨∃ i lo,L i=some (b,lo)∧lo<=o:=by
  intro L b o l;rcases l with g | ⟨s,i,lo,g,q⟩
  ·exact .inl ⟨Nat.lt_of_lt_of_le g.1 h.below.size,.inl g⟩
  ·by_cases W:s=d
   ·subst W; rw [CD] at g; exact .inr ⟨i,lo,g,q⟩
   ·rw [B2 _ _ _ _ W] at g;exact .inl ⟨(h.lt _ _ _ _ g).1,.inr ⟨s,i,lo,g,q⟩⟩
 cases r with
 | sh t=>
  refine h.tv D d C t v (DH (fun b o u k l=>⟨k,fun e=>?_⟩) t v A) E;rcases old _ _ _ e with g | ⟨i,lo,g,_⟩
  ·exact l g
  ·cases g
 | own t=>
  obtain ⟨z,g,q⟩:=A;refine h.ow D d C t v z q (g.kept (fun b o u k l=>⟨k,fun e=>l ?_⟩) (fun _ _ _=>rfl)) E;rcases old _ _ _ e with p | ⟨i,lo,p,I⟩
  ·exact .inl p
  ·split at p
   ·exact .inr ⟨lo,p,I⟩
   ·cases p
 | tp Z=>
  obtain ⟨vs,g,q⟩:=A;refine ⟨_,h.quiet D d C (.tp Z) v (fun _=>none) (by simp) (by simp) (by simp) ?_ E⟩;simp only [AX];refine ⟨vs,g,BS (fun b o u k l=>⟨k,fun e=>?_⟩) _ _ q⟩;rcases old _ _ _ e with p | ⟨i,lo,p,_⟩
  ·exact l p
  ·cases p
 | xown n es=>
  obtain ⟨z,xs,g,q,p,I,X⟩:=A;refine h.ow D d C (.list n es) v z X ?_ E;simp only [C3];refine ⟨xs,g,BS (fun b o u k l=>⟨k,fun e=>l ?_⟩) _ _ q,p,I⟩;rcases old _ _ _ e with m | ⟨i,lo,m,Y⟩
  ·exact .inl m
  ·split at m
   ·exact .inr ⟨lo,m⟩
   ·cases m
 | oag cs=>
  obtain ⟨vs,zs,rfl,g,q,p,I⟩:=A;have B:AS w' (fun b o=>b<w.heap.size∧A2 w0.heap.size F0 G b o) (cs.map (·.t)) vs.toList∧∀ x∈vs.toList,x.oneCell'=true:=by
   refine ⟨?_,?_⟩
   ·rw [CP];refine ⟨by simp [g],fun i t x F H=>?_⟩;rw [List.getElem?_map] at F;simp only [Option.map_eq_some_iff] at F;obtain ⟨c,k,rfl⟩:=F;obtain ⟨y,T,J,_⟩:=q i c k;rw [Array.getElem?_toList,T] at H;simp only [zzY] at H;subst H;obtain ⟨_ | _,t⟩:=c
    ·exact DH (fun b o u k l=>⟨k,fun e=>l (.inl e)⟩) _ _ J.1
    ·refine DH (fun b o u k l=>⟨k,fun e=>l (.inl e)⟩) _ _ (JE.rep J (fun b lo o M ho=>?_));rintro (m | ⟨j,V,m,Y⟩)
     ·have:=(I i b lo M).1; omega
     ·have N:=p i j b lo V M m;subst N;rw [M] at m;simp only [zzY,Prod.mk.injEq,true_and] at m;omega
   ·intro x H;obtain ⟨i,hi⟩:=List.getElem?_of_mem H;have R:i<cs.length:=by
     have:=(List.getElem?_eq_some_iff.1 hi).1;simpa [g] using this
    obtain ⟨y,T,_,U⟩:=q i _ (List.getElem?_eq_getElem R);rw [Array.getElem?_toList,T] at hi;simp only [zzY] at hi;subst hi;exact U
  refine h.tv D d C (.agg (cs.map (·.t))) _ ?_ (by
   simp only [TV.WF];rw [CW];intro t F;obtain ⟨c,k,rfl⟩:=List.mem_map.1 F;exact E c k)
  simp only [A7];refine ⟨vs,rfl,BS (fun b o u k l=>⟨k,fun e=>l ?_⟩) _ _ B.1,List.all_eq_true.2 B.2⟩;rcases old _ _ _ e with m | ⟨i,lo,m,_⟩
  ·exact m
  ·cases m
 | turn zs=>exact A.elim
 | cut zs=>exact A.elim
 | bo _ _ _ _=>exact A.elim
 | ext _=>exact A.elim
variable {f:FuncId}
theorem I4 (b:GY P f=true) (vs:Array Value):(callFunc f vs).run P w=.ok (.enter f vs) w:=by
 unfold GY at b;cases c:P.funcs[f]? with
 | none=>rw [c] at b; cases b
 | some h=>
  rw [c] at b;simp only [zzZ,bne_iff_ne,ne_eq] at b;have g:¬ h.body=none:=by
   intro e; rw [e] at b; simp at b
  simp [callFunc,c,b.1,g]
variable {Q:Exit->Act->World->Prop}
theorem X6 (n:AY F0 w0 O a w G) (p:d<a.tmps.size) (b:o.dst=some d) {vs:Array Value} {h:QQ} (c:(execOp a.eval o).run P w=(callFunc f vs).run P w) (l:AU P f h r∧r.plain=true) (i:TV.WFs h) (g:AS w (A2 w0.heap.size F0 G) h vs.toList) (q:r.WF->K r.ev O)
  {next:Act->World->Prop} (s:∀ e env' j w',K e env'->Q1 a d j->DJ F0 w0 ((d,e)::env') j w'->next j w'):o.wp P a w next Q:=by
 obtain ⟨t,k⟩:=l.1.to0 l.2 i;obtain ⟨m,k⟩:=k _ w vs g;unfold Oper.wp;rw [c,I4 t vs,Oper.upon_enter];refine k.mono ?_;rintro e w' ⟨v,rfl,u,y⟩;simp only [b];exact s _ _ _ _ (q m) ⟨_,rfl⟩ (n.called p u y m)
variable {ys:List AL} {ats:Array TypeId}
theorem bU (k:AY F0 w0 O a w G) (l:d<a.tmps.size) (c:o.dst=some d) {xs:Array Operand} (g:o.op=.call { callee:=.value (.func f),args:=xs,argTypes:=ats }) (i:DL xs.toList ys=true) (h:(AJ.call f ys).wp (AU P) O (some d) K)
  {next:Act->World->Prop} (m:∀ e env' j w',K e env'->Q1 a d j->DJ F0 w0 ((d,e)::env') j w'->next j w'):o.wp P a w next Q:=by
 simp only [AJ.wp] at h;cases b:vals O ys with
 | none=>rw [b] at h; exact h.elim
 | some q=>
  rw [b] at h;simp only [BB] at h;obtain ⟨r,n,p⟩:=h;have:=KH k i b;refine X6 k l c (vs:=xs.map a.eval) ?_ n this.2 (by simpa using this.1) p m;simp [execOp,g,resolve,Act.eval,Deferred.ofValue,invoke]
variable {x:Operand}
theorem Zp (c:AY F0 w0 O a w G) (p:d<a.tmps.size) (b:o.dst=some d) {y:AL} {xs:Array Operand} (g:o.op=.call { callee:=.value x,args:=xs,argTypes:=ats }) (q:AR x y=true) (i:DL xs.toList ys=true) (h:(AJ.callv y ys).wp (AU P) O (some d) K)
  {next:Act->World->Prop} (s:∀ e env' j w',K e env'->Q1 a d j->DJ F0 w0 ((d,e)::env') j w'->next j w'):o.wp P a w next Q:=by
 simp only [AJ.wp] at h;split at h
 ·rename_i f l C t k;obtain ⟨r,u,v⟩:=h;have m:=BU c q t;have n:=KH c i k;simp only [A7,TV.WF] at m;obtain ⟨⟨cs,z,A⟩,B⟩:=m;refine X6 c p b (vs:=xs.map a.eval++cs) ?_ u (Lg.2 ⟨n.2,B⟩) ?_ v s
  ·simp [execOp,g,resolve,z,Deferred.ofValue,invoke]
  ·rw [Array.toList_append];exact Kf (by simpa using n.1) A
 ·exact h.elim
end
end Go.Sf
