/- Taking an own list out of a box; calls. -/
import Derived.Test.YtlbmpkmkmkgniaaGreatDoorSfStore
set_option linter.all false
namespace Go.Sf
open Go.RowKit (Below)
section
variable {P:Program} {S:FuncId->QQ->CS->Prop} {F0:Nat->Nat->Prop} {w0:W0} {O:AD} {a:Act} {w:World} {G:DP} {d:Nat} {o:Oper} {K:EV->AD->Prop}
theorem AZ.takeCell (h:AZ F0 w0 O a w G) {s f:Nat} {cs:List A1} (Q:O.get s=.bx cs) {t:TV} (R:cs[f]?=some ⟨true,t⟩) (hd:d<a.tmps.size) {b:Nat} (U:slot a s=.pointer (some ⟨b,0,none⟩)) {x:Value} (hx:w.cell? ⟨b,f,none⟩=some x) {e:EV} {t':TV} (u:(e=.ow t∧t'=t∧t.isXl=false)∨∃ n es,t=.xl n es∧e=.xo n es∧t'=.undef∧O.noRef d=true) :
  DI F0 w0 ((d,e)::(s,.bx (cs.set f ⟨false,t'⟩))::O) (a.put (some d) x) w:=by
 have C:=A9 h Q (by simp);have Z:=h.wf s;rw [Q] at Z;simp only [AY] at C;obtain ⟨I,c,T,N,L,h3,h4,h5⟩:=C;rw [U] at N;simp only [Value.pointer.injEq,zzY,Addr.mk.injEq,and_true,and_self] at N;subst N;obtain ⟨x',X,j⟩:=h5 f _ R;have E:x'=x:=by
  rw [cell_of_row w b f c T (0,0) L] at hx;rw [X] at hx; simpa using hx
 subst E;simp only [C3] at j
 let F:DP:=fun p i=>if p=d then (if i=none then G s (some f) else none) else if p=s∧i=some f then none else G p i
 have H:∀ p i I lo,F p i=some (I,lo)->(p=d∧i=none∧G s (some f)=some (I,lo))∨(p≠d∧¬ (p=s∧i=some f)∧G p i=some (I,lo)):=by
  intro p i I lo m;simp only [F] at m;split at m
  ·rename_i l;split at m
   ·rename_i hi; exact .inl ⟨l,hi,m⟩
   ·cases m
  ·rename_i l;split at m
   ·cases m
   ·rename_i hn; exact .inr ⟨l,hn,m⟩
 have B:DW w w (A3 w0.heap.size F0 G) (A3 w0.heap.size F0 F):=fun I o v R hF=>⟨R,fun hF'=>hF (A3.mono (fun p i b'' lo m=>by
  rcases H _ _ _ _ m with ⟨_,_,e⟩ | ⟨_,_,e⟩
  ·exact ⟨_,_,lo,e,d3 _⟩
  ·exact ⟨_,_,lo,e,d3 _⟩) hF')⟩
 refine ⟨F,?_,?_,h.below,by rw [LS]; exact h.defers,?_,?_,?_⟩
 ·intro p i p' i' I lo lo' J e2;rcases H _ _ _ _ J with ⟨rfl,rfl,f1⟩ | ⟨n1,n2,f1⟩ <;> rcases H _ _ _ _ e2 with ⟨rfl,rfl,f2⟩ | ⟨m1,m2,f2⟩
  ·exact ⟨rfl,rfl⟩
  ·exact absurd ((h.uniq _ _ _ _ _ _ _ f1 f2).imp Eq.symm Eq.symm) m2
  ·exact absurd (h.uniq _ _ _ _ _ _ _ f1 f2) n2
  ·exact h.uniq _ _ _ _ _ _ _ f1 f2
 ·intro p i I lo J;rcases H _ _ _ _ J with ⟨_,_,J⟩ | ⟨_,_,J⟩ <;> exact h.lt _ _ _ _ J
 ·intro p m;rw [FW] at m;have hsz:s<a.tmps.size:=G7 h Q (by simp);rw [AD.get_cons,d2 (by omega),AD.get_cons,d2 (by omega)];exact h.dom p m
 ·intro p m;rw [FW] at m;rw [AD.get_cons];by_cases l:d=p
  ·subst l;rw [d1 rfl,Ia _ _ _ hd];rcases u with ⟨rfl,rfl,Y⟩ | ⟨n,es,rfl,rfl,rfl,_⟩
   ·simp only [AY,F,if_true];exact (j.own Y).kept B (fun _ _ _=>rfl)
   ·have:=j.kept B (fun _ _ _=>rfl);simp only [JI] at this;simp only [AY,F,if_true];exact this
  ·rw [d2 l,BJ _ _ _ _ l,AD.get_cons];by_cases M:s=p
   ·subst M;rw [d1 rfl];have V:¬ s=d:=fun e=>l e.symm;simp only [AY];refine ⟨b,c,T,U,L,by simpa using h3,by simp only [F]; rw [d2 V,d2 (by simp)]; exact h4,fun i y A=>?_⟩;rw [List.getElem?_set] at A;by_cases hi:f=i
    ·subst hi;rw [d1 rfl] at A;split at A
     ·simp only [zzY] at A;subst A;refine ⟨x',X,?_,TH j⟩;rcases u with ⟨rfl,rfl,Y⟩ | ⟨n,es,rfl,rfl,rfl,_⟩
      ·exact DG B _ _ (JI.rep j (fun b lo o hz ho=>O5 h b lo o hz ho))
      ·exact TH j
     ·cases A
    ·rw [d2 hi] at A;obtain ⟨v,J,e2⟩:=h5 i y A;refine ⟨v,J,?_⟩;simp only [F];rw [d2 V,d2 (by rintro ⟨_,e⟩; exact hi (by simpa using e.symm))];exact e2.kept B (fun _ _ _=>rfl)
   ·rw [d2 M];refine AY.kept B (fun i=>by simp only [F]; rw [d2 (fun e=>l e.symm),d2 (fun e=>M e.1.symm)]) (fun _ _ _ _=>rfl) (fun r off' C ⟨cs',g⟩=>?_) (fun r i C ⟨pp,z⟩=>?_) (h.slots p m)
    ·rw [AD.get_cons] at g;by_cases q:d=r
     ·rw [d1 q] at g;rcases u with ⟨rfl,_⟩ | ⟨n,es,_,rfl,_⟩ <;> cases g
     ·rw [d2 q,AD.get_cons] at g;refine ⟨?_,BJ _ _ _ _ q⟩;split at g
      ·rename_i D; subst D; exact ⟨cs,Q⟩
      ·exact ⟨_,g⟩
    ·by_cases q:d=r
     ·subst q;rcases u with ⟨rfl,_⟩ | ⟨n,es,_,rfl,_,hno⟩
      ·exact absurd rfl (AD.xat_drop (by simp) (by simp) z).1
      ·have E:=AD.noRef_x d O hno p;rcases C with C | ⟨c,C⟩
       ·exact absurd C (E.1 i)
       ·exact absurd C (E.2 i c)
     ·rw [AD.xat_cons q] at z;have W:∃ p,O.xat r i=some p:=by
       by_cases D:s=r
       ·subst D;obtain ⟨n,es⟩:=pp;cases i with
        | none=>have:=AD.xat_none z; rw [AD.get_cons,d1 rfl] at this; cases this
        | some k=>
         obtain ⟨cs'',N,L⟩:=AD.xat_some z;rw [AD.get_cons,d1 rfl] at N;simp only [EV.bx.injEq] at N;subst N;rw [List.getElem?_set] at L;split at L
         ·split at L <;> simp at L
         ·exact ⟨(n,es),by simp only [AD.xat,Q,L]⟩
       ·rw [AD.xat_cons D] at z; exact ⟨pp,z⟩
      exact ⟨W,h.xv W (BJ _ _ _ _ q) (fun _ _=>rfl)⟩
 ·intro p;rw [AD.get_cons];split
  ·have:=Z _ (List.mem_of_getElem? R);rcases u with ⟨rfl,_⟩ | ⟨n,es,rfl,rfl,_⟩
   ·exact this
   ·exact this
  ·rw [AD.get_cons];split
   ·intro y A;rcases List.mem_or_eq_of_mem_set A with A | rfl
    ·exact Z y A
    ·rcases u with ⟨_,rfl,_⟩ | ⟨n,es,_,_,rfl,_⟩
     ·exact (Z ⟨true,_⟩ (List.mem_of_getElem? R):_)
     ·trivial
   ·exact h.wf p
theorem de (j:AZ F0 w0 O a w G) (r:d<a.tmps.size) {x:Operand} {x':AL} {t:TypeId} (k:o.op=.load t x) (u:AP x x'=true) (v:DR P t=some false) (h:(AJ.ldt x').wp S O (some d) K):B2 P F0 w0 a w o d K:=by
 simp only [AJ.wp] at h;split at h
 ·rename_i s f z;split at h
  ·rename_i cs l;split at h
   ·rename_i n es p;obtain ⟨b,g,i⟩:=KV j u z l;have q:=A9 j l (by simp);simp only [AY] at q;obtain ⟨D,c,T,m,A,E,F,B⟩:=q;rw [g] at m;simp only [Value.pointer.injEq,zzY,Addr.mk.injEq,and_true,and_self] at m;subst m;obtain ⟨y,C,_⟩:=B f _ p;have e:w.cell? ⟨b,f,none⟩=some y:=by rw [cell_of_row w b f c T (0,0) A]; exact C
    exact ⟨y,w,by simp [execOp,k,i,Instr.loadAt,Instr.sureAddr,loadVar,FQ v,e],_,_,h,j.takeCell l p r g e (.inl ⟨rfl,rfl,rfl⟩)⟩
   ·exact h.elim
  ·exact h.elim
 ·exact h.elim
end
def Jx (w':World) (F:Nat->Nat->Prop) (base:Nat):CS->Value->Prop
 | .sh t,v=>A7 w' F t v
 | .own t,v=>∃ z,C1 w' (fun b o=>F b o∨∃ lo,z=some (b,lo)∧lo<=o) z t v∧∀ b lo,z=some (b,lo)->base<=b∧b<w'.heap.size
 | .tp ts,v=>∃ vs,v=.tuple vs∧AS w' F ts vs.toList
 | .xown n es,v=>∃ z xs,IB w' n v es.length xs z∧AS w' (fun b o=>F b o∨∃ lo,z=some (b,lo)) (es.flatMap TV.cells) xs∧(∀ e∈es,e.cells.length=n)∧(∀ x∈xs,x.oneCell'=true)∧∀ b lo,z=some (b,lo)->base<=b∧b<w'.heap.size
 | .oag cs,v=>∃ (vs:Array Value) (zs:Nat->Option (Nat × Nat)),v=.agg vs∧vs.size=cs.length∧(∀ (i:Nat) (d:A1),cs[i]?=some d->∃ x,vs[i]?=some x∧C3 w' (fun b o=>F b o∨∃ j lo,zs j=some (b,lo)∧lo<=o) (zs i) d x∧x.oneCell'=true)∧(∀ i j b lo lo',zs i=some (b,lo)->zs j=some (b,lo')->i=j)∧∀ i b lo,zs i=some (b,lo)->base<=b∧b<w'.heap.size
 | _,_=>False
def GV (P:Program) (f:FuncId):Bool:=
 match P.funcs[f]? with
 | some fn => fn.name != "runtime.NumGoroutine" && fn.body.isSome
 | none=>false
def V7 (P:Program) (f:FuncId) (args:QQ) (r:CS):Prop:=
 TV.WFs args->GV P f=true∧∀ (F0:Nat->Nat->Prop) (w:World) (vs:Array Value),AS w F0 args vs.toList ->
  r.WF∧Calls P f vs w fun e w'=>∃ v,e=.returned v∧Below w.heap.size w w'∧Jx w' (fun b o=>b<w.heap.size∧F0 b o) w.heap.size r v
def P0 (z:Option (Nat × Nat)) (w w':World):Prop:=
 w'.os=w.os∧w'.tape=w.tape∧w'.output=w.output∧w.heap.size<=w'.heap.size∧∀ k,k<w.heap.size->(∀ lo,z≠some (k,lo))->w'.heap[k]?=w.heap[k]?
def rg (P:Program) (f:FuncId) (args:QQ) (zs':Ne):Prop:=
 ∃ zs:Ne,args=[.list 1 (zs.map (TV.int .i64))]∧GV P f=true∧zs'.length=zs.length∧((TV.list 1 (zs.map (TV.int .i64))).WF->(TV.list 1 (zs'.map (TV.int .i64))).WF) ∧
  ∀ (w:World) (v:Value) (z:Option (Nat × Nat)),K5 w 1 v zs.length (zs.map (Value.int .i64)) z ->
   Calls P f #[v] w fun e w'=>e=.returned (.tuple #[])∧K5 w' 1 v zs.length (zs'.map (Value.int .i64)) z∧P0 z w w'
def re (P:Program) (f:FuncId) (args:QQ) (zs':Ne):Prop:=
 ∃ zs:Ne,args=[.list 1 (zs.map (TV.int .i64))]∧GV P f=true∧((TV.list 1 (zs.map (TV.int .i64))).WF->(TV.list 1 (zs'.map (TV.int .i64))).WF) ∧
  ∀ (w:World) (v:Value) (z:Option (Nat × Nat)),K5 w 1 v zs.length (zs.map (Value.int .i64)) z ->
   Calls P f #[v] w fun e w'=>∃ v',e=.returned v'∧K5 w' 1 v' zs'.length (zs'.map (Value.int .i64)) z∧P0 z w w'
def Om (w:World) (F:Nat->Nat->Prop) (zs:Option Nat->Option (Nat × Nat)) (cs:List A1) (v:Value):Prop:=
 ∃ b c T,v=.pointer (some ⟨b,0,none⟩)∧w.heap[b]?=some (.cells c T (0,0))∧c.size=cs.length∧zs none=some (b,0)∧∀ (i:Nat) (d:A1),cs[i]?=some d->∃ x,c[i]?=some x∧C3 w F (zs (some i)) d x
def ZF (zs:Option Nat->Option (Nat × Nat)) (b o:Nat):Prop:=∃ i lo,zs i=some (b,lo)∧lo<=o
structure R1 (zs:Option Nat->Option (Nat × Nat)) (w w':World):Prop where
 os:w'.os=w.os
 tape:w'.tape=w.tape
 output:w'.output=w.output
 size:w.heap.size<=w'.heap.size
 block:∀ k,k<w.heap.size->(∀ i lo,zs i≠some (k,lo))->w'.heap[k]?=w.heap[k]?
 cell:∀ b o u,¬ ZF zs b o->w.cell? ⟨b,o,none⟩=some u->w'.cell? ⟨b,o,none⟩=some u
def Vw (w:World) (F:Nat->Nat->Prop):QQ->Value->Prop
 | [t],v=>A7 w F t v
 | us,v=>∃ vs,v=.tuple vs∧AS w F us vs.toList
def rf (P:Program) (f:FuncId) (args us:QQ):Prop:=
 TV.WFs args->(TV.flats us=true∧TV.WFs us)∧∀ (w:World) (vs:Array Value),AS w (fun _ _=>False) args vs.toList->∃ r:Array Value,(callFunc f vs).run P w=.ok (.value (.tuple r)) w∧AS w (fun _ _=>False) us r.toList
def rd (P:Program) (f:FuncId) (args:QQ) (cs cs':List A1) (i:Nat) (us:QQ):Prop:=
 TV.WFs args->(∀ c∈cs,c.t.WF)->GV P f=true∧∀ (F0:Nat->Nat->Prop) (w:World) (vs:Array Value) (v:Value) (zs:Option Nat->Option (Nat × Nat)),
  AS w (fun b o=>F0 b o∨ZF zs b o) args vs.toList->vs[i]?=some v->Om w (fun b o=>F0 b o∨ZF zs b o) zs cs v ->
  (∀ i i' b lo lo',zs i=some (b,lo)->zs i'=some (b,lo')->i=i')->(∀ i b lo,zs i=some (b,lo)->b<w.heap.size)->(∀ b o o',ZF zs b o->¬ F0 b o') ->
  ((∀ c∈cs',c.t.WF)∧TV.WFs us)∧Calls P f vs w fun e w'=>∃ r zs',e=.returned r∧R1 zs w w'∧Om w' (fun b o=>(b<w.heap.size∧F0 b o)∨ZF zs' b o) zs' cs' v ∧
   (∀ i i' b lo lo',zs' i=some (b,lo)->zs' i'=some (b,lo')->i=i')∧(∀ i b lo,zs' i=some (b,lo)->b<w'.heap.size∧(w.heap.size<=b∨∃ j lo',zs j=some (b,lo')∧lo'<=lo)) ∧
   Vw w' (fun b o=>(b<w.heap.size∧F0 b o)∨ZF zs' b o) us r
def AT (P:Program) (f:FuncId) (args:QQ) (r:CS):Prop:=
 match r with
 | .turn zs=>rg P f args zs
 | .cut zs=>re P f args zs
 | .bo cs cs' i us=>rd P f args cs cs' i us
 | .ext us=>rf P f args us
 | r=>V7 P f args r
theorem AT.to0 {P:Program} {f:FuncId} {args:QQ} {r:CS} (h:AT P f args r) (b:r.plain=true):V7 P f args r:=by
 cases r <;> first | exact h | cases b
theorem AT.of0 {P:Program} {f:FuncId} {args:QQ} {r:CS} (h:V7 P f args r) (b:r.plain=true):AT P f args r:=by
 cases r <;> first | exact h | cases b
section
variable {P:Program} {F0:Nat->Nat->Prop} {w0:W0} {O:AD} {a:Act} {w:World} {G:DP} {d:Nat} {o:Oper} {K:EV->AD->Prop}
theorem AZ.called (h:AZ F0 w0 O a w G) (B:d<a.tmps.size) {w':World} (C:Below w.heap.size w w') {r:CS} {v:Value} (q:Jx w' (fun b o=>b<w.heap.size∧A3 w0.heap.size F0 G b o) w.heap.size r v) (D:r.WF) :
  DI F0 w0 ((d,r.ev)::O) (a.put (some d) v) w':=by
 have old:∀ (J:Option Nat->Option (Nat × Nat)) b o,A3 w0.heap.size F0 (GX G d J) b o->(b<w.heap.size∧A3 w0.heap.size F0 G b o)∨∃ i lo,J i=some (b,lo)∧lo<=o:=by
  intro J b o k;rcases k with f | ⟨s,i,lo,f,p⟩
  ·exact .inl ⟨Nat.lt_of_lt_of_le f.1 h.below.size,.inl f⟩
  ·by_cases U:s=d
   ·subst U; rw [CB] at f; exact .inr ⟨i,lo,f,p⟩
   ·rw [B1 _ _ _ _ U] at f;exact .inl ⟨(h.lt _ _ _ _ f).1,.inr ⟨s,i,lo,f,p⟩⟩
 cases r with
 | sh t=>
  refine h.tv C d B t v (DG (fun b o u g k=>⟨g,fun e=>?_⟩) t v q) D;rcases old _ _ _ e with f | ⟨i,lo,f,_⟩
  ·exact k f
  ·cases f
 | own t=>
  obtain ⟨z,f,p⟩:=q;refine h.ow C d B t v z p (f.kept (fun b o u g k=>⟨g,fun e=>k ?_⟩) (fun _ _ _=>rfl)) D;rcases old _ _ _ e with m | ⟨i,lo,m,H⟩
  ·exact .inl m
  ·split at m
   ·exact .inr ⟨lo,m,H⟩
   ·cases m
 | tp X=>
  obtain ⟨vs,f,p⟩:=q;refine ⟨_,h.quiet C d B (.tp X) v (fun _=>none) (by simp) (by simp) (by simp) ?_ D⟩;simp only [AY];refine ⟨vs,f,BP (fun b o u g k=>⟨g,fun e=>?_⟩) _ _ p⟩;rcases old _ _ _ e with m | ⟨i,lo,m,_⟩
  ·exact k m
  ·cases m
 | xown n es=>
  obtain ⟨z,xs,f,p,m,H,V⟩:=q;refine h.ow C d B (.list n es) v z V ?_ D;simp only [C1];refine ⟨xs,f,BP (fun b o u g k=>⟨g,fun e=>k ?_⟩) _ _ p,m,H⟩;rcases old _ _ _ e with l | ⟨i,lo,l,W⟩
  ·exact .inl l
  ·split at l
   ·exact .inr ⟨lo,l⟩
   ·cases l
 | oag cs=>
  obtain ⟨vs,zs,rfl,f,p,m,H⟩:=q;have A:AS w' (fun b o=>b<w.heap.size∧A3 w0.heap.size F0 G b o) (cs.map (·.t)) vs.toList∧∀ x∈vs.toList,x.oneCell'=true:=by
   refine ⟨?_,?_⟩
   ·rw [CP];refine ⟨by simp [f],fun i t x E F=>?_⟩;rw [List.getElem?_map] at E;simp only [Option.map_eq_some_iff] at E;obtain ⟨c,g,rfl⟩:=E;obtain ⟨y,Q,I,_⟩:=p i c g;rw [Array.getElem?_toList,Q] at F;simp only [zzY] at F;subst F;obtain ⟨_ | _,t⟩:=c
    ·exact DG (fun b o u g k=>⟨g,fun e=>k (.inl e)⟩) _ _ I.1
    ·refine DG (fun b o u g k=>⟨g,fun e=>k (.inl e)⟩) _ _ (JI.rep I (fun b lo o L ho=>?_));rintro (l | ⟨j,T,l,W⟩)
     ·have:=(H i b lo L).1; omega
     ·have M:=m i j b lo T L l;subst M;rw [L] at l;simp only [zzY,Prod.mk.injEq,true_and] at l;omega
   ·intro x F;obtain ⟨i,hi⟩:=List.getElem?_of_mem F;have N:i<cs.length:=by
     have:=(List.getElem?_eq_some_iff.1 hi).1;simpa [f] using this
    obtain ⟨y,Q,_,R⟩:=p i _ (List.getElem?_eq_getElem N);rw [Array.getElem?_toList,Q] at hi;simp only [zzY] at hi;subst hi;exact R
  refine h.tv C d B (.agg (cs.map (·.t))) _ ?_ (by
   simp only [TV.WF];rw [CU];intro t E;obtain ⟨c,g,rfl⟩:=List.mem_map.1 E;exact D c g)
  simp only [A7];refine ⟨vs,rfl,BP (fun b o u g k=>⟨g,fun e=>k ?_⟩) _ _ A.1,List.all_eq_true.2 A.2⟩;rcases old _ _ _ e with l | ⟨i,lo,l,_⟩
  ·exact l
  ·cases l
 | turn zs=>exact q.elim
 | cut zs=>exact q.elim
 | bo _ _ _ _=>exact q.elim
 | ext _=>exact q.elim
theorem I7 {f:FuncId} (b:GV P f=true) (vs:Array Value):(callFunc f vs).run P w=.ok (.enter f vs) w:=by
 unfold GV at b;cases c:P.funcs[f]? with
 | none=>rw [c] at b; cases b
 | some h=>
  rw [c] at b;simp only [zzZ,bne_iff_ne,ne_eq] at b;have g:¬ h.body=none:=by
   intro e; rw [e] at b; simp at b
  simp [callFunc,c,b.1,g]
theorem X7 (n:AZ F0 w0 O a w G) (p:d<a.tmps.size) (b:o.dst=some d) {f:FuncId} {vs:Array Value} {h:QQ} {r:CS} (c:(execOp a.eval o).run P w=(callFunc f vs).run P w) (l:AT P f h r∧r.plain=true) (i:TV.WFs h) (g:AS w (A3 w0.heap.size F0 G) h vs.toList) (q:r.WF->K r.ev O)
  {next:Act->World->Prop} {Q:Exit->Act->World->Prop} (s:∀ e env' j w',K e env'->Q6 a d j->DI F0 w0 ((d,e)::env') j w'->next j w'):o.wp P a w next Q:=by
 obtain ⟨t,k⟩:=l.1.to0 l.2 i;obtain ⟨m,k⟩:=k _ w vs g;unfold Oper.wp;rw [c,I7 t vs,Oper.upon_enter];refine k.mono ?_;rintro e w' ⟨v,rfl,u,x⟩;simp only [b];exact s _ _ _ _ (q m) ⟨_,rfl⟩ (n.called p u x m)
theorem bY (m:AZ F0 w0 O a w G) (n:d<a.tmps.size) (c:o.dst=some d) {f:FuncId} {xs:Array Operand} {g:List AL} {i:Array TypeId} (j:o.op=.call { callee:=.value (.func f),args:=xs,argTypes:=i }) (k:DK xs.toList g=true) (h:(AJ.call f g).wp (AT P) O (some d) K)
  {next:Act->World->Prop} {Q:Exit->Act->World->Prop} (p:∀ e env' l w',K e env'->Q6 a d l->DI F0 w0 ((d,e)::env') l w'->next l w'):o.wp P a w next Q:=by
 simp only [AJ.wp] at h;cases b:vals O g with
 | none=>rw [b] at h; exact h.elim
 | some t=>
  rw [b] at h;simp only [BA] at h;obtain ⟨r,q,s⟩:=h;have:=KJ m k b;refine X7 m n c (vs:=xs.map a.eval) ?_ q this.2 (by simpa using this.1) s p;simp [execOp,j,resolve,Act.eval,Deferred.ofValue,invoke]
theorem Zu (c:AZ F0 w0 O a w G) (s:d<a.tmps.size) (b:o.dst=some d) {x:Operand} {y:AL} {xs:Array Operand} {m:List AL} {g:Array TypeId} (i:o.op=.call { callee:=.value x,args:=xs,argTypes:=g }) (t:AP x y=true) (j:DK xs.toList m=true) (h:(AJ.callv y m).wp (AT P) O (some d) K)
  {next:Act->World->Prop} {Q:Exit->Act->World->Prop} (u:∀ e env' k w',K e env'->Q6 a d k->DI F0 w0 ((d,e)::env') k w'->next k w'):o.wp P a w next Q:=by
 simp only [AJ.wp] at h;split at h
 ·rename_i f n E v l;obtain ⟨r,z,A⟩:=h;have p:=BR c t v;have q:=KJ c j l;simp only [A7,TV.WF] at p;obtain ⟨⟨cs,B,C⟩,D⟩:=p;refine X7 c s b (vs:=xs.map a.eval++cs) ?_ z (Lf.2 ⟨q.2,D⟩) ?_ A u
  ·simp [execOp,i,resolve,B,Deferred.ofValue,invoke]
  ·rw [Array.toList_append];exact Kg (by simpa using q.1) C
 ·exact h.elim
end
end Go.Sf
