/- Boxes: variables in memory that a function has by itself. -/
import Derived.Test.YtlbmpkmkmkgniaaGreatDoorSfApp
set_option linter.all false
namespace Go.Sf
open Go.RowKit (Below)
def aM:TV->Bool
 | .list _ es=>es.isEmpty
 | .xl _ es=>es.isEmpty
 | _=>false
def R9 (c:At) (v:Value):Bool:=if c.own then aM c.t&&Lv v else FT c.t v&&v.oneCell'
def Nc:List At->List Value->Bool
 | [],vs=>vs.isEmpty
 | c::cs,vs=>match vs with | v::vs=>R9 c v&&Nc cs vs | []=>false
section
variable {w:World} {F:Nat->Nat->Prop}
theorem Sp {c:At} {v:Value} (h:R9 c v=true):C6 w F none c v∧c.t.WF:=by
 obtain ⟨_ | _,t⟩:=c
 ·simp only [R9,Bool.false_eq_true,if_false,zzZ] at h;have b:=Ik w F t v h.1;exact ⟨⟨b.1,h.2⟩,b.2⟩
 ·simp only [R9,if_true,zzZ] at h;cases t <;> simp only [aM,Bool.false_eq_true,false_and] at h
  ·rename_i n es;rw [List.isEmpty_iff] at h;obtain ⟨rfl,h⟩:=h;refine ⟨?_,by simp,trivial⟩;simp only [C6,JE,C3];exact ⟨[],⟨by simp,.inl ⟨LD h,rfl,rfl⟩⟩,rfl,by simp,by simp⟩
  ·rename_i n es;rw [List.isEmpty_iff] at h;obtain ⟨rfl,h⟩:=h;refine ⟨?_,by simp,trivial⟩;simp only [C6,JE];exact ⟨[],⟨none,⟨by simp,.inl ⟨LD h,rfl,rfl⟩⟩,rfl⟩,rfl,by simp,by simp⟩
theorem M1:∀ {cs:List At} {vs:List Value},Nc cs vs=true->vs.length=cs.length∧(∀ (i:Nat) (c:At),cs[i]?=some c->∃ x,vs[i]?=some x∧C6 w F none c x)∧∀ c∈cs,c.t.WF
 | [],vs,h=>by simp [Nc] at h; subst h; simp
 | c::cs,[],h=>by simp [Nc] at h
 | c::cs,v::vs,h=>by
  simp only [Nc,zzZ] at h;obtain ⟨f,g,j⟩:=M1 (cs:=cs) (vs:=vs) h.2;have e:=Sp (w:=w) (F:=F) h.1;refine ⟨by simp [f],fun i c' b=>?_,fun c' b=>?_⟩
  ·cases i with
   | zero=>simp at b; subst b; exact ⟨v,rfl,e.1⟩
   | succ i=>exact g i c' (by simpa using b)
  ·rcases List.mem_cons.1 b with rfl | b
   ·exact e.2
   ·exact j c' b
end
def SL (O:AD):Option Nat->AD
 | some q=>Go.Sf.strip O q
 | none=>O
theorem Qu (O:AD) (q:Option Nat) (p:Nat):(SL O q).get p=.undef∨((SL O q).get p=O.get p∧some p≠q):=by
 cases q with
 | none=>exact .inr ⟨rfl,by simp⟩
 | some f=>
  simp only [SL,Go.Sf.strip,AD.get_cons];split
  ·exact .inl rfl
  ·rename_i b;exact .inr ⟨rfl,fun e=>b (by simpa using e.symm)⟩
section
variable {P:Program} {S:FuncId->QQ->CS->Prop} {F0:Nat->Nat->Prop} {w0:W0} {O:AD} {a:Act} {w:World} {G:DT} {d:Nat} {o:Oper} {K:EV->AD->Prop}
variable {c:Array Value} {T:TypeId}
theorem AY.box (h:AY F0 w0 O a w G) (n:d<a.tmps.size) (g:O.noRef d=true) {cs:List At} (p:c.size=cs.length)
  (q:∀ k,D0 w (w.alloc (.cells c T)) (A2 w0.heap.size F0 G) k->∀ (i:Nat) (x:At),cs[i]?=some x->∃ v,c[i]?=some v∧C6 (w.alloc (.cells c T)) k none x v) (r:∀ x∈cs,x.t.WF) :
  DJ F0 w0 ((d,.bx cs)::O) (a.put (some d) (.pointer (some ⟨w.heap.size,0,none⟩))) (w.alloc (.cells c T)):=by
 have l:Below w.heap.size w (w.alloc (.cells c T)):=(Below.refl _ _).alloc (d3 _) _;have m:∀ (i:Option Nat) b lo,(if i=none then some (w.heap.size,0) else none)=some (b,lo)->w.heap.size<=b∧b<(w.alloc (.cells c T)).heap.size:=by
  intro i b lo hi;split at hi
  ·simp only [zzY,Prod.mk.injEq] at hi;rw [←hi.1]; exact ⟨d3 _,by simp⟩
  ·cases hi
 have j:=Lr (F0:=F0) (w0:=w0) (G:=G) l d (fun i=>if i=none then some (w.heap.size,0) else none) (fun i b lo hi=>(m i b lo hi).1);refine ⟨_,h.quiet l d n (.bx cs) _ (fun i=>if i=none then some (w.heap.size,0) else none) m (fun i A b lo u e f=>?_) (fun _=>g) ?_ r⟩
 ·split at e
  ·split at f
   ·simp_all
   ·cases f
  ·cases e
 ·simp only [AX];refine ⟨_,c,T,rfl,heap_alloc_new w _,p,by rw [CD]; simp,fun i x z=>?_⟩;obtain ⟨v,e,f⟩:=q _ j i x z;refine ⟨v,e,?_⟩;rw [CD];simpa using f
variable {x:Operand} {y:AL} {t:TypeId}
theorem bR (p:AY F0 w0 O a w G) (v:d<a.tmps.size) (g:o.op=.box t x) (j:AR x y=true) (h:(AJ.boxo y).wp S O (some d) K):B3 P F0 w0 a w o d K:=by
 simp only [AJ.wp] at h;split at h
 ·rename_i u D hv e;simp only [zzY] at e;subst e;obtain ⟨m,B⟩:=h;have q:=BU p j hv;have l:=JW q.1;have z:=CN l.1;refine ⟨_,_,by simp [execOp,g,Instr.box,newVar,newRow],_,_,B,p.box v m (c:=(a.eval x).cells) (T:=t) (by simpa using z) (fun C k i c b=>?_) (fun c b=>?_)⟩
  ·rw [List.getElem?_map] at b;simp only [Option.map_eq_some_iff] at b;obtain ⟨n,f,rfl⟩:=b;have A:i<u.cells.length:=by
    rcases Nat.lt_or_ge i u.cells.length with h | h
    ·exact h
    ·rw [List.getElem?_eq_none h] at f; cases f
   have r:(a.eval x).cells.toList[i]?=some ((a.eval x).cells.toList[i]'(by omega)):=List.getElem?_eq_getElem (by omega);refine ⟨(a.eval x).cells.toList[i]'(by omega),by rw [←Array.getElem?_toList]; exact r,?_,l.2 _ (List.getElem_mem _)⟩;exact DH k _ _ (((CP _ _).1 l.1).2 i n _ f r)
  ·simp only [List.mem_map] at b;obtain ⟨n,f,rfl⟩:=b;exact CW.1 (KY q.2) n f
 ·exact h.elim
theorem dK (g:AY F0 w0 O a w G) (j:d<a.tmps.size) {i:TypeInfo} {z:Value} {cs:List At} (e:o.op=.alloc t) (hi:P.info? t=some i) (k:i.zero=some z) (b:Nc cs z.cells.toList=true) (h:(AJ.alc cs).wp S O (some d) K):B3 P F0 w0 a w o d K:=by
 simp only [AJ.wp] at h;obtain ⟨f,m⟩:=h;refine ⟨_,_,?_,_,_,m,g.box j f (c:=z.cells) (T:=t) (by have:=(M1 (w:=w) (F:=fun _ _=>False) b).1; simpa using this) (fun q _ i c l=>?_) (M1 (w:=w) (F:=fun _ _=>False) b).2.2⟩
 ·simp [execOp,e,Instr.alloc,zeroValue,typeInfo,hi,k,newVar,newRow]
 ·obtain ⟨x,n,p⟩:=(M1 b).2.1 i c l;exact ⟨x,by simpa using n,p⟩
theorem KT (i:AY F0 w0 O a w G) (f:AR x y=true) {s g:Nat} (e:y.place O=some (s,g)) {cs:List At} (j:O.get s=.bx cs) :
  ∃ b,slot a s=.pointer (some ⟨b,0,none⟩)∧a.eval x=.pointer (some ⟨b,g,none⟩):=by
 cases y with
 | c t=>simp [AL.place] at e
 | s n=>
  cases x <;> simp [AR] at f;subst f;rename_i n;simp only [AL.place] at e;have h:=A9 i j (by simp);simp only [AX] at h;obtain ⟨b,c,T,m,_⟩:=h;split at e
  ·rename_i q k l;simp only [zzY,Prod.mk.injEq] at e;obtain ⟨rfl,rfl⟩:=e;have h:=A9 i l (by simp);simp only [AX] at h;obtain ⟨p,r,u⟩:=h ⟨cs,j⟩;exact ⟨p,r,u⟩
  ·rename_i cs' l;simp only [zzY,Prod.mk.injEq] at e;obtain ⟨rfl,rfl⟩:=e;exact ⟨b,m,m⟩
  ·cases e
variable {s:Nat}
theorem AY.rebox (h:AY F0 w0 O a w G) {cs cs':List At} (hs:O.get s=.bx cs) {b:Nat} (W:slot a s=.pointer (some ⟨b,0,none⟩)) {c c':Array Value} (M:w.heap[b]?=some (.cells c T (0,0)))
  {q:Option Nat} (hqs:q≠some s) {zs:Option Nat->Option (Nat × Nat)} (hzb:zs none=some (b,0))
  (hz:∀ i f lo,i≠none->zs i=some (f,lo)->G s i=some (f,lo)∨∃ q',q=some q'∧∃ j,G q' j=some (f,lo))
  (hzu:∀ i L f lo H,zs i=some (f,lo)->zs L=some (f,H)->i=L)
  (hl:c'.size=cs'.length) (hcs:∀ F' w',D0 w w' (A2 w0.heap.size F0 G) F'->(∀ k,k≠b->w'.heap[k]?=w.heap[k]?)->∀ (i:Nat) (x:At),cs'[i]?=some x->∃ v,c'[i]?=some v∧C6 w' F' (zs (some i)) x v)
  (hw:∀ x∈cs',x.t.WF) (hx:∀ (k n:Nat) (es:QQ),cs'[k]?=some ⟨true,.xl n es⟩->(O.noX s (some k)=true∨((∃ p,O.xat s (some k)=some p)∧c'[k]?=c[k]?))) :
  ∃ I,AY F0 w0 ((s,.bx cs')::SL O q) a (w.setRow b c') I∧D0 w (w.setRow b c') (A2 w0.heap.size F0 G) (A2 w0.heap.size F0 I):=by
 have hsz:s<a.tmps.size:=G9 h hs (by simp);have R:G s none=some (b,0):=by
  have:=A9 h hs (by simp);simp only [AX] at this;obtain ⟨f,_,_,u,_,_,h4,_⟩:=this;rw [W] at u;simp only [Value.pointer.injEq,zzY,Addr.mk.injEq,and_true,and_self] at u;rw [u]; exact h4
 let I:DT:=fun p=>if p=s then zs else if some p=q then (fun _=>none) else G p
 have A:I s=zs:=by simp [I]
 have g:∀ p i f lo,I p i=some (f,lo)->∃ N L,G N L=some (f,lo)∧(N=p∨some N=q)∧(p≠s->N=p∧L=i):=by
  intro p i f lo B;by_cases l:p=s
  ·subst l;rw [A] at B;by_cases hi:i=none
   ·subst hi;rw [hzb] at B;simp only [zzY,Prod.mk.injEq] at B;obtain ⟨rfl,rfl⟩:=B;exact ⟨p,none,R,.inl rfl,fun h=>absurd rfl h⟩
   ·rcases hz i f lo hi B with u | ⟨q',u,j,E⟩
    ·exact ⟨p,i,u,.inl rfl,fun h=>absurd rfl h⟩
    ·exact ⟨q',j,E,.inr u.symm,fun h=>absurd rfl h⟩
  ·simp only [I,d2 l] at B;split at B
   ·cases B
   ·exact ⟨p,i,B,.inl rfl,fun _=>⟨rfl,rfl⟩⟩
 have U:∀ p i f lo,I p i=some (f,lo)->some p≠q:=by
  intro p i f lo B X;by_cases l:p=s
  ·subst l; exact hqs X.symm
  ·simp only [I,d2 l,d1 X] at B; cases B
 have m:∀ k,k≠b->(w.setRow b c').heap[k]?=w.heap[k]?:=fun k hk=>setRow_other w b k _ hk;have hag:D0 w (w.setRow b c') (A2 w0.heap.size F0 G) (A2 w0.heap.size F0 I):=by
  intro f o v hc hF;have hbb:f≠b:=fun e=>hF (.inr ⟨s,none,0,by rw [e]; exact R,Nat.zero_le _⟩);refine ⟨by rw [World.cell?_of_block (w:=w) (a:=⟨f,o,none⟩) (m f hbb)]; exact hc,fun hF'=>hF ?_⟩;rcases hF' with u | ⟨p,i,lo,u,E⟩
  ·exact .inl u
  ·obtain ⟨N,L,h3,_⟩:=g p i f lo u;exact .inr ⟨N,L,lo,h3,E⟩
 have Y:Jt F0 w0 (w.setRow b c'):=h.below.but rfl rfl rfl (by simp) (Z:=fun k=>k=b) (fun k hk=>by rw [hk]; exact (h.lt _ _ _ _ R).2.imp id (fun e o=>e o (Nat.zero_le _))) (fun k _ hk=>m k hk);refine ⟨I,⟨?_,?_,Y,h.defers,?_,?_,?_⟩,hag⟩
 ·intro p i N L f lo H u E;by_cases l:p=s <;> by_cases C:N=s
  ·subst l; subst C;rw [A] at u E;exact ⟨rfl,hzu i L f lo H u E⟩
  ·obtain ⟨r,j,V,D,_⟩:=g p i f lo u;obtain ⟨r',j',e3,_,e4⟩:=g N L f H E;obtain ⟨rfl,rfl⟩:=e4 C;obtain ⟨rfl,_⟩:=h.uniq _ _ _ _ _ _ _ V e3;rcases D with D | D
   ·exact absurd (D.trans l) C
   ·exact absurd D (U _ _ _ _ E)
  ·obtain ⟨r,j,V,D,_⟩:=g N L f H E;obtain ⟨r',j',e3,_,e4⟩:=g p i f lo u;obtain ⟨rfl,rfl⟩:=e4 l;obtain ⟨rfl,_⟩:=h.uniq _ _ _ _ _ _ _ V e3;rcases D with D | D
   ·exact absurd (D.trans C) l
   ·exact absurd D (U _ _ _ _ u)
  ·obtain ⟨r,j,V,_,D⟩:=g p i f lo u;obtain ⟨r',j',e3,_,e4⟩:=g N L f H E;obtain ⟨rfl,rfl⟩:=D l;obtain ⟨rfl,rfl⟩:=e4 C;exact h.uniq _ _ _ _ _ _ _ V e3
 ·intro p i f lo u;obtain ⟨r,j,V,_⟩:=g p i f lo u;have:=h.lt _ _ _ _ V;exact ⟨by simpa using this.1,this.2⟩
 ·intro p B;rw [AD.get_cons,d2 (by omega)];cases q with
  | none=>exact h.dom p B
  | some q'=>exact (h.strip q').dom p B
 ·intro p B;rw [AD.get_cons];by_cases l:s=p
  ·subst l;rw [d1 rfl];simp only [AX];refine ⟨b,c',T,W,setRow_heap w b c c' T (0,0) M,hl,by rw [A]; exact hzb,fun i x hx=>?_⟩;obtain ⟨v,u,E⟩:=hcs _ _ hag m i x hx;exact ⟨v,u,by rw [A]; exact E⟩
  ·rw [d2 l];have hcase:=Qu O q p;rcases hcase with he | ⟨he,X⟩ <;> rw [he]
   ·trivial
   ·have hGp:∀ i,I p i=G p i:=fun i=>by simp only [I]; rw [d2 (fun e=>l e.symm),d2 X]
    refine AX.kept hag hGp (fun i f lo hb'=>m f (fun e=>l (h.uniq _ _ _ _ _ _ _ R (e ▸ hb')).1)) (fun r off hr ⟨cs'',z⟩=>⟨?_,rfl⟩) (fun r i hr ⟨pp,J⟩=>?_) (h.slots p B)
    ·rw [AD.get_cons] at z;split at z
     ·rename_i Q; subst Q; exact ⟨cs,hs⟩
     ·rcases Qu O q r with he | ⟨he,_⟩ <;> rw [he] at z
      ·cases z
      ·exact ⟨_,z⟩
    ·by_cases Q:s=r
     ·subst Q;obtain ⟨n,es⟩:=pp;cases i with
      | none=>have:=AD.xat_none J; rw [AD.get_cons,d1 rfl] at this; cases this
      | some k=>
       obtain ⟨cs'',u,E⟩:=AD.xat_some J;rw [AD.get_cons,d1 rfl] at u;simp only [EV.bx.injEq] at u;subst u;rcases hx k n es E with h3 | ⟨h3,h4⟩
       ·have h5:=AD.noX_spec h3 p k (.inr rfl);rcases hr with hr | ⟨c,hr⟩
        ·exact absurd hr h5.1
        ·exact absurd hr (h5.2 c)
       ·refine ⟨h3,fun v hv=>?_⟩;obtain ⟨f,c0,T0,V,D,e3⟩:=hv;rw [W] at V;simp only [Value.pointer.injEq,zzY,Addr.mk.injEq,and_true,and_self] at V;subst V;rw [M] at D;cases D;exact ⟨_,_,_,W,setRow_heap w _ _ c' _ (0,0) M,h4.trans e3⟩
     ·rw [AD.xat_cons Q] at J;have hp2:O.xat r i=some pp:=by
       rcases Qu O q r with he | ⟨he,_⟩
       ·rw [AD.xat_undef he] at J; cases J
       ·rw [←J]; exact (AD.xat_of he).symm
      exact ⟨⟨pp,hp2⟩,h.xv ⟨pp,hp2⟩ rfl (fun f hb'=>m f (fun e=>Q (h.uniq _ _ _ _ _ _ _ R (e ▸ hb')).1))⟩
 ·intro p;rw [AD.get_cons];split
  ·exact hw
  ·cases q with
   | none=>exact h.wf p
   | some q'=>exact (h.strip q').wf p
end
end Go.Sf
