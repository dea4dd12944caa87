/- What a reading of memory survives. -/
import Derived.Test.YtmaobfbhdkafkaaGreatSfSem
namespace Go.Sf
def C7 (w w':World) (F F':Nat->Nat->Prop):Prop:=
 ∀ b o v,w.cell? ⟨b,o,none⟩=some v->¬ F b o->w'.cell? ⟨b,o,none⟩=some v∧¬ F' b o
section
variable {w w':World} {F F':Nat->Nat->Prop}
mutual
theorem CR (h:C7 w w' F F'):∀ (t:TV) (v:Value),A1 w F t v->A1 w' F' t v
 | .undef,_,hr=>hr
 | .int _ _,_,hr=>hr
 | .bool _,_,hr=>hr
 | .str _,_,hr=>hr
 | .nil,_,hr=>hr
 | .list n es,v,hr=>by
  simp only [A1] at hr ⊢
  obtain ⟨a,cap,h1,h0,h2,h3⟩:=hr
  exact ⟨a,cap,h1,h0,h2,fun ad had=>⟨(h3 ad had).1,Pw h n es _ _ (h3 ad had).2⟩⟩
 | .agg cs,v,hr=>by
  simp only [A1] at hr ⊢
  obtain ⟨vs,h1,h2,h3⟩:=hr
  exact ⟨vs,h1,A8 h cs _ h2,h3⟩
 | .pt row,v,hr=>by
  simp only [A1] at hr ⊢
  obtain ⟨b,o,h1,h2⟩:=hr
  exact ⟨b,o,h1,Mp h row _ _ h2⟩
 | .clo f caps,v,hr=>by
  simp only [A1] at hr ⊢
  obtain ⟨vs,h1,h2⟩:=hr
  exact ⟨vs,h1,A8 h caps _ h2⟩
 | .xl _ _,_,hr=>hr
theorem A8 (h:C7 w w' F F'):∀ (ts:List TV) (vs:List Value),AM w F ts vs->AM w' F' ts vs
 | [],_,hr=>hr
 | t::ts,vs,hr=>by
  simp only [AM] at hr ⊢
  obtain ⟨v,r,h1,h2,h3⟩:=hr
  exact ⟨v,r,h1,CR h t v h2,A8 h ts r h3⟩
theorem Mp (h:C7 w w' F F'):∀ (ts:List TV) (b o:Nat),DR w F ts b o->DR w' F' ts b o
 | [],_,_,_=>trivial
 | t::ts,b,o,hr=>by
  simp only [DR] at hr ⊢
  obtain ⟨⟨v,h1,h2,h0,h3⟩,h4⟩:=hr
  exact ⟨⟨v,(h b o v h1 h2).1,(h b o v h1 h2).2,h0,CR h t v h3⟩,Mp h ts b (o+1) h4⟩
theorem Pw (h:C7 w w' F F') (n:Nat):∀ (ts:List TV) (b o:Nat),IJ w F n ts b o->IJ w' F' n ts b o
 | [],_,_,_=>trivial
 | t::ts,b,o,hr=>by
  simp only [IJ] at hr ⊢
  exact ⟨XM h t b o hr.1,hr.2.1,Pw h n ts b (o+n) hr.2.2⟩
theorem XM (h:C7 w w' F F'):∀ (t:TV) (b o:Nat),JK w F t b o->JK w' F' t b o
 | .agg cs,b,o,hr=>Mp h cs b o hr
 | .undef,b,o,hr=>by
  simp only [JK] at hr ⊢
  obtain ⟨v,h1,h2,h3⟩:=hr
  exact ⟨v,(h b o v h1 h2).1,(h b o v h1 h2).2,h3⟩
 | .int _ _,b,o,hr=>by
  simp only [JK] at hr ⊢
  obtain ⟨v,h1,h2,h3⟩:=hr
  exact ⟨v,(h b o v h1 h2).1,(h b o v h1 h2).2,h3⟩
 | .bool _,b,o,hr=>by
  simp only [JK] at hr ⊢
  obtain ⟨v,h1,h2,h3⟩:=hr
  exact ⟨v,(h b o v h1 h2).1,(h b o v h1 h2).2,h3⟩
 | .str _,b,o,hr=>by
  simp only [JK] at hr ⊢
  obtain ⟨v,h1,h2,h3⟩:=hr
  exact ⟨v,(h b o v h1 h2).1,(h b o v h1 h2).2,h3⟩
 | .nil,b,o,hr=>by
  simp only [JK] at hr ⊢
  obtain ⟨v,h1,h2,h3⟩:=hr
  exact ⟨v,(h b o v h1 h2).1,(h b o v h1 h2).2,h3⟩
 | .list n es,b,o,hr=>by
  simp only [JK] at hr ⊢
  obtain ⟨v,h1,h2,hc,a,cap,h3,h0,h4,h5⟩:=hr
  exact ⟨v,(h b o v h1 h2).1,(h b o v h1 h2).2,hc,a,cap,h3,h0,h4,fun ad had=>⟨(h5 ad had).1,Pw h n es _ _ (h5 ad had).2⟩⟩
 | .pt row,b,o,hr=>by
  simp only [JK] at hr ⊢
  obtain ⟨v,h1,h2,hc,b',o',h3,h4⟩:=hr
  exact ⟨v,(h b o v h1 h2).1,(h b o v h1 h2).2,hc,b',o',h3,Mp h row _ _ h4⟩
 | .clo f caps,b,o,hr=>by
  simp only [JK] at hr ⊢
  obtain ⟨v,h1,h2,hc,vs,h3,h4⟩:=hr
  exact ⟨v,(h b o v h1 h2).1,(h b o v h1 h2).2,hc,vs,h3,A8 h caps _ h4⟩
 | .xl _ _,b,o,hr=>by
  simp only [JK] at hr ⊢
  obtain ⟨v,h1,h2,h3⟩:=hr
  exact ⟨v,(h b o v h1 h2).1,(h b o v h1 h2).2,h3⟩
end
end
section
variable {w:World} {F:Nat->Nat->Prop}
theorem E9:∀ (ts:List TV) (b o:Nat),DR w F ts b o↔∀ i t,ts[i]?=some t->∃ v,w.cell? ⟨b,o+i,none⟩=some v∧¬ F b (o+i)∧v.oneCell'=true∧A1 w F t v
 | [],_,_=>by simp [DR]
 | t::ts,b,o=>by
  simp only [DR,E9 ts b (o+1)]
  constructor
  ·rintro ⟨h1,h2⟩ i u hi
   cases i with
   | zero=>simp at hi; subst hi; exact h1
   | succ i=>have:=h2 i u (by simpa using hi); rwa [show o+1+i=o+(i+1) from by omega] at this
  ·intro h
   refine ⟨by simpa using h 0 t rfl,fun i u hi=>?_⟩
   have:=h (i+1) u (by simpa using hi)
   rwa [show o+(i+1)=o+1+i from by omega] at this
theorem Mn {ts:List TV} {b o:Nat} (h:DR w F ts b o) (k:Nat):DR w F (ts.drop k) b (o+k):=by
 rw [E9] at h ⊢
 intro i t hi
 rw [List.getElem?_drop] at hi
 have:=h (k+i) t hi
 rwa [show o+k+i=o+(k+i) from by omega]
theorem Vo {ts:List TV} {b o:Nat} (h:DR w F ts b o) (k:Nat):DR w F (ts.take k) b o:=by
 rw [E9] at h ⊢
 intro i t hi
 rw [List.getElem?_take] at hi
 split at hi
 ·exact h i t hi
 ·simp at hi
theorem NR {n:Nat} {e:TV} {es:List TV} {b o:Nat}:IJ w F n (e::es) b o↔DR w F e.cells b o∧e.cells.length=n∧IJ w F n es b (o+n):=by
 simp only [IJ,XL]
theorem OH (n:Nat):∀ (es:List TV) (b o:Nat),IJ w F n es b o↔∀ i e,es[i]?=some e->DR w F e.cells b (o+i*n)∧e.cells.length=n
 | [],_,_=>by simp [IJ]
 | e::es,b,o=>by
  rw [NR,OH n es b (o+n)]
  constructor
  ·rintro ⟨h1,h2,h3⟩ i u hi
   cases i with
   | zero=>simp at hi; subst hi; simpa using ⟨h1,h2⟩
   | succ i=>
    have:=h3 i u (by simpa using hi)
    rwa [show o+n+i*n=o+(i+1)*n from by rw [Nat.add_mul]; omega] at this
  ·intro h
   have h0:=h 0 e rfl
   simp at h0
   refine ⟨h0.1,h0.2,fun i u hi=>?_⟩
   have:=h (i+1) u (by simpa using hi)
   rwa [show o+(i+1)*n=o+n+i*n from by rw [Nat.add_mul]; omega] at this
theorem B1:∀ (ts:List TV) (vs:List Value),AM w F ts vs↔vs.length=ts.length∧∀ (i:Nat) (t:TV) (v:Value),ts[i]?=some t->vs[i]?=some v->A1 w F t v
 | [],vs=>by simp [AM]
 | t::ts,vs=>by
  simp only [AM]
  constructor
  ·rintro ⟨v,r,rfl,h1,h2⟩
   rw [B1 ts r] at h2
   refine ⟨by simp [h2.1],fun i u x hi hx=>?_⟩
   cases i with
   | zero=>simp at hi hx; subst hi hx; exact h1
   | succ i=>exact h2.2 i u x (by simpa using hi) (by simpa using hx)
  ·rintro ⟨h1,h2⟩
   cases vs with
   | nil=>simp at h1
   | cons v r=>exact ⟨v,r,rfl,h2 0 t v rfl rfl,(B1 ts r).2 ⟨by simpa using h1,fun i u x hi hx=>h2 (i+1) u x (by simpa using hi) (by simpa using hx)⟩⟩
theorem Jl {ts us:List TV} {vs xs:List Value} (h1:AM w F ts vs) (h2:AM w F us xs):AM w F (ts++us) (vs++xs):=by
 induction ts generalizing vs with
 | nil=>simp only [AM] at h1; subst h1; simpa using h2
 | cons t ts ih=>
  simp only [AM] at h1
  obtain ⟨v,r,rfl,h3,h4⟩:=h1
  exact ⟨v,r++xs,rfl,h3,ih h4⟩
theorem Ic {t:TV} {v:Value} (h:A1 w F t v):AM w F t.cells v.cells.toList∧∀ x∈v.cells.toList,x.oneCell'=true:=by
 have one:∀ {v:Value} {t:TV},v.cells=#[v]->v.oneCell'=true->A1 w F t v->t.cells=[t]->AM w F t.cells v.cells.toList∧∀ x∈v.cells.toList,x.oneCell'=true:=by
  intro v t h1 h2 h3 h4
  rw [h1,h4]
  exact ⟨⟨v,[],rfl,h3,rfl⟩,by simpa using h2⟩
 cases t with
 | agg cs=>simp only [A1] at h; obtain ⟨vs,rfl,h2,h3⟩:=h; exact ⟨h2,fun x hx=>List.all_eq_true.1 h3 x hx⟩
 | undef=>have h':=h; simp only [A1] at h; cases v <;> first | exact one rfl rfl h' rfl | (simp [Value.oneCell'] at h)
 | xl n es=>have h':=h; simp only [A1] at h; cases v <;> first | exact one rfl rfl h' rfl | (simp [Value.oneCell'] at h)
 | int k n=>have h':=h; simp only [A1] at h; subst h; exact one rfl rfl h' rfl
 | bool b=>have h':=h; simp only [A1] at h; subst h; exact one rfl rfl h' rfl
 | str s=>have h':=h; simp only [A1] at h; subst h; exact one rfl rfl h' rfl
 | nil=>have h':=h; simp only [A1] at h; subst h; exact one rfl rfl h' rfl
 | list n es=>have h':=h; simp only [A1] at h; obtain ⟨a,cap,rfl,_⟩:=h; exact one rfl rfl h' rfl
 | pt row=>have h':=h; simp only [A1] at h; obtain ⟨b,o,rfl,_⟩:=h; exact one rfl rfl h' rfl
 | clo f caps=>have h':=h; simp only [A1] at h; obtain ⟨vs,rfl,_⟩:=h; exact one rfl rfl h' rfl
end
end Go.Sf
