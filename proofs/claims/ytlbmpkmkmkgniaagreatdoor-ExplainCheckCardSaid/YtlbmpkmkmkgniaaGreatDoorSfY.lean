/- Lists of one's own in the cells of boxes; what is lent to a reader; boxes that a callee changes. -/
import Derived.Test.YtlbmpkmkmkgniaaGreatDoorSfX
set_option linter.all false
namespace Go.Sf
open Go.RowKit (Below)
section
variable {P:Program} {S:FuncId->QQ->CS->Prop} {F0:Nat->Nat->Prop} {w0:W0} {O:AD} {a:Act} {w:World} {G:DP} {d:Nat} {o:Oper} {K:EV->AD->Prop}
theorem dc (l:AZ F0 w0 O a w G) (C:d<a.tmps.size) {x:Operand} {y:AL} {t:TypeId} (m:o.op=.load t x) (q:AP x y=true) (D:DR P t=some false) (h:(AJ.lac y).wp S O (some d) K):B2 P F0 w0 a w o d K:=by
 simp only [AJ.wp] at h;split at h
 ·rename_i s e f;have F:y.place O=some (s,e):=by
   cases y with
   | c t=>simp [AL.ev] at f
   | s n=>simp only [AL.ev] at f; simp only [AL.place,f]
  split at h
  ·rename_i p E;obtain ⟨n,es⟩:=p;obtain ⟨cs,A,H⟩:=AD.xat_some E;obtain ⟨b,j,k⟩:=KV l q F A;have z:=A9 l A (by simp);simp only [AY] at z;obtain ⟨J,c,T,r,B,L,M,I⟩:=z;rw [j] at r;simp only [Value.pointer.injEq,zzY,Addr.mk.injEq,and_true,and_self] at r;subst r;obtain ⟨v,hv,N⟩:=I e _ H;have g:w.cell? ⟨b,e,none⟩=some v:=by rw [cell_of_row w b e c T (0,0) B]; exact hv
   refine ⟨v,w,by simp [execOp,m,k,Instr.loadAt,Instr.sureAddr,loadVar,FQ D,g],_,_,h,_,l.quiet (Below.refl _ _) d C (.la s (some e)) _ (fun _=>none) (by simp) (by simp) (by simp) ?_ trivial⟩;simp only [AY];rintro ⟨Q,u⟩;have i:=AD.xat_drop (by simp) (by simp) u;exact l.xv ⟨_,i.2⟩ (BJ _ _ _ _ i.1) (fun _ _=>rfl) _ ⟨b,c,T,j,B,hv⟩
  ·exact h.elim
 ·exact h.elim
theorem dW (k:AZ F0 w0 O a w G) (z:d<a.tmps.size) {x:Operand} {y:AL} {t:TypeId} (l:o.op=.load t x) (m:AP x y=true) (A:DR P t=some false) (h:(AJ.ctk y).wp S O (some d) K):B2 P F0 w0 a w o d K:=by
 simp only [AJ.wp] at h;split at h
 ·rename_i H s f g B;simp only [zzY] at g;subst g;split at h
  ·rename_i cs p;split at h
   ·rename_i n es u;obtain ⟨q,C⟩:=h;obtain ⟨b,i,j⟩:=KV k m B p;have v:=A9 k p (by simp);simp only [AY] at v;obtain ⟨I,c,T,r,D,J,L,E⟩:=v;rw [i] at r;simp only [Value.pointer.injEq,zzY,Addr.mk.injEq,and_true,and_self] at r;subst r;obtain ⟨y,F,_⟩:=E f _ u;have e:w.cell? ⟨b,f,none⟩=some y:=by rw [cell_of_row w b f c T (0,0) D]; exact F
    exact ⟨y,w,by simp [execOp,l,j,Instr.loadAt,Instr.sureAddr,loadVar,FQ A,e],_,_,C,k.takeCell p u z i e (.inr ⟨n,es,rfl,rfl,rfl,q⟩)⟩
   ·exact h.elim
  ·exact h.elim
 ·exact h.elim
theorem dV (p:AZ F0 w0 O a w G) {x v:Operand} {x':AL} {q:Nat} {t:TypeId} (Y:o.op=.store t x v) (hx:AP x x'=true) (hv:AP v (.s q)=true) (hn:FH P t=some 1) (h:(AJ.cpt x' q).wp S O none K):NT P F0 w0 a w o K:=by
 simp only [AJ.wp] at h;split at h
 ·rename_i s f n es hp V;split at h
  ·rename_i cs L;obtain ⟨hno,Q,hK⟩:=h;obtain ⟨b,R,U⟩:=KV p hx hp L;have hr:=A9 p L (by simp);simp only [AY] at hr;obtain ⟨J,c,T,h1,h2,h3,X,h5⟩:=hr;rw [R] at h1;simp only [Value.pointer.injEq,zzY,Addr.mk.injEq,and_true,and_self] at h1;subst h1;have hw:=p.wf s;rw [L] at hw;have N:=p.wf q;rw [V] at N;have u:q≠s:=fun e=>by rw [e,L] at V; cases V
   have Z:v=.tmp q:=by
    cases v <;> simp [AP] at hv;rw [hv]
   subst Z;have z:=A9 p V (by simp);simp only [AY] at z;have F:(slot a q).oneCell'=true:=by
    obtain ⟨xs,⟨z0,k1,_⟩,_⟩:=z;rcases k1.2 with ⟨e,_⟩ | ⟨g,cap,cur,e,l,_⟩
    ·rw [e]; rfl
    ·rw [l]; rfl
   have A:(a.eval (.tmp q)).cells.toList=[slot a q]:=by
    have:a.eval (.tmp q)=slot a q:=rfl;rw [this,Ph F]
   have hst:(execOp a.eval o).run P w=.ok .skip (w.setRow b (c.toList.take f++[slot a q]++c.toList.drop (f+1)).toArray):=by
    have B:=run_storeCells_at P b f T [slot a q] 0 c w h2 (by simp only [List.length_singleton]; omega) (by simpa using F);simp only [Nat.add_zero] at B;have hsz:(a.eval (.tmp q)).cells.size=1:=by rw [←Array.length_toList,A]; rfl
    simp only [List.length_singleton] at B;simp [execOp,Y,U,Instr.storeAt,Instr.sureAddr,storeVar,D7 hn,hsz,A,B]
   let zs:Option Nat->Option (Nat × Nat):=fun i=>match i with | none=>some (b,0) | some j=>if j=f then G q none else G s (some j)
   refine Exists.elim (p.rebox L R h2 (cs':=cs.set f ⟨true,.xl n es⟩) (c':=(c.toList.take f++[slot a q]++c.toList.drop (f+1)).toArray) (q:=some q) (by simpa using u) (zs:=zs) rfl ?_ ?_ ?_ ?_ ?_ ?_) (fun G' h'=>⟨_,hst,_,hK,G',h'.1⟩)
   ·intro i J lo hi W;cases i with
    | none=>exact absurd rfl hi
    | some j=>
     simp only [zs] at W;split at W
     ·exact .inr ⟨q,rfl,none,W⟩
     ·exact .inl W
   ·intro i i' J lo H l r;have zn:∀ j J lo H,zs (some j)=some (J,lo)->zs none=some (J,H)->False:=by
     intro j J lo H l r;simp only [zs,zzY,Prod.mk.injEq] at r;obtain ⟨rfl,_⟩:=r;simp only [zs] at l;split at l
     ·exact u (p.uniq _ _ _ _ _ _ _ l X).1
     ·have:=(p.uniq _ _ _ _ _ _ _ l X).2; cases this
    cases i with
    | none=>cases i' with
     | none=>rfl
     | some j=>exact (zn j _ _ _ r l).elim
    | some j=>cases i' with
     | none=>exact (zn j _ _ _ l r).elim
     | some j'=>
      simp only [zs] at l r;split at l <;> split at r
      ·rename_i e3 e4; rw [e3,e4]
      ·exact absurd (p.uniq _ _ _ _ _ _ _ l r).1 u
      ·exact absurd (p.uniq _ _ _ _ _ _ _ r l).1 u
      ·exact (p.uniq _ _ _ _ _ _ _ l r).2
   ·simp only [List.size_toArray,d4,d5,List.length_drop,Array.length_toList,List.length_singleton,List.length_set]; omega
   ·intro F' w' M E i y C;rw [List.getElem?_set] at C;by_cases hi:f=i
    ·subst hi;rw [d1 rfl,d1 Q] at C;simp only [zzY] at C;subst C;refine ⟨slot a q,?_,?_⟩
     ·rw [List.getElem?_toArray,ea,List.getElem?_append_right (by simp; omega)];simp only [d5,Array.length_toList];rw [Nat.min_eq_left (by omega),Nat.sub_self];rfl
     ·simp only [C3,zs,if_true];obtain ⟨xs,k1,k2,k3,k4⟩:=z;exact ⟨xs,k1.kept (fun k lo D=>E k (fun e=>u (p.uniq _ _ _ _ _ _ _ (e ▸ D) X).1)),BP M _ _ k2,k3,k4⟩
    ·rw [d2 hi] at C;obtain ⟨vv,l,r⟩:=h5 i y C;refine ⟨vv,?_,?_⟩
     ·rw [List.getElem?_toArray];rcases Nat.lt_or_ge i f with I | hge
      ·rw [ea,List.getElem?_append_left (by simp; omega),List.getElem?_take_of_lt I];simpa using l
      ·rw [List.getElem?_append_right (by simp; omega)];simp only [d4,d5,Array.length_toList,List.length_singleton];rw [Nat.min_eq_left (by omega),List.getElem?_drop,show f+1+(i - (f+1))=i from by omega];simpa using l
     ·have hi':¬ i=f:=fun e=>hi e.symm;simp only [zs]; rw [d2 hi'];exact r.kept M (fun k lo D=>E k (fun e=>by have:=(p.uniq _ _ _ _ _ _ _ (e ▸ D) X).2; cases this))
   ·intro y C;rcases List.mem_or_eq_of_mem_set C with C | rfl
    ·exact hw y C
    ·exact N
   ·intro k m es' D;rw [List.getElem?_set] at D;by_cases hi:f=k
    ·subst hi; exact .inl hno
    ·rw [d2 hi] at D;refine .inr ⟨⟨(m,es'),by simp only [AD.xat,L,D]⟩,?_⟩;have hkc:k<c.size:=by
      have:=(List.getElem?_eq_some_iff.1 D).1; omega
     rw [List.getElem?_toArray];rcases Nat.lt_or_ge k f with I | hge
     ·rw [ea,List.getElem?_append_left (by simp; omega),List.getElem?_take_of_lt I,Array.getElem?_toList]
     ·rw [List.getElem?_append_right (by simp; omega)];simp only [d4,d5,Array.length_toList,List.length_singleton];rw [Nat.min_eq_left (by omega),List.getElem?_drop,show f+1+(k - (f+1))=k from by omega,Array.getElem?_toList]
  ·exact h.elim
 ·exact h.elim
theorem dX (q:AZ F0 w0 O a w G) (hd:d<a.tmps.size) {s:Nat} {hi:Operand} {z:AL} {t:TypeId} {n:Nat} (U:o.op=.slice t (.tmp s) none (some hi) none) (hh:AP hi z=true) (c:LT P t=some n) (h:(AJ.cut n s z).wp S O (some d) K):B2 P F0 w0 a w o d K:=by
 simp only [AJ.wp] at h;split at h
 ·rename_i d' m es k hb D R hv;simp only [zzY] at D;subst D;obtain ⟨⟨hm,M,N⟩,h0,Y,hK⟩:=h;subst hm;have hr:=A9 q R (by simp);have T:=q.wf s;rw [R] at T;simp only [AY] at hr;obtain ⟨xs,⟨z0,k1,k2⟩,k3,k4,k5⟩:=hr;have b2:=(BR q hh hv).1;simp only [A7] at b2;unfold LT at c;split at c
  ·rename_i e hu;obtain ⟨j,rfl⟩:∃ j:Nat,hb=j:=⟨hb.toNat,by omega⟩;simp only [Int.toNat_natCast] at hK;have I:j<=es.length:=by omega
   have W:=k1.1;have key:∀ (Q:Option Addr) (cap:Nat),slot a s=.slice Q es.length cap->es.length<=cap->(execOp a.eval o).run P w=.ok (.value (.slice (if cap=0 then Q else Q.map (·.add (0*m))) (j - 0) (cap - 0))) w:=by
    intro Q cap E F;have J:=Qx (P:=P) (w:=w) (isS:=true) (lo:=none) (hi:=some (a.eval hi)) (l:=0) (h:=(j:Int)) (len:=es.length) (cap:=cap) (by omega) (by omega) Y F (.inl ⟨rfl,rfl⟩) (.inr ⟨k,by rw [b2]⟩);simp [execOp,U,Instr.sliceAt,Instr.slice,run_underlying hu,show a.eval (.tmp s)=slot a s from rfl,E,J,D7 c]
   have p:∀ r u env' (y:Act) (v:Value),DW w w (A3 w0.heap.size F0 G) r->u d none=G s none->K5 w m v (es.take j).length (xs.take (j*m)) (G s none)->AY y w r u env' d (.xo m (es.take j)) v:=by
    intro r u env' y v f C A;simp only [AY];rw [C];refine ⟨xs.take (j*m),A,?_,fun e he=>k4 e (List.mem_of_mem_take he),fun x A=>k5 x (List.mem_of_mem_take A)⟩;have X:∀ (l:QQ) (j:Nat),(∀ e∈l,e.cells.length=m)->(l.take j).flatMap TV.cells=(l.flatMap TV.cells).take (j*m):=by
     intro l
     induction l with
     | nil=>intro j _; simp
     | cons e l ih=>
      intro j H;cases j with
      | zero=>simp
      | succ j=>
       rw [List.take_succ_cons,List.flatMap_cons,List.flatMap_cons,ih j (fun x A=>H x (by simp [A])),List.take_append,H e (by simp)];have h1:(j+1)*m=m+j*m:=by rw [Nat.add_mul]; omega
       have Y:e.cells.take (m+j*m)=e.cells:=List.take_of_length_le (by rw [H e (by simp)]; omega);rw [h1,Y,show m+j*m - m=j*m from by omega]
    rw [X es j k4];have:=(CP _ _).1 (BP f _ _ k3);rw [CP];refine ⟨by rw [d5,d5,this.1],fun i t v c hv=>?_⟩;rw [List.getElem?_take] at c hv;split at c
    ·rename_i V; rw [d1 V] at hv; exact this.2 i t v c hv
    ·cases c
   have L:(EV.xo m (es.take j)).WF:=by
    simp only [EV.WF,TV.WF] at T ⊢;refine ⟨by simp only [d5]; omega,?_⟩;rw [CU] at T ⊢;exact fun t c=>T.2 t (List.mem_of_mem_take c)
   have Z:j*m<=es.length*m:=Nat.mul_le_mul_right _ I;rcases k1.2 with ⟨E,F,e3⟩ | ⟨g,cap,cur,ty,E,F,e3,e4,e5,e6,e7⟩
   ·have hes:es=[]:=List.eq_nil_of_length_eq_zero F;subst hes;have hj:j=0:=by simpa using I
    subst hj;refine ⟨_,w,key none 0 (by simpa using E) (by simp),_,_,hK,q.xgo R hd N (z':=G s none) rfl rfl rfl (d3 _) (fun _ _ _=>rfl) (fun b lo B=>⟨(q.lt _ _ _ _ B).1,.inr ⟨lo,B⟩⟩) (by simp) (fun _=>M) (fun r u env' y f C=>p r u env' y _ f C ?_) L⟩;refine ⟨none,⟨by simp,.inl ⟨by simp,by simp,rfl⟩⟩,?_⟩;rw [k2,e3]
   ·refine ⟨_,w,key _ _ E e3,_,_,hK,q.xgo R hd N (z':=G s none) rfl rfl rfl (d3 _) (fun _ _ _=>rfl) (fun b lo B=>⟨(q.lt _ _ _ _ B).1,.inr ⟨lo,B⟩⟩) (by simp) (fun _=>M) (fun r u env' y f C=>p r u env' y _ f C ?_) L⟩;have H:(es.take j).length=j:=by rw [d5]; omega
    rw [H];refine ⟨some (g,j*m),⟨by rw [d5,W]; omega,.inr ⟨g,cap,cur,ty,?_,F,by omega,e4,e5,?_,rfl⟩⟩,?_⟩
    ·simp only [Nat.zero_mul,Nat.sub_zero,Option.map_some,Addr.add_zero'];split <;> rfl
    ·rw [←e6,List.take_take,Nat.min_eq_left Z]
    ·rw [k2,e7]; rfl
  ·cases c
 ·exact h.elim
theorem Vo {F:Nat->Nat->Prop} {n:Nat} {v:Value} {es:QQ} {xs:List Value} {z:Option (Nat × Nat)} (h:K5 w n v es.length xs z) (c:AS w F (es.flatMap TV.cells) xs) (f:∀ e∈es,e.cells.length=n) (g:∀ x∈xs,x.oneCell'=true):A7 w (fun _ _=>False) (.list n es) v:=by
 obtain ⟨j,k,_⟩:=h;refine C1.rep (z:=j) ?_ (fun _ _ _ _ _ h=>h);simp only [C1];exact ⟨xs,k,BP (fun b o u i _=>⟨i,fun h=>h⟩) _ _ c,f,g⟩
theorem Ui {F:Nat->Nat->Prop}:DW w w F (fun _ _=>False):=fun _ _ _ b _=>⟨b,fun h=>h⟩
theorem fl {c:A1} (h:c.t.WF):c.lent.WF:=by
 obtain ⟨_ | _,t⟩:=c
 ·exact h
 ·cases t <;> exact h
theorem cf (e:AZ F0 w0 O a w G) {s:Nat} {i:Option Nat} {c:A1} {x:Value} (h:C3 w (A3 w0.heap.size F0 G) (G s i) c x):A7 w (fun _ _=>False) c.lent x:=by
 by_cases b:∃ n es,c=⟨true,.xl n es⟩
 ·obtain ⟨n,es,rfl⟩:=b;simp only [C3,JI] at h;obtain ⟨xs,f,g,j,k⟩:=h;exact Vo f g j k
 ·have:c.lent=c.t:=by
   obtain ⟨_ | _,t⟩:=c
   ·rfl
   ·cases t <;> first | rfl | exact absurd ⟨_,_,rfl⟩ b
  rw [this];exact DG Ui _ _ (Se e h)
theorem Wh (l:AZ F0 w0 O a w G) {s:Nat} {cs:List A1} (n:O.get s=.bx cs) {b:Nat} (j:slot a s=.pointer (some ⟨b,0,none⟩)) (e:Nat):EN w (fun _ _=>False) ((cs.drop e).map A1.lent) b e:=by
 have g:=A9 l n (by simp);simp only [AY] at g;obtain ⟨u,c,T,k,p,v,y,q⟩:=g;rw [j] at k;simp only [Value.pointer.injEq,zzY,Addr.mk.injEq,and_true,and_self] at k;subst k;rw [GQ];intro i t m;simp only [List.getElem?_map,List.getElem?_drop,Option.map_eq_some_iff] at m;obtain ⟨cell,f,rfl⟩:=m;obtain ⟨x,r,g⟩:=q _ cell f;exact ⟨x,by rw [cell_of_row w b (e+i) c T (0,0) p]; exact r,fun h=>h,MN g,cf l g⟩
theorem Wi {cs:List A1} (h:∀ c∈cs,c.t.WF):TV.WFs (cs.map A1.lent):=by
 rw [CU];intro t b;obtain ⟨c,e,rfl⟩:=List.mem_map.1 b;exact fl (h c e)
theorem cl (f:AZ F0 w0 O a w G) {x:Operand} {y:AL} (g:AP x y=true) {t:TV} (h:y.lval O=some t):A7 w (fun _ _=>False) t (a.eval x)∧t.WF:=by
 unfold AL.lval at h;split at h
 ·rename_i p B;simp only [zzY] at h;subst h;obtain ⟨l,v⟩:=NO f g B;obtain ⟨j,xs,C,D,E,F⟩:=Nl f l v;exact ⟨Vo C D E F,j⟩
 ·have z:∀ e,y.ev O=e->(∀ t,e≠.tv t)->∃ n,y=.s n∧x=.tmp n∧O.get n=e:=by
   intro e k u;cases y with
   | c t=>exact absurd k.symm (u t)
   | s n=>
    cases x <;> simp [AP] at g;subst g;exact ⟨_,rfl,rfl,k⟩
  split at h
  ·rename_i cs k;simp only [zzY] at h;subst h;obtain ⟨n,rfl,rfl,i⟩:=z _ k (by simp);have r:=A9 f i (by simp);have j:=f.wf n;rw [i] at j;simp only [AY] at r;obtain ⟨b,c,T,l,_⟩:=r;refine ⟨?_,Wi j⟩;simp only [A7];exact ⟨b,0,l,by simpa using Wh f i l 0⟩
  ·rename_i q m k;split at h
   ·rename_i cs i;simp only [zzY] at h;subst h;obtain ⟨n,rfl,rfl,H⟩:=z _ k (by simp);have r:=A9 f H (by simp);simp only [AY] at r;obtain ⟨b,l,v⟩:=r ⟨cs,i⟩;have j:=f.wf q;rw [i] at j;refine ⟨?_,Wi (fun c A=>j c (List.mem_of_mem_drop A))⟩;simp only [A7];exact ⟨b,m,v,Wh f i l m⟩
   ·cases h
  ·have:=BR f g (t:=t) h;exact ⟨DG Ui _ _ this.1,this.2⟩
theorem VP (g:AZ F0 w0 O a w G):∀ {xs:List Operand} {e:List AL},DK xs e=true->∀ {c:QQ},lvals O e=some c->AS w (fun _ _=>False) c (xs.map a.eval)∧TV.WFs c
 | [],[],_,c,hv=>by simp [lvals] at hv; subst hv; exact ⟨rfl,trivial⟩
 | [],_::_,b,_,_=>by simp [DK] at b
 | _::_,[],b,_,_=>by simp [DK] at b
 | x::xs,y::e,b,c,hv=>by
  simp only [DK,zzZ] at b;simp only [lvals] at hv;split at hv
  ·rename_i t j k f;simp only [zzY] at hv;subst hv;have h:=cl g b.1 k;have i:=VP g b.2 f;exact ⟨⟨_,_,rfl,h.1,i.1⟩,h.2,i.2⟩
  ·cases hv
theorem bJ {w':World} {F f:Nat->Nat->Prop} {base:Nat} {r:CS} {v:Value} (b:r.lends=true) (h:Jx w' F base r v):Jx w' f base r v:=by
 cases r with
 | sh t=>exact XF t b v h
 | tp l=>obtain ⟨vs,c,e⟩:=h; exact ⟨vs,c,KD l b _ e⟩
 | own t=>
  obtain ⟨z,c,e⟩:=h;refine ⟨z,?_,e⟩;cases t <;> simp only [CS.lends,Bool.false_eq_true] at b;simp only [C1] at c ⊢;obtain ⟨xs,g,i,j,k⟩:=c;exact ⟨xs,g,KD _ (OI _ b) _ i,j,k⟩
 | _=>simp [CS.lends] at b
theorem Xo {r:CS} (h:r.lends=true):r.plain=true:=by
 cases r <;> first | rfl | (simp [CS.lends] at h)
theorem Zs (p:AZ F0 w0 O a w G) (t:d<a.tmps.size) (c:o.dst=some d) {f:FuncId} {xs:Array Operand} {i:List AL} {j:Array TypeId} (k:o.op=.call { callee:=.value (.func f),args:=xs,argTypes:=j }) (l:DK xs.toList i=true) (h:(AJ.calll f i).wp (AT P) O (some d) K)
  {next:Act->World->Prop} {Q:Exit->Act->World->Prop} (u:∀ e env' m w',K e env'->Q6 a d m->DI F0 w0 ((d,e)::env') m w'->next m w'):o.wp P a w next Q:=by
 simp only [AJ.wp] at h;cases b:lvals O i with
 | none=>rw [b] at h; exact h.elim
 | some C=>
  rw [b] at h;simp only [BA] at h;obtain ⟨r,⟨x,q⟩,y⟩:=h;have hv:=VP p l b;have g:(execOp a.eval o).run P w=(callFunc f (xs.map a.eval)).run P w:=by simp [execOp,k,resolve,Act.eval,Deferred.ofValue,invoke]
  obtain ⟨z,n⟩:=(x.to0 (Xo q)) hv.2;obtain ⟨s,n⟩:=n (fun _ _=>False) w (xs.map a.eval) (by simpa using hv.1);unfold Oper.wp;rw [g,I7 z _,Oper.upon_enter];refine n.mono ?_;rintro e w' ⟨v,rfl,A,B⟩;simp only [c];exact u _ _ _ _ (y s) ⟨_,rfl⟩ (p.called t A (bJ q B) s)
theorem OH:∀ {e:List (Option A1)} {f:QQ} {cs:List A1},HN e f=some cs->cs.length=f.length∧∀ (i:Nat) (c:A1),cs[i]?=some c->∃ t,f[i]?=some t∧(c=⟨false,t⟩∨(t=.nil∧∃ n,c=⟨true,.list n []⟩∨c=⟨true,.xl n []⟩))
 | [],[],cs,h=>by simp [HN] at h; subst h; simp
 | [],_::_,cs,h=>by simp [HN] at h
 | none::e,[],cs,h=>by simp [HN] at h
 | some _::e,[],cs,h=>by simp [HN] at h
 | none::e,t::f,cs,h=>by
  simp only [HN] at h;split at h
  ·rename_i cs' b;simp only [zzY] at h;subst h;obtain ⟨j,k⟩:=OH b;refine ⟨by simp [j],fun i c hi=>?_⟩;cases i with
   | zero=>simp at hi; exact ⟨t,rfl,.inl hi.symm⟩
   | succ i=>exact k i c (by simpa using hi)
  ·cases h
 | some m::e,t::f,cs,h=>by
  cases t <;> simp only [HN] at h <;> try cases h
  have key:∃ cs' g,HN e f=some cs'∧cs=g::cs'∧∃ n,g=⟨true,.list n []⟩∨g=⟨true,.xl n []⟩:=by
   split at h
   ·rename_i n cs' b;simp only [zzY] at h;exact ⟨_,_,b,h.symm,n,.inl rfl⟩
   ·rename_i n cs' b;simp only [zzY] at h;exact ⟨_,_,b,h.symm,n,.inr rfl⟩
   ·cases h
  obtain ⟨cs',g,b,rfl,l⟩:=key;obtain ⟨j,k⟩:=OH b;refine ⟨by simp [j],fun i c hi=>?_⟩;cases i with
  | zero=>simp at hi; subst hi; exact ⟨.nil,rfl,.inr ⟨rfl,l⟩⟩
  | succ i=>exact k i c (by simpa using hi)
theorem bW (z:AZ F0 w0 O a w G) (D:d<a.tmps.size) {x:Operand} {y:AL} {t:TypeId} {A:List (Option A1)} (k:o.op=.box t x) (l:AP x y=true) (h:(AJ.boxp A y).wp S O (some d) K):B2 P F0 w0 a w o d K:=by
 simp only [AJ.wp] at h;split at h
 ·rename_i u L hv f;simp only [zzY] at f;subst f;cases q:HN A u.cells with
  | none=>rw [q] at h; exact h.elim
  | some cs=>
   rw [q] at h;simp only [BA] at h;obtain ⟨s,H⟩:=h;obtain ⟨I,g⟩:=OH q;have B:=BR z l hv;have r:=Ja B.1;have E:=CN r.1;refine ⟨_,_,by simp [execOp,k,Instr.box,newVar,newRow],_,_,H,z.box D s (c:=(a.eval x).cells) (T:=t) (by rw [I]; simpa using E) (fun J m i c p=>?_) (fun c p=>?_)⟩
   ·obtain ⟨v,j,e⟩:=g i c p;have F:i<u.cells.length:=(List.getElem?_eq_some_iff.1 j).1;have C:(a.eval x).cells.toList[i]?=some ((a.eval x).cells.toList[i]'(by omega)):=List.getElem?_eq_getElem (by omega);have b:=((CP _ _).1 r.1).2 i v _ j C;refine ⟨(a.eval x).cells.toList[i]'(by omega),by rw [←Array.getElem?_toList]; exact C,?_⟩;rcases e with rfl | ⟨rfl,n,rfl | rfl⟩
    ·exact ⟨DG m _ _ b,r.2 _ (List.getElem_mem _)⟩
    ·simp only [A7] at b;simp only [C3,JI,C1];exact ⟨[],⟨by simp,.inl ⟨b,rfl,rfl⟩⟩,rfl,by simp,by simp⟩
    ·simp only [A7] at b;simp only [C3,JI];exact ⟨[],⟨none,⟨by simp,.inl ⟨b,rfl,rfl⟩⟩,rfl⟩,rfl,by simp,by simp⟩
   ·obtain ⟨i,hi⟩:=List.getElem?_of_mem p;obtain ⟨v,j,e⟩:=g i c hi;rcases e with rfl | ⟨rfl,n,rfl | rfl⟩
    ·exact CU.1 (Ka B.2) v (List.mem_of_getElem? j)
    ·simp [TV.WF,TV.WFs]
    ·simp [TV.WF,TV.WFs]
 ·exact h.elim
theorem Uy (h:AZ F0 w0 O a w G):∀ {i:Nat} {xs:List Operand} {g:List AL},DK xs g=true->∀ {e:QQ},OV O i g=some e->(∀ x,xs[i]?=some x->(a.eval x).oneCell'=true)->AS w (A3 w0.heap.size F0 G) e (xs.map a.eval)∧TV.WFs e
 | i,[],[],_,e,hv,_=>by cases i <;> simp [OV] at hv <;> subst hv <;> exact ⟨rfl,trivial⟩
 | _,[],_::_,b,_,_,_=>by simp [DK] at b
 | _,_::_,[],b,_,_,_=>by simp [DK] at b
 | 0,x::xs,y::g,b,e,hv,ho=>by
  simp only [DK,zzZ] at b;simp only [OV] at hv;split at hv
  ·rename_i j c;simp only [zzY] at hv;subst hv;have f:=KJ h b.2 c;exact ⟨⟨_,_,rfl,by simp only [A7]; exact ho x rfl,f.1⟩,trivial,f.2⟩
  ·cases hv
 | i+1,x::xs,y::g,b,e,hv,ho=>by
  simp only [DK,zzZ] at b;simp only [OV] at hv;split at hv
  ·rename_i t j m c;simp only [zzY] at hv;subst hv;have k:=BR h b.1 m;have f:=Uy h b.2 c (fun x l=>ho x (by simpa using l));exact ⟨⟨_,_,rfl,k.1,f.1⟩,k.2,f.2⟩
  ·cases hv
theorem AZ.reboxed (h:AZ F0 w0 O a w G) {s:Nat} {cs cs':List A1} (hs:O.get s=.bx cs) (hno:O.noX s none=true) {w':World} {zs:Option Nat->Option (Nat × Nat)} (B:R1 (G s) w w')
  (V:Om w' (fun b o=>(b<w.heap.size∧A3 w0.heap.size F0 G b o∧¬ ZF (G s) b o)∨ZF zs b o) zs cs' (slot a s))
  (hzu:∀ i L b lo f,zs i=some (b,lo)->zs L=some (b,f)->i=L) (W:∀ i b lo,zs i=some (b,lo)->b<w'.heap.size∧(w.heap.size<=b∨∃ j f,G s j=some (b,f)∧f<=lo)) (hw:∀ c∈cs',c.t.WF) :
  AZ F0 w0 ((s,.bx cs')::O) a w' (GX G s zs)∧∀ b o,A3 w0.heap.size F0 (GX G s zs) b o->b<w.heap.size->(b<w.heap.size∧A3 w0.heap.size F0 G b o∧¬ ZF (G s) b o)∨ZF zs b o:=by
 have hsz:s<a.tmps.size:=G7 h hs (by simp);have H:∀ p i b lo,GX G s zs p i=some (b,lo)->(p=s∧zs i=some (b,lo))∨(p≠s∧G p i=some (b,lo)):=by
  intro p i b lo z;by_cases q:p=s
  ·subst q; rw [CB] at z; exact .inl ⟨rfl,z⟩
  ·rw [B1 _ _ _ _ q] at z; exact .inr ⟨q,z⟩
 have I:∀ p i b lo,p≠s->G p i=some (b,lo)->∀ j f,G s j≠some (b,f):=fun p i b lo z g j f m=>z (h.uniq _ _ _ _ _ _ _ g m).1;have hE:∀ b o,b<w0.heap.size->ZF (G s) b o->w0.E b o:=fun b o l ⟨i,lo,g,m⟩=>(h.lt _ _ _ _ g).2.elim (fun e=>by omega) (fun e=>e o m);have A:∀ b o,A3 w0.heap.size F0 (GX G s zs) b o->(b<w0.heap.size∧F0 b o)∨(∃ p i lo,p≠s∧G p i=some (b,lo)∧lo<=o)∨ZF zs b o:=by
  rintro b o (g | ⟨p,i,lo,g,m⟩)
  ·exact .inl g
  ·rcases H _ _ _ _ g with ⟨_,e⟩ | ⟨F,C⟩
   ·exact .inr (.inr ⟨i,lo,e,m⟩)
   ·exact .inr (.inl ⟨p,i,lo,F,C,m⟩)
 have Q:∀ b o,A3 w0.heap.size F0 (GX G s zs) b o->b<w.heap.size->(b<w.heap.size∧A3 w0.heap.size F0 G b o∧¬ ZF (G s) b o)∨ZF zs b o:=by
  intro b o U l;rcases A b o U with g | ⟨p,i,lo,F,C,e3⟩ | g
  ·exact .inl ⟨l,.inl g,fun W=>h.below.free _ _ _ (hE b o g.1 W) g.2⟩
  ·exact .inl ⟨l,.inr ⟨p,i,lo,C,e3⟩,fun ⟨j,f,v,_⟩=>I p i b lo F C j f v⟩
  ·exact .inr g
 have Z:∀ b o,A3 w0.heap.size F0 (GX G s zs) b o->(b<w.heap.size∧A3 w0.heap.size F0 G b o∧¬ ZF (G s) b o)∨ZF zs b o:=by
  intro b o U;rcases Nat.lt_or_ge b w.heap.size with l | hge
  ·exact Q b o U l
  ·rcases A b o U with g | ⟨p,i,lo,_,C,_⟩ | g
   ·have:=h.below.size; omega
   ·have:=(h.lt _ _ _ _ C).1; omega
   ·exact .inr g
 have hag:DW w w' (A3 w0.heap.size F0 G) (A3 w0.heap.size F0 (GX G s zs)):=by
  intro b o u hc hF;have l:b<w.heap.size:=World.block_lt_of_cell? w ⟨b,o,none⟩ hc;have hnz:¬ ZF (G s) b o:=fun ⟨i,lo,g,m⟩=>hF (.inr ⟨s,i,lo,g,m⟩);refine ⟨B.cell b o u hnz hc,fun hF'=>?_⟩;rcases Q b o hF' l with ⟨_,g,_⟩ | ⟨i,lo,g,m⟩
  ·exact hF g
  ·rcases (W i b lo g).2 with J | ⟨j,f,J,h4⟩
   ·omega
   ·exact hnz ⟨j,f,J,Nat.le_trans h4 m⟩
 refine ⟨⟨?_,?_,?_,h.defers,?_,?_,?_⟩,Q⟩
 ·intro p i p' L b lo f F C;have mix:∀ p i L lo f,p≠s->G p i=some (b,lo)->zs L=some (b,f)->False:=by
   intro p i L lo f z v N;rcases (W L b f N).2 with J | ⟨j,lo2,J,_⟩
   ·have:=(h.lt _ _ _ _ v).1; omega
   ·exact I p i b lo z v j lo2 J
  rcases H _ _ _ _ F with ⟨rfl,v⟩ | ⟨n1,v⟩ <;> rcases H _ _ _ _ C with ⟨rfl,N⟩ | ⟨n2,N⟩
  ·exact ⟨rfl,hzu _ _ _ _ _ v N⟩
  ·exact (mix _ _ _ _ _ n2 N v).elim
  ·exact (mix _ _ _ _ _ n1 v N).elim
  ·exact h.uniq _ _ _ _ _ _ _ v N
 ·intro p i b lo F;rcases H _ _ _ _ F with ⟨rfl,v⟩ | ⟨n1,v⟩
  ·obtain ⟨g,m⟩:=W i b lo v;refine ⟨g,?_⟩;rcases m with m | ⟨j,f,m,J⟩
   ·exact .inl (Nat.le_trans h.below.size m)
   ·exact (h.lt _ _ _ _ m).2.imp id (fun e o ho=>e o (Nat.le_trans J ho))
  ·exact ⟨Nat.lt_of_lt_of_le (h.lt _ _ _ _ v).1 B.size,(h.lt _ _ _ _ v).2⟩
 ·refine h.below.trans B.os B.tape B.output B.size (fun k hk he=>B.block k (Nat.lt_of_lt_of_le hk h.below.size) (fun i lo y=>he lo (hE k lo hk ⟨i,lo,y,d3 _⟩))) (fun b o u l he hu=>B.cell b o u (fun y=>he (hE b o l y)) hu)
 ·intro p z;rw [AD.get_cons,d2 (by omega)]; exact h.dom p z
 ·intro p z;rw [AD.get_cons];by_cases q:s=p
  ·subst q;rw [d1 rfl];obtain ⟨b,c,T,g,m,J,h4,h5⟩:=V;simp only [AY];refine ⟨b,c,T,g,m,J,by rw [CB]; exact h4,fun i d hd=>?_⟩;obtain ⟨x,F,C⟩:=h5 i d hd;refine ⟨x,F,?_⟩;rw [CB];exact C.kept (fun b o u hc U=>⟨hc,fun hf'=>U (Z b o hf')⟩) (fun _ _ _=>rfl)
  ·rw [d2 q];refine AY.kept hag (fun i=>by rw [B1 _ _ _ _ (fun e=>q e.symm)]) (fun i b lo y=>B.block b (h.lt _ _ _ _ y).1 (I p i b lo (fun e=>q e.symm) y)) (fun r off _ ⟨cs2,M⟩=>?_) (fun r i X ⟨pp,D⟩=>?_) (h.slots p z)
   ·rw [AD.get_cons] at M;split at M
    ·rename_i e; subst e; exact ⟨⟨cs,hs⟩,rfl⟩
    ·exact ⟨⟨_,M⟩,rfl⟩
   ·by_cases R:s=r
    ·subst R;cases i with
     | none=>
      obtain ⟨n,es⟩:=pp;have:=AD.xat_none D;rw [AD.get_cons,d1 rfl] at this;cases this
     | some k=>
      have h5:=AD.noX_spec hno p k (.inl rfl);rcases X with X | ⟨c,X⟩
      ·exact absurd X h5.1
      ·exact absurd X (h5.2 c)
    ·rw [AD.xat_cons R] at D;exact ⟨⟨pp,D⟩,h.xv ⟨pp,D⟩ rfl (fun b Y=>B.block b (h.lt _ _ _ _ Y).1 (I r none b 0 (fun e=>R e.symm) Y))⟩
 ·intro p;rw [AD.get_cons];split
  ·exact hw
  ·exact h.wf p
theorem Zo (m:AZ F0 w0 O a w G) (hd:d<a.tmps.size) (F:o.dst=some d) {f:FuncId} {xs:Array Operand} {j:List AL} {Y:Array TypeId} {i:Nat} (Z:o.op=.call { callee:=.value (.func f),args:=xs,argTypes:=Y }) (H:DK xs.toList j=true) (h:(AJ.callb f j i).wp (AT P) O (some d) K)
  {next:Act->World->Prop} {Q:Exit->Act->World->Prop} (hn:∀ e env' a' w',K e env'->Q6 a d a'->DI F0 w0 ((d,e)::env') a' w'->next a' w'):o.wp P a w next Q:=by
 simp only [AJ.wp] at h;split at h
 ·rename_i d' s J q;simp only [zzY] at J;subst J;split at h
  ·rename_i cs X;obtain ⟨⟨hno,hds⟩,h⟩:=h;cases D:OV O i j with
   | none=>rw [D] at h; exact h.elim
   | some ts=>
    rw [D] at h;simp only [BA] at h;obtain ⟨cs',n,hS,hK⟩:=h;rw [Option.bind_eq_some_iff] at q;obtain ⟨y,hy,q⟩:=q;have hxi:∀ (xs:List Operand) (j:List AL) (i:Nat) (y:AL),DK xs j=true->j[i]?=some y->∃ x,xs[i]?=some x∧AP x y=true:=by
     intro xs
     induction xs with
     | nil=>intro j i y c k; cases j <;> simp [DK] at c k
     | cons x xs ih=>
      intro j i y c k;cases j with
      | nil=>simp [DK] at c
      | cons z j=>
       simp only [DK,zzZ] at c;cases i with
       | zero=>simp at k; subst k; exact ⟨x,rfl,c.1⟩
       | succ i=>exact ih j i y c.2 (by simpa using k)
    obtain ⟨x,hx,hxy⟩:=hxi _ _ _ _ H hy;obtain ⟨b,hsl,B⟩:=KV m hxy q X;have hv:=Uy m H D (fun x' I=>by rw [hx] at I; cases I; rw [B]; rfl);have L:=m.wf s;rw [X] at L;have hbx:=A9 m X (by simp);have A:∀ b o,A3 w0.heap.size F0 G b o↔((A3 w0.heap.size F0 G b o∧¬ ZF (G s) b o)∨ZF (G s) b o):=by
     intro b o;constructor
     ·intro v;by_cases hz:ZF (G s) b o
      ·exact .inr hz
      ·exact .inl ⟨v,hz⟩
     ·rintro (v | ⟨i,lo,c,k⟩)
      ·exact v.1
      ·exact .inr ⟨s,i,lo,c,k⟩
    have hF:(fun b o=>(A3 w0.heap.size F0 G b o∧¬ ZF (G s) b o)∨ZF (G s) b o)=A3 w0.heap.size F0 G:=by
     funext b o; exact propext (A b o).symm
    obtain ⟨k,h3⟩:=hS hv.2 L;have hbr:Om w (fun b o=>(A3 w0.heap.size F0 G b o∧¬ ZF (G s) b o)∨ZF (G s) b o) (G s) cs (slot a s):=by
     rw [hF]; exact hbx
    obtain ⟨⟨k1,k2⟩,k3⟩:=h3 (fun b o=>A3 w0.heap.size F0 G b o∧¬ ZF (G s) b o) w (xs.map a.eval) (slot a s) (G s) (by rw [hF]; simpa using hv.1)
     (by rw [Array.getElem?_map]; rw [←Array.getElem?_toList,hx]; simp only [Option.map_some]; rw [B,hsl]) hbr (fun i i' b lo lo' W e2=>(m.uniq _ _ _ _ _ _ _ W e2).2) (fun i b lo e=>(m.lt _ _ _ _ e).1)
     (by
      rintro b o o' ⟨i,lo,W,e2⟩ ⟨v,hnz⟩;by_cases hlo:lo<=o'
      ·exact hnz ⟨i,lo,W,hlo⟩
      ·exact O5 m b lo o' W (by omega) v)
    have M:(execOp a.eval o).run P w=(callFunc f (xs.map a.eval)).run P w:=by simp [execOp,Z,resolve,Act.eval,Deferred.ofValue,invoke]
    unfold Oper.wp;rw [M,I7 k _,Oper.upon_enter];refine k3.mono ?_;rintro e w' ⟨r,g,rfl,r1,r2,r3,r4,r5⟩;simp only [F];obtain ⟨V,C⟩:=m.reboxed X hno r1 r2 r3 r4 k1;refine hn _ _ _ _ (hK ⟨k1,k2⟩) ⟨_,rfl⟩ ?_;have N:∀ b o,A3 w0.heap.size F0 (GX (GX G s g) d fun _=>none) b o->(b<w.heap.size∧A3 w0.heap.size F0 G b o∧¬ ZF (G s) b o)∨ZF g b o:=by
     intro b o v;have R:A3 w0.heap.size F0 (GX G s g) b o:=A3.mono (fun p i b lo q=>by
      by_cases T:p=d
      ·subst T; rw [CB] at q; cases q
      ·rw [B1 _ _ _ _ T] at q; exact ⟨p,i,lo,q,d3 _⟩) v
     rcases Nat.lt_or_ge b w.heap.size with hlt | hge
     ·exact C b o R hlt
     ·rcases R with ⟨c,_⟩ | ⟨p,i,lo,c,k⟩
      ·have:=m.below.size; omega
      ·by_cases U:p=s
       ·subst U; rw [CB] at c; exact .inr ⟨i,lo,c,k⟩
       ·rw [B1 _ _ _ _ U] at c;have:=(m.lt _ _ _ _ c).1; omega
    have l:DW w' w' (fun b o=>(b<w.heap.size∧A3 w0.heap.size F0 G b o∧¬ ZF (G s) b o)∨ZF g b o) (A3 w0.heap.size F0 (GX (GX G s g) d fun _=>none)):=fun b o u hc v=>⟨hc,fun C=>v (N b o C)⟩;by_cases E:∃ t,n=[t]
    ·obtain ⟨t,rfl⟩:=E;exact V.tv (Below.refl _ _) d hd t r (DG l t r r5) k2.1
    ·have hof:EV.ofs n=.tp n:=by
      rcases n with _ | ⟨t,_ | ⟨t',n⟩⟩
      ·rfl
      ·exact absurd ⟨t,rfl⟩ E
      ·rfl
     have hur:∃ vs,r=.tuple vs∧AS w' (fun b o=>(b<w.heap.size∧A3 w0.heap.size F0 G b o∧¬ ZF (G s) b o)∨ZF g b o) n vs.toList:=by
      rcases n with _ | ⟨t,_ | ⟨t',n⟩⟩
      ·exact r5
      ·exact absurd ⟨t,rfl⟩ E
      ·exact r5
     obtain ⟨vs,rfl,hvs⟩:=hur;rw [hof];refine ⟨_,V.quiet (Below.refl _ _) d hd (.tp n) _ (fun _=>none) (by simp) (by simp) (by simp) ?_ k2⟩;simp only [AY];exact ⟨vs,rfl,BP l n _ hvs⟩
  ·exact h.elim
 ·exact h.elim
end
end Go.Sf
