/- Lists of one's own in the cells of boxes; what is lent to a reader; boxes that a callee changes. -/
import Derived.Test.YtlbmpkmkmkgniaaGreatDoorSfX
set_option linter.all false
namespace Go.Sf
open Go.RowKit (Below)
section
variable {P:Program} {S:FuncId->QQ->CS->Prop} {F0:Nat->Nat->Prop} {w0:W0} {O:AD} {a:Act} {w:World} {G:DT} {d:Nat} {o:Oper} {K:EV->AD->Prop}
variable {x:Operand} {y:AL} {t:TypeId}
theorem dW (m:AY F0 w0 O a w G) (E:d<a.tmps.size) (q:o.op=.load t x) (u:AR x y=true) (H:DV P t=some false) (h:(AJ.lac y).wp S O (some d) K):B3 P F0 w0 a w o d K:=by
 simp only [AJ.wp] at h;split at h
 ·rename_i s e g;have J:y.place O=some (s,e):=by
   cases y with
   | c t=>simp [AL.ev] at g
   | s n=>simp only [AL.ev] at g; simp only [AL.place,g]
  split at h
  ·rename_i p I;obtain ⟨n,es⟩:=p;obtain ⟨cs,C,L⟩:=AD.xat_some I;obtain ⟨b,k,l⟩:=KT m u J C;have B:=A9 m C (by simp);simp only [AX] at B;obtain ⟨N,c,T,z,D,R,U,M⟩:=B;rw [k] at z;simp only [Value.pointer.injEq,zzY,Addr.mk.injEq,and_true,and_self] at z;subst z;obtain ⟨v,hv,V⟩:=M e _ L;have i:w.cell? ⟨b,e,none⟩=some v:=by rw [cell_of_row w b e c T (0,0) D]; exact hv
   refine ⟨v,w,by simp [execOp,q,l,Instr.loadAt,Instr.sureAddr,loadVar,FV H,i],_,_,h,_,m.quiet (Below.refl _ _) d E (.la s (some e)) _ (fun _=>none) (by simp) (by simp) (by simp) ?_ trivial⟩;simp only [AX];rintro ⟨W,A⟩;have j:=AD.xat_drop (by simp) (by simp) A;exact m.xv ⟨_,j.2⟩ (BN _ _ _ _ j.1) (fun _ _=>rfl) _ ⟨b,c,T,k,D,hv⟩
  ·exact h.elim
 ·exact h.elim
theorem dQ (l:AY F0 w0 O a w G) (C:d<a.tmps.size) (m:o.op=.load t x) (p:AR x y=true) (D:DV P t=some false) (h:(AJ.ctk y).wp S O (some d) K):B3 P F0 w0 a w o d K:=by
 simp only [AJ.wp] at h;split at h
 ·rename_i M s g i E;simp only [zzY] at i;subst i;split at h
  ·rename_i cs q;split at h
   ·rename_i n es A;obtain ⟨u,H⟩:=h;obtain ⟨b,j,k⟩:=KT l p E q;have B:=A9 l q (by simp);simp only [AX] at B;obtain ⟨N,c,T,z,I,R,U,J⟩:=B;rw [j] at z;simp only [Value.pointer.injEq,zzY,Addr.mk.injEq,and_true,and_self] at z;subst z;obtain ⟨y,L,_⟩:=J g _ A;have e:w.cell? ⟨b,g,none⟩=some y:=by rw [cell_of_row w b g c T (0,0) I]; exact L
    exact ⟨y,w,by simp [execOp,m,k,Instr.loadAt,Instr.sureAddr,loadVar,FV D,e],_,_,H,l.takeCell q A C j e (.inr ⟨n,es,rfl,rfl,rfl,u⟩)⟩
   ·exact h.elim
  ·exact h.elim
 ·exact h.elim
theorem dP (u:AY F0 w0 O a w G) {x v:Operand} {x':AL} {q:Nat} (hop:o.op=.store t x v) (hx:AR x x'=true) (hv:AR v (.s q)=true) (hn:FK P t=some 1) (h:(AJ.cpt x' q).wp S O none K):NP P F0 w0 a w o K:=by
 simp only [AJ.wp] at h;split at h
 ·rename_i s l n es hp Z;split at h
  ·rename_i cs R;obtain ⟨hno,W,hK⟩:=h;obtain ⟨b,X,Y⟩:=KT u hx hp R;have hr:=A9 u R (by simp);simp only [AX] at hr;obtain ⟨N,c,T,h1,h2,h3,h4,h5⟩:=hr;rw [X] at h1;simp only [Value.pointer.injEq,zzY,Addr.mk.injEq,and_true,and_self] at h1;subst h1;have hw:=u.wf s;rw [R] at hw;have V:=u.wf q;rw [Z] at V;have A:q≠s:=fun e=>by rw [e,R] at Z; cases Z
   have hvq:v=.tmp q:=by
    cases v <;> simp [AR] at hv;rw [hv]
   subst hvq;have B:=A9 u Z (by simp);simp only [AX] at B;have J:(slot a q).oneCell'=true:=by
    obtain ⟨xs,⟨z0,k1,_⟩,_⟩:=B;rcases k1.2 with ⟨e,_⟩ | ⟨g,cap,cur,e,p,_⟩
    ·rw [e]; rfl
    ·rw [p]; rfl
   have C:(a.eval (.tmp q)).cells.toList=[slot a q]:=by
    have:a.eval (.tmp q)=slot a q:=rfl;rw [this,PW J]
   have hst:(execOp a.eval o).run P w=.ok .skip (w.setRow b (c.toList.take l++[slot a q]++c.toList.drop (l+1)).toArray):=by
    have D:=run_storeCells_at P b l T [slot a q] 0 c w h2 (by simp only [List.length_singleton]; omega) (by simpa using J);simp only [Nat.add_zero] at D;have hsz:(a.eval (.tmp q)).cells.size=1:=by rw [←Array.length_toList,C]; rfl
    simp only [List.length_singleton] at D;simp [execOp,hop,Y,Instr.storeAt,Instr.sureAddr,storeVar,D7 hn,hsz,C,D]
   let zs:Option Nat->Option (Nat × Nat):=fun i=>match i with | none=>some (b,0) | some j=>if j=l then G q none else G s (some j)
   refine Exists.elim (u.rebox R X h2 (cs':=cs.set l ⟨true,.xl n es⟩) (c':=(c.toList.take l++[slot a q]++c.toList.drop (l+1)).toArray) (q:=some q) (by simpa using A) (zs:=zs) rfl ?_ ?_ ?_ ?_ ?_ ?_) (fun G' h'=>⟨_,hst,_,hK,G',h'.1⟩)
   ·intro i N lo hi hz;cases i with
    | none=>exact absurd rfl hi
    | some j=>
     simp only [zs] at hz;split at hz
     ·exact .inr ⟨q,rfl,none,hz⟩
     ·exact .inl hz
   ·intro i i' N lo L p z;have zn:∀ j N lo L,zs (some j)=some (N,lo)->zs none=some (N,L)->False:=by
     intro j N lo L p z;simp only [zs,zzY,Prod.mk.injEq] at z;obtain ⟨rfl,_⟩:=z;simp only [zs] at p;split at p
     ·exact A (u.uniq _ _ _ _ _ _ _ p h4).1
     ·have:=(u.uniq _ _ _ _ _ _ _ p h4).2; cases this
    cases i with
    | none=>cases i' with
     | none=>rfl
     | some j=>exact (zn j _ _ _ z p).elim
    | some j=>cases i' with
     | none=>exact (zn j _ _ _ p z).elim
     | some j'=>
      simp only [zs] at p z;split at p <;> split at z
      ·rename_i e3 e4; rw [e3,e4]
      ·exact absurd (u.uniq _ _ _ _ _ _ _ p z).1 A
      ·exact absurd (u.uniq _ _ _ _ _ _ _ z p).1 A
      ·exact (u.uniq _ _ _ _ _ _ _ p z).2
   ·simp only [List.size_toArray,d4,d5,List.length_drop,Array.length_toList,List.length_singleton,List.length_set]; omega
   ·intro F' w' U I i y E;rw [List.getElem?_set] at E;by_cases hi:l=i
    ·subst hi;rw [d1 rfl,d1 W] at E;simp only [zzY] at E;subst E;refine ⟨slot a q,?_,?_⟩
     ·rw [List.getElem?_toArray,ea,List.getElem?_append_right (by simp; omega)];simp only [d5,Array.length_toList];rw [Nat.min_eq_left (by omega),Nat.sub_self];rfl
     ·simp only [C6,zs,if_true];obtain ⟨xs,k1,k2,k3,k4⟩:=B;exact ⟨xs,k1.kept (fun k lo H=>I k (fun e=>A (u.uniq _ _ _ _ _ _ _ (e ▸ H) h4).1)),BS U _ _ k2,k3,k4⟩
    ·rw [d2 hi] at E;obtain ⟨vv,p,z⟩:=h5 i y E;refine ⟨vv,?_,?_⟩
     ·rw [List.getElem?_toArray];rcases Nat.lt_or_ge i l with M | hge
      ·rw [ea,List.getElem?_append_left (by simp; omega),List.getElem?_take_of_lt M];simpa using p
      ·rw [List.getElem?_append_right (by simp; omega)];simp only [d4,d5,Array.length_toList,List.length_singleton];rw [Nat.min_eq_left (by omega),List.getElem?_drop,show l+1+(i - (l+1))=i from by omega];simpa using p
     ·have hi':¬ i=l:=fun e=>hi e.symm;simp only [zs]; rw [d2 hi'];exact z.kept U (fun k lo H=>I k (fun e=>by have:=(u.uniq _ _ _ _ _ _ _ (e ▸ H) h4).2; cases this))
   ·intro y E;rcases List.mem_or_eq_of_mem_set E with E | rfl
    ·exact hw y E
    ·exact V
   ·intro k m es' H;rw [List.getElem?_set] at H;by_cases hi:l=k
    ·subst hi; exact .inl hno
    ·rw [d2 hi] at H;refine .inr ⟨⟨(m,es'),by simp only [AD.xat,R,H]⟩,?_⟩;have hkc:k<c.size:=by
      have:=(List.getElem?_eq_some_iff.1 H).1; omega
     rw [List.getElem?_toArray];rcases Nat.lt_or_ge k l with M | hge
     ·rw [ea,List.getElem?_append_left (by simp; omega),List.getElem?_take_of_lt M,Array.getElem?_toList]
     ·rw [List.getElem?_append_right (by simp; omega)];simp only [d4,d5,Array.length_toList,List.length_singleton];rw [Nat.min_eq_left (by omega),List.getElem?_drop,show l+1+(k - (l+1))=k from by omega,Array.getElem?_toList]
  ·exact h.elim
 ·exact h.elim
variable {s n:Nat}
theorem dR (z:AY F0 w0 O a w G) (hd:d<a.tmps.size) {hi:Operand} {D:AL} (hop:o.op=.slice t (.tmp s) none (some hi) none) (hh:AR hi D=true) (p:LU P t=some n) (h:(AJ.cut n s D).wp S O (some d) K):B3 P F0 w0 a w o d K:=by
 simp only [AJ.wp] at h;split at h
 ·rename_i d' m es k hb J Y hv;simp only [zzY] at J;subst J;obtain ⟨⟨hm,V,W⟩,h0,h2,hK⟩:=h;subst hm;have hr:=A9 z Y (by simp);have Z:=z.wf s;rw [Y] at Z;simp only [AX] at hr;obtain ⟨xs,⟨z0,k1,k2⟩,k3,k4,k5⟩:=hr;have b2:=(BU z hh hv).1;simp only [A7] at b2;unfold LU at p;split at p
  ·rename_i e hu;obtain ⟨j,rfl⟩:∃ j:Nat,hb=j:=⟨hb.toNat,by omega⟩;simp only [Int.toNat_natCast] at hK;have R:j<=es.length:=by omega
   have hlx:=k1.1;have key:∀ (X:Option Addr) (cap:Nat),slot a s=.slice X es.length cap->es.length<=cap->(execOp a.eval o).run P w=.ok (.value (.slice (if cap=0 then X else X.map (·.add (0*m))) (j - 0) (cap - 0))) w:=by
    intro X cap L M;have T:=Qq (P:=P) (w:=w) (isS:=true) (lo:=none) (hi:=some (a.eval hi)) (l:=0) (h:=(j:Int)) (len:=es.length) (cap:=cap) (by omega) (by omega) h2 M (.inl ⟨rfl,rfl⟩) (.inr ⟨k,by rw [b2]⟩);simp [execOp,hop,Instr.sliceAt,Instr.slice,run_underlying hu,show a.eval (.tmp s)=slot a s from rfl,L,T,D7 p]
   have u:∀ A B env' (C:Act) (v:Value),D0 w w (A2 w0.heap.size F0 G) A->B d none=G s none->K5 w m v (es.take j).length (xs.take (j*m)) (G s none)->AX C w A B env' d (.xo m (es.take j)) v:=by
    intro A B env' C v q I E;simp only [AX];rw [I];refine ⟨xs.take (j*m),E,?_,fun e he=>k4 e (List.mem_of_mem_take he),fun x E=>k5 x (List.mem_of_mem_take E)⟩;have hfl:∀ (l:QQ) (j:Nat),(∀ e∈l,e.cells.length=m)->(l.take j).flatMap TV.cells=(l.flatMap TV.cells).take (j*m):=by
     intro l
     induction l with
     | nil=>intro j _; simp
     | cons e l ih=>
      intro j N;cases j with
      | zero=>simp
      | succ j=>
       rw [List.take_succ_cons,List.flatMap_cons,List.flatMap_cons,ih j (fun x E=>N x (by simp [E])),List.take_append,N e (by simp)];have h1:(j+1)*m=m+j*m:=by rw [Nat.add_mul]; omega
       have h2:e.cells.take (m+j*m)=e.cells:=List.take_of_length_le (by rw [N e (by simp)]; omega);rw [h1,h2,show m+j*m - m=j*m from by omega]
    rw [hfl es j k4];have:=(CP _ _).1 (BS q _ _ k3);rw [CP];refine ⟨by rw [d5,d5,this.1],fun i t v p hv=>?_⟩;rw [List.getElem?_take] at p hv;split at p
    ·rename_i hlt; rw [d1 hlt] at hv; exact this.2 i t v p hv
    ·cases p
   have U:(EV.xo m (es.take j)).WF:=by
    simp only [EV.WF,TV.WF] at Z ⊢;refine ⟨by simp only [d5]; omega,?_⟩;rw [CW] at Z ⊢;exact fun t p=>Z.2 t (List.mem_of_mem_take p)
   have hjm:j*m<=es.length*m:=Nat.mul_le_mul_right _ R;rcases k1.2 with ⟨L,M,e3⟩ | ⟨g,cap,cur,ty,L,M,e3,e4,e5,e6,e7⟩
   ·have hes:es=[]:=List.eq_nil_of_length_eq_zero M;subst hes;have hj:j=0:=by simpa using R
    subst hj;refine ⟨_,w,key none 0 (by simpa using L) (by simp),_,_,hK,z.xgo Y hd W (z':=G s none) rfl rfl rfl (d3 _) (fun _ _ _=>rfl) (fun b lo H=>⟨(z.lt _ _ _ _ H).1,.inr ⟨lo,H⟩⟩) (by simp) (fun _=>V) (fun A B env' C q I=>u A B env' C _ q I ?_) U⟩;refine ⟨none,⟨by simp,.inl ⟨by simp,by simp,rfl⟩⟩,?_⟩;rw [k2,e3]
   ·refine ⟨_,w,key _ _ L e3,_,_,hK,z.xgo Y hd W (z':=G s none) rfl rfl rfl (d3 _) (fun _ _ _=>rfl) (fun b lo H=>⟨(z.lt _ _ _ _ H).1,.inr ⟨lo,H⟩⟩) (by simp) (fun _=>V) (fun A B env' C q I=>u A B env' C _ q I ?_) U⟩;have N:(es.take j).length=j:=by rw [d5]; omega
    rw [N];refine ⟨some (g,j*m),⟨by rw [d5,hlx]; omega,.inr ⟨g,cap,cur,ty,?_,M,by omega,e4,e5,?_,rfl⟩⟩,?_⟩
    ·simp only [Nat.zero_mul,Nat.sub_zero,Option.map_some,Addr.add_zero'];split <;> rfl
    ·rw [←e6,List.take_take,Nat.min_eq_left hjm]
    ·rw [k2,e7]; rfl
  ·cases p
 ·exact h.elim
variable {F:Nat->Nat->Prop} {v:Value}
theorem Vb {es:QQ} {xs:List Value} {z:Option (Nat × Nat)} (h:K5 w n v es.length xs z) (g:AS w F (es.flatMap TV.cells) xs) (i:∀ e∈es,e.cells.length=n) (j:∀ x∈xs,x.oneCell'=true):A7 w (fun _ _=>False) (.list n es) v:=by
 obtain ⟨l,m,_⟩:=h;refine C3.rep (z:=l) ?_ (fun _ _ _ _ _ h=>h);simp only [C3];exact ⟨xs,m,BS (fun b o u k _=>⟨k,fun h=>h⟩) _ _ g,i,j⟩
theorem UY:D0 w w F (fun _ _=>False):=fun _ _ _ b _=>⟨b,fun h=>h⟩
variable {c:At}
theorem ff (h:c.t.WF):c.lent.WF:=by
 obtain ⟨_ | _,t⟩:=c
 ·exact h
 ·cases t <;> exact h
theorem cb (e:AY F0 w0 O a w G) {i:Option Nat} {x:Value} (h:C6 w (A2 w0.heap.size F0 G) (G s i) c x):A7 w (fun _ _=>False) c.lent x:=by
 by_cases b:∃ n es,c=⟨true,.xl n es⟩
 ·obtain ⟨n,es,rfl⟩:=b;simp only [C6,JE] at h;obtain ⟨xs,g,j,k,l⟩:=h;exact Vb g j k l
 ·have:c.lent=c.t:=by
   obtain ⟨_ | _,t⟩:=c
   ·rfl
   ·cases t <;> first | rfl | exact absurd ⟨_,_,rfl⟩ b
  rw [this];exact DH UY _ _ (S3 e h)
theorem WZ (m:AY F0 w0 O a w G) {cs:List At} (q:O.get s=.bx cs) {b:Nat} (k:slot a s=.pointer (some ⟨b,0,none⟩)) (e:Nat):EN w (fun _ _=>False) ((cs.drop e).map At.lent) b e:=by
 have j:=A9 m q (by simp);simp only [AX] at j;obtain ⟨B,c,T,l,u,C,D,z⟩:=j;rw [k] at l;simp only [Value.pointer.injEq,zzY,Addr.mk.injEq,and_true,and_self] at l;subst l;rw [GU];intro i t p;simp only [List.getElem?_map,List.getElem?_drop,Option.map_eq_some_iff] at p;obtain ⟨cell,g,rfl⟩:=p;obtain ⟨x,A,j⟩:=z _ cell g;exact ⟨x,by rw [cell_of_row w b (e+i) c T (0,0) u]; exact A,fun h=>h,ML j,cb m j⟩
theorem Wa {cs:List At} (h:∀ c∈cs,c.t.WF):TV.WFs (cs.map At.lent):=by
 rw [CW];intro t b;obtain ⟨c,e,rfl⟩:=List.mem_map.1 b;exact ff (h c e)
theorem ce (g:AY F0 w0 O a w G) (i:AR x y=true) {t:TV} (h:y.lval O=some t):A7 w (fun _ _=>False) t (a.eval x)∧t.WF:=by
 unfold AL.lval at h;split at h
 ·rename_i p E;simp only [zzY] at h;subst h;obtain ⟨m,B⟩:=NK g i E;obtain ⟨k,xs,H,I,J,L⟩:=Nj g m B;exact ⟨Vb H I J L,k⟩
 ·have C:∀ e,y.ev O=e->(∀ t,e≠.tv t)->∃ n,y=.s n∧x=.tmp n∧O.get n=e:=by
   intro e l A;cases y with
   | c t=>exact absurd l.symm (A t)
   | s n=>
    cases x <;> simp [AR] at i;subst i;exact ⟨_,rfl,rfl,l⟩
  split at h
  ·rename_i cs l;simp only [zzY] at h;subst h;obtain ⟨n,rfl,rfl,j⟩:=C _ l (by simp);have z:=A9 g j (by simp);have k:=g.wf n;rw [j] at k;simp only [AX] at z;obtain ⟨b,c,T,m,_⟩:=z;refine ⟨?_,Wa k⟩;simp only [A7];exact ⟨b,0,m,by simpa using WZ g j m 0⟩
  ·rename_i q u l;split at h
   ·rename_i cs j;simp only [zzY] at h;subst h;obtain ⟨n,rfl,rfl,M⟩:=C _ l (by simp);have z:=A9 g M (by simp);simp only [AX] at z;obtain ⟨b,m,B⟩:=z ⟨cs,j⟩;have k:=g.wf q;rw [j] at k;refine ⟨?_,Wa (fun c D=>k c (List.mem_of_mem_drop D))⟩;simp only [A7];exact ⟨b,u,B,WZ g j m u⟩
   ·cases h
  ·have:=BU g i (t:=t) h;exact ⟨DH UY _ _ this.1,this.2⟩
theorem VC (h:AY F0 w0 O a w G):∀ {xs:List Operand} {ys:List AL},DL xs ys=true->∀ {e:QQ},lvals O ys=some e->AS w (fun _ _=>False) e (xs.map a.eval)∧TV.WFs e
 | [],[],_,e,hv=>by simp [lvals] at hv; subst hv; exact ⟨rfl,trivial⟩
 | [],_::_,b,_,_=>by simp [DL] at b
 | _::_,[],b,_,_=>by simp [DL] at b
 | x::xs,y::ys,b,e,hv=>by
  simp only [DL,zzZ] at b;simp only [lvals] at hv;split at hv
  ·rename_i t k l g;simp only [zzY] at hv;subst hv;have i:=ce h b.1 l;have j:=VC h b.2 g;exact ⟨⟨_,_,rfl,i.1,j.1⟩,i.2,j.2⟩
  ·cases hv
variable {r:CS}
theorem bF {w':World} {F i:Nat->Nat->Prop} {base:Nat} (b:r.lends=true) (h:Ju w' F base r v):Ju w' i base r v:=by
 cases r with
 | sh t=>exact W9 t b v h
 | tp p=>obtain ⟨vs,e,g⟩:=h; exact ⟨vs,e,KB p b _ g⟩
 | own t=>
  obtain ⟨z,e,g⟩:=h;refine ⟨z,?_,g⟩;cases t <;> simp only [CS.lends,Bool.false_eq_true] at b;simp only [C3] at e ⊢;obtain ⟨xs,j,k,l,m⟩:=e;exact ⟨xs,j,KB _ (OH _ b) _ k,l,m⟩
 | _=>simp [CS.lends] at b
theorem Xn (h:r.lends=true):r.plain=true:=by
 cases r <;> first | rfl | (simp [CS.lends] at h)
variable {f:FuncId} {ys:List AL} {ats:Array TypeId} {Q:Exit->Act->World->Prop}
theorem Zn (p:AY F0 w0 O a w G) (z:d<a.tmps.size) (g:o.dst=some d) {xs:Array Operand} (j:o.op=.call { callee:=.value (.func f),args:=xs,argTypes:=ats }) (k:DL xs.toList ys=true) (h:(AJ.calll f ys).wp (AU P) O (some d) K)
  {next:Act->World->Prop} (A:∀ e env' l w',K e env'->Q1 a d l->DJ F0 w0 ((d,e)::env') l w'->next l w'):o.wp P a w next Q:=by
 simp only [AJ.wp] at h;cases b:lvals O ys with
 | none=>rw [b] at h; exact h.elim
 | some I=>
  rw [b] at h;simp only [BB] at h;obtain ⟨r,⟨B,q⟩,C⟩:=h;have hv:=VC p k b;have i:(execOp a.eval o).run P w=(callFunc f (xs.map a.eval)).run P w:=by simp [execOp,j,resolve,Act.eval,Deferred.ofValue,invoke]
  obtain ⟨D,m⟩:=(B.to0 (Xn q)) hv.2;obtain ⟨u,m⟩:=m (fun _ _=>False) w (xs.map a.eval) (by simpa using hv.1);unfold Oper.wp;rw [i,I4 D _,Oper.upon_enter];refine m.mono ?_;rintro e w' ⟨v,rfl,E,H⟩;simp only [g];exact A _ _ _ _ (C u) ⟨_,rfl⟩ (p.called z E (bF q H) u)
theorem OG:∀ {e:List (Option At)} {g:QQ} {cs:List At},HQ e g=some cs->cs.length=g.length∧∀ (i:Nat) (c:At),cs[i]?=some c->∃ t,g[i]?=some t∧(c=⟨false,t⟩∨(t=.nil∧∃ n,c=⟨true,.list n []⟩∨c=⟨true,.xl n []⟩))
 | [],[],cs,h=>by simp [HQ] at h; subst h; simp
 | [],_::_,cs,h=>by simp [HQ] at h
 | none::e,[],cs,h=>by simp [HQ] at h
 | some _::e,[],cs,h=>by simp [HQ] at h
 | none::e,t::g,cs,h=>by
  simp only [HQ] at h;split at h
  ·rename_i cs' b;simp only [zzY] at h;subst h;obtain ⟨k,l⟩:=OG b;refine ⟨by simp [k],fun i c hi=>?_⟩;cases i with
   | zero=>simp at hi; exact ⟨t,rfl,.inl hi.symm⟩
   | succ i=>exact l i c (by simpa using hi)
  ·cases h
 | some p::e,t::g,cs,h=>by
  cases t <;> simp only [HQ] at h <;> try cases h
  have key:∃ cs' j,HQ e g=some cs'∧cs=j::cs'∧∃ n,j=⟨true,.list n []⟩∨j=⟨true,.xl n []⟩:=by
   split at h
   ·rename_i n cs' b;simp only [zzY] at h;exact ⟨_,_,b,h.symm,n,.inl rfl⟩
   ·rename_i n cs' b;simp only [zzY] at h;exact ⟨_,_,b,h.symm,n,.inr rfl⟩
   ·cases h
  obtain ⟨cs',j,b,rfl,m⟩:=key;obtain ⟨k,l⟩:=OG b;refine ⟨by simp [k],fun i c hi=>?_⟩;cases i with
  | zero=>simp at hi; subst hi; exact ⟨.nil,rfl,.inr ⟨rfl,m⟩⟩
  | succ i=>exact l i c (by simpa using hi)
theorem bS (D:AY F0 w0 O a w G) (J:d<a.tmps.size) {E:List (Option At)} (l:o.op=.box t x) (m:AR x y=true) (h:(AJ.boxp E y).wp S O (some d) K):B3 P F0 w0 a w o d K:=by
 simp only [AJ.wp] at h;split at h
 ·rename_i u V hv g;simp only [zzY] at g;subst g;cases z:HQ E u.cells with
  | none=>rw [z] at h; exact h.elim
  | some cs=>
   rw [z] at h;simp only [BB] at h;obtain ⟨B,N⟩:=h;obtain ⟨R,j⟩:=OG z;have H:=BU D m hv;have A:=JW H.1;have L:=CN A.1;refine ⟨_,_,by simp [execOp,l,Instr.box,newVar,newRow],_,_,N,D.box J B (c:=(a.eval x).cells) (T:=t) (by rw [R]; simpa using L) (fun U p i c q=>?_) (fun c q=>?_)⟩
   ·obtain ⟨C,k,e⟩:=j i c q;have M:i<u.cells.length:=(List.getElem?_eq_some_iff.1 k).1;have I:(a.eval x).cells.toList[i]?=some ((a.eval x).cells.toList[i]'(by omega)):=List.getElem?_eq_getElem (by omega);have b:=((CP _ _).1 A.1).2 i C _ k I;refine ⟨(a.eval x).cells.toList[i]'(by omega),by rw [←Array.getElem?_toList]; exact I,?_⟩;rcases e with rfl | ⟨rfl,n,rfl | rfl⟩
    ·exact ⟨DH p _ _ b,A.2 _ (List.getElem_mem _)⟩
    ·simp only [A7] at b;simp only [C6,JE,C3];exact ⟨[],⟨by simp,.inl ⟨b,rfl,rfl⟩⟩,rfl,by simp,by simp⟩
    ·simp only [A7] at b;simp only [C6,JE];exact ⟨[],⟨none,⟨by simp,.inl ⟨b,rfl,rfl⟩⟩,rfl⟩,rfl,by simp,by simp⟩
   ·obtain ⟨i,hi⟩:=List.getElem?_of_mem q;obtain ⟨C,k,e⟩:=j i c hi;rcases e with rfl | ⟨rfl,n,rfl | rfl⟩
    ·exact CW.1 (KY H.2) C (List.mem_of_getElem? k)
    ·simp [TV.WF,TV.WFs]
    ·simp [TV.WF,TV.WFs]
 ·exact h.elim
theorem Up (j:AY F0 w0 O a w G):∀ {i:Nat} {xs:List Operand} {ys:List AL},DL xs ys=true->∀ {g:QQ},OU O i ys=some g->(∀ x,xs[i]?=some x->(a.eval x).oneCell'=true)->AS w (A2 w0.heap.size F0 G) g (xs.map a.eval)∧TV.WFs g
 | i,[],[],_,g,hv,_=>by cases i <;> simp [OU] at hv <;> subst hv <;> exact ⟨rfl,trivial⟩
 | _,[],_::_,b,_,_,_=>by simp [DL] at b
 | _,_::_,[],b,_,_,_=>by simp [DL] at b
 | 0,x::xs,y::ys,b,g,hv,ho=>by
  simp only [DL,zzZ] at b;simp only [OU] at hv;split at hv
  ·rename_i k e;simp only [zzY] at hv;subst hv;have h:=KH j b.2 e;exact ⟨⟨_,_,rfl,by simp only [A7]; exact ho x rfl,h.1⟩,trivial,h.2⟩
  ·cases hv
 | i+1,x::xs,y::ys,b,g,hv,ho=>by
  simp only [DL,zzZ] at b;simp only [OU] at hv;split at hv
  ·rename_i t k p e;simp only [zzY] at hv;subst hv;have l:=BU j b.1 p;have h:=Up j b.2 e (fun x m=>ho x (by simpa using m));exact ⟨⟨_,_,rfl,l.1,h.1⟩,l.2,h.2⟩
  ·cases hv
theorem AY.reboxed (h:AY F0 w0 O a w G) {cs cs':List At} (hs:O.get s=.bx cs) (hno:O.noX s none=true) {w':World} {zs:Option Nat->Option (Nat × Nat)} (H:SP (G s) w w')
  (hbox:Oj w' (fun b o=>(b<w.heap.size∧A2 w0.heap.size F0 G b o∧¬ ZF (G s) b o)∨ZF zs b o) zs cs' (slot a s))
  (hzu:∀ i U b lo g,zs i=some (b,lo)->zs U=some (b,g)->i=U) (hz:∀ i b lo,zs i=some (b,lo)->b<w'.heap.size∧(w.heap.size<=b∨∃ j g,G s j=some (b,g)∧g<=lo)) (hw:∀ c∈cs',c.t.WF) :
  AY F0 w0 ((s,.bx cs')::O) a w' (G0 G s zs)∧∀ b o,A2 w0.heap.size F0 (G0 G s zs) b o->b<w.heap.size->(b<w.heap.size∧A2 w0.heap.size F0 G b o∧¬ ZF (G s) b o)∨ZF zs b o:=by
 have hsz:s<a.tmps.size:=G9 h hs (by simp);have M:∀ p i b lo,G0 G s zs p i=some (b,lo)->(p=s∧zs i=some (b,lo))∨(p≠s∧G p i=some (b,lo)):=by
  intro p i b lo C;by_cases z:p=s
  ·subst z; rw [CD] at C; exact .inl ⟨rfl,C⟩
  ·rw [B2 _ _ _ _ z] at C; exact .inr ⟨z,C⟩
 have N:∀ p i b lo,p≠s->G p i=some (b,lo)->∀ j g,G s j≠some (b,g):=fun p i b lo C l j g q=>C (h.uniq _ _ _ _ _ _ _ l q).1;have hE:∀ b o,b<w0.heap.size->ZF (G s) b o->w0.E b o:=fun b o m ⟨i,lo,l,q⟩=>(h.lt _ _ _ _ l).2.elim (fun e=>by omega) (fun e=>e o q);have D:∀ b o,A2 w0.heap.size F0 (G0 G s zs) b o->(b<w0.heap.size∧F0 b o)∨(∃ p i lo,p≠s∧G p i=some (b,lo)∧lo<=o)∨ZF zs b o:=by
  rintro b o (l | ⟨p,i,lo,l,q⟩)
  ·exact .inl l
  ·rcases M _ _ _ _ l with ⟨_,e⟩ | ⟨L,I⟩
   ·exact .inr (.inr ⟨i,lo,e,q⟩)
   ·exact .inr (.inl ⟨p,i,lo,L,I,q⟩)
 have X:∀ b o,A2 w0.heap.size F0 (G0 G s zs) b o->b<w.heap.size->(b<w.heap.size∧A2 w0.heap.size F0 G b o∧¬ ZF (G s) b o)∨ZF zs b o:=by
  intro b o Z m;rcases D b o Z with l | ⟨p,i,lo,L,I,e3⟩ | l
  ·exact .inl ⟨m,.inl l,fun hz=>h.below.free _ _ _ (hE b o l.1 hz) l.2⟩
  ·exact .inl ⟨m,.inr ⟨p,i,lo,I,e3⟩,fun ⟨j,g,A,_⟩=>N p i b lo L I j g A⟩
  ·exact .inr l
 have hall:∀ b o,A2 w0.heap.size F0 (G0 G s zs) b o->(b<w.heap.size∧A2 w0.heap.size F0 G b o∧¬ ZF (G s) b o)∨ZF zs b o:=by
  intro b o Z;rcases Nat.lt_or_ge b w.heap.size with m | hge
  ·exact X b o Z m
  ·rcases D b o Z with l | ⟨p,i,lo,_,I,_⟩ | l
   ·have:=h.below.size; omega
   ·have:=(h.lt _ _ _ _ I).1; omega
   ·exact .inr l
 have hag:D0 w w' (A2 w0.heap.size F0 G) (A2 w0.heap.size F0 (G0 G s zs)):=by
  intro b o u hc hF;have m:b<w.heap.size:=World.block_lt_of_cell? w ⟨b,o,none⟩ hc;have hnz:¬ ZF (G s) b o:=fun ⟨i,lo,l,q⟩=>hF (.inr ⟨s,i,lo,l,q⟩);refine ⟨H.cell b o u hnz hc,fun hF'=>?_⟩;rcases X b o hF' m with ⟨_,l,_⟩ | ⟨i,lo,l,q⟩
  ·exact hF l
  ·rcases (hz i b lo l).2 with R | ⟨j,g,R,h4⟩
   ·omega
   ·exact hnz ⟨j,g,R,Nat.le_trans h4 q⟩
 refine ⟨⟨?_,?_,?_,h.defers,?_,?_,?_⟩,X⟩
 ·intro p i p' U b lo g L I;have mix:∀ p i U lo g,p≠s->G p i=some (b,lo)->zs U=some (b,g)->False:=by
   intro p i U lo g C A W;rcases (hz U b g W).2 with R | ⟨j,lo2,R,_⟩
   ·have:=(h.lt _ _ _ _ A).1; omega
   ·exact N p i b lo C A j lo2 R
  rcases M _ _ _ _ L with ⟨rfl,A⟩ | ⟨n1,A⟩ <;> rcases M _ _ _ _ I with ⟨rfl,W⟩ | ⟨n2,W⟩
  ·exact ⟨rfl,hzu _ _ _ _ _ A W⟩
  ·exact (mix _ _ _ _ _ n2 W A).elim
  ·exact (mix _ _ _ _ _ n1 A W).elim
  ·exact h.uniq _ _ _ _ _ _ _ A W
 ·intro p i b lo L;rcases M _ _ _ _ L with ⟨rfl,A⟩ | ⟨n1,A⟩
  ·obtain ⟨l,q⟩:=hz i b lo A;refine ⟨l,?_⟩;rcases q with q | ⟨j,g,q,R⟩
   ·exact .inl (Nat.le_trans h.below.size q)
   ·exact (h.lt _ _ _ _ q).2.imp id (fun e o ho=>e o (Nat.le_trans R ho))
  ·exact ⟨Nat.lt_of_lt_of_le (h.lt _ _ _ _ A).1 H.size,(h.lt _ _ _ _ A).2⟩
 ·refine h.below.trans H.os H.tape H.output H.size (fun k hk he=>H.block k (Nat.lt_of_lt_of_le hk h.below.size) (fun i lo B=>he lo (hE k lo hk ⟨i,lo,B,d3 _⟩))) (fun b o u m he hu=>H.cell b o u (fun B=>he (hE b o m B)) hu)
 ·intro p C;rw [AD.get_cons,d2 (by omega)]; exact h.dom p C
 ·intro p C;rw [AD.get_cons];by_cases z:s=p
  ·subst z;rw [d1 rfl];obtain ⟨b,c,T,l,q,R,h4,h5⟩:=hbox;simp only [AX];refine ⟨b,c,T,l,q,R,by rw [CD]; exact h4,fun i d hd=>?_⟩;obtain ⟨x,L,I⟩:=h5 i d hd;refine ⟨x,L,?_⟩;rw [CD];exact I.kept (fun b o u hc Z=>⟨hc,fun hf'=>Z (hall b o hf')⟩) (fun _ _ _=>rfl)
  ·rw [d2 z];refine AX.kept hag (fun i=>by rw [B2 _ _ _ _ (fun e=>z e.symm)]) (fun i b lo B=>H.block b (h.lt _ _ _ _ B).1 (N p i b lo (fun e=>z e.symm) B)) (fun r off _ ⟨cs2,V⟩=>?_) (fun r i hr ⟨pp,J⟩=>?_) (h.slots p C)
   ·rw [AD.get_cons] at V;split at V
    ·rename_i e; subst e; exact ⟨⟨cs,hs⟩,rfl⟩
    ·exact ⟨⟨_,V⟩,rfl⟩
   ·by_cases Y:s=r
    ·subst Y;cases i with
     | none=>
      obtain ⟨n,es⟩:=pp;have:=AD.xat_none J;rw [AD.get_cons,d1 rfl] at this;cases this
     | some k=>
      have h5:=AD.noX_spec hno p k (.inl rfl);rcases hr with hr | ⟨c,hr⟩
      ·exact absurd hr h5.1
      ·exact absurd hr (h5.2 c)
    ·rw [AD.xat_cons Y] at J;exact ⟨⟨pp,J⟩,h.xv ⟨pp,J⟩ rfl (fun b hb'=>H.block b (h.lt _ _ _ _ hb').1 (N r none b 0 (fun e=>Y e.symm) hb'))⟩
 ·intro p;rw [AD.get_cons];split
  ·exact hw
  ·exact h.wf p
theorem Zj (m:AY F0 w0 O a w G) (hd:d<a.tmps.size) (J:o.dst=some d) {xs:Array Operand} {i:Nat} (hop:o.op=.call { callee:=.value (.func f),args:=xs,argTypes:=ats }) (L:DL xs.toList ys=true) (h:(AJ.callb f ys i).wp (AU P) O (some d) K)
  {next:Act->World->Prop} (hn:∀ e env' a' w',K e env'->Q1 a d a'->DJ F0 w0 ((d,e)::env') a' w'->next a' w'):o.wp P a w next Q:=by
 simp only [AJ.wp] at h;split at h
 ·rename_i d' s N A;simp only [zzY] at N;subst N;split at h
  ·rename_i cs hs;obtain ⟨⟨hno,hds⟩,h⟩:=h;cases H:OU O i ys with
   | none=>rw [H] at h; exact h.elim
   | some ts=>
    rw [H] at h;simp only [BB] at h;obtain ⟨cs',q,hS,hK⟩:=h;rw [Option.bind_eq_some_iff] at A;obtain ⟨y,hy,A⟩:=A;have hxi:∀ (xs:List Operand) (ys:List AL) (i:Nat) (y:AL),DL xs ys=true->ys[i]?=some y->∃ x,xs[i]?=some x∧AR x y=true:=by
     intro xs
     induction xs with
     | nil=>intro ys i y g k; cases ys <;> simp [DL] at g k
     | cons x xs ih=>
      intro ys i y g k;cases ys with
      | nil=>simp [DL] at g
      | cons z ys=>
       simp only [DL,zzZ] at g;cases i with
       | zero=>simp at k; subst k; exact ⟨x,rfl,g.1⟩
       | succ i=>exact ih ys i y g.2 (by simpa using k)
    obtain ⟨x,hx,hxy⟩:=hxi _ _ _ _ L hy;obtain ⟨b,hsl,D⟩:=KT m hxy A hs;have hv:=Up m L H (fun x' M=>by rw [hx] at M; cases M; rw [D]; rfl);have R:=m.wf s;rw [hs] at R;have hbx:=A9 m hs (by simp);have C:∀ b o,A2 w0.heap.size F0 G b o↔((A2 w0.heap.size F0 G b o∧¬ ZF (G s) b o)∨ZF (G s) b o):=by
     intro b o;constructor
     ·intro B;by_cases hz:ZF (G s) b o
      ·exact .inr hz
      ·exact .inl ⟨B,hz⟩
     ·rintro (B | ⟨i,lo,g,k⟩)
      ·exact B.1
      ·exact .inr ⟨s,i,lo,g,k⟩
    have hF:(fun b o=>(A2 w0.heap.size F0 G b o∧¬ ZF (G s) b o)∨ZF (G s) b o)=A2 w0.heap.size F0 G:=by
     funext b o; exact propext (C b o).symm
    obtain ⟨k,h3⟩:=hS hv.2 R;have hbr:Oj w (fun b o=>(A2 w0.heap.size F0 G b o∧¬ ZF (G s) b o)∨ZF (G s) b o) (G s) cs (slot a s):=by
     rw [hF]; exact hbx
    obtain ⟨⟨k1,k2⟩,k3⟩:=h3 (fun b o=>A2 w0.heap.size F0 G b o∧¬ ZF (G s) b o) w (xs.map a.eval) (slot a s) (G s) (by rw [hF]; simpa using hv.1)
     (by rw [Array.getElem?_map]; rw [←Array.getElem?_toList,hx]; simp only [Option.map_some]; rw [D,hsl]) hbr (fun i i' b lo lo' Z e2=>(m.uniq _ _ _ _ _ _ _ Z e2).2) (fun i b lo e=>(m.lt _ _ _ _ e).1)
     (by
      rintro b o o' ⟨i,lo,Z,e2⟩ ⟨B,hnz⟩;by_cases hlo:lo<=o'
      ·exact hnz ⟨i,lo,Z,hlo⟩
      ·exact O0 m b lo o' Z (by omega) B)
    have T:(execOp a.eval o).run P w=(callFunc f (xs.map a.eval)).run P w:=by simp [execOp,hop,resolve,Act.eval,Deferred.ofValue,invoke]
    unfold Oper.wp;rw [T,I4 k _,Oper.upon_enter];refine k3.mono ?_;rintro e w' ⟨r,j,rfl,r1,r2,r3,r4,r5⟩;simp only [J];obtain ⟨Y,E⟩:=m.reboxed hs hno r1 r2 r3 r4 k1;refine hn _ _ _ _ (hK ⟨k1,k2⟩) ⟨_,rfl⟩ ?_;have U:∀ b o,A2 w0.heap.size F0 (G0 (G0 G s j) d fun _=>none) b o->(b<w.heap.size∧A2 w0.heap.size F0 G b o∧¬ ZF (G s) b o)∨ZF j b o:=by
     intro b o B;have V:A2 w0.heap.size F0 (G0 G s j) b o:=A2.mono (fun p i b lo A=>by
      by_cases W:p=d
      ·subst W; rw [CD] at A; cases A
      ·rw [B2 _ _ _ _ W] at A; exact ⟨p,i,lo,A,d3 _⟩) B
     rcases Nat.lt_or_ge b w.heap.size with hlt | hge
     ·exact E b o V hlt
     ·rcases V with ⟨g,_⟩ | ⟨p,i,lo,g,k⟩
      ·have:=m.below.size; omega
      ·by_cases X:p=s
       ·subst X; rw [CD] at g; exact .inr ⟨i,lo,g,k⟩
       ·rw [B2 _ _ _ _ X] at g;have:=(m.lt _ _ _ _ g).1; omega
    have l:D0 w' w' (fun b o=>(b<w.heap.size∧A2 w0.heap.size F0 G b o∧¬ ZF (G s) b o)∨ZF j b o) (A2 w0.heap.size F0 (G0 (G0 G s j) d fun _=>none)):=fun b o u hc B=>⟨hc,fun E=>B (U b o E)⟩;by_cases I:∃ t,q=[t]
    ·obtain ⟨t,rfl⟩:=I;exact Y.tv (Below.refl _ _) d hd t r (DH l t r r5) k2.1
    ·have hof:EV.ofs q=.tp q:=by
      rcases q with _ | ⟨t,_ | ⟨t',q⟩⟩
      ·rfl
      ·exact absurd ⟨t,rfl⟩ I
      ·rfl
     have hur:∃ vs,r=.tuple vs∧AS w' (fun b o=>(b<w.heap.size∧A2 w0.heap.size F0 G b o∧¬ ZF (G s) b o)∨ZF j b o) q vs.toList:=by
      rcases q with _ | ⟨t,_ | ⟨t',q⟩⟩
      ·exact r5
      ·exact absurd ⟨t,rfl⟩ I
      ·exact r5
     obtain ⟨vs,rfl,hvs⟩:=hur;rw [hof];refine ⟨_,Y.quiet (Below.refl _ _) d hd (.tp q) _ (fun _=>none) (by simp) (by simp) (by simp) ?_ k2⟩;simp only [AX];exact ⟨vs,rfl,BS l q _ hvs⟩
  ·exact h.elim
 ·exact h.elim
end
end Go.Sf
