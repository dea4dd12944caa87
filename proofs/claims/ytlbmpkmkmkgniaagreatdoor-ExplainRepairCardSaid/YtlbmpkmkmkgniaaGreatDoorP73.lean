/- Plain lemmas: what the functions of the program and of the reference compute. -/
import Derived.Test.YtlbmpkmkmkgniaaGreatDoorEval
import Derived.Test.YtlbmpkmkmkgniaaGreatDoorP52
set_option linter.all false
set_option maxRecDepth 100000
namespace Go.Sf.Sc
open Go Go.Sf
end Go.Sf.Sc
namespace Go.Sf.Sc
open Go Go.Sf
theorem TJ {α:Type} (F:Int->List α) {i:Int} (h:0<=i):(A6 (i+1).toNat).flatMap F=(A6 i.toNat).flatMap F++F i:=by
 rw [show (i+1).toNat=i.toNat+1 by omega,LR,List.flatMap_append,List.flatMap_cons,List.flatMap_nil,List.append_nil,show ((i.toNat:Nat):Int)=i by omega]
theorem Ue {α:Type} (F:Int->List α) {k:Nat}:∀ {n:Nat},k<=n->((A6 k).flatMap F).length<=((A6 n).flatMap F).length
 | 0,h=>by rw [show k=0 by omega]; omega
 | n+1,h=>by
  by_cases e:k=n+1
  ·rw [e]; omega
  ·have:=Ue F (k:=k) (n:=n) (by omega);rw [LR,List.flatMap_append,d4]; omega
end Go.Sf.Sc
namespace Go.Sf.Sc
open Go Go.Sf
theorem Zt {a:Ne} (h:a.length<=1000) (i:Int):LM a i=some (a++[i]):=by
 unfold LM;rw [IJ (by unfold BS; omega),bs,CC (by simp; unfold BS; omega)]; rfl
theorem aR {s:DJ} (g:BX s.T) (hv:(BF s.T).2=0) (b:IN s.T s.H) (n1:s.H.Graph.Nodes.length<=14) (n2:s.H.Graph.Edges.length<=18) {c:AA} {p:Pattern} (d:CV s.T p c) (h:CG s.T p c) (e:Ou s.T p s.H s.M):ref23_holds s c=some (Oa s.T s.H s.Injective c s.M,0):=by
 have a:=UL (inj:=s.Injective) hv b n1 n2 _ c p s.M (d3 _) d h e;rw [UM,WQ] at a;unfold ref23_holds Ki;rw [We g hv b d e,bs];cases f:Oa s.T s.H s.Injective c s.M
 ·rw [f] at a;rw [d1 (by rw [a]; rfl)]; rfl
 ·rw [f] at a;rw [d2 (by rw [a]; decide),a]; rfl
end Go.Sf.Sc
namespace Go.Sf.Sc
open Go Go.Sf
theorem aF {x:Ht} (b:(Hq x).Sm):(AF x.C).Sm:=by
 obtain ⟨p,c⟩:=x;cases c;have a:TV.Sms [_,_,_,_,_,_,_,_,_,_,_,_,_,_]:=b;obtain ⟨_,_,_,_,_,h⟩:=a;exact h
theorem aX {t:AC} {x:Ht} (y:KG) (st:(AU t).Sm) (c:(Hq x).Sm):∃ b,Lx t x y=some b∧(b=true->BX t∧D6 x.C∧cnt x.C<=40∧EW t x.P x.C y.H=some true):=by
 obtain ⟨e,f,a⟩:=Ub st;unfold Lx;rw [f,bs];cases e
 ·exact ⟨_,rfl,fun h=>by simp at h⟩
 obtain ⟨g,i,j⟩:=aT (a rfl) st x.P (aF c) y.H;rw [d1 rfl,i];refine ⟨_,rfl,fun h=>?_⟩;rw [zzZ,zzZ] at h;have d:g=true:=h.1.1;subst d;have:=j rfl;exact ⟨a rfl,this.1,this.2.1,rfl⟩
theorem TY {t:AC} (a:BX t) {p:Pattern} {c:AA} (d:D6 c) (g:cnt c<=1000) (i:HZ t p c=0) {h:AQ} (j:EW t p c h=some true):S1 p c h:=by
 obtain ⟨b,e,f⟩:=cH a d g i h;rw [j] at e;cases e;exact f rfl
theorem Vn {t:AC} {p:Pattern} {c:AA} {h:AQ} {m:AE} {inj:Bool} (e:Lh t p c h m inj=0):HZ t p c=0:=by
 unfold Lh at e;split at e
 ·rename_i k; exact absurd e k
 ·rename_i k; exact Classical.not_not.1 k
theorem YF {t:AC} {p:Pattern} {c:AA} {h:AQ} {m:AE} {inj:Bool} (e:(Kq t p c h m inj).2=0):Lh t p c h m inj=0:=by
 by_cases a:Lh t p c h m inj=0
 ·exact a
 have b:(wS t p c h m inj).2=Lh t p c h m inj:=by unfold wS; rw [d1 a]
 unfold Kq at e;rw [b,d2 (Vo t p c h m inj)] at e;exact e
theorem bi {t:AC} {p:Pattern} {c:AA} (a:cnt c<=1000) (e:HZ t p c=0):cnt c<=12:=by
 obtain ⟨_,m1,_⟩:=ct (UU e).2.1;rw [cJ a] at m1;simp only at m1;omega
theorem ak {t:AC} (f:BX t) {p:Pattern} {c:AA} (i:D6 c) (j:cnt c<=40) {h:AQ} {m:AE} {inj:Bool} (k:EW t p c h=some true) (e:(Kq t p c h m inj).2=0) :
  (BF t).2=0∧IN t h∧CV t p c∧CG t p c∧Ou t p h m∧cnt c<=12∧h.Graph.Nodes.length<=14∧h.Graph.Edges.length<=18:=by
 have g:=YF e;have b:=Vn g;obtain ⟨hv,l,d,n⟩:=TA f j g;have a:=TY f i (by omega) b k;have:=a.nodes;have:=a.edges;exact ⟨hv,l,d,cG a b,n,bi (by omega) b,by omega,by omega⟩
instance:Inhabited AO:=⟨⟨[],0,[]⟩⟩
end Go.Sf.Sc
namespace Go.Sf.Sc
open Go Go.Sf
def Lq (l:Ne):Prop:=l.Pairwise (·<·)
theorem SU:∀ {a b:Ne},Lq a->Lq b->(∀ x,x∈a↔x∈b)->a=b
 | [],[],_,_,_=>rfl
 | [],y::b,_,_,h=>by have:=(h y).2 (by simp); simp at this
 | x::a,[],_,_,h=>by have:=(h x).1 (by simp); simp at this
 | x::a,y::b,j,l,h=>by
  have c:=List.pairwise_cons.1 j;have d:=List.pairwise_cons.1 l;have e:x=y:=by
   have g:=(h x).1 (by simp);have i:=(h y).2 (by simp);rcases List.mem_cons.1 g with e | g
   ·exact e
   ·rcases List.mem_cons.1 i with e | i
    ·exact e.symm
    ·have:=d.1 x g;have:=c.1 y i;omega
  subst e;rw [SU c.2 d.2 fun z=>by
   constructor
   ·intro f;have:=c.1 z f;rcases List.mem_cons.1 ((h z).1 (List.mem_cons_of_mem _ f)) with e | k
    ·omega
    ·exact k
   ·intro f;have:=d.1 z f;rcases List.mem_cons.1 ((h z).2 (List.mem_cons_of_mem _ f)) with e | k
    ·omega
    ·exact k]
end Go.Sf.Sc
namespace Go.Sf.Sc
open Go Go.Sf
end Go.Sf.Sc
namespace Go.Sf.Sc
open Go Go.Sf
end Go.Sf.Sc
namespace Go.Sf.Sc
open Go Go.Sf
end Go.Sf.Sc
namespace Go.Sf.Sc
open Go Go.Sf
structure Qn (l:List AO) (Q:List AO->Prop) (L:Ne):Prop where
 asc:Lq L
 mem:∀ x,x∈L↔(0<=x∧x<=l.length)∧Q (l.take x.toNat)
theorem OX:∀ {L:Ne} {a b:Int},Lq L->(∀ x∈L,a<=x∧x<=b)->a<=b+1->(L.length:Int)<=b+1 - a
 | [],_,_,_,_,h=>by simp; omega
 | y::L,a,b,h,e,_=>by
  have d:=List.pairwise_cons.1 h;have f:=e y (by simp);have:=OX (a:=y+1) (b:=b) d.2 (fun x c=>⟨by have:=d.1 x c; omega,(e x (List.mem_cons_of_mem _ c)).2⟩) (by omega);rw [d6];omega
theorem Qn.len {l:List AO} {Q:List AO->Prop} {L:Ne} (h:Qn l Q L):L.length<=l.length+1:=by
 have:=OX (a:=0) (b:=l.length) h.asc (fun x c=>((h.mem x).1 c).1) (by omega);omega
end Go.Sf.Sc
namespace Go.Sf.Sc
open Go Go.Sf
theorem Tk {P Q:List AO->Prop} {l:List AO} {a x:Nat} (d:a<=x) (f:x<=l.length):(∃ u v,(l.drop a).take (x - a)=u++v∧P u∧Q v)↔∃ b,a<=b∧b<=x∧P ((l.drop a).take (b - a))∧Q ((l.drop b).take (x - b)):=by
 constructor
 ·rintro ⟨u,v,e,c,hv⟩;have g:u.length+v.length=x - a:=by
   have:=congrArg List.length e;rw [d5,List.length_drop,d4] at this; omega
  refine ⟨a+u.length,by omega,by omega,?_,?_⟩
  ·have:=congrArg (List.take u.length) e;rw [List.take_take,List.take_left,show min u.length (x - a)=u.length by omega] at this;rw [show a+u.length - a=u.length by omega,this]; exact c
  ·have:=congrArg (List.drop u.length) e;rw [List.drop_take,List.drop_left,List.drop_drop] at this;rw [show x - (a+u.length)=x - a - u.length by omega,this]; exact hv
 ·rintro ⟨b,h,i,c,hv⟩;refine ⟨_,_,?_,c,hv⟩;rw [show l.drop b=(l.drop a).drop (b - a) by rw [List.drop_drop]; congr 1; omega,show x - a=(b - a)+(x - b) by omega,List.take_add]
structure Ze (l:List AO) (A:Ne):Prop where
 asc:Lq A
 rng:∀ a∈A,0<=a∧a<=l.length
structure Km (l:List AO) (A:Ne) (Q:List AO->Prop) (E:Ne):Prop where
 asc:Lq E
 mem:∀ x,x∈E↔∃ a∈A,a<=x∧x<=l.length∧Q ((l.drop a.toNat).take (x - a).toNat)
theorem Ze.len {l:List AO} {A:Ne} (h:Ze l A):A.length<=l.length+1:=by
 have:=OX (a:=0) (b:=l.length) h.asc h.rng (by omega);omega
theorem Km.congr {l:List AO} {A E:Ne} {Q R:List AO->Prop} (h:Km l A Q E) (e:∀ y,Q y↔R y):Km l A R E:=
 ⟨h.asc,fun x=>(h.mem x).trans ⟨fun ⟨a,b,c,d,k⟩=>⟨a,b,c,d,(e _).1 k⟩,fun ⟨a,b,c,d,k⟩=>⟨a,b,c,d,(e _).2 k⟩⟩⟩
theorem Km.seq {l:List AO} {A B E:Ne} {Q R:List AO->Prop} (f:Ze l A) (g:Km l A Q B) (d:Km l B R E):Km l A (fun y=>∃ u v,y=u++v∧Q u∧R v) E:=by
 refine ⟨d.asc,fun x=>⟨fun j=>?_,?_⟩⟩
 ·obtain ⟨b,k,m,h,n⟩:=(d.mem x).1 j;obtain ⟨a,c,o,i,e⟩:=(g.mem b).1 k;have:=f.rng a c;refine ⟨a,c,by omega,h,?_⟩;rw [show (x - a).toNat=x.toNat - a.toNat by omega];exact (Tk (P:=Q) (Q:=R) (by omega) (by omega)).2 ⟨b.toNat,by omega,by omega,by rwa [show b.toNat - a.toNat=(b - a).toNat by omega],by rwa [show x.toNat - b.toNat=(x - b).toNat by omega]⟩
 ·rintro ⟨a,c,o,i,e⟩;have:=f.rng a c;rw [show (x - a).toNat=x.toNat - a.toNat by omega] at e;obtain ⟨b,m,h,n,p⟩:=(Tk (P:=Q) (Q:=R) (by omega) (by omega)).1 e;refine (d.mem x).2 ⟨(b:Int),(g.mem b).2 ⟨a,c,by omega,by omega,by rwa [show ((b:Int) - a).toNat=b - a.toNat by omega]⟩,by omega,i,?_⟩;rw [show (x - (b:Int)).toNat=x.toNat - b by omega]; simpa using p
theorem Km.or {l:List AO} {A B D E:Ne} {Q R:List AO->Prop} (f:Km l A Q B) (g:Km l A R D) (h:Lq E) (i:∀ x,x∈E↔x∈B∨x∈D):Km l A (fun y=>Q y∨R y) E:=by
 refine ⟨h,fun x=>(i x).trans ?_⟩;rw [f.mem,g.mem];constructor
 ·rintro (⟨a,c,d,e,b⟩ | ⟨a,c,d,e,b⟩)
  ·exact ⟨a,c,d,e,.inl b⟩
  ·exact ⟨a,c,d,e,.inr b⟩
 ·rintro ⟨a,c,d,e,b | b⟩
  ·exact .inl ⟨a,c,d,e,b⟩
  ·exact .inr ⟨a,c,d,e,b⟩
def JK:Ne->Ne->Ne
 | [],b=>b
 | x::a,[]=>x::a
 | x::a,y::b=>if x<y then x::JK a (y::b) else if x=y then y::JK a b else y::JK (x::a) b
termination_by a b=>a.length+b.length
theorem K9:∀ (n:Nat) (a b:Ne),a.length+b.length<=n->∀ x,x∈JK a b↔x∈a∨x∈b
 | _,[],b,_,x=>by rw [JK]; simp
 | _,z::a,[],_,x=>by rw [JK]; simp
 | 0,z::a,y::b,h,x=>by simp at h
 | n+1,z::a,y::b,h,x=>by
  simp only [d6] at h;rw [JK];split
  ·rw [List.mem_cons,K9 n a (y::b) (by simp only [d6]; omega),List.mem_cons (l:=a),or_assoc]
  ·split
   ·rename_i e;rw [List.mem_cons,K9 n a b (by omega),List.mem_cons,List.mem_cons,e];constructor
    ·rintro (k | k | k) <;> simp [k]
    ·rintro ((k | k) | (k | k)) <;> simp [k]
   ·rw [List.mem_cons,K9 n (z::a) b (by simp only [d6]; omega),List.mem_cons (l:=b)];constructor
    ·rintro (k | k | k) <;> simp [k]
    ·rintro (k | k | k) <;> simp [k]
theorem PD:∀ (n:Nat) (a b:Ne),a.length+b.length<=n->Lq a->Lq b->Lq (JK a b)
 | _,[],b,_,_,f=>by rw [JK]; exact f
 | _,z::a,[],_,g,_=>by rw [JK]; exact g
 | 0,z::a,y::b,h,_,_=>by simp at h
 | n+1,z::a,y::b,h,g,f=>by
  simp only [d6] at h;have c:=List.pairwise_cons.1 g;have d:=List.pairwise_cons.1 f;rw [JK];split
  ·refine List.pairwise_cons.2 ⟨fun x e=>?_,PD n a (y::b) (by simp only [d6]; omega) c.2 f⟩;rcases (K9 _ _ _ (d3 _) x).1 e with k | k
   ·exact c.1 x k
   ·rcases List.mem_cons.1 k with k | k
    ·omega
    ·have:=d.1 x k; omega
  ·split
   ·refine List.pairwise_cons.2 ⟨fun x e=>?_,PD n a b (by omega) c.2 d.2⟩;rcases (K9 _ _ _ (d3 _) x).1 e with k | k
    ·have:=c.1 x k; omega
    ·exact d.1 x k
   ·refine List.pairwise_cons.2 ⟨fun x e=>?_,PD n (z::a) b (by simp only [d6]; omega) g d.2⟩;rcases (K9 _ _ _ (d3 _) x).1 e with k | k
    ·rcases List.mem_cons.1 k with k | k
     ·omega
     ·have:=c.1 x k; omega
    ·exact d.1 x k
theorem Km.join {l:List AO} {A B D:Ne} {Q R:List AO->Prop} (a:Km l A Q B) (b:Km l A R D):Km l A (fun y=>Q y∨R y) (JK B D):=
 a.or b (PD _ _ _ (d3 _) a.asc b.asc) (K9 _ _ _ (d3 _))
end Go.Sf.Sc
namespace Go.Sf.Sc
open Go Go.Sf
theorem Sv (n:Nat):Lq (A6 n):=by
 unfold Lq A6;rw [List.pairwise_map];exact List.Pairwise.imp (fun h=>Int.ofNat_lt.2 h) List.pairwise_lt_range
noncomputable def cE (Q:List AO->Prop) (l:List AO):Ne:=(A6 (l.length+1)).filter fun x=>@decide (Q (l.take x.toNat)) (Classical.propDecidable _)
theorem Uu (Q:List AO->Prop) (l:List AO):Qn l Q (cE Q l):=by
 refine ⟨List.Pairwise.filter _ (Sv _),fun x=>?_⟩;unfold cE;rw [List.mem_filter,FL,@zzX _ (Classical.propDecidable _)];constructor
 ·rintro ⟨b,a⟩; exact ⟨by omega,a⟩
 ·rintro ⟨b,a⟩; exact ⟨by omega,a⟩
theorem Qn.eq {l:List AO} {Q:List AO->Prop} {L:Ne} (h:Qn l Q L):L=cE Q l:=
 SU h.asc (Uu Q l).asc fun x=>(h.mem x).trans ((Uu Q l).mem x).symm
theorem Qn.congr {l:List AO} {Q R:List AO->Prop} {L:Ne} (h:Qn l Q L) (e:∀ y,Q y↔R y):Qn l R L:=
 ⟨h.asc,fun x=>(h.mem x).trans ⟨fun ⟨a,b⟩=>⟨a,(e _).1 b⟩,fun ⟨a,b⟩=>⟨a,(e _).2 b⟩⟩⟩
end Go.Sf.Sc
namespace Go.Sf.Sc
open Go Go.Sf
theorem Zr (l:Ne) (v:Int):slices_Contains_int l v=some (hasB l v):=TC l v
end Go.Sf.Sc
namespace Go.Sf.Sc
open Go Go.Sf
noncomputable def bj (Q:List AO->Prop) (l:List AO) (A:Ne):Ne:=(A6 (l.length+1)).filter fun x=>@decide (∃ a∈A,a<=x∧x<=l.length∧Q ((l.drop a.toNat).take (x - a).toNat)) (Classical.propDecidable _)
theorem UX {l:List AO} {A:Ne} (d:Ze l A) (Q:List AO->Prop):Km l A Q (bj Q l A):=by
 refine ⟨List.Pairwise.filter _ (Sv _),fun x=>?_⟩;unfold bj;rw [List.mem_filter,FL,@zzX _ (Classical.propDecidable _)];constructor
 ·rintro ⟨_,b⟩; exact b
 ·rintro ⟨a,c,e,b,f⟩;have:=d.rng a c;exact ⟨by omega,a,c,e,b,f⟩
theorem Km.eq {l:List AO} {A E:Ne} {Q:List AO->Prop} (a:Ze l A) (h:Km l A Q E):E=bj Q l A:=
 SU h.asc (UX a Q).asc fun x=>(h.mem x).trans ((UX a Q).mem x).symm
end Go.Sf.Sc
namespace Go.Sf.Sc
open Go Go.Sf
theorem j8 {t:AC} {p:Pattern} {c:AA} {h:AQ} {m:AE} {inj:Bool} (a:Lh t p c h m inj=0) (b:CV t p c) (d:CG t p c) (e:Ou t p h m) (hv:(BF t).2=0) (f:IN t h) (n1:h.Graph.Nodes.length<=14) (n2:h.Graph.Edges.length<=18):Kq t p c h m inj=(Oa t h inj c m,0):=by
 have g:=UL (inj:=inj) hv f n1 n2 _ c p m (d3 _) b d e;unfold Kq wS;simp only [a,ne_eq,not_true_eq_false,if_false,g];cases Oa t h inj c m <;> rfl
end Go.Sf.Sc
namespace Go.Sf.Sc
open Go Go.Sf
end Go.Sf.Sc
namespace Go.Sf.Sc
open Go Go.Sf
def DO (l:Ne) (n:Nat):Ne:=(A6 n).filter fun i=>!hasB l i
def CM (l:Ne) (i:Int):Int:=((DO l i.toNat).length:Int)
theorem QA (l:Ne) (n:Nat):DO l (n+1)=DO l n++if hasB l n=true then [] else [(n:Int)]:=by
 unfold DO;rw [LR,List.filter_append];congr 1;cases h:hasB l n <;> simp [h]
theorem Us (l:Ne):∀ (n k:Nat),∃ r,DO l (n+k)=DO l n++r
 | n,0=>⟨[],by simp⟩
 | n,k+1=>by
  obtain ⟨r,e⟩:=Us l n k;exact ⟨_,by rw [←Nat.add_assoc,QA,e,ea]⟩
theorem Ma (l:Ne) (n:Nat):(DO l n).length<=n:=by
 have:=List.length_filter_le (fun i=>!hasB l i) (A6 n);rw [CI] at this; exact this
theorem Ur {l:Ne} {n:Nat} {i:Int}:i∈DO l n↔(0<=i∧i<n)∧hasB l i=false:=by
 unfold DO;rw [List.mem_filter,FL]; simp
theorem RG {l:Ne} {n:Nat} {i:Int} (a:0<=i) (b:i<n) (h:hasB l i=false):(0<=CM l i∧CM l i<(DO l n).length)∧AB (DO l n) (CM l i)=i:=by
 obtain ⟨r,e⟩:=Us l (i.toNat+1) (n - (i.toNat+1));rw [show i.toNat+1+(n - (i.toNat+1))=n by omega,QA,show ((i.toNat:Nat):Int)=i by omega,d2 (by rw [h]; decide)] at e;unfold CM;refine ⟨⟨by omega,by rw [e]; simp; omega⟩,?_⟩;rw [e];unfold AB;rw [Int.toNat_natCast,ea,List.getD_eq_getElem?_getD,List.getElem?_append_right (d3 _),Nat.sub_self]; rfl
def wG (g:Graph) (l:Ne):Graph:=⟨g.Nodes,(DO l g.Edges.length).map (AB g.Edges)⟩
def wH (h:AQ) (l:Ne):AQ:=⟨wG h.Graph l,h.Values⟩
def wM (m:AE) (l:Ne):AE:=⟨⟨m.Morphism.Nodes,m.Morphism.Edges.map (CM l)⟩,m.Vars⟩
theorem W7 (g:Graph) (l:Ne):(wG g l).Edges.length<=g.Edges.length:=by
 show ((DO l g.Edges.length).map _).length<=_;rw [d7]; exact Ma _ _
theorem bN {g:Graph} {l:Ne} {e:DK} (h:e∈(wG g l).Edges):∃ i:Int,0<=i∧i<g.Edges.length∧e=AB g.Edges i:=by
 obtain ⟨i,hi,rfl⟩:=List.mem_map.1 h;have:=Ur.1 hi;exact ⟨i,this.1.1,this.1.2,rfl⟩
theorem bO {g:Graph} {l:Ne} {e:DK} (h:e∈(wG g l).Edges):e∈g.Edges:=by
 obtain ⟨i,a,b,rfl⟩:=bN h;exact AS a b
theorem rH {g:Graph} {l:Ne} {i:Int} (d:0<=i) (e:i<g.Edges.length) (h:hasB l i=false):(0<=CM l i∧CM l i<(wG g l).Edges.length)∧AB (wG g l).Edges (CM l i)=AB g.Edges i:=by
 obtain ⟨⟨a,b⟩,c⟩:=RG d e h;show (_∧_<(((DO l g.Edges.length).map _).length:Int))∧AB ((DO l g.Edges.length).map _) _=_;rw [d7];exact ⟨⟨a,b⟩,by rw [Zn a b,c]⟩
theorem VK {g:Graph} (l:Ne) (h:CZ g=0):CZ (wG g l)=0:=by
 have d:=W7 g l;unfold CZ at h ⊢;split at h
 ·cases h
 rename_i f;split at h
 ·cases h
 rename_i c;split at h
 ·cases h
 rename_i a;rw [Bool.not_eq_true,List.any_eq_false] at a;rw [d2 (by show ¬ (40<g.Nodes.length∨80<(wG g l).Edges.length); omega),d2 (show ¬ ((wG g l).Nodes.any fun n=>!Kt n)=true from c),d2];rw [Bool.not_eq_true,List.any_eq_false];exact fun e b=>a e (bO b)
theorem db {t:AC} {g:Graph} (l:Ne) (h:E5 t g=true):E5 t (wG g l)=true:=by
 unfold E5 at h ⊢;rw [zzZ,Bool.not_eq_true',Bool.not_eq_true',List.any_eq_false,List.any_eq_false] at h ⊢;exact ⟨h.1,fun e a=>h.2 e (bO a)⟩
theorem V8 {t:AC} {h:AQ}:(Iz t h).2=0↔(BF t).2=0∧CZ h.Graph=0∧h.Values.length=h.Graph.Nodes.length∧(∀ i:Int,0<=i->i<h.Graph.Nodes.length->H1 t (AB h.Graph.Nodes i) (AB h.Values i)=0)∧∀ i:Int,0<=i->i<h.Graph.Edges.length->H0 t h.Graph i=0:=by
 have ne:∀ {n:Int} {f:Int->Int} {r:Int × Int},fst (fun i=>(nz (f i)).map fun e=>(i,e)) 0 n=some r->r.2≠0:=fun d=>by
  obtain ⟨i,_,_,k,_⟩:=C8 d;unfold nz at k;split at k
  ·cases k
  ·rename_i g; cases k; exact g
 constructor
 ·intro e;unfold Iz at e;split at e
  ·rename_i c; exact absurd e c
  split at e
  ·rename_i c; exact absurd e c
  split at e
  ·cases e
  rename_i c j l;refine ⟨Classical.not_not.1 c,Classical.not_not.1 j,Classical.not_not.1 l,?_⟩;cases d:fst (fun i=>(nz (H1 t (AB h.Graph.Nodes i) (AB h.Values i))).map fun e=>(i,e)) 0 h.Graph.Nodes.length with
  | some r=>rw [d] at e; exact absurd e (ne d)
  | none=>
   rw [d] at e;refine ⟨fun i a b=>Mb.1 (LA.1 (C0.1 d i a b)),?_⟩;cases m:fst (fun i=>(nz (H0 t h.Graph i)).map fun e=>(i,e)) 0 h.Graph.Edges.length with
   | some r=>rw [m] at e; exact absurd e (ne m)
   | none=>exact fun i a b=>Mb.1 (LA.1 (C0.1 m i a b))
 ·rintro ⟨c,j,l,o,p⟩;unfold Iz;have n1:fst (fun i=>(nz (H1 t (AB h.Graph.Nodes i) (AB h.Values i))).map fun e=>(i,e)) 0 h.Graph.Nodes.length=none:=C0.2 fun i a b=>by rw [o i a b]; rfl
  have n2:fst (fun i=>(nz (H0 t h.Graph i)).map fun e=>(i,e)) 0 h.Graph.Edges.length=none:=C0.2 fun i a b=>by rw [p i a b]; rfl
  rw [d2 (fun k=>k c),d2 (fun k=>k j),d2 (fun k=>k l),n1,n2]; rfl
theorem gh {t:AC} {h:AQ} (l:Ne) (e:(Iz t h).2=0):(Iz t (wH h l)).2=0:=by
 obtain ⟨c,d,f,g,k⟩:=V8.1 e;refine V8.2 ⟨c,VK l d,f,g,fun i a b=>?_⟩;obtain ⟨j,m,n,o⟩:=bN (AS (l:=(wG h.Graph l).Edges) a b);have:=k j m n;unfold H0 P0 at this ⊢;show (if (t.Edges.length:Int)<=(AB (wG h.Graph l).Edges i).Type' then (6:Int) else if O4 t (AB (wG h.Graph l).Edges i).Type' (AB h.Graph.Nodes (AB (wG h.Graph l).Edges i).From) (AB h.Graph.Nodes (AB (wG h.Graph l).Edges i).To)=false then 13 else 0)=0;rw [o]; exact this
theorem bw {l:Ne} {n:Nat} {a:Ne} (d:∀ x∈a,(0<=x∧x<n)∧hasB l x=false) (h:a.Nodup):(a.map (CM l)).Nodup:=by
 induction a with
 | nil=>simp
 | cons x a k=>
  rw [List.nodup_cons] at h;rw [List.map_cons,List.nodup_cons];refine ⟨fun i=>?_,k (fun y c=>d y (List.mem_cons_of_mem _ c)) h.2⟩;obtain ⟨y,c,e⟩:=List.mem_map.1 i;have f:=d x (by simp);have b:=d y (List.mem_cons_of_mem _ c);have g:=(RG f.1.1 f.1.2 f.2).2;have j:=(RG b.1.1 b.1.2 b.2).2;rw [←e,j] at g;subst g;exact h.1 c
theorem bP {t:AC} {p:Graph} {g:Graph} {m:Morphism} {l:Ne} (inj:Bool) (z:∀ k∈m.Edges,hasB l k=false) (h:Jp t p g m inj=0):Jp t p (wG g l) ⟨m.Nodes,m.Edges.map (CM l)⟩ inj=0:=by
 obtain ⟨b,B⟩:=Vp h;unfold Jp at h ⊢;rw [d2 (fun k=>k b)] at h;have s:GE t p (wG g l)=0:=by
  unfold GE at b ⊢;split at b
  ·rename_i k; exact absurd b k
  split at b
  ·rename_i k; exact absurd b k
  split at b
  ·rename_i k; exact absurd b k
  rename_i o C D;split at b
  ·rename_i q;rw [zzZ] at q;rw [d2 o,d2 C,d2 (fun k=>k (VK l (Classical.not_not.1 D))),d1 (by rw [zzZ]; exact ⟨q.1,db l q.2⟩)]
  ·cases b
 rw [d2 (fun k=>k s)];have a:KM t p g m=0:=by
  by_cases k:KM t p g m=0
  ·exact k
  ·rw [d1 k] at h; exact absurd h k
 rw [d2 (fun k=>k a)] at h;have u:KM t p (wG g l) ⟨m.Nodes,m.Edges.map (CM l)⟩=0:=by
  unfold KM at a ⊢;split at a
  ·cases a
  rename_i o;rw [d2 (by rw [d7]; exact o)];have A:fst (HT t p g m) 0 m.Nodes.length=none:=by
   cases f:fst (HT t p g m) 0 m.Nodes.length with
   | none=>rfl
   | some r=>
    rw [f] at a;obtain ⟨i,c,d,k,_⟩:=C8 f;unfold HT at k;split at k
    ·cases k; cases a
    ·split at k
     ·cases k; cases a
     ·cases k
  rw [A] at a;have v:fst (HT t p (wG g l) ⟨m.Nodes,m.Edges.map (CM l)⟩) 0 m.Nodes.length=none:=A;show (match fst (HT t p (wG g l) ⟨m.Nodes,m.Edges.map (CM l)⟩) 0 m.Nodes.length with | some e=>e | none=>(fst (E2 p (wG g l) ⟨m.Nodes,m.Edges.map (CM l)⟩) 0 ((m.Edges.map (CM l)).length:Int)).getD 0)=0;rw [v,d7];have E:fst (E2 p g m) 0 m.Edges.length=none:=by
   cases f:fst (E2 p g m) 0 m.Edges.length with
   | none=>rfl
   | some r=>
    rw [f] at a;obtain ⟨i,c,d,k,_⟩:=C8 f;unfold E2 at k;split at k
    ·cases k; cases a
    split at k
    ·cases k; cases a
    split at k
    ·cases k; cases a
    ·cases k
  have w:fst (E2 p (wG g l) ⟨m.Nodes,m.Edges.map (CM l)⟩) 0 m.Edges.length=none:=by
   refine C0.2 fun i c d=>?_;have k:=C0.1 E i c d;have f:=B.edge i c d;obtain ⟨G,F⟩:=rH f.1 f.2 (z _ (AS c d));unfold E2 at k ⊢;show (if AB (m.Edges.map (CM l)) i<0∨((wG g l).Edges.length:Int)<=AB (m.Edges.map (CM l)) i then some 6 else
    if (AB p.Edges i).Type'≠(AB (wG g l).Edges (AB (m.Edges.map (CM l)) i)).Type' then some 13 else
    if AB m.Nodes (AB p.Edges i).From≠(AB (wG g l).Edges (AB (m.Edges.map (CM l)) i)).From∨AB m.Nodes (AB p.Edges i).To≠(AB (wG g l).Edges (AB (m.Edges.map (CM l)) i)).To then some 11 else (none:dD))=none
   rw [Zn c d,F,d2 (by omega)]
   rwa [d2 (by omega)] at k
  rw [w]; rfl
 rw [d2 (fun k=>k u)];cases inj
 ·rfl
 ·have hi:K7 m=true:=by
   cases j:K7 m
   ·rw [j] at h; cases h
   ·rfl
  have y:K7 ⟨m.Nodes,m.Edges.map (CM l)⟩=true:=by
   unfold K7 at hi ⊢;rw [zzZ,NH,NH] at hi ⊢;exact ⟨hi.1,bw (n:=g.Edges.length) (fun x j=>by
    obtain ⟨i,c,d,rfl⟩:=EH j;exact ⟨B.edge i c d,z _ j⟩) hi.2⟩
  rw [y]; rfl
theorem tr {t:AC} {p:Pattern} {c:AA} {h:AQ} {m:AE} {l:Ne} {inj:Bool} (g:∀ k∈m.Morphism.Edges,hasB l k=false) (e:Lh t p c h m inj=0):Lh t p c (wH h l) (wM m l) inj=0:=by
 unfold Lh at e ⊢;split at e
 ·rename_i k; exact absurd e k
 rename_i n;split at e
 ·rename_i k; exact absurd e k
 rename_i o;split at e
 ·rename_i k; exact absurd e k
 rename_i r;split at e
 ·rename_i k; exact absurd e k
 rename_i a;split at e
 case isFalse=>cases e
 rename_i s;have j:=gh l (Classical.not_not.1 o);have u:=bP inj g (Classical.not_not.1 r);have a:=Classical.not_not.1 a;have v:IX t p (wH h l) ⟨m.Morphism.Nodes,m.Morphism.Edges.map (CM l)⟩=IX t p h m.Morphism:=by
  unfold IX at a ⊢;split at a
  ·rename_i q; exact absurd a q
  rename_i b;split at a
  ·rename_i q; exact absurd a q
  rename_i i;have d:¬ LX t p (wH h l)≠0:=by
   unfold LX at b ⊢;split at b
   ·rename_i q; exact absurd q b
   ·rename_i q; rw [d2 q]; exact fun z=>z j
  have f:¬ Jp t p.Graph (wH h l).Graph ⟨m.Morphism.Nodes,m.Morphism.Edges.map (CM l)⟩ false≠0:=fun z=>z (bP false g (Classical.not_not.1 i));rw [d2 b,d2 i,d2 d,d2 f]; rfl
 show (if HZ t p c≠0 then HZ t p c else if (Iz t (wH h l)).2≠0 then (Iz t (wH h l)).2 else if Jp t p.Graph (wG h.Graph l) ⟨m.Morphism.Nodes,m.Morphism.Edges.map (CM l)⟩ inj≠0 then Jp t p.Graph (wG h.Graph l) ⟨m.Morphism.Nodes,m.Morphism.Edges.map (CM l)⟩ inj else
  if (IX t p (wH h l) ⟨m.Morphism.Nodes,m.Morphism.Edges.map (CM l)⟩).2≠0 then (IX t p (wH h l) ⟨m.Morphism.Nodes,m.Morphism.Edges.map (CM l)⟩).2 else if (IX t p (wH h l) ⟨m.Morphism.Nodes,m.Morphism.Edges.map (CM l)⟩).1=m.Vars then 0 else 11)=0
 rw [d2 n,d2 (fun z=>z j),d2 (fun z=>z u),v,d2 (fun z=>z a),d1 s]
end Go.Sf.Sc
namespace Go.Sf.Sc
open Go Go.Sf
theorem NU (l:Ne) {i:Int} (h:0<=i):DO l (i+1).toNat=DO l i.toNat++if hasB l i=true then [] else [i]:=by
 rw [show (i+1).toNat=i.toNat+1 by omega,QA,show ((i.toNat:Nat):Int)=i by omega]
theorem aN {h:AQ} {m:AE} {l:Ne} (z:h.Graph.Edges.length<=80) (A:m.Morphism.Edges.length<=200) (r:∀ k∈m.Morphism.Edges,(0<=k∧k<h.Graph.Edges.length)∧hasB l k=false):ID h m l=some (wH h l,wM m l):=by
 unfold ID;have w:J7 (h.Graph.Edges.length:Int) (0:Int)=some ((A6 h.Graph.Edges.length).map fun j=>if j<0∧hasB l j=false then CM l j else 0):=by
  unfold J7;rw [d1 (by omega),Int.toNat_natCast];congr 1;have:∀ n:Nat,(A6 n).map (fun j=>if j<0∧hasB l j=false then CM l j else (0:Int))=List.replicate n 0:=fun n=>by
   rw [List.eq_replicate_iff];refine ⟨by rw [d7,CI],fun x t=>?_⟩;obtain ⟨j,y,rfl⟩:=List.mem_map.1 t;have:=(FL.1 y).1;rw [d2 (by omega)]
  rw [this]
 rw [w,bs];rw [E8 (a:=0) (b:=h.Graph.Edges.length) (s:=((⟨⟨h.Graph.Nodes,[]⟩,h.Values⟩:AQ),(A6 h.Graph.Edges.length).map fun j=>if j<0∧hasB l j=false then CM l j else 0)) (fun i=>((⟨⟨h.Graph.Nodes,(DO l i.toNat).map (AB h.Graph.Edges)⟩,h.Values⟩:AQ),(A6 h.Graph.Edges.length).map fun j=>if j<i∧hasB l j=false then CM l j else 0)) (by omega) rfl,bs]
 ·dsimp only;rw [Int.toNat_natCast];rw [E8 (a:=0) (b:=m.Morphism.Edges.length) (s:=AE.mk (Morphism.mk m.Morphism.Nodes []) m.Vars) (fun i=>(⟨⟨m.Morphism.Nodes,(m.Morphism.Edges.take i.toNat).map (CM l)⟩,m.Vars⟩:AE)) (by omega) rfl,bs,Int.toNat_natCast,List.take_length]
  ·rfl
  ·intro i d f;have g:=r _ (AS d f);rw [AK d f,bs,AK g.1.1 (by rw [d7,CI]; exact g.1.2),bs,I9 _ g.1.1 g.1.2,d1 ⟨g.1.2,g.2⟩,GI d f,List.map_append,
    CC (by simp only [d7,d5,d6,List.length_nil]; unfold BS; omega)]; rfl
 ·intro i d f;have p:=Ma l i.toNat
  dsimp only;rw [AK d f,bs,Zr,bs,NU l d];cases q:hasB l i
  ·rw [d1 (by decide),AK d (by rw [d7,CI]; exact f),bs,CC (by simp only [d7,d6,List.length_nil]; unfold BS; omega),bs,RS _ d,List.map_append,d2 (by decide)];congr 2;refine Lc fun j u v=>?_;by_cases e:j=i
   ·subst e;rw [d1 rfl,d1 ⟨by omega,q⟩,d7]; rfl
   ·rw [d2 e];by_cases c:j<i∧hasB l j=false
    ·rw [d1 c,d1 ⟨by omega,c.2⟩]
    ·rw [d2 c,d2 (fun k=>c ⟨by omega,k.2⟩)]
  ·rw [d2 (by decide),d1 rfl,List.append_nil];congr 2;refine Lc fun j u v=>?_;by_cases c:j<i∧hasB l j=false
   ·rw [d1 c,d1 ⟨by omega,c.2⟩]
   ·rw [d2 c,d2];rintro ⟨B,o⟩;by_cases e:j=i
    ·rw [e,q] at o; cases o
    ·exact c ⟨by omega,o⟩
def ER (l:Ne) (i:Int):Int:=((l.filter fun x=>decide (x<i)).length:Int)
theorem fW (l:Ne) (i:Int):ER l i<=l.length:=by
 have:=List.length_filter_le (fun x=>decide (x<i)) l;unfold ER; omega
theorem QB {l:Ne} {i:Int} (h:∀ x∈l,i<=x):ER l i=0:=by
 unfold ER;rw [List.filter_eq_nil_iff.2 fun x a=>by have:=h x a; simp; omega]; rfl
theorem UC:∀ {l:Ne} {i:Int},Lq l->((ER l i<l.length∧AB l (ER l i)=i)↔hasB l i=true)
 | [],i,_=>by simp [ER,hasB]
 | x::l,i,h=>by
  have c:=List.pairwise_cons.1 h;by_cases g:x<i
  ·have e:ER (x::l) i=ER l i+1:=by
    unfold ER;rw [List.filter_cons_of_pos (by simpa using g),d6]; omega
   have o:0<=ER l i:=by unfold ER; omega
   have j:=UC (i:=i) c.2;have m:AB (x::l) (ER l i+1)=AB l (ER l i):=by
    unfold AB;rw [show (ER l i+1).toNat=(ER l i).toNat+1 by omega]; rfl
   have n:hasB (x::l) i=hasB l i:=by
    unfold hasB;rw [List.any_cons,decide_eq_false (by omega),Bool.false_or]
   rw [e,m,n,←j,d6];constructor
   ·rintro ⟨a,b⟩; exact ⟨by omega,b⟩
   ·rintro ⟨a,b⟩; exact ⟨by omega,b⟩
  ·have e:ER (x::l) i=0:=QB fun y f=>by
    rcases List.mem_cons.1 f with k | k
    ·omega
    ·have:=c.1 y k; omega
   rw [e];constructor
   ·rintro ⟨_,b⟩;have b:x=i:=b;rw [b,P7]; simp
   ·intro d;rw [P7] at d;refine ⟨by simp only [d6]; omega,?_⟩;show x=i;rcases List.mem_cons.1 d with k | k
    ·exact k.symm
    ·have:=c.1 i k; omega
theorem Z8 {l:Ne} (h:Lq l) (i:Int):ER l (i+1)=ER l i+if hasB l i=true then 1 else 0:=by
 induction l with
 | nil=>simp [ER,hasB]
 | cons x l a=>
  have c:=List.pairwise_cons.1 h;have a:=a c.2;unfold ER at a ⊢;have d:hasB (x::l) i=(decide (i=x)||hasB l i):=rfl;by_cases g:x<i
  ·rw [List.filter_cons_of_pos (by simp; omega),List.filter_cons_of_pos (by simpa using g),d6,d6,d,decide_eq_false (by omega),Bool.false_or];omega
  ·by_cases f:x=i
   ·have j:ER l (i+1)=0:=QB fun y b=>by have:=c.1 y b; omega
    have k:ER l i=0:=QB fun y b=>by have:=c.1 y b; omega
    unfold ER at j k;rw [List.filter_cons_of_pos (by simp; omega),List.filter_cons_of_neg (by simp; omega),d6,d,decide_eq_true f.symm,Bool.true_or,d1 rfl];omega
   ·rw [List.filter_cons_of_neg (by simp; omega),List.filter_cons_of_neg (by simp; omega),d,decide_eq_false (fun e=>f e.symm),Bool.false_or];exact a
theorem YA {l:Ne} {n:Nat} (d:Lq l) (e:∀ x∈l,0<=x∧x<n) (f:l.length<=1000):IG l n=some 0:=by
 unfold IG;rw [CP (fun _=>false) 6]
 ·have:anyR (fun _=>false) 0 (l.length:Int)=false:=EQ.2 fun _ _ _=>rfl;rw [this]; rfl
 ·intro i b a _;have g:=e _ (AS b a);rw [AK b a,bs,d2 (by simp; omega),bs,bs,d2 (by simp; omega)];by_cases c:0<i
  ·have:=SM d (i:=i - 1) (j:=i) (by omega) (by omega) a;rw [d1 (by simpa using c),bs,BC (by omega) (by omega),AK (by omega) (by omega),bs,bs,d2 (by simp; omega)]; rfl
  ·rw [d2 (by simpa using c),bs,d2 (by decide)]; rfl
theorem Wj {l:Ne} {n:Nat} (c:Lq l) (m:∀ x∈l,0<=x) (u:n<=1000) (v:l.length<=1000):Jy n l=some ((A6 n).map fun j=>if hasB l j=true then -1 else CM l j):=by
 unfold Jy;rw [E8 (a:=0) (b:=n) (s:=([],0,0)) (fun i=>((A6 i.toNat).map (fun j=>if hasB l j=true then -1 else CM l j),CM l i,ER l i)) (by omega) (by show (_,_,ER l 0)=_; rw [QB m]; rfl),bs,Int.toNat_natCast]
 ·intro i f w;have g:=Ma l i.toNat
  have o:=fW l i;have p:0<=ER l i:=by unfold ER; omega
  have q:(if (decide (ER l i<(l.length:Int)))=true then ((AL l (ER l i)).bind fun d=>some (decide (d=i))) else some false)=some (hasB l i):=by
   by_cases k:ER l i<l.length
   ·rw [d1 (by simpa using k),AK p k,bs];congr 1;rw [Bool.eq_iff_iff,zzX,←UC c];exact ⟨fun e=>⟨k,e⟩,fun e=>e.2⟩
   ·rw [d2 (by simpa using k)];congr 1;symm;rw [←Bool.not_eq_true,←UC c];exact fun e=>k e.1
  dsimp only;rw [q,bs,KO f,List.map_append,Z8 c i];have r:CM l (i+1)=CM l i+if hasB l i=true then 0 else 1:=by
   unfold CM;rw [NU l f,d4];cases hasB l i <;> simp
  have t:0<=CM l i∧CM l i<=1000:=by unfold CM; omega
  rw [r];cases h:hasB l i
  ·rw [d2 (by decide),CC (by simp only [d7,CI,d6,List.length_nil]; unfold BS; omega),bs,BC (by omega) (by omega)];simp [h]
  ·rw [d1 rfl,CC (by simp only [d7,CI,d6,List.length_nil]; unfold BS; omega),bs,BC (by omega) (by omega)];simp [h]
end Go.Sf.Sc
namespace Go.Sf.Sc
open Go Go.Sf
theorem Z6 (n:Nat):DO [] n=A6 n:=by
 unfold DO;exact List.filter_eq_self.2 fun _ _=>rfl
theorem cd {i:Int} (h:0<=i):CM [] i=i:=by
 unfold CM;rw [Z6,CI]; omega
theorem cY {g:Graph} {l:Ne} (n:CZ g=0) (k:Lq l) (m:∀ x∈l,0<=x∧x<g.Edges.length):LF g [] l=some (wG g l,⟨(A6 g.Nodes.length).map (fun j=>if hasB [] j=true then -1 else CM [] j),(A6 g.Edges.length).map fun j=>if hasB l j=true then -1 else CM l j⟩,0):=by
 have ho:=E9 n;have r:=ho.nodes;have t:=ho.edges;have u:l.length<=80:=by
  have:=OX (a:=0) (b:=(g.Edges.length:Int) - 1) k (fun x f=>by have:=m x f; omega) (by omega);omega
 unfold LF;rw [NN,bs,d2 (by simp [n]),YA (l:=[]) List.Pairwise.nil (fun x f=>by simp at f) (by simp),bs,d2 (by decide),YA k m (by omega),bs,d2 (by decide),
  Wj (l:=[]) List.Pairwise.nil (fun x f=>by simp at f) (by omega) (by simp),bs,Wj k (fun x f=>(m x f).1) (by omega) (by omega),bs]
 have e:∀ i:Int,0<=i->i<g.Nodes.length->AB ((A6 g.Nodes.length).map fun j=>if hasB [] j=true then -1 else CM [] j) i=i:=fun i c d=>by
  rw [I9 _ c d,d2 (by simp [hasB]),cd c]
 generalize p:((A6 g.Nodes.length).map fun j=>if hasB [] j=true then -1 else CM [] j)=P at e ⊢;have q:P.length=g.Nodes.length:=by rw [←p,d7,CI]
 rw [E8 (a:=0) (b:=g.Nodes.length) (s:=Graph.mk [] []) (fun i=>(⟨g.Nodes.take i.toNat,[]⟩:Graph)) (by omega) rfl,bs,Int.toNat_natCast,List.take_length]
 ·rw [OK (a:=0) (b:=g.Edges.length) (s:=(Graph.mk [] [],Morphism.mk [] [],Graph.mk g.Nodes [])) (fun i=>(Graph.mk [] [],Morphism.mk [] [],(⟨g.Nodes,(DO l i.toNat).map (AB g.Edges)⟩:Graph))) (fun _=>none) (by omega) rfl (fun i c d _=>?_)]
  ·rw [C0.2 (fun _ _ _=>rfl),Int.toNat_natCast]; rfl
  ·have o:=Ma l i.toNat
   have h:=ho.fit _ (AS (l:=g.Edges) c d);rw [AK c (by rw [d7,CI]; exact d),bs,I9 _ c d,NU l c];cases v:hasB l i
   ·have w:0<=CM l i:=by unfold CM; omega
    simp only [Bool.false_eq_true,if_false];rw [d2 (by simp; omega),AK c d,bs,bs,AK h.2.1.1 (by omega),bs,bs,AK h.2.2.1 (by omega),bs,e _ h.2.1.1 h.2.1.2,e _ h.2.2.1 h.2.2.2,
     d2 (by simp; omega),CC (by simp only [d7,d6,List.length_nil]; unfold BS; omega),bs,List.map_append]; rfl
   ·simp only [if_true];rw [d1 (by decide),List.append_nil]; rfl
 ·intro i c d;rw [AK c (by omega),bs,e i c d,d1 (by simpa using c),AK c d,bs,CC (by simp only [d5,d6,List.length_nil]; unfold BS; omega),bs,GI c d]
theorem aZ {s:DJ} {l:Ne} (f:CZ s.H.Graph=0) (g:Lq l) (h:∀ x∈l,0<=x∧x<s.H.Graph.Edges.length) (m:s.M.Morphism.Edges.length<=200) (j:∀ k∈s.M.Morphism.Edges,(0<=k∧k<s.H.Graph.Edges.length)∧hasB l k=false):IL s l=some ⟨s.T,wH s.H l,wM s.M l,s.Injective⟩:=by
 have ho:=E9 f;unfold IL;rw [cY f g h,bs];dsimp only;rw [T2 (fun i=>(⟨⟨s.M.Morphism.Nodes,(s.M.Morphism.Edges.take i.toNat).map (CM l)⟩,s.M.Vars⟩:AE)) (a:=0) (b:=s.M.Morphism.Edges.length) (s:=AE.mk (Morphism.mk s.M.Morphism.Nodes []) s.M.Vars) (by omega) rfl,D5,Int.toNat_natCast,List.take_length]
 ·rfl
 ·intro i e d;have c:=j _ (AS e d);dsimp only;rw [d1 (by simpa using d),AK e d,bs,AK c.1.1 (by rw [d7,CI]; exact c.1.2),bs,I9 _ c.1.1 c.1.2,d2 (by rw [c.2]; decide),CC (by simp only [d7,d5,d6,List.length_nil]; unfold BS; omega),bs,BC (n:=i+1) (by omega) (by omega),GI e d,List.map_append]; rfl
 ·dsimp only;rw [d2 (by simp)]
def FR:Nat->Ne->List Ne
 | 0,_=>[[]]
 | _+1,[]=>[]
 | k+1,x::l=>(FR k l).map (x::·)++FR (k+1) l
def D4:(Ne->Bool)->Nat->Ne->Option Ne
 | P,0,_=>if P []=true then some [] else none
 | _,_+1,[]=>none
 | P,k+1,x::l=>match D4 (fun r=>P (x::r)) k l with
  | some r=>some (x::r)
  | none=>D4 P (k+1) l
theorem O3:∀ (k:Nat) (l:Ne) (P:Ne->Bool),(FR k l).find? P=D4 P k l
 | 0,l,P=>by
  rw [FR,D4];by_cases h:P []=true
  ·rw [List.find?_cons_of_pos h,d1 h]
  ·rw [List.find?_cons_of_neg h,d2 h]; rfl
 | k+1,[],P=>by rw [FR,D4]; rfl
 | k+1,x::l,P=>by
  rw [FR,D4,List.find?_append,List.find?_map,O3 (k+1) l P];have:=O3 k l (P ∘ (x::·));rw [this];show (Option.map (x::·) (D4 (fun r=>P (x::r)) k l)).or _=_;cases D4 (fun r=>P (x::r)) k l <;> rfl
theorem Ol:∀ (k:Nat) (l:Ne),∀ s∈FR k l,s.Sublist l
 | 0,l,s,h=>by
  rw [FR,List.mem_singleton] at h;rw [h]; exact List.nil_sublist _
 | k+1,[],s,h=>by rw [FR] at h; simp at h
 | k+1,x::l,s,h=>by
  rw [FR,List.mem_append] at h;rcases h with h | h
  ·obtain ⟨r,a,rfl⟩:=List.mem_map.1 h;exact (Ol k l r a).cons₂ x
  ·exact (Ol (k+1) l s h).cons x
theorem Su:∀ (k:Nat) (l:Ne),(FR k l).length<=(l.length+1) ^ k
 | 0,l=>by rw [FR]; simp
 | k+1,[]=>by rw [FR]; simp
 | k+1,x::l=>by
  rw [FR,d4,d7,d6];have c:=Su k l;have d:=Su (k+1) l;have a:(l.length+1) ^ k<=(l.length+1+1) ^ k:=Nat.pow_le_pow_left (by omega) k;have e:(l.length+1) ^ (k+1)=(l.length+1) ^ k*(l.length+1):=Nat.pow_succ ..;have b:(l.length+1+1) ^ (k+1)=(l.length+1+1) ^ k*(l.length+1+1):=Nat.pow_succ ..;have f:(l.length+1) ^ k*(l.length+1)<=(l.length+1+1) ^ k*(l.length+1):=Nat.mul_le_mul_right _ a;rw [b,Nat.mul_succ];omega
theorem VJ (n:Nat):A6 (n+1)=0::(A6 n).map (·+1):=by
 unfold A6;rw [List.range_succ_eq_map,List.map_cons,List.map_map,List.map_map];rfl
theorem VB (k:Nat):∀ l:Ne,FR (k+1) l=(A6 l.length).flatMap fun j=>(FR k (l.drop (j.toNat+1))).map (AB l j::·)
 | []=>by rw [FR]; rfl
 | x::l=>by
  rw [FR,d6,VJ,List.flatMap_cons,List.flatMap_map,VB k l];congr 1;unfold List.flatMap;congr 1;refine List.map_congr_left fun j a=>?_;have:=(FL.1 a).1;show _=(FR k ((x::l).drop ((j+1).toNat+1))).map (AB (x::l) (j+1)::·);rw [show (j+1).toNat+1=(j.toNat+1)+1 by omega,List.drop_succ_cons];have:AB (x::l) (j+1)=AB l j:=by
   unfold AB;rw [show (j+1).toNat=j.toNat+1 by omega]; rfl
  rw [this]
theorem Yi {α:Type} (F:Int->List α) {k:Nat}:∀ {n:Nat},k<=n->((A6 k).flatMap F).length<=((A6 n).flatMap F).length:=fun h=>Ue F h
theorem X6:∀ (k:Nat) (l:Ne),k<=3->l.length<=80->∀ n,k+1<=n->EE n l k=some (FR k l)
 | _,_,_,_,0,h=>by omega
 | 0,l,_,_,n+1,_=>by rw [EE,d1 (by decide),FR]
 | k+1,l,v,w,n+1,x=>by
  have p:=Su (k+1) l;have d:(l.length+1) ^ (k+1)<=81 ^ 3:=Nat.le_trans (Nat.pow_le_pow_left (by omega) _) (Nat.pow_le_pow_right (by omega) (by omega));have d:(l.length+1) ^ (k+1)<=531441:=d;rw [VB] at p ⊢;rw [EE,d2 (by simp; omega)];rw [E8 (a:=0) (b:=l.length) (s:=[]) (fun i=>(A6 i.toNat).flatMap fun j=>(FR k (l.drop (j.toNat+1))).map (AB l j::·)) (by omega) rfl,bs,Int.toNat_natCast];intro i g t;have c:=Yi (fun j=>(FR k (l.drop (j.toNat+1))).map (AB l j::·)) (k:=(i+1).toNat) (n:=l.length) (by omega);rw [TJ _ g,d4,d7] at c;rw [BC (by omega) (by omega),cu (by omega) (by omega),bs,show ((k+1:Nat):Int) - 1=(k:Int) by omega,BC (by omega) (by omega),X6 k _ (by omega) (by rw [List.length_drop]; omega) n (by omega),bs,TJ _ g,show (i+1).toNat=i.toNat+1 by omega];generalize u:FR k (l.drop (i.toNat+1))=S at c ⊢;have e:∀ r∈S,r.length<=80:=fun r f=>by
   rw [←u] at f;have:=(Ol k _ r f).length_le;rw [List.length_drop] at this; omega
  generalize ((A6 i.toNat).flatMap fun j=>(FR k (l.drop (j.toNat+1))).map (AB l j::·))=A at c ⊢;rw [E8 (a:=0) (b:=S.length) (s:=A) (fun q=>A++(S.take q.toNat).map (AB l i::·)) (by omega) (by simp),bs,Int.toNat_natCast,List.take_length];intro q m o;have f:=e _ (AS m o);rw [AK m o,bs,AK g t,bs,CC (by simp only [d6,List.length_nil]; unfold BS; omega),bs,CC (by simp only [d4,d7,d5,d6,List.length_nil]; unfold BS; omega),bs,GI m o,List.map_append,ea]; rfl
theorem jG {k:Nat} {l:Ne} (a:k<=3) (b:l.length<=80):K4 l k=some (FR k l):=FV (k+1) fun n c=>X6 k l a b n c
end Go.Sf.Sc
namespace Go.Sf.Sc
open Go Go.Sf
theorem fw (l:Ne) (v:Int):PM l v=some (hasB l v):=bv l v
def Ks (me:Ne):Int->Nat->Ne
 | _,0=>[]
 | a,n+1=>if hasB me a=true then Ks me (a+1) n else a::Ks me (a+1) n
theorem V4 (me:Ne):∀ (n:Nat) (a:Int),Ks me a n=((A6 n).map (a+·)).filter fun i=>!hasB me i
 | 0,a=>rfl
 | n+1,a=>by
  rw [Ks,VJ,List.map_cons,List.map_map,V4 me n (a+1),Int.add_zero];have e:((A6 n).map ((a+·) ∘ (·+1)))=(A6 n).map (a+1+·):=List.map_congr_left fun j _=>by
   show a+(j+1)=a+1+j; omega
  rw [e];cases h:hasB me a
  ·rw [d2 (by decide),List.filter_cons_of_pos (by simp [h])]
  ·rw [d1 rfl,List.filter_cons_of_neg (by simp [h])]
theorem Yk (me:Ne) (n:Nat):Ks me 0 n=DO me n:=by
 rw [V4];unfold DO;have:(A6 n).map ((0:Int)+·)=A6 n:=by
  have:(A6 n).map ((0:Int)+·)=(A6 n).map id:=List.map_congr_left fun j _=>by show 0+j=j; omega
  rw [this,List.map_id]
 rw [this]
theorem eu {l:Ne} {x:Int}:AB (l++[x]) (((l++[x]).length:Int) - 1)=x:=by
 unfold AB;rw [d4,d6,List.length_nil,show (((l.length+(0+1):Nat):Int) - 1).toNat=l.length by omega,List.getD_eq_getElem?_getD,List.getElem?_append_right (d3 _),Nat.sub_self]; rfl
noncomputable def IK (t:AC) (h:AQ) (c:AA) (m:AE) (l:Ne):Bool:=Oa t (wH h l) true c (wM m l)
structure Zf (t:AC) (p:Pattern) (c:AA) (h:AQ) (m:AE):Prop where
 few:BX t
 cg:Lh t p c h m true=0
 cnt:cnt c<=40
 cv:CV t p c
 gr:CG t p c
 n1:h.Graph.Nodes.length<=14
 n2:h.Graph.Edges.length<=18
def SF (h:AQ) (m:AE) (l:Ne):Prop:=Lq l∧∀ x∈l,(0<=x∧x<h.Graph.Edges.length)∧hasB m.Morphism.Edges x=false
theorem SF.has {h:AQ} {m:AE} {l:Ne} (ho:SF h m l):∀ k∈m.Morphism.Edges,hasB l k=false:=fun k a=>by
 rw [←Bool.not_eq_true,P7];intro b;have:=(ho.2 k b).2;rw [←Bool.not_eq_true,P7] at this;exact this a
theorem Zf.all {t:AC} {p:Pattern} {c:AA} {h:AQ} {m:AE} (a:Zf t p c h m) {l:Ne} (ho:SF h m l) :
  (Kq t p c (wH h l) (wM m l) true=(IK t h c m l,0)∧ID h m l=some (wH h l,wM m l))∧IL ⟨t,h,m,true⟩ l=some ⟨t,wH h l,wM m l,true⟩∧(BF t).2=0∧IN t (wH h l)∧Ou t p (wH h l) (wM m l):=by
 have d:=tr (l:=l) ho.has a.cg;obtain ⟨hv,u,v,n⟩:=TA a.few a.cnt a.cg;obtain ⟨_,f,_,i⟩:=TA a.few a.cnt d;have n1:(wH h l).Graph.Nodes.length<=14:=a.n1;have n2:(wH h l).Graph.Edges.length<=18:=Nat.le_trans (W7 h.Graph l) a.n2;have e:m.Morphism.Edges.length<=200:=by
  have z:=n.m.elen;have A:=n.q.g.edges;omega
 have b:∀ k∈m.Morphism.Edges,(0<=k∧k<h.Graph.Edges.length)∧hasB l k=false:=fun k o=>by
  obtain ⟨j,w,y,rfl⟩:=EH o;exact ⟨n.m.edge j w y,ho.has _ o⟩
 exact ⟨⟨j8 d a.cv a.gr i hv f n1 n2,aN (by have:=a.n2; omega) e b⟩,aZ (s:=⟨t,h,m,true⟩) u.ge ho.1 (fun x r=>(ho.2 x r).1) e b,hv,f,i⟩
theorem wth_holds {t:AC} {p:Pattern} {c:AA} {h:AQ} {m:AE} (a:Zf t p c h m) {l:Ne} (ho:SF h m l):ref23_holds ⟨t,wH h l,wM m l,true⟩ c=some (IK t h c m l,0):=by
 obtain ⟨_,_,hv,b,d⟩:=a.all ho;have n1:(wH h l).Graph.Nodes.length<=14:=a.n1;have n2:(wH h l).Graph.Edges.length<=18:=Nat.le_trans (W7 h.Graph l) a.n2;exact aR (s:=⟨t,wH h l,wM m l,true⟩) a.few hv b n1 n2 a.cv a.gr d
theorem cL {h:AQ} {m:AE} {l:Ne} {i a:Int} (ho:SF h m l) (c:∀ x∈l,x<a) (d:0<=i) (g:a<=i) (e:i<h.Graph.Edges.length) (hi:hasB m.Morphism.Edges i=false):SF h m (l++[i]):=by
 refine ⟨?_,fun x b=>?_⟩
 ·unfold Lq;rw [List.pairwise_append];refine ⟨ho.1,List.pairwise_singleton _ _,fun x b y f=>?_⟩;rw [List.mem_singleton] at f;have:=c x b;omega
 ·rcases List.mem_append.1 b with k | k
  ·exact ho.2 x k
  ·rw [List.mem_singleton] at k;rw [k]; exact ⟨⟨d,e⟩,hi⟩
theorem fX {h:AQ} {m:AE} {l:Ne} (ho:SF h m l):l.length<=h.Graph.Edges.length:=by
 have:=OX (a:=0) (b:=(h.Graph.Edges.length:Int) - 1) ho.1 (fun x c=>by have:=(ho.2 x c).1; omega) (by omega);omega
theorem Sh {me ed:Ne} {D:Ne->Bool} {k:Nat} {E:Int}:∀ (n:Nat) (a:Int),a+n=E ->
  EM (fun i=>if hasB me i=true then none else match D4 (fun r=>D (ed++i::r)) k (Ks me (i+1) (E - (i+1)).toNat) with | some r=>some (ed++i::r,true,(0:Int)) | none=>none) n a=(D4 (fun r=>D (ed++r)) (k+1) (Ks me a n)).map fun r=>(ed++r,true,0)
 | 0,a,h=>by rw [EM,Ks,D4]; rfl
 | n+1,a,h=>by
  rw [EM,Ks,show (E - (a+1)).toNat=n by omega];cases b:hasB me a
  ·rw [d2 (by decide),d2 (by decide),D4];cases c:D4 (fun r=>D (ed++a::r)) k (Ks me (a+1) n) with
   | some r=>rfl
   | none=>
    dsimp only;rw [Sh n (a+1) (by omega)]
  ·rw [d1 rfl,d1 rfl];dsimp only;rw [Sh n (a+1) (by omega)]
theorem SO {t:AC} {p:Pattern} {c:AA} {h:AQ} {m:AE} (g:Zf t p c h m):∀ (k:Nat) (ed:Ne) (a:Int),k<=3->SF h m ed->(∀ x∈ed,x<a)->(if 0<ed.length then AB ed ((ed.length:Int) - 1)+1 else 0)=a->a<=h.Graph.Edges.length->∀ n,k+1<=n ->
  E3 n ⟨t,h,m,true⟩ c ed k=some (match D4 (fun r=>IK t h c m (ed++r)) k (Ks m.Morphism.Edges a ((h.Graph.Edges.length:Int) - a).toNat) with | some r=>(ed++r,true,0) | none=>(if k=0 then ed else [],false,0))
 | _,_,_,_,_,_,_,_,0,I=>by omega
 | 0,ed,a,_,ho,_,_,_,n+1,_=>by
  obtain ⟨_,H,_⟩:=g.all ho;have A:=wth_holds g ho;rw [E3,d1 (by decide),H,bs,A,bs,D4,List.append_nil];cases IK t h c m ed <;> simp
 | k+1,ed,a,J,ho,d,f,K,n+1,I=>by
  have w:=fX ho;have B:=g.n2;have C:0<=a:=by
   rw [←f];split
   ·rename_i o;have:=(ho.2 _ (AS (l:=ed) (i:=(ed.length:Int) - 1) (by omega) (by omega))).1;omega
   ·omega
  rw [E3,d2 (show ¬ decide (((k+1:Nat):Int)=0)=true from by rw [zzX]; omega)];have b:(if (decide (0<(ed.length:Int)))=true then (AL ed (A3 ((ed.length:Int) - 1))).bind fun j=>some (A3 (j+1)) else some 0)=some a:=by
   by_cases o:0<ed.length
   ·have:=(ho.2 _ (AS (l:=ed) (i:=(ed.length:Int) - 1) (by omega) (by omega))).1;rw [d1 o] at f;rw [d1 (show decide (0<(ed.length:Int))=true from by rw [zzX]; omega),BC (by omega) (by omega),AK (by omega) (by omega),bs,BC (by omega) (by omega),f]
   ·rw [d2 o] at f;rw [d2 (show ¬ decide (0<(ed.length:Int))=true from by rw [zzX]; omega),f]
  rw [b,bs];rw [CW (fun i=>if hasB m.Morphism.Edges i=true then none else match D4 (fun r=>IK t h c m (ed++i::r)) k (Ks m.Morphism.Edges (i+1) ((h.Graph.Edges.length:Int) - (i+1)).toNat) with | some r=>some (ed++i::r,true,(0:Int)) | none=>none)]
  ·have u:=Sh (me:=m.Morphism.Edges) (ed:=ed) (D:=IK t h c m) (k:=k) (E:=h.Graph.Edges.length) ((h.Graph.Edges.length:Int) - a).toNat a (by omega);unfold fst;rw [u];cases D4 (fun r=>IK t h c m (ed++r)) (k+1) (Ks m.Morphism.Edges a ((h.Graph.Edges.length:Int) - a).toNat) <;> rfl
  ·intro i z s _;have s:i<(h.Graph.Edges.length:Int):=s;dsimp only;rw [fw,bs];cases F:hasB m.Morphism.Edges i
   ·rw [d2 (by decide),d2 (by decide),Zt (by omega),bs,show ((k+1:Nat):Int) - 1=(k:Int) by omega,BC (by omega) (by omega)];have v:=cL ho d (by omega) z s F;have e:=SO g k (ed++[i]) (i+1) (by omega) v (fun x y=>by
     rcases List.mem_append.1 y with q | q
     ·have:=d x q; omega
     ·rw [List.mem_singleton] at q; omega) (by rw [d1 (by simp),eu]) (by omega) n (by omega)
    rw [e,bs];have G:(fun r=>IK t h c m (ed++[i]++r))=fun r=>IK t h c m (ed++i::r):=by
     funext r; rw [ea]; rfl
    rw [G];cases D4 (fun r=>IK t h c m (ed++i::r)) k (Ks m.Morphism.Edges (i+1) ((h.Graph.Edges.length:Int) - (i+1)).toNat) with
    | some r=>
     dsimp only;rw [d1 (by rfl),ea]; rfl
    | none=>rfl
   ·rw [d1 rfl,d1 rfl]; rfl
noncomputable def ZB (t:AC) (c:AA) (h:AQ) (m:AE):Option Ne:=fst (fun n=>D4 (IK t h c m) n.toNat (DO m.Morphism.Edges h.Graph.Edges.length)) 0 4
noncomputable def Oj (t:AC) (p:Pattern) (c:AA) (h:AQ) (m:AE):Ne × Int:=
 if (Kq t p c h m true).2≠0 then ([],(Kq t p c h m true).2) else if ¬ (c.Kind=2∧(AB c.Kids 0).Kind=5) then ([],8) else
 match ZB t c h m with
 | some l=>(l,0)
 | none=>([],10)
theorem WD {h:AQ} {m:AE} {l:Ne} (a:l.Sublist (DO m.Morphism.Edges h.Graph.Edges.length)):SF h m l:=by
 refine ⟨?_,fun x b=>Ur.1 (a.subset b)⟩;have:Lq (DO m.Morphism.Edges h.Graph.Edges.length):=List.Pairwise.filter _ (Sv _);exact List.Pairwise.sublist a this
theorem Xq {α:Type} [Inhabited α] {β:Type} (P:α->Bool) (f:α->β):∀ l:List α,fst (fun j=>if P (AB l j)=true then some (f (AB l j)) else none) 0 l.length=(l.find? P).map f
 | []=>Zz (Int.le_refl _)
 | x::l=>by
  have d:=Xq P f l;unfold fst at d ⊢;rw [show ((((x::l).length:Nat):Int) - 0).toNat=l.length+1 by simp,EM];rw [show (((l.length:Nat):Int) - 0).toNat=l.length by omega] at d;have h:AB (x::l) 0=x:=rfl;rw [h];by_cases c:P x=true
  ·rw [d1 c,List.find?_cons_of_pos c]; rfl
  ·rw [d2 c,List.find?_cons_of_neg c,←d];dsimp only;have b:∀ (n:Nat) (a:Int),0<=a->EM (fun j=>if P (AB (x::l) j)=true then some (f (AB (x::l) j)) else none) n (a+1)=EM (fun j=>if P (AB l j)=true then some (f (AB l j)) else none) n a:=by
    intro n
    induction n with
    | zero=>intro a _; rfl
    | succ n g=>
     intro a i;have e:AB (x::l) (a+1)=AB l a:=by
      unfold AB;rw [show (a+1).toNat=a.toNat+1 by omega]; rfl
     rw [EM,EM,e,g (a+1) (by omega)]
   exact b l.length 0 (by omega)
end Go.Sf.Sc
namespace Go.Sf.Sc
open Go Go.Sf
theorem XD {t:AC} (b:BX t) {p:Pattern} {c:AA} (g:D6 c) (i:cnt c<=40) {h:AQ} {m:AE} (j:EW t p c h=some true) (e:(Kq t p c h m true).2=0):Zf t p c h m∧h.Graph.Edges.length<=8:=by
 obtain ⟨hv,n,f,k,o,l,n1,n2⟩:=ak b g i j e;have a:=YF e;have d:=TY b g (by omega) (Vn a) j;exact ⟨⟨b,a,i,f,k,n1,n2⟩,d.edges⟩
theorem Z7 {c:AA} {t:AC} {p:Pattern} (b:CV t p c):(if (!decide (c.Kind=2))=true then some true else ((AL c.Kids 0).bind fun d=>some (!decide (d.Kind=5))))=some (!decide (c.Kind=2∧(AB c.Kids 0).Kind=5)):=by
 by_cases a:c.Kind=2
 ·have e:=b.one (.inl a);rw [d2 (by simp [a]),AK (by omega) (by omega),bs];simp [a]
 ·rw [d1 (by simpa using a)];simp [a]
theorem cT {t:AC} (u:BX t) {p:Pattern} {c:AA} (v:D6 c) (w:cnt c<=40) {h:AQ} {m:AE} (D:EW t p c h=some true):FM t p c h m=some (Oj t p c h m):=by
 unfold FM Oj;rw [PW u p v w,bs];by_cases e:(Kq t p c h m true).2=0
 ·have F:¬ (Kq t p c h m true).2≠0:=fun k=>k e;obtain ⟨C,O⟩:=XD u v w D e;rw [d2 (by simp [e]),d2 F,Z7 C.cv,bs];by_cases f:c.Kind=2∧(AB c.Kids 0).Kind=5
  ·have x:¬ ¬ (c.Kind=2∧(AB c.Kids 0).Kind=5):=fun k=>k f;rw [d2 (by simp [f]),d2 x,d2 (by simp; omega)];rw [E8 (a:=0) (b:=h.Graph.Edges.length) (s:=[]) (fun i=>DO m.Morphism.Edges i.toNat) (by omega) rfl,bs,Int.toNat_natCast]
   ·have G:=Ma m.Morphism.Edges h.Graph.Edges.length;rw [CW (fun n=>(D4 (IK t h c m) n.toNat (DO m.Morphism.Edges h.Graph.Edges.length)).map fun l=>(l,(0:Int)))]
    ·have H:=MX (d:=fun n=>D4 (IK t h c m) n.toNat (DO m.Morphism.Edges h.Graph.Edges.length)) (g:=fun l=>(l,(0:Int))) (a:=0) (b:=4);rw [H];unfold ZB;cases fst (fun n=>D4 (IK t h c m) n.toNat (DO m.Morphism.Edges h.Graph.Edges.length)) 0 4 <;> rfl
    ·intro n K L _;have A:=jG (k:=n.toNat) (l:=DO m.Morphism.Edges h.Graph.Edges.length) (by omega) (by omega);rw [show ((n.toNat:Nat):Int)=n by omega] at A;rw [A,bs];have o:=Ol n.toNat (DO m.Morphism.Edges h.Graph.Edges.length);have q:=O3 n.toNat (DO m.Morphism.Edges h.Graph.Edges.length) (IK t h c m);generalize FR n.toNat (DO m.Morphism.Edges h.Graph.Edges.length)=S at o q ⊢;rw [CW (fun j=>if IK t h c m (AB S j)=true then some (AB S j,(0:Int)) else none)]
     ·rw [Xq (IK t h c m) (fun l=>(l,(0:Int))) S,q];cases D4 (IK t h c m) n.toNat (DO m.Morphism.Edges h.Graph.Edges.length) <;> rfl
     ·intro j y z _;obtain ⟨⟨I,J⟩,_⟩:=C.all (WD (o _ (AS y z)));rw [AK y z,bs,J,bs];dsimp only;rw [PW u p v w,bs,I];by_cases r:IK t h c m (AB S j)=true
      ·rw [d1 (by simp [r]),d1 r]; rfl
      ·rw [d2 (by simp [r]),d2 r]; rfl
   ·intro i E M;have B:=Ma m.Morphism.Edges i.toNat
    rw [Zr,bs,NU _ E];cases N:hasB m.Morphism.Edges i
    ·rw [d1 (by decide),CC (by simp only [d6,List.length_nil]; unfold BS; omega),d2 (by decide)]; rfl
    ·rw [d2 (by decide),d1 rfl,List.append_nil]
  ·rw [d1 (by simp [f]),d1 f]
 ·rw [d1 (by simp [e]),d1 e]
theorem cZ {t:AC} (q:BX t) {p:Pattern} {c:AA} (s:D6 c) (u:cnt c<=40) {h:AQ} {m:AE} (w:EW t p c h=some true):LK t p c h m=some (Oj t p c h m):=by
 unfold LK Oj;rw [XX q p s u,bs];by_cases e:(Kq t p c h m true).2=0
 ·have z:¬ (Kq t p c h m true).2≠0:=fun k=>k e;obtain ⟨v,E⟩:=XD q s u w e;rw [d2 (by simp [e]),d2 z,Z7 v.cv,bs];by_cases f:c.Kind=2∧(AB c.Kids 0).Kind=5
  ·have j:¬ ¬ (c.Kind=2∧(AB c.Kids 0).Kind=5):=fun k=>k f;rw [d2 (by simp [f]),d2 j,d2 (by simp; omega)];rw [OQ (fun n=>(D4 (IK t h c m) n.toNat (DO m.Morphism.Edges h.Graph.Edges.length)).map fun l=>Sum.inr (l,(0:Int))) (a:=0) (b:=4) (by omega)]
   ·have A:=MX (d:=fun n=>D4 (IK t h c m) n.toNat (DO m.Morphism.Edges h.Graph.Edges.length)) (g:=fun l=>(Sum.inr (l,(0:Int)):Int ⊕ (Ne × Int))) (a:=0) (b:=4);rw [A];unfold ZB;cases fst (fun n=>D4 (IK t h c m) n.toNat (DO m.Morphism.Edges h.Graph.Edges.length)) 0 4 <;> rfl
   ·intro n C D _;have o:n.toNat<=3:=by omega
    have B:NP ⟨t,h,m,true⟩ c [] n=some (match D4 (IK t h c m) n.toNat (DO m.Morphism.Edges h.Graph.Edges.length) with | some r=>(r,true,0) | none=>(if n.toNat=0 then [] else [],false,0)):=FV (n.toNat+1) fun N y=>by
     have e:=SO v n.toNat [] 0 o ⟨List.Pairwise.nil,fun x i=>by simp at i⟩ (fun x i=>by simp at i) (by simp) (by omega) N y;rw [show ((n.toNat:Nat):Int)=n by omega,show (((h.Graph.Edges.length:Nat):Int) - 0).toNat=h.Graph.Edges.length by omega,Yk] at e;exact e
    rw [d1 (by simp; omega),B,bs];cases D4 (IK t h c m) n.toNat (DO m.Morphism.Edges h.Graph.Edges.length) with
    | some r=>rfl
    | none=>
     dsimp only;rw [d2 (by simp),d2 (by simp),BC (by omega) (by omega)]; rfl
   ·rw [d2 (by decide)]
  ·rw [d1 (by simp [f]),d1 f]
 ·rw [d1 (by simp [e]),d1 e]
theorem Zw {k:Nat} {l r:Ne} {P:Ne->Bool} (h:D4 P k l=some r):r.Sublist l∧P r=true:=by
 rw [←O3] at h;exact ⟨Ol k l r (List.mem_of_find?_eq_some h),List.find?_some h⟩
theorem jY {t:AC} {p:Pattern} {c:AA} {h:AQ} {m:AE} (e:(Oj t p c h m).2=0):(Kq t p c h m true).2=0∧(c.Kind=2∧(AB c.Kids 0).Kind=5)∧SF h m (Oj t p c h m).1∧IK t h c m (Oj t p c h m).1=true:=by
 unfold Oj at e ⊢;split at e
 ·rename_i k; exact absurd e k
 rename_i a;split at e
 ·cases e
 rename_i b;rw [d2 a,d2 b];split at e
 ·rename_i l d;unfold ZB at d;obtain ⟨n,j,n1,f,_⟩:=C8 d;obtain ⟨g,i⟩:=Zw f;exact ⟨Classical.not_not.1 a,Classical.not_not.1 b,WD g,i⟩
 ·cases e
theorem RN (t:AC) (x:Ht) (y:KG) (st:(AU t).Sm) (i:(Hq x).Sm) (_:(K3 y).Sm):I0 t x y=some true:=by
 obtain ⟨b,e,f⟩:=aX y st i;unfold I0;rw [be,bs,d2 (by decide),e];cases b
 ·rfl
 obtain ⟨a,c,d,h⟩:=f rfl;simp only [bs,Bool.not_true,Bool.false_eq_true,if_false];rw [cT a c d h,cZ a c d h];simp only [bs];have j:slices_Equal_int (Oj t x.P x.C y.H y.M).1 (Oj t x.P x.C y.H y.M).1=some true:=by
  rw [dy]; simp
 rw [j,bs];by_cases g:(Oj t x.P x.C y.H y.M).2=0
 ·rw [d2 (by simp [g])];obtain ⟨k,_,l,m⟩:=jY g;obtain ⟨⟨n,_⟩,o,_⟩:=(XD a c d h k).1.all l;rw [o,bs];dsimp only;rw [PW a x.P c d,bs,n,m]; rfl
 ·rw [d1 (by simp [g])]; simp
end Go.Sf.Sc
