/- Plain lemmas: what the functions of the program and of the reference compute. -/
import Derived.Test.YtlbmpkmkmkgniaaGreatDoorEval
import Derived.Test.YtlbmpkmkmkgniaaGreatDoorP52
set_option linter.all false
set_option maxRecDepth 100000
namespace Go.Sf.Sc
open Go Go.Sf
end Go.Sf.Sc
namespace Go.Sf.Sc
open Go Go.Sf
theorem SN {α:Type} (F:Int->List α) {i:Int} (h:0<=i):(A9 (i+1).toNat).flatMap F=(A9 i.toNat).flatMap F++F i:=by
 rw [show (i+1).toNat=i.toNat+1 by omega,Ks,List.flatMap_append,List.flatMap_cons,List.flatMap_nil,List.append_nil,show ((i.toNat:Nat):Int)=i by omega]
theorem Tk {α:Type} (F:Int->List α) {k:Nat}:∀ {n:Nat},k<=n->((A9 k).flatMap F).length<=((A9 n).flatMap F).length
 | 0,h=>by rw [show k=0 by omega]; omega
 | n+1,h=>by
  by_cases e:k=n+1
  ·rw [e]; omega
  ·have:=Tk F (k:=k) (n:=n) (by omega);rw [Ks,List.flatMap_append,d4]; omega
end Go.Sf.Sc
namespace Go.Sf.Sc
open Go Go.Sf
end Go.Sf.Sc
namespace Go.Sf.Sc
open Go Go.Sf
theorem Y7 {x:HP} (b:(HM x).Sm):(AF x.C).Sm:=by
 obtain ⟨p,c⟩:=x;cases c;have a:TV.Sms [_,_,_,_,_,_,_,_,_,_,_,_,_,_]:=b;obtain ⟨_,_,_,_,_,h⟩:=a;exact h
theorem ZN {t:AD} {x:HP} (y:Jr) (st:(At t).Sm) (c:(HM x).Sm):∃ b,LE t x y=some b∧(b=true->CC t∧EF x.C∧cnt x.C<=40∧E8 t x.P x.C y.H=some true):=by
 obtain ⟨e,f,a⟩:=Th st;unfold LE;rw [f,bs];cases e
 ·exact ⟨_,rfl,fun h=>by simp at h⟩
 obtain ⟨g,i,j⟩:=ZK (a rfl) st x.P (Y7 c) y.H;rw [d1 rfl,i];refine ⟨_,rfl,fun h=>?_⟩;rw [zzZ,zzZ] at h;have d:g=true:=h.1.1;subst d;have:=j rfl;exact ⟨a rfl,this.1,this.2.1,rfl⟩
theorem SZ {t:AD} (a:CC t) {p:Pattern} {c:AA} (d:EF c) (g:cnt c<=1000) (i:HK t p c=0) {h:A0} (j:E8 t p c h=some true):R4 p c h:=by
 obtain ⟨b,e,f⟩:=af a d g i h;rw [j] at e;cases e;exact f rfl
theorem Ut {t:AD} {p:Pattern} {c:AA} {h:A0} {m:AG} {inj:Bool} (e:MX t p c h m inj=0):HK t p c=0:=by
 unfold MX at e;split at e
 ·rename_i k; exact absurd e k
 ·rename_i k; exact Classical.not_not.1 k
theorem W8 {t:AD} {p:Pattern} {c:AA} {h:A0} {m:AG} {inj:Bool} (e:(MO t p c h m inj).2=0):MX t p c h m inj=0:=by
 by_cases a:MX t p c h m inj=0
 ·exact a
 have b:(wS t p c h m inj).2=MX t p c h m inj:=by unfold wS; rw [d1 a]
 unfold MO at e;rw [b,d2 (aJ t p c h m inj)] at e;exact e
theorem aK {t:AD} {p:Pattern} {c:AA} (a:cnt c<=1000) (e:HK t p c=0):cnt c<=12:=by
 obtain ⟨_,m1,_⟩:=bP (Ta e).2.1;rw [ah a] at m1;simp only at m1;omega
theorem ZZ {t:AD} (f:CC t) {p:Pattern} {c:AA} (i:EF c) (j:cnt c<=40) {h:A0} {m:AG} {inj:Bool} (k:E8 t p c h=some true) (e:(MO t p c h m inj).2=0) :
  (BM t).2=0∧J2 t h∧CV t p c∧CG t p c∧RP t p h m∧cnt c<=12∧h.Graph.Nodes.length<=14∧h.Graph.Edges.length<=18:=by
 have g:=W8 e;have b:=Ut g;obtain ⟨hv,l,d,n⟩:=UZ f j g;have a:=SZ f i (by omega) b k;have:=a.nodes;have:=a.edges;exact ⟨hv,l,d,ae a b,n,aK (by omega) b,by omega,by omega⟩
instance:Inhabited AO:=⟨⟨[],0,[]⟩⟩
end Go.Sf.Sc
namespace Go.Sf.Sc
open Go Go.Sf
def Li (l:Ne):Prop:=l.Pairwise (·<·)
theorem Rg:∀ {a b:Ne},Li a->Li b->(∀ x,x∈a↔x∈b)->a=b
 | [],[],_,_,_=>rfl
 | [],y::b,_,_,h=>by have:=(h y).2 (by simp); simp at this
 | x::a,[],_,_,h=>by have:=(h x).1 (by simp); simp at this
 | x::a,y::b,j,l,h=>by
  have c:=List.pairwise_cons.1 j;have d:=List.pairwise_cons.1 l;have e:x=y:=by
   have g:=(h x).1 (by simp);have i:=(h y).2 (by simp);rcases List.mem_cons.1 g with e | g
   ·exact e
   ·rcases List.mem_cons.1 i with e | i
    ·exact e.symm
    ·have:=d.1 x g;have:=c.1 y i;omega
  subst e;rw [Rg c.2 d.2 fun z=>by
   constructor
   ·intro f;have:=c.1 z f;rcases List.mem_cons.1 ((h z).1 (List.mem_cons_of_mem _ f)) with e | k
    ·omega
    ·exact k
   ·intro f;have:=d.1 z f;rcases List.mem_cons.1 ((h z).2 (List.mem_cons_of_mem _ f)) with e | k
    ·omega
    ·exact k]
end Go.Sf.Sc
namespace Go.Sf.Sc
open Go Go.Sf
end Go.Sf.Sc
namespace Go.Sf.Sc
open Go Go.Sf
end Go.Sf.Sc
namespace Go.Sf.Sc
open Go Go.Sf
end Go.Sf.Sc
namespace Go.Sf.Sc
open Go Go.Sf
structure QZ (l:List AO) (Q:List AO->Prop) (L:Ne):Prop where
 asc:Li L
 mem:∀ x,x∈L↔(0<=x∧x<=l.length)∧Q (l.take x.toNat)
theorem PB:∀ {L:Ne} {a b:Int},Li L->(∀ x∈L,a<=x∧x<=b)->a<=b+1->(L.length:Int)<=b+1 - a
 | [],_,_,_,_,h=>by simp; omega
 | y::L,a,b,h,e,_=>by
  have d:=List.pairwise_cons.1 h;have f:=e y (by simp);have:=PB (a:=y+1) (b:=b) d.2 (fun x c=>⟨by have:=d.1 x c; omega,(e x (List.mem_cons_of_mem _ c)).2⟩) (by omega);rw [d6];omega
theorem QZ.len {l:List AO} {Q:List AO->Prop} {L:Ne} (h:QZ l Q L):L.length<=l.length+1:=by
 have:=PB (a:=0) (b:=l.length) h.asc (fun x c=>((h.mem x).1 c).1) (by omega);omega
end Go.Sf.Sc
namespace Go.Sf.Sc
open Go Go.Sf
theorem Sp {P Q:List AO->Prop} {l:List AO} {a x:Nat} (d:a<=x) (f:x<=l.length):(∃ u v,(l.drop a).take (x - a)=u++v∧P u∧Q v)↔∃ b,a<=b∧b<=x∧P ((l.drop a).take (b - a))∧Q ((l.drop b).take (x - b)):=by
 constructor
 ·rintro ⟨u,v,e,c,hv⟩;have g:u.length+v.length=x - a:=by
   have:=congrArg List.length e;rw [d5,List.length_drop,d4] at this; omega
  refine ⟨a+u.length,by omega,by omega,?_,?_⟩
  ·have:=congrArg (List.take u.length) e;rw [List.take_take,List.take_left,show min u.length (x - a)=u.length by omega] at this;rw [show a+u.length - a=u.length by omega,this]; exact c
  ·have:=congrArg (List.drop u.length) e;rw [List.drop_take,List.drop_left,List.drop_drop] at this;rw [show x - (a+u.length)=x - a - u.length by omega,this]; exact hv
 ·rintro ⟨b,h,i,c,hv⟩;refine ⟨_,_,?_,c,hv⟩;rw [show l.drop b=(l.drop a).drop (b - a) by rw [List.drop_drop]; congr 1; omega,show x - a=(b - a)+(x - b) by omega,List.take_add]
structure YZ (l:List AO) (A:Ne):Prop where
 asc:Li A
 rng:∀ a∈A,0<=a∧a<=l.length
structure KJ (l:List AO) (A:Ne) (Q:List AO->Prop) (E:Ne):Prop where
 asc:Li E
 mem:∀ x,x∈E↔∃ a∈A,a<=x∧x<=l.length∧Q ((l.drop a.toNat).take (x - a).toNat)
theorem YZ.len {l:List AO} {A:Ne} (h:YZ l A):A.length<=l.length+1:=by
 have:=PB (a:=0) (b:=l.length) h.asc h.rng (by omega);omega
theorem KJ.congr {l:List AO} {A E:Ne} {Q R:List AO->Prop} (h:KJ l A Q E) (e:∀ y,Q y↔R y):KJ l A R E:=
 ⟨h.asc,fun x=>(h.mem x).trans ⟨fun ⟨a,b,c,d,k⟩=>⟨a,b,c,d,(e _).1 k⟩,fun ⟨a,b,c,d,k⟩=>⟨a,b,c,d,(e _).2 k⟩⟩⟩
theorem KJ.seq {l:List AO} {A B E:Ne} {Q R:List AO->Prop} (f:YZ l A) (g:KJ l A Q B) (d:KJ l B R E):KJ l A (fun y=>∃ u v,y=u++v∧Q u∧R v) E:=by
 refine ⟨d.asc,fun x=>⟨fun j=>?_,?_⟩⟩
 ·obtain ⟨b,k,m,h,n⟩:=(d.mem x).1 j;obtain ⟨a,c,o,i,e⟩:=(g.mem b).1 k;have:=f.rng a c;refine ⟨a,c,by omega,h,?_⟩;rw [show (x - a).toNat=x.toNat - a.toNat by omega];exact (Sp (P:=Q) (Q:=R) (by omega) (by omega)).2 ⟨b.toNat,by omega,by omega,by rwa [show b.toNat - a.toNat=(b - a).toNat by omega],by rwa [show x.toNat - b.toNat=(x - b).toNat by omega]⟩
 ·rintro ⟨a,c,o,i,e⟩;have:=f.rng a c;rw [show (x - a).toNat=x.toNat - a.toNat by omega] at e;obtain ⟨b,m,h,n,p⟩:=(Sp (P:=Q) (Q:=R) (by omega) (by omega)).1 e;refine (d.mem x).2 ⟨(b:Int),(g.mem b).2 ⟨a,c,by omega,by omega,by rwa [show ((b:Int) - a).toNat=b - a.toNat by omega]⟩,by omega,i,?_⟩;rw [show (x - (b:Int)).toNat=x.toNat - b by omega]; simpa using p
theorem KJ.or {l:List AO} {A B D E:Ne} {Q R:List AO->Prop} (f:KJ l A Q B) (g:KJ l A R D) (h:Li E) (i:∀ x,x∈E↔x∈B∨x∈D):KJ l A (fun y=>Q y∨R y) E:=by
 refine ⟨h,fun x=>(i x).trans ?_⟩;rw [f.mem,g.mem];constructor
 ·rintro (⟨a,c,d,e,b⟩ | ⟨a,c,d,e,b⟩)
  ·exact ⟨a,c,d,e,.inl b⟩
  ·exact ⟨a,c,d,e,.inr b⟩
 ·rintro ⟨a,c,d,e,b | b⟩
  ·exact .inl ⟨a,c,d,e,b⟩
  ·exact .inr ⟨a,c,d,e,b⟩
def Iy:Ne->Ne->Ne
 | [],b=>b
 | x::a,[]=>x::a
 | x::a,y::b=>if x<y then x::Iy a (y::b) else if x=y then y::Iy a b else y::Iy (x::a) b
termination_by a b=>a.length+b.length
theorem Ke:∀ (n:Nat) (a b:Ne),a.length+b.length<=n->∀ x,x∈Iy a b↔x∈a∨x∈b
 | _,[],b,_,x=>by rw [Iy]; simp
 | _,z::a,[],_,x=>by rw [Iy]; simp
 | 0,z::a,y::b,h,x=>by simp at h
 | n+1,z::a,y::b,h,x=>by
  simp only [d6] at h;rw [Iy];split
  ·rw [List.mem_cons,Ke n a (y::b) (by simp only [d6]; omega),List.mem_cons (l:=a),or_assoc]
  ·split
   ·rename_i e;rw [List.mem_cons,Ke n a b (by omega),List.mem_cons,List.mem_cons,e];constructor
    ·rintro (k | k | k) <;> simp [k]
    ·rintro ((k | k) | (k | k)) <;> simp [k]
   ·rw [List.mem_cons,Ke n (z::a) b (by simp only [d6]; omega),List.mem_cons (l:=b)];constructor
    ·rintro (k | k | k) <;> simp [k]
    ·rintro (k | k | k) <;> simp [k]
theorem OQ:∀ (n:Nat) (a b:Ne),a.length+b.length<=n->Li a->Li b->Li (Iy a b)
 | _,[],b,_,_,f=>by rw [Iy]; exact f
 | _,z::a,[],_,g,_=>by rw [Iy]; exact g
 | 0,z::a,y::b,h,_,_=>by simp at h
 | n+1,z::a,y::b,h,g,f=>by
  simp only [d6] at h;have c:=List.pairwise_cons.1 g;have d:=List.pairwise_cons.1 f;rw [Iy];split
  ·refine List.pairwise_cons.2 ⟨fun x e=>?_,OQ n a (y::b) (by simp only [d6]; omega) c.2 f⟩;rcases (Ke _ _ _ (d3 _) x).1 e with k | k
   ·exact c.1 x k
   ·rcases List.mem_cons.1 k with k | k
    ·omega
    ·have:=d.1 x k; omega
  ·split
   ·refine List.pairwise_cons.2 ⟨fun x e=>?_,OQ n a b (by omega) c.2 d.2⟩;rcases (Ke _ _ _ (d3 _) x).1 e with k | k
    ·have:=c.1 x k; omega
    ·exact d.1 x k
   ·refine List.pairwise_cons.2 ⟨fun x e=>?_,OQ n (z::a) b (by simp only [d6]; omega) g d.2⟩;rcases (Ke _ _ _ (d3 _) x).1 e with k | k
    ·rcases List.mem_cons.1 k with k | k
     ·omega
     ·have:=c.1 x k; omega
    ·exact d.1 x k
theorem KJ.join {l:List AO} {A B D:Ne} {Q R:List AO->Prop} (a:KJ l A Q B) (b:KJ l A R D):KJ l A (fun y=>Q y∨R y) (Iy B D):=
 a.or b (OQ _ _ _ (d3 _) a.asc b.asc) (Ke _ _ _ (d3 _))
end Go.Sf.Sc
namespace Go.Sf.Sc
open Go Go.Sf
theorem R0 (n:Nat):Li (A9 n):=by
 unfold Li A9;rw [List.pairwise_map];exact List.Pairwise.imp (fun h=>Int.ofNat_lt.2 h) List.pairwise_lt_range
noncomputable def aa (Q:List AO->Prop) (l:List AO):Ne:=(A9 (l.length+1)).filter fun x=>@decide (Q (l.take x.toNat)) (Classical.propDecidable _)
theorem T2 (Q:List AO->Prop) (l:List AO):QZ l Q (aa Q l):=by
 refine ⟨List.Pairwise.filter _ (R0 _),fun x=>?_⟩;unfold aa;rw [List.mem_filter,E7,@zzX _ (Classical.propDecidable _)];constructor
 ·rintro ⟨b,a⟩; exact ⟨by omega,a⟩
 ·rintro ⟨b,a⟩; exact ⟨by omega,a⟩
theorem QZ.eq {l:List AO} {Q:List AO->Prop} {L:Ne} (h:QZ l Q L):L=aa Q l:=
 Rg h.asc (T2 Q l).asc fun x=>(h.mem x).trans ((T2 Q l).mem x).symm
theorem QZ.congr {l:List AO} {Q R:List AO->Prop} {L:Ne} (h:QZ l Q L) (e:∀ y,Q y↔R y):QZ l R L:=
 ⟨h.asc,fun x=>(h.mem x).trans ⟨fun ⟨a,b⟩=>⟨a,(e _).1 b⟩,fun ⟨a,b⟩=>⟨a,(e _).2 b⟩⟩⟩
end Go.Sf.Sc
namespace Go.Sf.Sc
open Go Go.Sf
theorem Yl (l:Ne) (v:Int):slices_Contains_int l v=some (hasB l v):=SE l v
end Go.Sf.Sc
namespace Go.Sf.Sc
open Go Go.Sf
noncomputable def aL (Q:List AO->Prop) (l:List AO) (A:Ne):Ne:=(A9 (l.length+1)).filter fun x=>@decide (∃ a∈A,a<=x∧x<=l.length∧Q ((l.drop a.toNat).take (x - a).toNat)) (Classical.propDecidable _)
theorem Td {l:List AO} {A:Ne} (d:YZ l A) (Q:List AO->Prop):KJ l A Q (aL Q l A):=by
 refine ⟨List.Pairwise.filter _ (R0 _),fun x=>?_⟩;unfold aL;rw [List.mem_filter,E7,@zzX _ (Classical.propDecidable _)];constructor
 ·rintro ⟨_,b⟩; exact b
 ·rintro ⟨a,c,e,b,f⟩;have:=d.rng a c;exact ⟨by omega,a,c,e,b,f⟩
theorem KJ.eq {l:List AO} {A E:Ne} {Q:List AO->Prop} (a:YZ l A) (h:KJ l A Q E):E=aL Q l A:=
 Rg h.asc (Td a Q).asc fun x=>(h.mem x).trans ((Td a Q).mem x).symm
end Go.Sf.Sc
namespace Go.Sf.Sc
open Go Go.Sf
theorem iZ {t:AD} {p:Pattern} {c:AA} {h:A0} {m:AG} {inj:Bool} (a:MX t p c h m inj=0) (b:CV t p c) (d:CG t p c) (e:RP t p h m) (hv:(BM t).2=0) (f:J2 t h) (n1:h.Graph.Nodes.length<=14) (n2:h.Graph.Edges.length<=18):MO t p c h m inj=(OH t h inj c m,0):=by
 have g:=XN (inj:=inj) hv f n1 n2 _ c p m (d3 _) b d e;unfold MO wS;simp only [a,ne_eq,not_true_eq_false,if_false,g];cases OH t h inj c m <;> rfl
end Go.Sf.Sc
namespace Go.Sf.Sc
open Go Go.Sf
end Go.Sf.Sc
namespace Go.Sf.Sc
open Go Go.Sf
def D7 (l:Ne) (n:Nat):Ne:=(A9 n).filter fun i=>!hasB l i
def CF (l:Ne) (i:Int):Int:=((D7 l i.toNat).length:Int)
theorem PZ (l:Ne) (n:Nat):D7 l (n+1)=D7 l n++if hasB l n=true then [] else [(n:Int)]:=by
 unfold D7;rw [Ks,List.filter_append];congr 1;cases h:hasB l n <;> simp [h]
theorem Tz (l:Ne):∀ (n k:Nat),∃ r,D7 l (n+k)=D7 l n++r
 | n,0=>⟨[],by simp⟩
 | n,k+1=>by
  obtain ⟨r,e⟩:=Tz l n k;exact ⟨_,by rw [←Nat.add_assoc,PZ,e,ea]⟩
theorem Lr (l:Ne) (n:Nat):(D7 l n).length<=n:=by
 have:=List.length_filter_le (fun i=>!hasB l i) (A9 n);rw [CI] at this; exact this
theorem Ty {l:Ne} {n:Nat} {i:Int}:i∈D7 l n↔(0<=i∧i<n)∧hasB l i=false:=by
 unfold D7;rw [List.mem_filter,E7]; simp
theorem Qw {l:Ne} {n:Nat} {i:Int} (a:0<=i) (b:i<n) (h:hasB l i=false):(0<=CF l i∧CF l i<(D7 l n).length)∧AB (D7 l n) (CF l i)=i:=by
 obtain ⟨r,e⟩:=Tz l (i.toNat+1) (n - (i.toNat+1));rw [show i.toNat+1+(n - (i.toNat+1))=n by omega,PZ,show ((i.toNat:Nat):Int)=i by omega,d2 (by rw [h]; decide)] at e;unfold CF;refine ⟨⟨by omega,by rw [e]; simp; omega⟩,?_⟩;rw [e];unfold AB;rw [Int.toNat_natCast,ea,List.getD_eq_getElem?_getD,List.getElem?_append_right (d3 _),Nat.sub_self]; rfl
def wG (g:Graph) (l:Ne):Graph:=⟨g.Nodes,(D7 l g.Edges.length).map (AB g.Edges)⟩
def wH (h:A0) (l:Ne):A0:=⟨wG h.Graph l,h.Values⟩
def wM (m:AG) (l:Ne):AG:=⟨⟨m.Morphism.Nodes,m.Morphism.Edges.map (CF l)⟩,m.Vars⟩
theorem Zy (g:Graph) (l:Ne):(wG g l).Edges.length<=g.Edges.length:=by
 show ((D7 l g.Edges.length).map _).length<=_;rw [d7]; exact Lr _ _
theorem Zz {g:Graph} {l:Ne} {e:DG} (h:e∈(wG g l).Edges):∃ i:Int,0<=i∧i<g.Edges.length∧e=AB g.Edges i:=by
 obtain ⟨i,hi,rfl⟩:=List.mem_map.1 h;have:=Ty.1 hi;exact ⟨i,this.1.1,this.1.2,rfl⟩
theorem Z0 {g:Graph} {l:Ne} {e:DG} (h:e∈(wG g l).Edges):e∈g.Edges:=by
 obtain ⟨i,a,b,rfl⟩:=Zz h;exact AW a b
theorem pM {g:Graph} {l:Ne} {i:Int} (d:0<=i) (e:i<g.Edges.length) (h:hasB l i=false):(0<=CF l i∧CF l i<(wG g l).Edges.length)∧AB (wG g l).Edges (CF l i)=AB g.Edges i:=by
 obtain ⟨⟨a,b⟩,c⟩:=Qw d e h;show (_∧_<(((D7 l g.Edges.length).map _).length:Int))∧AB ((D7 l g.Edges.length).map _) _=_;rw [d7];exact ⟨⟨a,b⟩,by rw [Yh a b,c]⟩
theorem UO {g:Graph} (l:Ne) (h:CR g=0):CR (wG g l)=0:=by
 have d:=Zy g l;unfold CR at h ⊢;split at h
 ·cases h
 rename_i f;split at h
 ·cases h
 rename_i c;split at h
 ·cases h
 rename_i a;rw [Bool.not_eq_true,List.any_eq_false] at a;rw [d2 (by show ¬ (40<g.Nodes.length∨80<(wG g l).Edges.length); omega),d2 (show ¬ ((wG g l).Nodes.any fun n=>!KO n)=true from c),d2];rw [Bool.not_eq_true,List.any_eq_false];exact fun e b=>a e (Z0 b)
theorem cD {t:AD} {g:Graph} (l:Ne) (h:EU t g=true):EU t (wG g l)=true:=by
 unfold EU at h ⊢;rw [zzZ,Bool.not_eq_true',Bool.not_eq_true',List.any_eq_false,List.any_eq_false] at h ⊢;exact ⟨h.1,fun e a=>h.2 e (Z0 a)⟩
theorem VB {t:AD} {h:A0}:(JO t h).2=0↔(BM t).2=0∧CR h.Graph=0∧h.Values.length=h.Graph.Nodes.length∧(∀ i:Int,0<=i->i<h.Graph.Nodes.length->JY t (AB h.Graph.Nodes i) (AB h.Values i)=0)∧∀ i:Int,0<=i->i<h.Graph.Edges.length->Ix t h.Graph i=0:=by
 have ne:∀ {n:Int} {f:Int->Int} {r:Int × Int},fst (fun i=>(nz (f i)).map fun e=>(i,e)) 0 n=some r->r.2≠0:=fun d=>by
  obtain ⟨i,_,_,k,_⟩:=DJ d;unfold nz at k;split at k
  ·cases k
  ·rename_i g; cases k; exact g
 constructor
 ·intro e;unfold JO at e;split at e
  ·rename_i c; exact absurd e c
  split at e
  ·rename_i c; exact absurd e c
  split at e
  ·cases e
  rename_i c j l;refine ⟨Classical.not_not.1 c,Classical.not_not.1 j,Classical.not_not.1 l,?_⟩;cases d:fst (fun i=>(nz (JY t (AB h.Graph.Nodes i) (AB h.Values i))).map fun e=>(i,e)) 0 h.Graph.Nodes.length with
  | some r=>rw [d] at e; exact absurd e (ne d)
  | none=>
   rw [d] at e;refine ⟨fun i a b=>Lt.1 (Kf.1 (CZ.1 d i a b)),?_⟩;cases m:fst (fun i=>(nz (Ix t h.Graph i)).map fun e=>(i,e)) 0 h.Graph.Edges.length with
   | some r=>rw [m] at e; exact absurd e (ne m)
   | none=>exact fun i a b=>Lt.1 (Kf.1 (CZ.1 m i a b))
 ·rintro ⟨c,j,l,o,p⟩;unfold JO;have n1:fst (fun i=>(nz (JY t (AB h.Graph.Nodes i) (AB h.Values i))).map fun e=>(i,e)) 0 h.Graph.Nodes.length=none:=CZ.2 fun i a b=>by rw [o i a b]; rfl
  have n2:fst (fun i=>(nz (Ix t h.Graph i)).map fun e=>(i,e)) 0 h.Graph.Edges.length=none:=CZ.2 fun i a b=>by rw [p i a b]; rfl
  rw [d2 (fun k=>k c),d2 (fun k=>k j),d2 (fun k=>k l),n1,n2]; rfl
theorem fG {t:AD} {h:A0} (l:Ne) (e:(JO t h).2=0):(JO t (wH h l)).2=0:=by
 obtain ⟨c,d,f,g,k⟩:=VB.1 e;refine VB.2 ⟨c,UO l d,f,g,fun i a b=>?_⟩;obtain ⟨j,m,n,o⟩:=Zz (AW (l:=(wG h.Graph l).Edges) a b);have:=k j m n;unfold Ix Rm at this ⊢;show (if (t.Edges.length:Int)<=(AB (wG h.Graph l).Edges i).Type' then (6:Int) else if SL t (AB (wG h.Graph l).Edges i).Type' (AB h.Graph.Nodes (AB (wG h.Graph l).Edges i).From) (AB h.Graph.Nodes (AB (wG h.Graph l).Edges i).To)=false then 13 else 0)=0;rw [o]; exact this
theorem aS {l:Ne} {n:Nat} {a:Ne} (d:∀ x∈a,(0<=x∧x<n)∧hasB l x=false) (h:a.Nodup):(a.map (CF l)).Nodup:=by
 induction a with
 | nil=>simp
 | cons x a k=>
  rw [List.nodup_cons] at h;rw [List.map_cons,List.nodup_cons];refine ⟨fun i=>?_,k (fun y c=>d y (List.mem_cons_of_mem _ c)) h.2⟩;obtain ⟨y,c,e⟩:=List.mem_map.1 i;have f:=d x (by simp);have b:=d y (List.mem_cons_of_mem _ c);have g:=(Qw f.1.1 f.1.2 f.2).2;have j:=(Qw b.1.1 b.1.2 b.2).2;rw [←e,j] at g;subst g;exact h.1 c
theorem Z1 {t:AD} {p:Graph} {g:Graph} {m:Morphism} {l:Ne} (inj:Bool) (z:∀ k∈m.Edges,hasB l k=false) (h:KK t p g m inj=0):KK t p (wG g l) ⟨m.Nodes,m.Edges.map (CF l)⟩ inj=0:=by
 obtain ⟨b,B⟩:=Uu h;unfold KK at h ⊢;rw [d2 (fun k=>k b)] at h;have s:GI t p (wG g l)=0:=by
  unfold GI at b ⊢;split at b
  ·rename_i k; exact absurd b k
  split at b
  ·rename_i k; exact absurd b k
  split at b
  ·rename_i k; exact absurd b k
  rename_i o C D;split at b
  ·rename_i q;rw [zzZ] at q;rw [d2 o,d2 C,d2 (fun k=>k (UO l (Classical.not_not.1 D))),d1 (by rw [zzZ]; exact ⟨q.1,cD l q.2⟩)]
  ·cases b
 rw [d2 (fun k=>k s)];have a:LY t p g m=0:=by
  by_cases k:LY t p g m=0
  ·exact k
  ·rw [d1 k] at h; exact absurd h k
 rw [d2 (fun k=>k a)] at h;have u:LY t p (wG g l) ⟨m.Nodes,m.Edges.map (CF l)⟩=0:=by
  unfold LY at a ⊢;split at a
  ·cases a
  rename_i o;rw [d2 (by rw [d7]; exact o)];have A:fst (Ir t p g m) 0 m.Nodes.length=none:=by
   cases f:fst (Ir t p g m) 0 m.Nodes.length with
   | none=>rfl
   | some r=>
    rw [f] at a;obtain ⟨i,c,d,k,_⟩:=DJ f;unfold Ir at k;split at k
    ·cases k; cases a
    ·split at k
     ·cases k; cases a
     ·cases k
  rw [A] at a;have v:fst (Ir t p (wG g l) ⟨m.Nodes,m.Edges.map (CF l)⟩) 0 m.Nodes.length=none:=A;show (match fst (Ir t p (wG g l) ⟨m.Nodes,m.Edges.map (CF l)⟩) 0 m.Nodes.length with | some e=>e | none=>(fst (GK p (wG g l) ⟨m.Nodes,m.Edges.map (CF l)⟩) 0 ((m.Edges.map (CF l)).length:Int)).getD 0)=0;rw [v,d7];have E:fst (GK p g m) 0 m.Edges.length=none:=by
   cases f:fst (GK p g m) 0 m.Edges.length with
   | none=>rfl
   | some r=>
    rw [f] at a;obtain ⟨i,c,d,k,_⟩:=DJ f;unfold GK at k;split at k
    ·cases k; cases a
    split at k
    ·cases k; cases a
    split at k
    ·cases k; cases a
    ·cases k
  have w:fst (GK p (wG g l) ⟨m.Nodes,m.Edges.map (CF l)⟩) 0 m.Edges.length=none:=by
   refine CZ.2 fun i c d=>?_;have k:=CZ.1 E i c d;have f:=B.edge i c d;obtain ⟨G,F⟩:=pM f.1 f.2 (z _ (AW c d));unfold GK at k ⊢;show (if AB (m.Edges.map (CF l)) i<0∨((wG g l).Edges.length:Int)<=AB (m.Edges.map (CF l)) i then some 6 else
    if (AB p.Edges i).Type'≠(AB (wG g l).Edges (AB (m.Edges.map (CF l)) i)).Type' then some 13 else
    if AB m.Nodes (AB p.Edges i).From≠(AB (wG g l).Edges (AB (m.Edges.map (CF l)) i)).From∨AB m.Nodes (AB p.Edges i).To≠(AB (wG g l).Edges (AB (m.Edges.map (CF l)) i)).To then some 11 else (none:dD))=none
   rw [Yh c d,F,d2 (by omega)]
   rwa [d2 (by omega)] at k
  rw [w]; rfl
 rw [d2 (fun k=>k u)];cases inj
 ·rfl
 ·have hi:Lc m=true:=by
   cases j:Lc m
   ·rw [j] at h; cases h
   ·rfl
  have y:Lc ⟨m.Nodes,m.Edges.map (CF l)⟩=true:=by
   unfold Lc at hi ⊢;rw [zzZ,Mf,Mf] at hi ⊢;exact ⟨hi.1,aS (n:=g.Edges.length) (fun x j=>by
    obtain ⟨i,c,d,rfl⟩:=EB j;exact ⟨B.edge i c d,z _ j⟩) hi.2⟩
  rw [y]; rfl
theorem rj {t:AD} {p:Pattern} {c:AA} {h:A0} {m:AG} {l:Ne} {inj:Bool} (g:∀ k∈m.Morphism.Edges,hasB l k=false) (e:MX t p c h m inj=0):MX t p c (wH h l) (wM m l) inj=0:=by
 unfold MX at e ⊢;split at e
 ·rename_i k; exact absurd e k
 rename_i n;split at e
 ·rename_i k; exact absurd e k
 rename_i o;split at e
 ·rename_i k; exact absurd e k
 rename_i r;split at e
 ·rename_i k; exact absurd e k
 rename_i a;split at e
 case isFalse=>cases e
 rename_i s;have j:=fG l (Classical.not_not.1 o);have u:=Z1 inj g (Classical.not_not.1 r);have a:=Classical.not_not.1 a;have v:Jx t p (wH h l) ⟨m.Morphism.Nodes,m.Morphism.Edges.map (CF l)⟩=Jx t p h m.Morphism:=by
  unfold Jx at a ⊢;split at a
  ·rename_i q; exact absurd a q
  rename_i b;split at a
  ·rename_i q; exact absurd a q
  rename_i i;have d:¬ MH t p (wH h l)≠0:=by
   unfold MH at b ⊢;split at b
   ·rename_i q; exact absurd q b
   ·rename_i q; rw [d2 q]; exact fun z=>z j
  have f:¬ KK t p.Graph (wH h l).Graph ⟨m.Morphism.Nodes,m.Morphism.Edges.map (CF l)⟩ false≠0:=fun z=>z (Z1 false g (Classical.not_not.1 i));rw [d2 b,d2 i,d2 d,d2 f]; rfl
 show (if HK t p c≠0 then HK t p c else if (JO t (wH h l)).2≠0 then (JO t (wH h l)).2 else if KK t p.Graph (wG h.Graph l) ⟨m.Morphism.Nodes,m.Morphism.Edges.map (CF l)⟩ inj≠0 then KK t p.Graph (wG h.Graph l) ⟨m.Morphism.Nodes,m.Morphism.Edges.map (CF l)⟩ inj else
  if (Jx t p (wH h l) ⟨m.Morphism.Nodes,m.Morphism.Edges.map (CF l)⟩).2≠0 then (Jx t p (wH h l) ⟨m.Morphism.Nodes,m.Morphism.Edges.map (CF l)⟩).2 else if (Jx t p (wH h l) ⟨m.Morphism.Nodes,m.Morphism.Edges.map (CF l)⟩).1=m.Vars then 0 else 11)=0
 rw [d2 n,d2 (fun z=>z j),d2 (fun z=>z u),v,d2 (fun z=>z a),d1 s]
end Go.Sf.Sc
namespace Go.Sf.Sc
open Go Go.Sf
theorem Ms (l:Ne) {i:Int} (h:0<=i):D7 l (i+1).toNat=D7 l i.toNat++if hasB l i=true then [] else [i]:=by
 rw [show (i+1).toNat=i.toNat+1 by omega,PZ,show ((i.toNat:Nat):Int)=i by omega]
theorem ZG {h:A0} {m:AG} {l:Ne} (z:h.Graph.Edges.length<=80) (A:m.Morphism.Edges.length<=200) (r:∀ k∈m.Morphism.Edges,(0<=k∧k<h.Graph.Edges.length)∧hasB l k=false):H0 h m l=some (wH h l,wM m l):=by
 unfold H0;have w:Ls (h.Graph.Edges.length:Int) (0:Int)=some ((A9 h.Graph.Edges.length).map fun j=>if j<0∧hasB l j=false then CF l j else 0):=by
  unfold Ls;rw [d1 (by omega),Int.toNat_natCast];congr 1;have:∀ n:Nat,(A9 n).map (fun j=>if j<0∧hasB l j=false then CF l j else (0:Int))=List.replicate n 0:=fun n=>by
   rw [List.eq_replicate_iff];refine ⟨by rw [d7,CI],fun x t=>?_⟩;obtain ⟨j,y,rfl⟩:=List.mem_map.1 t;have:=(E7.1 y).1;rw [d2 (by omega)]
  rw [this]
 rw [w,bs];rw [EY (a:=0) (b:=h.Graph.Edges.length) (s:=((⟨⟨h.Graph.Nodes,[]⟩,h.Values⟩:A0),(A9 h.Graph.Edges.length).map fun j=>if j<0∧hasB l j=false then CF l j else 0)) (fun i=>((⟨⟨h.Graph.Nodes,(D7 l i.toNat).map (AB h.Graph.Edges)⟩,h.Values⟩:A0),(A9 h.Graph.Edges.length).map fun j=>if j<i∧hasB l j=false then CF l j else 0)) (by omega) rfl,bs]
 ·dsimp only;rw [Int.toNat_natCast];rw [EY (a:=0) (b:=m.Morphism.Edges.length) (s:=AG.mk (Morphism.mk m.Morphism.Nodes []) m.Vars) (fun i=>(⟨⟨m.Morphism.Nodes,(m.Morphism.Edges.take i.toNat).map (CF l)⟩,m.Vars⟩:AG)) (by omega) rfl,bs,Int.toNat_natCast,List.take_length]
  ·rfl
  ·intro i d f;have g:=r _ (AW d f);rw [AL d f,bs,AL g.1.1 (by rw [d7,CI]; exact g.1.2),bs,Il _ g.1.1 g.1.2,d1 ⟨g.1.2,g.2⟩,F1 d f,List.map_append,
    CS (by simp only [d7,d5,d6,List.length_nil]; unfold BY; omega)]; rfl
 ·intro i d f;have p:=Lr l i.toNat
  dsimp only;rw [AL d f,bs,Yl,bs,Ms l d];cases q:hasB l i
  ·rw [d1 (by decide),AL d (by rw [d7,CI]; exact f),bs,CS (by simp only [d7,d6,List.length_nil]; unfold BY; omega),bs,UH _ d,List.map_append,d2 (by decide)];congr 2;refine Pz fun j u v=>?_;by_cases e:j=i
   ·subst e;rw [d1 rfl,d1 ⟨by omega,q⟩,d7]; rfl
   ·rw [d2 e];by_cases c:j<i∧hasB l j=false
    ·rw [d1 c,d1 ⟨by omega,c.2⟩]
    ·rw [d2 c,d2 (fun k=>c ⟨by omega,k.2⟩)]
  ·rw [d2 (by decide),d1 rfl,List.append_nil];congr 2;refine Pz fun j u v=>?_;by_cases c:j<i∧hasB l j=false
   ·rw [d1 c,d1 ⟨by omega,c.2⟩]
   ·rw [d2 c,d2];rintro ⟨B,o⟩;by_cases e:j=i
    ·rw [e,q] at o; cases o
    ·exact c ⟨by omega,o⟩
def EL (l:Ne) (i:Int):Int:=((l.filter fun x=>decide (x<i)).length:Int)
theorem dr (l:Ne) (i:Int):EL l i<=l.length:=by
 have:=List.length_filter_le (fun x=>decide (x<i)) l;unfold EL; omega
theorem Pa {l:Ne} {i:Int} (h:∀ x∈l,i<=x):EL l i=0:=by
 unfold EL;rw [List.filter_eq_nil_iff.2 fun x a=>by have:=h x a; simp; omega]; rfl
theorem TF:∀ {l:Ne} {i:Int},Li l->((EL l i<l.length∧AB l (EL l i)=i)↔hasB l i=true)
 | [],i,_=>by simp [EL,hasB]
 | x::l,i,h=>by
  have c:=List.pairwise_cons.1 h;by_cases g:x<i
  ·have e:EL (x::l) i=EL l i+1:=by
    unfold EL;rw [List.filter_cons_of_pos (by simpa using g),d6]; omega
   have o:0<=EL l i:=by unfold EL; omega
   have j:=TF (i:=i) c.2;have m:AB (x::l) (EL l i+1)=AB l (EL l i):=by
    unfold AB;rw [show (EL l i+1).toNat=(EL l i).toNat+1 by omega]; rfl
   have n:hasB (x::l) i=hasB l i:=by
    unfold hasB;rw [List.any_cons,decide_eq_false (by omega),Bool.false_or]
   rw [e,m,n,←j,d6];constructor
   ·rintro ⟨a,b⟩; exact ⟨by omega,b⟩
   ·rintro ⟨a,b⟩; exact ⟨by omega,b⟩
  ·have e:EL (x::l) i=0:=Pa fun y f=>by
    rcases List.mem_cons.1 f with k | k
    ·omega
    ·have:=c.1 y k; omega
   rw [e];constructor
   ·rintro ⟨_,b⟩;have b:x=i:=b;rw [b,PV]; simp
   ·intro d;rw [PV] at d;refine ⟨by simp only [d6]; omega,?_⟩;show x=i;rcases List.mem_cons.1 d with k | k
    ·exact k.symm
    ·have:=c.1 i k; omega
theorem Y1 {l:Ne} (h:Li l) (i:Int):EL l (i+1)=EL l i+if hasB l i=true then 1 else 0:=by
 induction l with
 | nil=>simp [EL,hasB]
 | cons x l a=>
  have c:=List.pairwise_cons.1 h;have a:=a c.2;unfold EL at a ⊢;have d:hasB (x::l) i=(decide (i=x)||hasB l i):=rfl;by_cases g:x<i
  ·rw [List.filter_cons_of_pos (by simp; omega),List.filter_cons_of_pos (by simpa using g),d6,d6,d,decide_eq_false (by omega),Bool.false_or];omega
  ·by_cases f:x=i
   ·have j:EL l (i+1)=0:=Pa fun y b=>by have:=c.1 y b; omega
    have k:EL l i=0:=Pa fun y b=>by have:=c.1 y b; omega
    unfold EL at j k;rw [List.filter_cons_of_pos (by simp; omega),List.filter_cons_of_neg (by simp; omega),d6,d,decide_eq_true f.symm,Bool.true_or,d1 rfl];omega
   ·rw [List.filter_cons_of_neg (by simp; omega),List.filter_cons_of_neg (by simp; omega),d,decide_eq_false (fun e=>f e.symm),Bool.false_or];exact a
theorem W5 {l:Ne} {n:Nat} (d:Li l) (e:∀ x∈l,0<=x∧x<n) (f:l.length<=1000):H4 l n=some 0:=by
 unfold H4;rw [C4 (fun _=>false) 6]
 ·have:anyR (fun _=>false) 0 (l.length:Int)=false:=EK.2 fun _ _ _=>rfl;rw [this]; rfl
 ·intro i b a _;have g:=e _ (AW b a);rw [AL b a,bs,d2 (by simp; omega),bs,bs,d2 (by simp; omega)];by_cases c:0<i
  ·have:=RY d (i:=i - 1) (j:=i) (by omega) (by omega) a;rw [d1 (by simpa using c),bs,BD (by omega) (by omega),AL (by omega) (by omega),bs,bs,d2 (by simp; omega)]; rfl
  ·rw [d2 (by simpa using c),bs,d2 (by decide)]; rfl
theorem Vg {l:Ne} {n:Nat} (c:Li l) (m:∀ x∈l,0<=x) (u:n<=1000) (v:l.length<=1000):Jc n l=some ((A9 n).map fun j=>if hasB l j=true then -1 else CF l j):=by
 unfold Jc;rw [EY (a:=0) (b:=n) (s:=([],0,0)) (fun i=>((A9 i.toNat).map (fun j=>if hasB l j=true then -1 else CF l j),CF l i,EL l i)) (by omega) (by show (_,_,EL l 0)=_; rw [Pa m]; rfl),bs,Int.toNat_natCast]
 ·intro i f w;have g:=Lr l i.toNat
  have o:=dr l i;have p:0<=EL l i:=by unfold EL; omega
  have q:(if (decide (EL l i<(l.length:Int)))=true then ((AK l (EL l i)).bind fun d=>some (decide (d=i))) else some false)=some (hasB l i):=by
   by_cases k:EL l i<l.length
   ·rw [d1 (by simpa using k),AL p k,bs];congr 1;rw [Bool.eq_iff_iff,zzX,←TF c];exact ⟨fun e=>⟨k,e⟩,fun e=>e.2⟩
   ·rw [d2 (by simpa using k)];congr 1;symm;rw [←Bool.not_eq_true,←TF c];exact fun e=>k e.1
  dsimp only;rw [q,bs,ID f,List.map_append,Y1 c i];have r:CF l (i+1)=CF l i+if hasB l i=true then 0 else 1:=by
   unfold CF;rw [Ms l f,d4];cases hasB l i <;> simp
  have t:0<=CF l i∧CF l i<=1000:=by unfold CF; omega
  rw [r];cases h:hasB l i
  ·rw [d2 (by decide),CS (by simp only [d7,CI,d6,List.length_nil]; unfold BY; omega),bs,BD (by omega) (by omega)];simp [h]
  ·rw [d1 rfl,CS (by simp only [d7,CI,d6,List.length_nil]; unfold BY; omega),bs,BD (by omega) (by omega)];simp [h]
end Go.Sf.Sc
namespace Go.Sf.Sc
open Go Go.Sf
theorem Y0 (n:Nat):D7 [] n=A9 n:=by
 unfold D7;exact List.filter_eq_self.2 fun _ _=>rfl
theorem bC {i:Int} (h:0<=i):CF [] i=i:=by
 unfold CF;rw [Y0,CI]; omega
theorem a8 {g:Graph} {l:Ne} (n:CR g=0) (k:Li l) (m:∀ x∈l,0<=x∧x<g.Edges.length):Kl g [] l=some (wG g l,⟨(A9 g.Nodes.length).map (fun j=>if hasB [] j=true then -1 else CF [] j),(A9 g.Edges.length).map fun j=>if hasB l j=true then -1 else CF l j⟩,0):=by
 have ho:=FA n;have r:=ho.nodes;have t:=ho.edges;have u:l.length<=80:=by
  have:=PB (a:=0) (b:=(g.Edges.length:Int) - 1) k (fun x f=>by have:=m x f; omega) (by omega);omega
 unfold Kl;rw [Nj,bs,d2 (by simp [n]),W5 (l:=[]) List.Pairwise.nil (fun x f=>by simp at f) (by simp),bs,d2 (by decide),W5 k m (by omega),bs,d2 (by decide),
  Vg (l:=[]) List.Pairwise.nil (fun x f=>by simp at f) (by omega) (by simp),bs,Vg k (fun x f=>(m x f).1) (by omega) (by omega),bs]
 have e:∀ i:Int,0<=i->i<g.Nodes.length->AB ((A9 g.Nodes.length).map fun j=>if hasB [] j=true then -1 else CF [] j) i=i:=fun i c d=>by
  rw [Il _ c d,d2 (by simp [hasB]),bC c]
 generalize p:((A9 g.Nodes.length).map fun j=>if hasB [] j=true then -1 else CF [] j)=P at e ⊢;have q:P.length=g.Nodes.length:=by rw [←p,d7,CI]
 rw [EY (a:=0) (b:=g.Nodes.length) (s:=Graph.mk [] []) (fun i=>(⟨g.Nodes.take i.toNat,[]⟩:Graph)) (by omega) rfl,bs,Int.toNat_natCast,List.take_length]
 ·rw [RE (a:=0) (b:=g.Edges.length) (s:=(Graph.mk [] [],Morphism.mk [] [],Graph.mk g.Nodes [])) (fun i=>(Graph.mk [] [],Morphism.mk [] [],(⟨g.Nodes,(D7 l i.toNat).map (AB g.Edges)⟩:Graph))) (fun _=>none) (by omega) rfl (fun i c d _=>?_)]
  ·rw [CZ.2 (fun _ _ _=>rfl),Int.toNat_natCast]; rfl
  ·have o:=Lr l i.toNat
   have h:=ho.fit _ (AW (l:=g.Edges) c d);rw [AL c (by rw [d7,CI]; exact d),bs,Il _ c d,Ms l c];cases v:hasB l i
   ·have w:0<=CF l i:=by unfold CF; omega
    simp only [Bool.false_eq_true,if_false];rw [d2 (by simp; omega),AL c d,bs,bs,AL h.2.1.1 (by omega),bs,bs,AL h.2.2.1 (by omega),bs,e _ h.2.1.1 h.2.1.2,e _ h.2.2.1 h.2.2.2,
     d2 (by simp; omega),CS (by simp only [d7,d6,List.length_nil]; unfold BY; omega),bs,List.map_append]; rfl
   ·simp only [if_true];rw [d1 (by decide),List.append_nil]; rfl
 ·intro i c d;rw [AL c (by omega),bs,e i c d,d1 (by simpa using c),AL c d,bs,CS (by simp only [d5,d6,List.length_nil]; unfold BY; omega),bs,F1 c d]
theorem ZP {s:IF} {l:Ne} (f:CR s.H.Graph=0) (g:Li l) (h:∀ x∈l,0<=x∧x<s.H.Graph.Edges.length) (m:s.M.Morphism.Edges.length<=200) (j:∀ k∈s.M.Morphism.Edges,(0<=k∧k<s.H.Graph.Edges.length)∧hasB l k=false):Ij s l=some ⟨s.T,wH s.H l,wM s.M l,s.Injective⟩:=by
 have ho:=FA f;unfold Ij;rw [a8 f g h,bs];dsimp only;rw [S6 (fun i=>(⟨⟨s.M.Morphism.Nodes,(s.M.Morphism.Edges.take i.toNat).map (CF l)⟩,s.M.Vars⟩:AG)) (a:=0) (b:=s.M.Morphism.Edges.length) (s:=AG.mk (Morphism.mk s.M.Morphism.Nodes []) s.M.Vars) (by omega) rfl,EI,Int.toNat_natCast,List.take_length]
 ·rfl
 ·intro i e d;have c:=j _ (AW e d);dsimp only;rw [d1 (by simpa using d),AL e d,bs,AL c.1.1 (by rw [d7,CI]; exact c.1.2),bs,Il _ c.1.1 c.1.2,d2 (by rw [c.2]; decide),CS (by simp only [d7,d5,d6,List.length_nil]; unfold BY; omega),bs,BD (n:=i+1) (by omega) (by omega),F1 e d,List.map_append]; rfl
 ·dsimp only;rw [d2 (by simp)]
def FG:Nat->Ne->List Ne
 | 0,_=>[[]]
 | _+1,[]=>[]
 | k+1,x::l=>(FG k l).map (x::·)++FG (k+1) l
def Iv:(Ne->Bool)->Nat->Ne->Option Ne
 | P,0,_=>if P []=true then some [] else none
 | _,_+1,[]=>none
 | P,k+1,x::l=>match Iv (fun r=>P (x::r)) k l with
  | some r=>some (x::r)
  | none=>Iv P (k+1) l
theorem OK:∀ (k:Nat) (l:Ne) (P:Ne->Bool),(FG k l).find? P=Iv P k l
 | 0,l,P=>by
  rw [FG,Iv];by_cases h:P []=true
  ·rw [List.find?_cons_of_pos h,d1 h]
  ·rw [List.find?_cons_of_neg h,d2 h]; rfl
 | k+1,[],P=>by rw [FG,Iv]; rfl
 | k+1,x::l,P=>by
  rw [FG,Iv,List.find?_append,List.find?_map,OK (k+1) l P];have:=OK k l (P ∘ (x::·));rw [this];show (Option.map (x::·) (Iv (fun r=>P (x::r)) k l)).or _=_;cases Iv (fun r=>P (x::r)) k l <;> rfl
theorem N5:∀ (k:Nat) (l:Ne),∀ s∈FG k l,s.Sublist l
 | 0,l,s,h=>by
  rw [FG,List.mem_singleton] at h;rw [h]; exact List.nil_sublist _
 | k+1,[],s,h=>by rw [FG] at h; simp at h
 | k+1,x::l,s,h=>by
  rw [FG,List.mem_append] at h;rcases h with h | h
  ·obtain ⟨r,a,rfl⟩:=List.mem_map.1 h;exact (N5 k l r a).cons₂ x
  ·exact (N5 (k+1) l s h).cons x
theorem Rz:∀ (k:Nat) (l:Ne),(FG k l).length<=(l.length+1) ^ k
 | 0,l=>by rw [FG]; simp
 | k+1,[]=>by rw [FG]; simp
 | k+1,x::l=>by
  rw [FG,d4,d7,d6];have c:=Rz k l;have d:=Rz (k+1) l;have a:(l.length+1) ^ k<=(l.length+1+1) ^ k:=Nat.pow_le_pow_left (by omega) k;have e:(l.length+1) ^ (k+1)=(l.length+1) ^ k*(l.length+1):=Nat.pow_succ ..;have b:(l.length+1+1) ^ (k+1)=(l.length+1+1) ^ k*(l.length+1+1):=Nat.pow_succ ..;have f:(l.length+1) ^ k*(l.length+1)<=(l.length+1+1) ^ k*(l.length+1):=Nat.mul_le_mul_right _ a;rw [b,Nat.mul_succ];omega
theorem Zt (n:Nat):A9 (n+1)=0::(A9 n).map (·+1):=by
 unfold A9;rw [List.range_succ_eq_map,List.map_cons,List.map_map,List.map_map];rfl
theorem UI (k:Nat):∀ l:Ne,FG (k+1) l=(A9 l.length).flatMap fun j=>(FG k (l.drop (j.toNat+1))).map (AB l j::·)
 | []=>by rw [FG]; rfl
 | x::l=>by
  rw [FG,d6,Zt,List.flatMap_cons,List.flatMap_map,UI k l];congr 1;unfold List.flatMap;congr 1;refine List.map_congr_left fun j a=>?_;have:=(E7.1 a).1;show _=(FG k ((x::l).drop ((j+1).toNat+1))).map (AB (x::l) (j+1)::·);rw [show (j+1).toNat+1=(j.toNat+1)+1 by omega,List.drop_succ_cons];have:AB (x::l) (j+1)=AB l j:=by
   unfold AB;rw [show (j+1).toNat=j.toNat+1 by omega]; rfl
  rw [this]
theorem Xc {α:Type} (F:Int->List α) {k:Nat}:∀ {n:Nat},k<=n->((A9 k).flatMap F).length<=((A9 n).flatMap F).length:=fun h=>Tk F h
theorem Wy:∀ (k:Nat) (l:Ne),k<=3->l.length<=80->∀ n,k+1<=n->D9 n l k=some (FG k l)
 | _,_,_,_,0,h=>by omega
 | 0,l,_,_,n+1,_=>by rw [D9,d1 (by decide),FG]
 | k+1,l,v,w,n+1,x=>by
  have p:=Rz (k+1) l;have d:(l.length+1) ^ (k+1)<=81 ^ 3:=Nat.le_trans (Nat.pow_le_pow_left (by omega) _) (Nat.pow_le_pow_right (by omega) (by omega));have d:(l.length+1) ^ (k+1)<=531441:=d;rw [UI] at p ⊢;rw [D9,d2 (by simp; omega)];rw [EY (a:=0) (b:=l.length) (s:=[]) (fun i=>(A9 i.toNat).flatMap fun j=>(FG k (l.drop (j.toNat+1))).map (AB l j::·)) (by omega) rfl,bs,Int.toNat_natCast];intro i g t;have c:=Xc (fun j=>(FG k (l.drop (j.toNat+1))).map (AB l j::·)) (k:=(i+1).toNat) (n:=l.length) (by omega);rw [SN _ g,d4,d7] at c;rw [BD (by omega) (by omega),bQ (by omega) (by omega),bs,show ((k+1:Nat):Int) - 1=(k:Int) by omega,BD (by omega) (by omega),Wy k _ (by omega) (by rw [List.length_drop]; omega) n (by omega),bs,SN _ g,show (i+1).toNat=i.toNat+1 by omega];generalize u:FG k (l.drop (i.toNat+1))=S at c ⊢;have e:∀ r∈S,r.length<=80:=fun r f=>by
   rw [←u] at f;have:=(N5 k _ r f).length_le;rw [List.length_drop] at this; omega
  generalize ((A9 i.toNat).flatMap fun j=>(FG k (l.drop (j.toNat+1))).map (AB l j::·))=A at c ⊢;rw [EY (a:=0) (b:=S.length) (s:=A) (fun q=>A++(S.take q.toNat).map (AB l i::·)) (by omega) (by simp),bs,Int.toNat_natCast,List.take_length];intro q m o;have f:=e _ (AW m o);rw [AL m o,bs,AL g t,bs,CS (by simp only [d6,List.length_nil]; unfold BY; omega),bs,CS (by simp only [d4,d7,d5,d6,List.length_nil]; unfold BY; omega),bs,F1 m o,List.map_append,ea]; rfl
theorem gl {k:Nat} {l:Ne} (a:k<=3) (b:l.length<=80):KZ l k=some (FG k l):=GJ (k+1) fun n c=>Wy k l a b n c
end Go.Sf.Sc
namespace Go.Sf.Sc
open Go Go.Sf
noncomputable def NN (t:AD) (h:A0) (c:AA) (m:AG) (l:Ne):Bool:=OH t (wH h l) true c (wM m l)
structure fN (t:AD) (p:Pattern) (c:AA) (h:A0) (m:AG):Prop where
 few:CC t
 cg:MX t p c h m true=0
 cnt:cnt c<=40
 cv:CV t p c
 gr:CG t p c
 n1:h.Graph.Nodes.length<=14
 n2:h.Graph.Edges.length<=18
def YX (h:A0) (m:AG) (l:Ne):Prop:=Li l∧∀ x∈l,(0<=x∧x<h.Graph.Edges.length)∧hasB m.Morphism.Edges x=false
theorem YX.has {h:A0} {m:AG} {l:Ne} (ho:YX h m l):∀ k∈m.Morphism.Edges,hasB l k=false:=fun k a=>by
 rw [←Bool.not_eq_true,PV];intro b;have:=(ho.2 k b).2;rw [←Bool.not_eq_true,PV] at this;exact this a
theorem fN.all {t:AD} {p:Pattern} {c:AA} {h:A0} {m:AG} (a:fN t p c h m) {l:Ne} (ho:YX h m l) :
  (MO t p c (wH h l) (wM m l) true=(NN t h c m l,0)∧H0 h m l=some (wH h l,wM m l))∧Ij ⟨t,h,m,true⟩ l=some ⟨t,wH h l,wM m l,true⟩∧(BM t).2=0∧J2 t (wH h l)∧RP t p (wH h l) (wM m l):=by
 have d:=rj (l:=l) ho.has a.cg;obtain ⟨hv,u,v,n⟩:=UZ a.few a.cnt a.cg;obtain ⟨_,f,_,i⟩:=UZ a.few a.cnt d;have n1:(wH h l).Graph.Nodes.length<=14:=a.n1;have n2:(wH h l).Graph.Edges.length<=18:=Nat.le_trans (Zy h.Graph l) a.n2;have e:m.Morphism.Edges.length<=200:=by
  have z:=n.m.elen;have A:=n.q.g.edges;omega
 have b:∀ k∈m.Morphism.Edges,(0<=k∧k<h.Graph.Edges.length)∧hasB l k=false:=fun k o=>by
  obtain ⟨j,w,y,rfl⟩:=EB o;exact ⟨n.m.edge j w y,ho.has _ o⟩
 exact ⟨⟨iZ d a.cv a.gr i hv f n1 n2,ZG (by have:=a.n2; omega) e b⟩,ZP (s:=⟨t,h,m,true⟩) u.ge ho.1 (fun x r=>(ho.2 x r).1) e b,hv,f,i⟩
noncomputable def bE (t:AD) (c:AA) (h:A0) (m:AG):Option Ne:=fst (fun n=>Iv (NN t h c m) n.toNat (D7 m.Morphism.Edges h.Graph.Edges.length)) 0 4
noncomputable def MM (t:AD) (p:Pattern) (c:AA) (h:A0) (m:AG):Ne × Int:=
 if (MO t p c h m true).2≠0 then ([],(MO t p c h m true).2) else if ¬ (c.Kind=2∧(AB c.Kids 0).Kind=5) then ([],8) else
 match bE t c h m with
 | some l=>(l,0)
 | none=>([],10)
theorem VG {h:A0} {m:AG} {l:Ne} (a:l.Sublist (D7 m.Morphism.Edges h.Graph.Edges.length)):YX h m l:=by
 refine ⟨?_,fun x b=>Ty.1 (a.subset b)⟩;have:Li (D7 m.Morphism.Edges h.Graph.Edges.length):=List.Pairwise.filter _ (R0 _);exact List.Pairwise.sublist a this
theorem Wk {α:Type} [Inhabited α] {β:Type} (P:α->Bool) (f:α->β):∀ l:List α,fst (fun j=>if P (AB l j)=true then some (f (AB l j)) else none) 0 l.length=(l.find? P).map f
 | []=>Yt (Int.le_refl _)
 | x::l=>by
  have d:=Wk P f l;unfold fst at d ⊢;rw [show ((((x::l).length:Nat):Int) - 0).toNat=l.length+1 by simp,ES];rw [show (((l.length:Nat):Int) - 0).toNat=l.length by omega] at d;have h:AB (x::l) 0=x:=rfl;rw [h];by_cases c:P x=true
  ·rw [d1 c,List.find?_cons_of_pos c]; rfl
  ·rw [d2 c,List.find?_cons_of_neg c,←d];dsimp only;have b:∀ (n:Nat) (a:Int),0<=a->ES (fun j=>if P (AB (x::l) j)=true then some (f (AB (x::l) j)) else none) n (a+1)=ES (fun j=>if P (AB l j)=true then some (f (AB l j)) else none) n a:=by
    intro n
    induction n with
    | zero=>intro a _; rfl
    | succ n g=>
     intro a i;have e:AB (x::l) (a+1)=AB l a:=by
      unfold AB;rw [show (a+1).toNat=a.toNat+1 by omega]; rfl
     rw [ES,ES,e,g (a+1) (by omega)]
   exact b l.length 0 (by omega)
end Go.Sf.Sc
namespace Go.Sf.Sc
open Go Go.Sf
theorem Z5 {t:AD} (b:CC t) {p:Pattern} {c:AA} (g:EF c) (i:cnt c<=40) {h:A0} {m:AG} (j:E8 t p c h=some true) (e:(MO t p c h m true).2=0):fN t p c h m∧h.Graph.Edges.length<=8:=by
 obtain ⟨hv,n,f,k,o,l,n1,n2⟩:=ZZ b g i j e;have a:=W8 e;have d:=SZ b g (by omega) (Ut a) j;exact ⟨⟨b,a,i,f,k,n1,n2⟩,d.edges⟩
theorem gP {c:AA} {t:AD} {p:Pattern} (b:CV t p c):(if (!decide (c.Kind=2))=true then some true else ((AK c.Kids 0).bind fun d=>some (!decide (d.Kind=5))))=some (!decide (c.Kind=2∧(AB c.Kids 0).Kind=5)):=by
 by_cases a:c.Kind=2
 ·have e:=b.one (.inl a);rw [d2 (by simp [a]),AL (by omega) (by omega),bs];simp [a]
 ·rw [d1 (by simpa using a)];simp [a]
theorem av {t:AD} (u:CC t) {p:Pattern} {c:AA} (v:EF c) (w:cnt c<=40) {h:A0} {m:AG} (D:E8 t p c h=some true):E9 t p c h m=some (MM t p c h m):=by
 unfold E9 MM;rw [RX u p v w,bs];by_cases e:(MO t p c h m true).2=0
 ·have F:¬ (MO t p c h m true).2≠0:=fun k=>k e;obtain ⟨C,O⟩:=Z5 u v w D e;rw [d2 (by simp [e]),d2 F,gP C.cv,bs];by_cases f:c.Kind=2∧(AB c.Kids 0).Kind=5
  ·have x:¬ ¬ (c.Kind=2∧(AB c.Kids 0).Kind=5):=fun k=>k f;rw [d2 (by simp [f]),d2 x,d2 (by simp; omega)];rw [EY (a:=0) (b:=h.Graph.Edges.length) (s:=[]) (fun i=>D7 m.Morphism.Edges i.toNat) (by omega) rfl,bs,Int.toNat_natCast]
   ·have G:=Lr m.Morphism.Edges h.Graph.Edges.length;rw [DI (fun n=>(Iv (NN t h c m) n.toNat (D7 m.Morphism.Edges h.Graph.Edges.length)).map fun l=>(l,(0:Int)))]
    ·have H:=Ow (d:=fun n=>Iv (NN t h c m) n.toNat (D7 m.Morphism.Edges h.Graph.Edges.length)) (g:=fun l=>(l,(0:Int))) (a:=0) (b:=4);rw [H];unfold bE;cases fst (fun n=>Iv (NN t h c m) n.toNat (D7 m.Morphism.Edges h.Graph.Edges.length)) 0 4 <;> rfl
    ·intro n K L _;have A:=gl (k:=n.toNat) (l:=D7 m.Morphism.Edges h.Graph.Edges.length) (by omega) (by omega);rw [show ((n.toNat:Nat):Int)=n by omega] at A;rw [A,bs];have o:=N5 n.toNat (D7 m.Morphism.Edges h.Graph.Edges.length);have q:=OK n.toNat (D7 m.Morphism.Edges h.Graph.Edges.length) (NN t h c m);generalize FG n.toNat (D7 m.Morphism.Edges h.Graph.Edges.length)=S at o q ⊢;rw [DI (fun j=>if NN t h c m (AB S j)=true then some (AB S j,(0:Int)) else none)]
     ·rw [Wk (NN t h c m) (fun l=>(l,(0:Int))) S,q];cases Iv (NN t h c m) n.toNat (D7 m.Morphism.Edges h.Graph.Edges.length) <;> rfl
     ·intro j y z _;obtain ⟨⟨I,J⟩,_⟩:=C.all (VG (o _ (AW y z)));rw [AL y z,bs,J,bs];dsimp only;rw [RX u p v w,bs,I];by_cases r:NN t h c m (AB S j)=true
      ·rw [d1 (by simp [r]),d1 r]; rfl
      ·rw [d2 (by simp [r]),d2 r]; rfl
   ·intro i E M;have B:=Lr m.Morphism.Edges i.toNat
    rw [Yl,bs,Ms _ E];cases N:hasB m.Morphism.Edges i
    ·rw [d1 (by decide),CS (by simp only [d6,List.length_nil]; unfold BY; omega),d2 (by decide)]; rfl
    ·rw [d2 (by decide),d1 rfl,List.append_nil]
  ·rw [d1 (by simp [f]),d1 f]
 ·rw [d1 (by simp [e]),d1 e]
theorem Yq {k:Nat} {l r:Ne} {P:Ne->Bool} (h:Iv P k l=some r):r.Sublist l∧P r=true:=by
 rw [←OK] at h;exact ⟨N5 k l r (List.mem_of_find?_eq_some h),List.find?_some h⟩
theorem hU {t:AD} {p:Pattern} {c:AA} {h:A0} {m:AG} (e:(MM t p c h m).2=0):(MO t p c h m true).2=0∧(c.Kind=2∧(AB c.Kids 0).Kind=5)∧YX h m (MM t p c h m).1∧NN t h c m (MM t p c h m).1=true:=by
 unfold MM at e ⊢;split at e
 ·rename_i k; exact absurd e k
 rename_i a;split at e
 ·cases e
 rename_i b;rw [d2 a,d2 b];split at e
 ·rename_i l d;unfold bE at d;obtain ⟨n,j,n1,f,_⟩:=DJ d;obtain ⟨g,i⟩:=Yq f;exact ⟨Classical.not_not.1 a,Classical.not_not.1 b,VG g,i⟩
 ·cases e
theorem Pm (t:AD) (x:HP) (y:Jr) (st:(At t).Sm) (L:(HM x).Sm) (_:(KY y).Sm):H1 t x y=some true:=by
 obtain ⟨b,e,f⟩:=ZN y st L;unfold H1;rw [aF,bs,d2 (by decide),e];cases b
 ·rfl
 obtain ⟨w,o,I,J⟩:=f rfl;simp only [bs,Bool.not_true,Bool.false_eq_true,if_false];rw [av w o I J,bs];by_cases u:(MM t x.P x.C y.H y.M).2=0
 ·obtain ⟨T,⟨K,A⟩,U,V⟩:=hU u;obtain ⟨p,_⟩:=Z5 w o I J T;obtain ⟨_,W,hv,X,n⟩:=p.all U;have l1:=p.cv.one (.inl K);have a:=AW (l:=x.C.Kids) (i:=0) (by omega) (by omega);have d:=p.cv.kid (by omega) _ a;have N:=p.gr.kid (by omega) _ a;have l2:=d.one (.inr A);have hi:=d.ins A;rw [d2 (by simp [u]),AL (by omega) (by omega),bs,AL (by omega) (by omega),bs,bs];by_cases h:(AB (AB x.C.Kids 0).Kids 0).Kind=1
  ·rw [d2 (by simp [h]),bs,bs];have O:=(o.k _ a).q.slots;have Q:=(o.k _ a).q.tests;by_cases Y:0<(AB x.C.Kids 0).Pattern.Slots.length+(AB x.C.Kids 0).Pattern.Tests.length
   ·rw [BD (by omega) (by omega),decide_eq_true (by omega),bs,d1 rfl]
   ·rw [BD (by omega) (by omega),decide_eq_false (by omega),bs,d2 (by decide),bs,W,bs];have Z:=hi.q.g.nodes;have ge:=hi.q.g.edges;have m1:=hi.map.nlen;have m2:=hi.map.elen;have m3:=n.m.nlen;have m4:=n.m.elen;rw [ZS (by omega),bs,ZS (by omega),bs];dsimp only;rw [eJ (fun y r=>by obtain ⟨j,B,D,rfl⟩:=EB r; exact (hi.map.node j B D).1) (by omega),bs,
     eH (fun y r=>by obtain ⟨j,B,D,rfl⟩:=EB r; exact (hi.map.edge j B D).1) (by omega),bs,ax w,bs]
    have F:OH t (wH y.H (MM t x.P x.C y.H y.M).1) true (AB x.C.Kids 0) (wM y.M (MM t x.P x.C y.H y.M).1)=false:=by
     have:=V;unfold NN at this;rw [SF,d1 K,PX l1] at this;simpa using this
    rw [SF,d2 (by omega),d2 (by omega),d2 (by omega),d1 A,PX l2,List.any_eq_false] at F;have c:(G0 t (AB x.C.Kids 0) (wH y.H (MM t x.P x.C y.H y.M).1) (wM y.M (MM t x.P x.C y.H y.M).1) true).1=[]:=by
     rw [List.eq_nil_iff_forall_not_mem];intro z s;refine F z s ?_;rw [SF,d2 (by omega),d2 (by omega),d2 (by omega),d2 (by omega)]
    unfold G0 at c;dsimp only at c;generalize NL t (AB x.C.Kids 0).Pattern.Graph (wH y.H (MM t x.P x.C y.H y.M).1).Graph _ true=E at c ⊢;by_cases G:E.2=0
    ·rw [d2 (fun k=>k G)] at c;have v:(E.1.filter fun z=>(MV (AB x.C.Kids 0).Pattern (wH y.H (MM t x.P x.C y.H y.M).1) z (wM y.M (MM t x.P x.C y.H y.M).1).Vars).2)=E.1:=by
      rw [List.filter_eq_self];intro z _;have R:(AB x.C.Kids 0).Pattern.Slots=[]:=List.length_eq_zero_iff.1 (by omega);have S:(AB x.C.Kids 0).Pattern.Tests=[]:=List.length_eq_zero_iff.1 (by omega);unfold MV;rw [R,S]; rfl
     rw [v] at c;have:E.1=[]:=List.map_eq_nil_iff.1 c;rw [this]; simp
    ·simp [G]
  ·rw [d1 (by simp [h]),bs,d1 rfl]
 ·rw [d1 (by simp [u]),bs,d1 rfl,bs,d1 rfl]
end Go.Sf.Sc
