/- Plain lemmas: what the functions of the program and of the reference compute. -/
import Derived.Test.YtlbmpkmkmkgniaaGreatDoorEval
import Derived.Test.YtlbmpkmkmkgniaaGreatDoorP52
set_option linter.all false
set_option maxRecDepth 100000
namespace Go.Sf.Sc
open Go Go.Sf
end Go.Sf.Sc
namespace Go.Sf.Sc
open Go Go.Sf
theorem Ow {a:Ne} (h:a.length<=1000) (i:Int):DX a i=some (a++[i]):=by
 unfold DX slices_Clone_int;rw [FE (by unfold BN; omega),bs,CF (by simp; unfold BN; omega)]; rfl
end Go.Sf.Sc
namespace Go.Sf.Sc
open Go Go.Sf
theorem PO {a:Ne} (h:a.length<=1000) (i:Int):II a i=some (a++[i]):=by
 unfold II;rw [FE (by unfold BN; omega),bs,CF (by simp; unfold BN; omega)]; rfl
theorem Pw {a nodes:Ne} (h:a.length<=1000) (b:nodes.length<=1000) (k:Int):HT a k nodes=some ⟨a,k,nodes⟩:=by
 unfold HT;rw [FE (by unfold BN; omega),bs,FE (by unfold BN; omega)]; rfl
theorem VX {s:CL} (g:BX s.T) (hv:(BF s.T).2=0) (b:GY s.T s.H) (h:s.H.Graph.Nodes.length<=14) (i:s.H.Graph.Edges.length<=18) {c:AA} {p:Pattern} (d:CV s.T p c) (j:CG s.T p c) (e:NP s.T p s.H s.M):ref23_holds s c=some (HE s.T s.H s.Injective c s.M,0):=by
 have a:=Up (inj:=s.Injective) hv b h i _ c p s.M (d3 _) d j e;rw [Uq,Wo] at a;unfold ref23_holds Kt;rw [W7 g hv b d e,bs];cases f:HE s.T s.H s.Injective c s.M
 ·rw [f] at a;rw [d1 (by rw [a]; rfl)]; rfl
 ·rw [f] at a;rw [d2 (by rw [a]; decide),a]; rfl
end Go.Sf.Sc
namespace Go.Sf.Sc
open Go Go.Sf
theorem ae {x:H6} (b:(H3 x).Sm):(AE x.C).Sm:=by
 obtain ⟨p,c⟩:=x;cases c;have a:TV.Sms [_,_,_,_,_,_,_,_,_,_,_,_,_,_]:=b;obtain ⟨_,_,_,_,_,h⟩:=a;exact h
theorem bC {t:AC} {x:H6} (y:MP) (st:(AV t).Sm) (c:(H3 x).Sm):∃ b,Lv t x y=some b∧(b=true->BX t∧EI x.C∧cnt x.C<=40∧FM t x.P x.C y.H=some true):=by
 obtain ⟨e,f,a⟩:=U9 st;unfold Lv;rw [f,bs];cases e
 ·exact ⟨_,rfl,fun h=>by simp at h⟩
 obtain ⟨g,i,j⟩:=ay (a rfl) st x.P (ae c) y.H;rw [d1 rfl,i];refine ⟨_,rfl,fun h=>?_⟩;rw [zzZ,zzZ] at h;have d:g=true:=h.1.1;subst d;have:=j rfl;exact ⟨a rfl,this.1,this.2.1,rfl⟩
theorem ZH {t:AC} (a:BX t) {p:Pattern} {c:AA} (d:EI c) (g:cnt c<=1000) (i:Ih t p c=0) {h:AU} (j:FM t p c h=some true):TX p c h:=by
 obtain ⟨b,e,f⟩:=cj a d g i h;rw [j] at e;cases e;exact f rfl
theorem cJ {t:AC} {p:Pattern} {c:AA} {h:AU} {m:AF} {inj:Bool} (e:NQ t p c h m inj=0):Ih t p c=0:=by
 unfold NQ at e;split at e
 ·rename_i k; exact absurd e k
 ·rename_i k; exact Classical.not_not.1 k
theorem Ye {t:AC} {p:Pattern} {c:AA} {h:AU} {m:AF} {inj:Bool} (e:(LN t p c h m inj).2=0):NQ t p c h m inj=0:=by
 by_cases a:NQ t p c h m inj=0
 ·exact a
 have b:(wS t p c h m inj).2=NQ t p c h m inj:=by unfold wS; rw [d1 a]
 unfold LN at e;rw [b,d2 (WI t p c h m inj)] at e;exact e
theorem cK {t:AC} {p:Pattern} {c:AA} (a:cnt c<=1000) (e:Ih t p c=0):cnt c<=12:=by
 obtain ⟨_,m1,_⟩:=dL (U1 e).2.1;rw [cm a] at m1;simp only at m1;omega
theorem Vg {t:AC} (f:BX t) {p:Pattern} {c:AA} (i:EI c) (j:cnt c<=40) {h:AU} {m:AF} {inj:Bool} (k:FM t p c h=some true) (e:(LN t p c h m inj).2=0) :
  (BF t).2=0∧GY t h∧CV t p c∧CG t p c∧NP t p h m∧cnt c<=12∧h.Graph.Nodes.length<=14∧h.Graph.Edges.length<=18:=by
 have g:=Ye e;have b:=cJ g;obtain ⟨hv,l,d,n⟩:=Y3 f j g;have a:=ZH f i (by omega) b k;have:=a.nodes;have:=a.edges;exact ⟨hv,l,d,cg a b,n,cK (by omega) b,by omega,by omega⟩
theorem cv (a b:AH):I6 a b=some (decide (a=b)):=by
 unfold I6;rw [YX,YX];obtain ⟨f,g,h⟩:=a;obtain ⟨i,j,k⟩:=b;simp only [bs,AH.mk.injEq];by_cases c:f=i <;> by_cases d:g=j <;> by_cases e:h=k <;> simp [c,d,e]
instance:Inhabited AH:=⟨⟨[],0,[]⟩⟩
end Go.Sf.Sc
namespace Go.Sf.Sc
open Go Go.Sf
def N1 (l:Ne):Prop:=l.Pairwise (·<·)
theorem Sb:∀ {a b:Ne},N1 a->N1 b->(∀ x,x∈a↔x∈b)->a=b
 | [],[],_,_,_=>rfl
 | [],y::b,_,_,h=>by have:=(h y).2 (by simp); simp at this
 | x::a,[],_,_,h=>by have:=(h x).1 (by simp); simp at this
 | x::a,y::b,j,l,h=>by
  have c:=List.pairwise_cons.1 j;have d:=List.pairwise_cons.1 l;have e:x=y:=by
   have g:=(h x).1 (by simp);have i:=(h y).2 (by simp);rcases List.mem_cons.1 g with e | g
   ·exact e
   ·rcases List.mem_cons.1 i with e | i
    ·exact e.symm
    ·have:=d.1 x g;have:=c.1 y i;omega
  subst e;rw [Sb c.2 d.2 fun z=>by
   constructor
   ·intro f;have:=c.1 z f;rcases List.mem_cons.1 ((h z).1 (List.mem_cons_of_mem _ f)) with e | k
    ·omega
    ·exact k
   ·intro f;have:=d.1 z f;rcases List.mem_cons.1 ((h z).2 (List.mem_cons_of_mem _ f)) with e | k
    ·omega
    ·exact k]
theorem Xj {l:Ne} (f:l.Pairwise (·<=·)):N1 (Go.Lib.compact l)∧∀ x,x∈Go.Lib.compact l↔x∈l:=by
 have g:∀ j (b:j<l.length),l.toArray[j]! = l[j]:=by
  intro j b;rw [getElem!_pos _ _ (by simpa using b)];simp
 have c:=List.pairwise_iff_getElem.1 f;refine ⟨?_,fun x=>⟨fun h=>SO h,fun h=>?_⟩⟩
 ·unfold N1 Go.Lib.compact Go.Lib.compactUpTo;rw [List.pairwise_map];refine List.Pairwise.imp_of_mem (R:=(·<·)) (fun {i j} hi b k=>?_) (List.Pairwise.filter _ List.pairwise_lt_range);rw [List.mem_filter,List.mem_range] at hi b;have a:=b.2;simp only [Go.Lib.keeps,zzX] at a;rw [g i hi.1,g j b.1];rw [g j b.1,g (j - 1) (by omega)] at a;have a:=a.resolve_left (by omega);have p:=c (j - 1) j (by omega) b.1 (by omega);by_cases e:i=j - 1
  ·subst e; omega
  ·have q:=c i (j - 1) hi.1 (by omega) (by omega);omega
 ·obtain ⟨i,hi,rfl⟩:=List.getElem_of_mem h;have key:∀ (n i:Nat) (hi:i<l.length),i<=n->l[i]∈Go.Lib.compact l:=by
   intro n
   induction n with
   | zero=>
    intro i hi m;have e:i=0:=by omega
    subst e;unfold Go.Lib.compact Go.Lib.compactUpTo;exact List.mem_map.2 ⟨0,List.mem_filter.2 ⟨List.mem_range.2 hi,by simp [Go.Lib.keeps]⟩,g 0 hi⟩
   | succ n o=>
    intro i hi m;by_cases a:Go.Lib.keeps l.toArray i=true
    ·unfold Go.Lib.compact Go.Lib.compactUpTo;exact List.mem_map.2 ⟨i,List.mem_filter.2 ⟨List.mem_range.2 hi,a⟩,g i hi⟩
    ·simp only [Go.Lib.keeps,zzX] at a;rw [not_or] at a;obtain ⟨r,d⟩:=a;rw [Classical.not_not,g i hi,g (i - 1) (by omega)] at d;rw [d];exact o (i - 1) (by omega) (by omega)
  exact key i i hi (d3 _)
def TR (a b:Ne):Ne:=Go.Lib.compact (Nn (a++b))
theorem TS (a b:Ne):N1 (TR a b)∧∀ x,x∈TR a b↔x∈a∨x∈b:=by
 obtain ⟨c,d⟩:=Xj (M4 (a++b));refine ⟨c,fun x=>(d x).trans ?_⟩;rw [(LV (a++b)).mem_iff,List.mem_append]
theorem XU {a b:Ne} (c:a.length+b.length<=BN):GP a b=some (TR a b):=by
 unfold BN at c;have f:Ig [a,b]=some (a++b):=by
  unfold Ig;rw [show (([a,b]:List Ne).length:Int)=2 from rfl,DO (a:=0) (b:=2) (s:=0) (fun i=>if i=0 then 0 else if i=1 then (a.length:Int) else (a.length:Int)+b.length) (by omega) rfl,bs]
  ·have g:IV [] (if (2:Int)=0 then 0 else if (2:Int)=1 then (a.length:Int) else (a.length:Int)+b.length)=some []:=by
    have h:(if (2:Int)=0 then 0 else if (2:Int)=1 then (a.length:Int) else (a.length:Int)+b.length)=(a.length:Int)+b.length:=by rw [d2 (by decide),d2 (by decide)]
    rw [h];unfold IV;rw [d1 ⟨rfl,by omega,by unfold BN; omega⟩]
   rw [g,bs,DO (a:=0) (b:=2) (s:=[]) (fun i=>if i=0 then [] else if i=1 then a else a++b) (by omega) rfl]
   ·rfl
   ·intro i d e;have:i=0∨i=1:=by omega
    rcases this with rfl | rfl
    ·rw [AI (by omega) (by simp),bs];show (BV [] a).bind _=_;rw [FE (by unfold BN; omega)]; rfl
    ·rw [AI (by omega) (by simp),bs];show (BV a b).bind _=_;rw [CF (by unfold BN; omega)]; rfl
  ·intro i d e;have:i=0∨i=1:=by omega
   rcases this with rfl | rfl
   ·rw [AI (by omega) (by simp),bs];show (if (decide ((A4 (0+(a.length:Int)))<0))=true then none else some (A4 (0+(a.length:Int))))=some (a.length:Int);rw [BG (by omega) (by omega),d2 (by simp),Int.zero_add]
   ·rw [AI (by omega) (by simp),bs];show (if (decide ((A4 ((a.length:Int)+(b.length:Int)))<0))=true then none else some (A4 ((a.length:Int)+(b.length:Int))))=some ((a.length:Int)+b.length);rw [BG (by omega) (by omega),d2 (by simp; omega)]
 have j:(Nn (a++b)).length=a.length+b.length:=by rw [(LV (a++b)).length_eq,d4]
 unfold GP slices_Sort_int slices_Compact_int;rw [f,bs,d1 (by rw [d4]; unfold BN; omega),bs,d1 (by rw [j]; unfold BN; omega)]; rfl
end Go.Sf.Sc
namespace Go.Sf.Sc
open Go Go.Sf
end Go.Sf.Sc
namespace Go.Sf.Sc
open Go Go.Sf
def NY (l:List AH) (r:AH):Bool:=decide (l.head?=some r)
theorem PN (l:List AH) (a:Ne) (k:Int) (nodes:Ne):G4 l a k nodes=some (NY l ⟨a,k,nodes⟩):=by
 unfold G4 NY;cases l with
 | nil=>rfl
 | cons x l=>
  obtain ⟨b,c,d⟩:=x;have e:AM ((⟨b,c,d⟩:AH)::l) 0=some ⟨b,c,d⟩:=AI (by omega) (by simp);rw [d1 (by simp),e];simp only [bs,eR,List.head?_cons,zzY,AH.mk.injEq];by_cases f:b=a <;> by_cases g:c=k <;> by_cases h:d=nodes <;> simp [f,g,h]
theorem b9 {c:Ne} {e:Int->Option Ne} {M:Int->Ne} {B:Nat} (t:B<=20000) (G:c.length<=B) (w:∀ n∈c,e n=some (M n)) (u:∀ n∈c,(M n).length<=B) (x:∀ n∈c,0<=n∧n<=B) (y:∀ n∈c,∀ k∈M n,0<=k∧k<=B) :
  EM c e=some (TR (c.flatMap fun n=>(M n).map fun k=>n+k) []):=by
 have f:∀ l:Ne,(∀ n∈l,n∈c)->(l.flatMap fun n=>(M n).map fun k=>n+k).length<=l.length*B:=fun l h=>QX fun n g=>by
  rw [d7]; exact u n (h n g)
 have v:=f c fun n g=>g;have z:c.length*B<=20000*20000:=Nat.mul_le_mul (by omega) t;unfold EM;rw [DO (a:=0) (b:=c.length) (s:=[]) (fun i=>(c.take i.toNat).flatMap fun n=>(M n).map fun k=>n+k) (by omega) rfl,bs,Int.toNat_natCast,List.take_length,XU (by simp only [List.length_nil]; unfold BN; omega)]
 ·rfl
 ·intro i o p;have d:=AQ (l:=c) o p;have m:=f (c.take i.toNat) fun n g=>List.mem_of_mem_take g;have A:(c.take i.toNat).length<=c.length:=by rw [d5]; omega
  have C:(c.take i.toNat).length*B<=20000*20000:=Nat.mul_le_mul (by omega) t;have D:=u _ d;have H:=x _ d;rw [AI o p,bs,w _ d,bs];generalize E:((c.take i.toNat).flatMap fun n=>(M n).map fun k=>n+k)=P at m ⊢;rw [DO (a:=0) (b:=(M (AB c i)).length) (s:=P) (fun j=>P++((M (AB c i)).take j.toNat).map fun k=>AB c i+k) (by omega) (by simp),bs,Int.toNat_natCast,List.take_length,GJ o p,List.flatMap_append,E]
  ·simp
  ·intro j q r;have F:=y _ d _ (AQ (l:=M (AB c i)) q r);rw [AI q r,bs,BG (by omega) (by omega),CF (by simp only [d4,d7,d5,d6,List.length_nil]; unfold BN; omega),bs,GJ q r,List.map_append,ea]; rfl
theorem aA {a:Ne} {M:Int->Ne} (x:Int):x∈TR (a.flatMap fun n=>(M n).map fun k=>n+k) []↔∃ n∈a,∃ k∈M n,x=n+k:=by
 rw [(TS _ _).2];simp only [List.mem_flatMap,List.mem_map,List.not_mem_nil,or_false];constructor
 ·rintro ⟨n,b,k,c,rfl⟩; exact ⟨n,b,k,c,rfl⟩
 ·rintro ⟨n,b,k,c,rfl⟩; exact ⟨n,b,k,c,rfl⟩
end Go.Sf.Sc
namespace Go.Sf.Sc
open Go Go.Sf
def Li (P:Int->List AH->Prop):Nat->List AH->Prop
 | 0,l=>l=[]
 | n+1,l=>∃ a b,l=a++b∧Li P n a∧P n b
def DA (t:AC) (h:AU) (inj:Bool):Nat->AA->AF->Ne->Bool->List AH->Prop
 | 0,_,_,_,_,_=>False
 | N+1,c,m,path,good,l=>
  if c.Kind=2 then DA t h inj N (AB c.Kids 0) m (path++[0]) (!good) l else
  if c.Kind=3∨c.Kind=4 then
   if decide (c.Kind=3)=good then Li (fun i l=>DA t h inj N (AB c.Kids i) m (path++[i]) good l) c.Kids.length l
   else ∃ i:Int,(0<=i∧i<c.Kids.length)∧HE t h inj (AB c.Kids i) m=good∧DA t h inj N (AB c.Kids i) m (path++[i]) good l
  else if c.Kind=5 then
   if good=false then
    if (B5 t c h m inj).1.length=0 then l=[⟨path,3,m.Morphism.Nodes⟩] else
    Li (fun i l=>∃ l',l=⟨path,4,(AB (B5 t c h m inj).1 i).Morphism.Nodes⟩::l'∧DA t h inj N (AB c.Kids 0) (AB (B5 t c h m inj).1 i) (path++[0]) false l') (min (B5 t c h m inj).1.length 5) l
   else ∃ i:Int,(0<=i∧i<(B5 t c h m inj).1.length)∧HE t h inj (AB c.Kids 0) (AB (B5 t c h m inj).1 i)=true ∧
    ∃ l',l=⟨path,2,(AB (B5 t c h m inj).1 i).Morphism.Nodes⟩::l'∧if (AB c.Kids 0).Kind=1 then l'=[] else DA t h inj N (AB c.Kids 0) (AB (B5 t c h m inj).1 i) (path++[0]) true l'
  else l=[⟨path,1,[]⟩]
end Go.Sf.Sc
namespace Go.Sf.Sc
open Go Go.Sf
structure Ji (l:List AH) (Q:List AH->Prop) (L:Ne):Prop where
 asc:N1 L
 mem:∀ x,x∈L↔(0<=x∧x<=l.length)∧Q (l.take x.toNat)
theorem Sa:∀ {L:Ne} {a b:Int},N1 L->(∀ x∈L,a<=x∧x<=b)->a<=b+1->(L.length:Int)<=b+1 - a
 | [],_,_,_,_,h=>by simp; omega
 | y::L,a,b,h,e,_=>by
  have d:=List.pairwise_cons.1 h;have f:=e y (by simp);have:=Sa (a:=y+1) (b:=b) d.2 (fun x c=>⟨by have:=d.1 x c; omega,(e x (List.mem_cons_of_mem _ c)).2⟩) (by omega);rw [d6];omega
theorem Ji.len {l:List AH} {Q:List AH->Prop} {L:Ne} (h:Ji l Q L):L.length<=l.length+1:=by
 have:=Sa (a:=0) (b:=l.length) h.asc (fun x c=>((h.mem x).1 c).1) (by omega);omega
theorem aU {P:Int->List AH->Prop} {l:List AH}:Ji l (Li P 0) [0]:=by
 refine ⟨List.pairwise_singleton _ _,fun x=>?_⟩;rw [List.mem_singleton];constructor
 ·rintro rfl; exact ⟨by omega,rfl⟩
 ·rintro ⟨⟨b,c⟩,a⟩;have a:l.take x.toNat=[]:=a;have:=congrArg List.length a;rw [d5,List.length_nil] at this;omega
end Go.Sf.Sc
namespace Go.Sf.Sc
open Go Go.Sf
theorem Qq {P Q:List AH->Prop} {l:List AH} {a x:Nat} (d:a<=x) (f:x<=l.length):(∃ u v,(l.drop a).take (x - a)=u++v∧P u∧Q v)↔∃ b,a<=b∧b<=x∧P ((l.drop a).take (b - a))∧Q ((l.drop b).take (x - b)):=by
 constructor
 ·rintro ⟨u,v,e,c,hv⟩;have g:u.length+v.length=x - a:=by
   have:=congrArg List.length e;rw [d5,List.length_drop,d4] at this; omega
  refine ⟨a+u.length,by omega,by omega,?_,?_⟩
  ·have:=congrArg (List.take u.length) e;rw [List.take_take,List.take_left,show min u.length (x - a)=u.length by omega] at this;rw [show a+u.length - a=u.length by omega,this]; exact c
  ·have:=congrArg (List.drop u.length) e;rw [List.drop_take,List.drop_left,List.drop_drop] at this;rw [show x - (a+u.length)=x - a - u.length by omega,this]; exact hv
 ·rintro ⟨b,h,i,c,hv⟩;refine ⟨_,_,?_,c,hv⟩;rw [show l.drop b=(l.drop a).drop (b - a) by rw [List.drop_drop]; congr 1; omega,show x - a=(b - a)+(x - b) by omega,List.take_add]
structure K4 (l:List AH) (A:Ne):Prop where
 asc:N1 A
 rng:∀ a∈A,0<=a∧a<=l.length
structure IX (l:List AH) (A:Ne) (Q:List AH->Prop) (E:Ne):Prop where
 asc:N1 E
 mem:∀ x,x∈E↔∃ a∈A,a<=x∧x<=l.length∧Q ((l.drop a.toNat).take (x - a).toNat)
theorem IX.plc {l:List AH} {A E:Ne} {Q:List AH->Prop} (b:K4 l A) (h:IX l A Q E):K4 l E:=
 ⟨h.asc,fun x c=>by obtain ⟨a,d,e,f,_⟩:=(h.mem x).1 c; have:=b.rng a d; omega⟩
theorem K4.len {l:List AH} {A:Ne} (h:K4 l A):A.length<=l.length+1:=by
 have:=Sa (a:=0) (b:=l.length) h.asc h.rng (by omega);omega
theorem aL {l:List AH} {A:Ne} {Q:List AH->Prop} (h:∀ y,¬ Q y):IX l A Q []:=
 ⟨List.Pairwise.nil,fun x=>⟨fun k=>by simp at k,fun ⟨_,_,_,_,k⟩=>absurd k (h _)⟩⟩
theorem Y9 {l:List AH} {Q:List AH->Prop}:IX l [] Q []:=
 ⟨List.Pairwise.nil,fun x=>⟨fun k=>by simp at k,fun ⟨_,k,_⟩=>by simp at k⟩⟩
theorem IX.congr {l:List AH} {A E:Ne} {Q R:List AH->Prop} (h:IX l A Q E) (e:∀ y,Q y↔R y):IX l A R E:=
 ⟨h.asc,fun x=>(h.mem x).trans ⟨fun ⟨a,b,c,d,k⟩=>⟨a,b,c,d,(e _).1 k⟩,fun ⟨a,b,c,d,k⟩=>⟨a,b,c,d,(e _).2 k⟩⟩⟩
theorem cL {l:List AH} {A:Ne} (b:K4 l A):IX l A (fun y=>y=[]) A:=by
 refine ⟨b.asc,fun x=>⟨fun h=>⟨x,h,Int.le_refl _,(b.rng x h).2,by simp⟩,?_⟩⟩;rintro ⟨a,d,e,f,c⟩;have:=b.rng a d;have c:=congrArg List.length c;rw [d5,List.length_drop,List.length_nil] at c;rw [show x=a by omega]; exact d
theorem IX.seq {l:List AH} {A B E:Ne} {Q R:List AH->Prop} (f:K4 l A) (g:IX l A Q B) (d:IX l B R E):IX l A (fun y=>∃ u v,y=u++v∧Q u∧R v) E:=by
 refine ⟨d.asc,fun x=>⟨fun j=>?_,?_⟩⟩
 ·obtain ⟨b,k,m,h,n⟩:=(d.mem x).1 j;obtain ⟨a,c,o,i,e⟩:=(g.mem b).1 k;have:=f.rng a c;refine ⟨a,c,by omega,h,?_⟩;rw [show (x - a).toNat=x.toNat - a.toNat by omega];exact (Qq (P:=Q) (Q:=R) (by omega) (by omega)).2 ⟨b.toNat,by omega,by omega,by rwa [show b.toNat - a.toNat=(b - a).toNat by omega],by rwa [show x.toNat - b.toNat=(x - b).toNat by omega]⟩
 ·rintro ⟨a,c,o,i,e⟩;have:=f.rng a c;rw [show (x - a).toNat=x.toNat - a.toNat by omega] at e;obtain ⟨b,m,h,n,p⟩:=(Qq (P:=Q) (Q:=R) (by omega) (by omega)).1 e;refine (d.mem x).2 ⟨(b:Int),(g.mem b).2 ⟨a,c,by omega,by omega,by rwa [show ((b:Int) - a).toNat=b - a.toNat by omega]⟩,by omega,i,?_⟩;rw [show (x - (b:Int)).toNat=x.toNat - b by omega]; simpa using p
theorem IX.or {l:List AH} {A B D E:Ne} {Q R:List AH->Prop} (f:IX l A Q B) (g:IX l A R D) (h:N1 E) (i:∀ x,x∈E↔x∈B∨x∈D):IX l A (fun y=>Q y∨R y) E:=by
 refine ⟨h,fun x=>(i x).trans ?_⟩;rw [f.mem,g.mem];constructor
 ·rintro (⟨a,c,d,e,b⟩ | ⟨a,c,d,e,b⟩)
  ·exact ⟨a,c,d,e,.inl b⟩
  ·exact ⟨a,c,d,e,.inr b⟩
 ·rintro ⟨a,c,d,e,b | b⟩
  ·exact .inl ⟨a,c,d,e,b⟩
  ·exact .inr ⟨a,c,d,e,b⟩
def MI (l:List AH) (A:Ne) (r:AH):Ne:=(A.filter fun (a:Int)=>decide (a<l.length∧AB l a=r)).map fun a=>a+1
theorem RS {l:List AH} {A:Ne} (e:K4 l A) (r:AH):IX l A (fun y=>y=[r]) (MI l A r):=by
 refine ⟨?_,fun x=>?_⟩
 ·unfold N1 MI;rw [List.pairwise_map];exact List.Pairwise.imp (fun h=>by omega) (List.Pairwise.filter _ e.asc)
 ·unfold MI;rw [List.mem_map];constructor
  ·rintro ⟨a,c,rfl⟩;rw [List.mem_filter,zzX] at c;obtain ⟨c,i,d⟩:=c;have:=e.rng a c;refine ⟨a,c,by omega,by omega,?_⟩;rw [show (a+1 - a).toNat=1 by omega];have b:a.toNat<l.length:=by omega
   rw [List.drop_eq_getElem_cons b,List.take_succ_cons,List.take_zero];unfold AB at d;rw [List.getD_eq_getElem?_getD,List.getElem?_eq_getElem b] at d;rw [←d]; rfl
  ·rintro ⟨a,c,i,d,f⟩;have:=e.rng a c;have g:=congrArg List.length f;rw [d5,List.length_drop,d6,List.length_nil] at g;have b:a.toNat<l.length:=by omega
   refine ⟨a,?_,by omega⟩;rw [List.mem_filter,zzX];refine ⟨c,by omega,?_⟩;rw [show (x - a).toNat=1 by omega,List.drop_eq_getElem_cons b,List.take_succ_cons,List.take_zero] at f;unfold AB;rw [List.getD_eq_getElem?_getD,List.getElem?_eq_getElem b];exact (List.cons.inj f).1
def F6:Ne->Ne->Ne
 | [],b=>b
 | x::a,[]=>x::a
 | x::a,y::b=>if x<y then x::F6 a (y::b) else if x=y then y::F6 a b else y::F6 (x::a) b
termination_by a b=>a.length+b.length
theorem LD:∀ (n:Nat) (a b:Ne),a.length+b.length<=n->∀ x,x∈F6 a b↔x∈a∨x∈b
 | _,[],b,_,x=>by rw [F6]; simp
 | _,z::a,[],_,x=>by rw [F6]; simp
 | 0,z::a,y::b,h,x=>by simp at h
 | n+1,z::a,y::b,h,x=>by
  simp only [d6] at h;rw [F6];split
  ·rw [List.mem_cons,LD n a (y::b) (by simp only [d6]; omega),List.mem_cons (l:=a),or_assoc]
  ·split
   ·rename_i e;rw [List.mem_cons,LD n a b (by omega),List.mem_cons,List.mem_cons,e];constructor
    ·rintro (k | k | k) <;> simp [k]
    ·rintro ((k | k) | (k | k)) <;> simp [k]
   ·rw [List.mem_cons,LD n (z::a) b (by simp only [d6]; omega),List.mem_cons (l:=b)];constructor
    ·rintro (k | k | k) <;> simp [k]
    ·rintro (k | k | k) <;> simp [k]
theorem PZ:∀ (n:Nat) (a b:Ne),a.length+b.length<=n->N1 a->N1 b->N1 (F6 a b)
 | _,[],b,_,_,f=>by rw [F6]; exact f
 | _,z::a,[],_,g,_=>by rw [F6]; exact g
 | 0,z::a,y::b,h,_,_=>by simp at h
 | n+1,z::a,y::b,h,g,f=>by
  simp only [d6] at h;have c:=List.pairwise_cons.1 g;have d:=List.pairwise_cons.1 f;rw [F6];split
  ·refine List.pairwise_cons.2 ⟨fun x e=>?_,PZ n a (y::b) (by simp only [d6]; omega) c.2 f⟩;rcases (LD _ _ _ (d3 _) x).1 e with k | k
   ·exact c.1 x k
   ·rcases List.mem_cons.1 k with k | k
    ·omega
    ·have:=d.1 x k; omega
  ·split
   ·refine List.pairwise_cons.2 ⟨fun x e=>?_,PZ n a b (by omega) c.2 d.2⟩;rcases (LD _ _ _ (d3 _) x).1 e with k | k
    ·have:=c.1 x k; omega
    ·exact d.1 x k
   ·refine List.pairwise_cons.2 ⟨fun x e=>?_,PZ n (z::a) b (by simp only [d6]; omega) g d.2⟩;rcases (LD _ _ _ (d3 _) x).1 e with k | k
    ·rcases List.mem_cons.1 k with k | k
     ·omega
     ·have:=c.1 x k; omega
    ·exact d.1 x k
theorem IX.join {l:List AH} {A B D:Ne} {Q R:List AH->Prop} (a:IX l A Q B) (b:IX l A R D):IX l A (fun y=>Q y∨R y) (F6 B D):=
 a.or b (PZ _ _ _ (d3 _) a.asc b.asc) (LD _ _ _ (d3 _))
end Go.Sf.Sc
namespace Go.Sf.Sc
open Go Go.Sf
theorem XW (n:Nat):N1 (BW n):=by
 unfold N1 BW;rw [List.pairwise_map];exact List.Pairwise.imp (fun h=>Int.ofNat_lt.2 h) List.pairwise_lt_range
noncomputable def IZ (Q:List AH->Prop) (l:List AH):Ne:=(BW (l.length+1)).filter fun x=>@decide (Q (l.take x.toNat)) (Classical.propDecidable _)
theorem E3 (Q:List AH->Prop) (l:List AH):Ji l Q (IZ Q l):=by
 refine ⟨List.Pairwise.filter _ (XW _),fun x=>?_⟩;unfold IZ;rw [List.mem_filter,Hr,@zzX _ (Classical.propDecidable _)];constructor
 ·rintro ⟨b,a⟩; exact ⟨by omega,a⟩
 ·rintro ⟨b,a⟩; exact ⟨by omega,a⟩
theorem Ji.eq {l:List AH} {Q:List AH->Prop} {L:Ne} (h:Ji l Q L):L=IZ Q l:=
 Sb h.asc (E3 Q l).asc fun x=>(h.mem x).trans ((E3 Q l).mem x).symm
theorem Ji.congr {l:List AH} {Q R:List AH->Prop} {L:Ne} (h:Ji l Q L) (e:∀ y,Q y↔R y):Ji l R L:=
 ⟨h.asc,fun x=>(h.mem x).trans ⟨fun ⟨a,b⟩=>⟨a,(e _).1 b⟩,fun ⟨a,b⟩=>⟨a,(e _).2 b⟩⟩⟩
theorem EW {Q R:List AH->Prop} (l:List AH) (e:∀ y,Q y↔R y):IZ Q l=IZ R l:=((E3 Q l).congr e).eq
theorem ce {Q R:List AH->Prop} {l:List AH} {S:Ne} {M:Int->Ne} (c:Ji l Q S) (d:∀ n∈S,Ji (l.drop n.toNat) R (M n)):Ji l (fun y=>∃ u v,y=u++v∧Q u∧R v) (TR (S.flatMap fun n=>(M n).map fun k=>n+k) []):=by
 refine ⟨(TS _ _).1,fun x=>?_⟩;rw [aA];have e:=fun (h:x.toNat<=l.length)=>Qq (P:=Q) (Q:=R) (l:=l) (a:=0) (x:=x.toNat) (by omega) h;constructor
 ·rintro ⟨n,b,k,m,rfl⟩;obtain ⟨⟨p,q⟩,f⟩:=(c.mem n).1 b;obtain ⟨⟨r,g⟩,s⟩:=((d n b).mem k).1 m;rw [List.length_drop] at g;refine ⟨by omega,?_⟩;have:=(e (by omega)).2 ⟨n.toNat,by omega,by omega,by simpa using f,by rwa [show (n+k).toNat - n.toNat=k.toNat by omega]⟩;simpa using this
 ·rintro ⟨⟨z,A⟩,o⟩;obtain ⟨n,t,w,i,j⟩:=(e (by omega)).1 (by simpa using o);have b:(n:Int)∈S:=(c.mem n).2 ⟨by omega,by simpa using i⟩;exact ⟨n,b,x - n,((d n b).mem _).2 ⟨by rw [List.length_drop]; simp; omega,by rw [show (x - (n:Int)).toNat=x.toNat - n by omega]; simpa using j⟩,by omega⟩
theorem OS {l:List AH} (e:l.length<=12000) {Q R:List AH->Prop} {a:Int->Option Ne} (h:∀ n∈IZ Q l,a n=some (IZ R (l.drop n.toNat))):EM (IZ Q l) a=some (IZ (fun y=>∃ u v,y=u++v∧Q u∧R v) l):=by
 have b:=E3 Q l;rw [b9 (M:=fun n=>IZ R (l.drop n.toNat)) (B:=12001) (by omega) (by have:=b.len; omega) h (fun n _=>by have:=(E3 R (l.drop n.toNat)).len; rw [List.length_drop] at this; omega)
  (fun n c=>by have:=((b.mem n).1 c).1; omega) (fun n _ k d=>by have:=(((E3 R (l.drop n.toNat)).mem k).1 d).1; rw [List.length_drop] at this; omega)]
 rw [(ce b fun n _=>E3 R (l.drop n.toNat)).eq]
theorem TF (l:List AH) (r:AH):Ji l (fun y=>y=[r]) (if NY l r=true then [1] else []):=by
 unfold NY;cases l with
 | nil=>
  rw [d2 (by simp)];refine ⟨List.Pairwise.nil,fun x=>⟨fun h=>by simp at h,fun ⟨_,h⟩=>by simp at h⟩⟩
 | cons z l=>
  by_cases e:z=r
  ·rw [d1 (by simp [e])];refine ⟨List.pairwise_singleton _ _,fun x=>?_⟩;rw [List.mem_singleton];constructor
   ·rintro rfl; exact ⟨by rw [d6]; omega,by simp [e]⟩
   ·rintro ⟨⟨c,b⟩,a⟩;rw [d6] at b;have:=congrArg List.length a;rw [d5,d6,d6,List.length_nil] at this;omega
  ·rw [d2 (by simp [e])];refine ⟨List.Pairwise.nil,fun x=>⟨fun h=>by simp at h,fun ⟨⟨c,b⟩,a⟩=>?_⟩⟩;exfalso;rw [d6] at b;have d:=congrArg List.length a;rw [d5,d6,d6,List.length_nil] at d;rw [show x.toNat=1 by omega,List.take_succ_cons,List.take_zero] at a;exact e (List.cons.inj a).1
theorem YM {l:List AH} {r:AH} {Q:List AH->Prop} (h:¬ NY l r=true) (b:∀ y,Q y->∃ v,y=r::v):Ji l Q []:=by
 refine ⟨List.Pairwise.nil,fun x=>⟨fun k=>by simp at k,fun ⟨_,k⟩=>?_⟩⟩;exfalso;obtain ⟨v,e⟩:=b _ k;apply h;unfold NY;cases l with
 | nil=>simp at e
 | cons z l=>
  cases a:x.toNat with
  | zero=>rw [a] at e; simp at e
  | succ k=>
   rw [a,List.take_succ_cons] at e;simp [(List.cons.inj e).1]
theorem fk {l:List AH} {Q R:List AH->Prop} {A B:Ne} (c:Ji l Q A) (d:Ji l R B):Ji l (fun y=>Q y∨R y) (TR A B):=by
 obtain ⟨e,f⟩:=TS A B;refine ⟨e,fun x=>(f x).trans ?_⟩;rw [c.mem,d.mem];constructor
 ·rintro (⟨a,b⟩ | ⟨a,b⟩)
  ·exact ⟨a,.inl b⟩
  ·exact ⟨a,.inr b⟩
 ·rintro ⟨a,b | b⟩
  ·exact .inl ⟨a,b⟩
  ·exact .inr ⟨a,b⟩
theorem TG {l:List AH} {Q R:List AH->Prop} {A:Ne} (c:Ji l Q A) (d:Ji l R []):Ji l (fun y=>Q y∨R y) A:=by
 refine ⟨c.asc,fun x=>(c.mem x).trans ⟨fun ⟨a,b⟩=>⟨a,.inl b⟩,fun ⟨a,b⟩=>?_⟩⟩;rcases b with b | b
 ·exact ⟨a,b⟩
 ·have:=(d.mem x).2 ⟨a,b⟩; simp at this
theorem Qf {l:List AH} {Q:List AH->Prop} (h:∀ y,¬ Q y):Ji l Q []:=
 ⟨List.Pairwise.nil,fun x=>⟨fun k=>by simp at k,fun ⟨_,k⟩=>absurd k (h _)⟩⟩
def NX (R:Int->List AH->Prop) (i:Int) (y:List AH):Prop:=∃ j,(0<=j∧j<i)∧R j y
theorem PJ {R:Int->List AH->Prop} {i:Int} (h:0<=i) (y:List AH):(NX R i y∨R i y)↔NX R (i+1) y:=by
 unfold NX;constructor
 ·rintro (⟨j,⟨a,b⟩,k⟩ | k)
  ·exact ⟨j,⟨a,by omega⟩,k⟩
  ·exact ⟨i,⟨h,by omega⟩,k⟩
 ·rintro ⟨j,⟨a,b⟩,k⟩;by_cases e:j=i
  ·subst e; exact .inr k
  ·exact .inl ⟨j,⟨a,by omega⟩,k⟩
theorem Uw {R:Int->List AH->Prop} (l:List AH):IZ (NX R 0) l=[]:=(Qf fun y ⟨j,⟨a,b⟩,_⟩=>by omega).eq.symm
theorem WG (P:Int->List AH->Prop) (l:List AH):IZ (Li P 0) l=[0]:=aU.eq.symm
theorem Wg (Q:List AH->Prop) (l:List AH):(IZ Q l).length<=l.length+1:=(E3 Q l).len
theorem Q4 {l:List AH} (a:l.length<=12000) (Q R:List AH->Prop):GP (IZ Q l) (IZ R l)=some (IZ (fun y=>Q y∨R y) l):=by
 have b:=Wg Q l;have c:=Wg R l;rw [XU (by unfold BN; omega),(fk (E3 Q l) (E3 R l)).eq]
theorem O4 {l:List AH} {r:AH} (h:NY l r=true):[(1:Int)]=IZ (fun y=>y=[r]) l:=by
 have:=TF l r;rw [d1 h] at this;exact this.eq
end Go.Sf.Sc
namespace Go.Sf.Sc
open Go Go.Sf
theorem ip (l:Ne) (v:Int):slices_Contains_int l v=some (cT l v):=Th l v
theorem Pc {i:Int} (h:0<=i):(i+1).toNat=i.toNat+1:=by omega
theorem YD {s:AG} (U:BX s.t) (hv:(BF s.t).2=0) (L:GY s.t s.h) (V:s.h.Graph.Nodes.length<=14) (W:s.h.Graph.Edges.length<=18):∀ (N:Nat) (l:List AH) (c:AA) (p:Pattern) (m:AF) (d:Ne) (f:Bool),l.length<=12000->SizeOf.sizeOf c<=N->CV s.t p c->CG s.t p c->NP s.t p s.h m->d.length+cnt c<=1000->∀ n,4*N<=n->A0 n s l c m d f=some (IZ (DA s.t s.h s.injective N c m d f) l)
 | 0,_,c,_,_,_,_,_,h,_,_,_,_,_,_=>by have:=D5 c; omega
 | N+1,l,c,p,m,d,f,I,h,G,M,O,hp,n,X=>by
  obtain ⟨n,rfl⟩:∃ k,n=k+4:=⟨n - 4,by omega⟩;have he:=Mw c;have hrng:=G.rng;have kid:∀ k∈c.Kids,SizeOf.sizeOf k<=N∧cnt k<=cnt c - 1:=fun k q=>by have:=EP q; have:=Oy q; omega
  have ih:=YD (s:=s) U hv L V W N;rw [A0];by_cases H:c.Kind=2
  ·have Y:=G.one (.inl H);have q:=AQ (l:=c.Kids) (i:=0) (by omega) (by omega);have B:=kid _ q;rw [d1 (by simpa using H),AI (by omega) (by omega),bs,Ow (by omega),bs,
    ih l _ p m _ _ I B.1 (G.kid (by omega) _ q) (M.kid (by omega) _ q) O (by simp; omega) (n+3) (by omega),bs]
   congr 1;refine EW l fun y=>?_;rw [DA,d1 H]
  rw [d2 (by simpa using H)];by_cases w:c.Kind=5
  ·have hi:=G.ins w;have Y:=G.one (.inr w);have e0:=PS (inj:=s.injective) hv L O hi (M.ex w).2 V W;obtain ⟨e1,e2⟩:=Od hv L O hi e0;have q:=AQ (l:=c.Kids) (i:=0) (by omega) (by omega);have B:=kid _ q;have P:AM c.Kids 0=some (AB c.Kids 0):=AI (by omega) (by omega);rw [d1 (by simpa using w),BI,aK U hv L O hi e0,bs,P,bs];have F:∀ y,DA s.t s.h s.injective (N+1) c m d f y↔(if f=false then
    if (B5 s.t c s.h m s.injective).1.length=0 then y=[⟨d,3,m.Morphism.Nodes⟩] else
    Li (fun i l=>∃ j,l=⟨d,4,(AB (B5 s.t c s.h m s.injective).1 i).Morphism.Nodes⟩::j∧DA s.t s.h s.injective N (AB c.Kids 0) (AB (B5 s.t c s.h m s.injective).1 i) (d++[0]) false j) (min (B5 s.t c s.h m s.injective).1.length 5) y
   else NX (fun i y=>HE s.t s.h s.injective (AB c.Kids 0) (AB (B5 s.t c s.h m s.injective).1 i)=true ∧
    ∃ j,y=⟨d,2,(AB (B5 s.t c s.h m s.injective).1 i).Morphism.Nodes⟩::j∧if (AB c.Kids 0).Kind=1 then j=[] else DA s.t s.h s.injective N (AB c.Kids 0) (AB (B5 s.t c s.h m s.injective).1 i) (d++[0]) true j) ((B5 s.t c s.h m s.injective).1.length:Int) y):=fun y=>by
    rw [DA,d2 H,d2 (by omega),d1 w]; rfl
   generalize (B5 s.t c s.h m s.injective).1=E at e1 e2 F ⊢;have C:∀ (j:List AH) (i:Int) (g:Bool),j.length<=12000->0<=i->i<E.length->∀ n,4*N<=n->A0 n s j (AB c.Kids 0) (AB E i) (d++[0]) g=some (IZ (DA s.t s.h s.injective N (AB c.Kids 0) (AB E i) (d++[0]) g) j):=fun j i g J P Z n X=>
    ih j _ c.Pattern _ _ _ J B.1 (G.kid5 w _ q) (M.kid5 w _ q) (e2 _ (AQ P Z)) (by simp; omega) n X
   cases f
   ·by_cases hz:E.length=0
    ·have S:=fun y=>(F y).trans (by rw [d1 rfl,d1 hz]);rw [EW l S,d1 (by simp [hz]),PN,bs,←(TF l ⟨d,3,m.Morphism.Nodes⟩).eq];cases NY l ⟨d,3,m.Morphism.Nodes⟩ <;> rfl
    ·have hz':¬ ((!false)&&decide ((E.length:Int)=0))=true:=by
      rw [zzZ,zzX]; omega
     have S:=fun y=>(F y).trans (by rw [d1 rfl,d2 hz]);rw [EW l S,d2 hz',d1 (show (!false)=true from rfl),MV (by omega) (by omega),bs];have hT:((E.take (min (E.length:Int) 5).toNat).length:Int)=((min E.length 5:Nat):Int):=by rw [d5]; omega
     rw [hT];rw [DO (a:=0) (b:=((min E.length 5:Nat):Int)) (s:=[0]) (fun i=>IZ (Li (fun i l=>∃ j,l=(⟨d,4,(AB E i).Morphism.Nodes⟩:AH)::j∧DA s.t s.h s.injective N (AB c.Kids 0) (AB E i) (d++[0]) false j) i.toNat) l) (by omega) (WG _ l),bs,Int.toNat_natCast,bs];intro i r D;rw [AI r (by omega),bs,X4 (by omega),Pc r];rw [OS I (R:=fun l=>∃ j,l=(⟨d,4,(AB E i).Morphism.Nodes⟩:AH)::j∧DA s.t s.h s.injective N (AB c.Kids 0) (AB E i) (d++[0]) false j),bs]
     ·congr 1
      all_goals (refine EW l fun y=>?_; rw [Li,show ((i.toNat:Nat):Int)=i by omega])
     ·intro a K;have hr:=(((E3 _ l).mem a).1 K).1;rw [BB,O9 (by omega) (by omega),bs,PN,bs];have hdl:(l.drop a.toNat).length<=12000:=by rw [List.length_drop]; omega
      by_cases o:NY (l.drop a.toNat) ⟨d,4,(AB E i).Morphism.Nodes⟩=true
      ·rw [d2 (by simp [o]),O4 o,OS hdl (R:=DA s.t s.h s.injective N (AB c.Kids 0) (AB E i) (d++[0]) false),bs]
       ·congr 1;refine EW _ fun y=>?_;constructor
        ·rintro ⟨u,v,e,rfl,k⟩; exact ⟨v,e,k⟩
        ·rintro ⟨v,e,k⟩; exact ⟨_,v,e,rfl,k⟩
       ·intro b A;rw [←O4 o,List.mem_singleton] at A;subst A;have h3:1<=(l.drop a.toNat).length:=by
         cases x:l.drop a.toNat with
         | nil=>rw [x] at o; simp [NY] at o
         | cons _ _=>simp
        rw [List.length_drop] at h3;rw [A6,BG (by omega) (by omega),O9 (by omega) (by omega),bs,Ow (by omega),bs,C _ i false (by rw [List.length_drop]; omega) r (by omega) _ (by omega),bs,List.drop_drop,show (a+1).toNat=a.toNat+(1:Int).toNat by omega]
      ·rw [d1 (by simpa using o)];exact congrArg some (YM o (Q:=fun l=>∃ j,l=(⟨d,4,(AB E i).Morphism.Nodes⟩:AH)::j∧DA s.t s.h s.injective N (AB c.Kids 0) (AB E i) (d++[0]) false j) fun y ⟨v,e,_⟩=>⟨v,e⟩).eq
   ·have S:=fun y=>(F y).trans (by rw [d2 (by simp)]);rw [EW l S,d2 (by simp),d2 (by simp)];rw [DO (a:=0) (b:=(E.length:Int)) (s:=[]) (fun i=>IZ (NX (fun i y=>HE s.t s.h s.injective (AB c.Kids 0) (AB E i)=true ∧
     ∃ j,y=(⟨d,2,(AB E i).Morphism.Nodes⟩:AH)::j∧if (AB c.Kids 0).Kind=1 then j=[] else DA s.t s.h s.injective N (AB c.Kids 0) (AB E i) (d++[0]) true j) i) l) (by omega) (Uw l),bs,bs]
    intro i r D;rw [AI r D,bs,PN,bs,←EW l (PJ r)];by_cases o:NY l ⟨d,2,(AB E i).Morphism.Nodes⟩=true
    ·rw [d2 (by simp [o]),e_holds U hv L V W (G.kid5 w _ q) (M.kid5 w _ q) (e2 _ (AQ r D)),bs,bs];by_cases x:HE s.t s.h s.injective (AB c.Kids 0) (AB E i)=true
     ·rw [d2 (by simp [x])];by_cases z:(AB c.Kids 0).Kind=1
      ·rw [d1 (by simpa using z),O4 o,Q4 I,bs];congr 1;refine EW l fun y=>?_;refine or_congr Iff.rfl ?_;constructor
       ·intro e; exact ⟨x,[],e,by rw [d1 z]⟩
       ·rintro ⟨_,v,e,k⟩;rw [d1 z] at k;rw [e,k]
      ·rw [d2 (by simpa using z),O4 o,OS I (R:=DA s.t s.h s.injective N (AB c.Kids 0) (AB E i) (d++[0]) true),bs,Q4 I,bs]
       ·congr 1;refine EW l fun y=>?_;refine or_congr Iff.rfl ?_;constructor
        ·rintro ⟨u,v,e,rfl,k⟩; exact ⟨x,v,e,by rw [d2 z]; exact k⟩
        ·rintro ⟨_,v,e,k⟩;rw [d2 z] at k;exact ⟨_,v,e,rfl,k⟩
       ·intro b A;rw [←O4 o,List.mem_singleton] at A;subst A;have h3:1<=l.length:=by
         cases x:l with
         | nil=>rw [x] at o; simp [NY] at o
         | cons _ _=>simp
        rw [BC,O9 (by omega) (by omega),bs,Ow (by omega),bs,C _ i true (by rw [List.length_drop]; omega) r (by omega) _ (by omega),bs]
     ·rw [d1 (by simpa using x)];exact congrArg some (TG (E3 _ l) (Qf fun y k=>x k.1)).eq
    ·rw [d1 (by simpa using o),bs,d1 rfl];exact congrArg some (TG (E3 _ l) (YM o fun y k=>by obtain ⟨_,v,e,_⟩:=k; exact ⟨v,e⟩)).eq
  rw [d2 (by simpa using w)];by_cases Y:c.Kind=1
  ·have F:∀ y,DA s.t s.h s.injective (N+1) c m d f y↔y=[⟨d,1,[]⟩]:=fun y=>by
    rw [DA,d2 H,d2 (by omega),d2 w]
   rw [d1 (by simpa using Y),PN,bs,EW l F,←(TF l ⟨d,1,[]⟩).eq];cases NY l ⟨d,1,[]⟩ <;> rfl
  have T:c.Kind=3∨c.Kind=4:=by omega
  rw [d2 (by simpa using Y)];have C:∀ (j:List AH) (i:Int),j.length<=12000->0<=i->i<c.Kids.length->∀ n,4*N<=n->A0 n s j (AB c.Kids i) m (d++[i]) f=some (IZ (DA s.t s.h s.injective N (AB c.Kids i) m (d++[i]) f) j):=fun j i J P Z n X=>by
   have q:=AQ (l:=c.Kids) P Z;have B:=kid _ q;exact ih j _ p m _ _ J B.1 (G.kid w _ q) (M.kid w _ q) O (by simp; omega) n X
  by_cases o:decide (c.Kind=3)=f
  ·have F:∀ y,DA s.t s.h s.injective (N+1) c m d f y↔Li (fun i l=>DA s.t s.h s.injective N (AB c.Kids i) m (d++[i]) f l) c.Kids.length y:=fun y=>by
    rw [DA,d2 H,d1 T,d1 o]
   rw [d1 (by simp [o]),EW l F];rw [DO (a:=0) (b:=(c.Kids.length:Int)) (s:=[0]) (fun i=>IZ (Li (fun i l=>DA s.t s.h s.injective N (AB c.Kids i) m (d++[i]) f l) i.toNat) l) (by omega) (WG _ l),bs,Int.toNat_natCast];intro i r D;rw [AI r D,bs,Pc r,OS I (R:=DA s.t s.h s.injective N (AB c.Kids i) m (d++[i]) f),bs]
   ·congr 1
    all_goals (refine EW l fun y=>?_; rw [Li,show ((i.toNat:Nat):Int)=i by omega])
   ·intro a K;have hr:=(((E3 _ l).mem a).1 K).1;rw [BE,O9 (by omega) (by omega),bs,Ow (by omega),bs,C _ i (by rw [List.length_drop]; omega) r D _ (by omega),bs]
  ·have F:∀ y,DA s.t s.h s.injective (N+1) c m d f y↔NX (fun i y=>HE s.t s.h s.injective (AB c.Kids i) m=f∧DA s.t s.h s.injective N (AB c.Kids i) m (d++[i]) f y) (c.Kids.length:Int) y:=fun y=>by
    rw [DA,d2 H,d1 T,d2 o]; rfl
   rw [d2 (by simp [o]),EW l F];rw [DO (a:=0) (b:=(c.Kids.length:Int)) (s:=[]) (fun i=>IZ (NX (fun i y=>HE s.t s.h s.injective (AB c.Kids i) m=f∧DA s.t s.h s.injective N (AB c.Kids i) m (d++[i]) f y) i) l) (by omega) (Uw l),bs];intro i r D;have q:=AQ (l:=c.Kids) r D;rw [AI r D,bs,e_holds U hv L V W (G.kid w _ q) (M.kid w _ q) O,bs,←EW l (PJ r)];by_cases x:HE s.t s.h s.injective (AB c.Kids i) m=f
   ·rw [d1 (by simp [x]),Ow (by omega),bs,C l i I r D _ (by omega),bs,Q4 I,bs];congr 1;refine EW l fun y=>or_congr Iff.rfl ⟨fun k=>⟨x,k⟩,fun k=>k.2⟩
   ·rw [d2 (by simp [x])];exact congrArg some (TG (E3 _ l) (Qf fun y k=>x k.1)).eq
noncomputable def Y5 (t:AC) (p:Pattern) (c:AA) (h:AU) (m:AF) (inj:Bool) (l:List AH):Bool:=
 decide ((LN t p c h m inj).2=0)&&!(LN t p c h m inj).1&&@decide (DA t h inj (SizeOf.sizeOf c) c m [] false l) (Classical.propDecidable _)
theorem af {t:AC} (b:BX t) {p:Pattern} {c:AA} (g:EI c) (i:cnt c<=40) {h:AU} {m:AF} {inj:Bool} (j:FM t p c h=some true) {l:List AH} (o:l.length<=12000):GN t p c h m inj l=some (Y5 t p c h m inj l):=by
 unfold GN Y5;rw [Xu b p g i,bs];by_cases e:(LN t p c h m inj).2=0
 ·by_cases a:(LN t p c h m inj).1=true
  ·rw [d2 (by simp [a])]; simp [a]
  ·obtain ⟨hv,q,f,r,u,v,w,x⟩:=Vg b g i j e;rw [d1 (by simp [e,a]),show FT ⟨t,h,inj⟩ l c m [] false=some (IZ (DA t h inj (SizeOf.sizeOf c) c m [] false) l) from FJ (4*SizeOf.sizeOf c) fun n d=>YD (s:=⟨t,h,inj⟩) b hv q w x _ l c p m [] false o (d3 _) f r u (by simp; omega) n d,bs,ip,bs,bs];congr 1;rw [Bool.eq_iff_iff];simp only [e,a,decide_true,Bool.not_false,Bool.and_self,Bool.true_and,Bool.not_eq_true,@zzX _ (Classical.propDecidable _)];rw [cU,(E3 _ l).mem];constructor
   ·rintro ⟨_,k⟩; simpa using k
   ·intro k; exact ⟨⟨by omega,by omega⟩,by simpa using k⟩
 ·rw [d2 (by simp [e])]; simp [e]
end Go.Sf.Sc
namespace Go.Sf.Sc
open Go Go.Sf
noncomputable def GF (Q:List AH->Prop) (l:List AH) (A:Ne):Ne:=(BW (l.length+1)).filter fun x=>@decide (∃ a∈A,a<=x∧x<=l.length∧Q ((l.drop a.toNat).take (x - a).toNat)) (Classical.propDecidable _)
theorem Ht {l:List AH} {A:Ne} (d:K4 l A) (Q:List AH->Prop):IX l A Q (GF Q l A):=by
 refine ⟨List.Pairwise.filter _ (XW _),fun x=>?_⟩;unfold GF;rw [List.mem_filter,Hr,@zzX _ (Classical.propDecidable _)];constructor
 ·rintro ⟨_,b⟩; exact b
 ·rintro ⟨a,c,e,b,f⟩;have:=d.rng a c;exact ⟨by omega,a,c,e,b,f⟩
theorem IX.eq {l:List AH} {A E:Ne} {Q:List AH->Prop} (a:K4 l A) (h:IX l A Q E):E=GF Q l A:=
 Sb h.asc (Ht a Q).asc fun x=>(h.mem x).trans ((Ht a Q).mem x).symm
theorem EK {l:List AH} {A:Ne} (a:K4 l A) {Q R:List AH->Prop} (e:∀ y,Q y↔R y):GF Q l A=GF R l A:=((Ht a Q).congr e).eq a
theorem WQ {l:List AH} {A:Ne} (a:K4 l A) (Q:List AH->Prop):(GF Q l A).length<=l.length+1:=((Ht a Q).plc a).len
theorem aX (l:List AH) (A:Ne) (r:AH):(MI l A r).length<=A.length:=by
 unfold MI; rw [d7]; exact List.length_filter_le _ _
theorem ZJ {l:List AH} {A:Ne} {r:AH} {i:Int} (a:0<=i) (b:i<A.length):MI l (A.take (i+1).toNat) r=MI l (A.take i.toNat) r++if AB A i<l.length∧AB l (AB A i)=r then [AB A i+1] else []:=by
 unfold MI;rw [GJ a b,List.filter_append,List.map_append];congr 1;by_cases e:AB A i<l.length∧AB l (AB A i)=r
 ·rw [d1 e,List.filter_cons_of_pos (by simpa using e)]; rfl
 ·rw [d2 e,List.filter_cons_of_neg (by simpa using e)]; rfl
theorem UL {l:List AH} (n:l.length<=12000) {A:Ne} (h:K4 l A) (r:AH):JZ l A r=some (MI l A r):=by
 have j:=h.len;unfold JZ;rw [DO (a:=0) (b:=A.length) (s:=[]) (fun i=>MI l (A.take i.toNat) r) (by omega) rfl,bs,Int.toNat_natCast,List.take_length];intro i f g;have m:=h.rng _ (AQ f g);have c:=aX l (A.take i.toNat) r;rw [d5] at c;rw [AI f g,bs,ZJ f g];by_cases d:AB A i<l.length
 ·rw [d1 (by simpa using d),bs,AI m.1 d,bs,cv,bs,bs];by_cases e:AB l (AB A i)=r
  ·rw [d1 (by simpa using e),d1 ⟨d,e⟩,bs,BG (by omega) (by omega),CF (by simp only [d6,List.length_nil]; unfold BN; omega)]; rfl
  ·rw [d2 (by simpa using e),d2 (fun k=>e k.2),List.append_nil]
 ·rw [d2 (by simpa using d),bs,d2 (by decide),d2 (fun k=>d k.1),List.append_nil]
theorem Ri (a:Ne):F6 a []=a:=by cases a <;> rw [F6]
noncomputable def PY (s0:Ne × Ne × Ne):Option (CY (Ne × Ne × Ne) Ne):=
 if ((decide (0<(s0.1.length:Int)))||(decide (0<(s0.2.1.length:Int))))=true then
 (if (decide ((s0.2.1.length:Int)=0))=true then some true else ((if (decide (0<(s0.1.length:Int)))=true then ((AM s0.1 0).bind fun x23=>
 (AM s0.2.1 0).bind fun x26=>
 some (decide (x23<x26))) else some false).bind fun x29=>
 some (x29))).bind fun x30=>
 if x30=true then
 (AM s0.1 0).bind fun x33=>
 (BV s0.2.2 [x33]).bind fun x36=>
 (slc s0.1 1 s0.1.length).bind fun x38=>
 some (.next (x38,s0.2.1,x36))
 else
 (if (decide (0<(s0.1.length:Int)))=true then ((AM s0.1 0).bind fun x44=>
 (AM s0.2.1 0).bind fun x47=>
 some (decide (x44=x47))) else some false).bind fun x50=>
 if x50=true then
 (slc s0.1 1 s0.1.length).bind fun x52=>
 (AM s0.2.1 0).bind fun x55=>
 (BV s0.2.2 [x55]).bind fun x58=>
 (slc s0.2.1 1 s0.2.1.length).bind fun x60=>
 some (.next (x52,x60,x58))
 else
 (AM s0.2.1 0).bind fun x55=>
 (BV s0.2.2 [x55]).bind fun x58=>
 (slc s0.2.1 1 s0.2.1.length).bind fun x60=>
 some (.next (s0.1,x60,x58))
 else
 some (.brk (s0.1,s0.2.1,s0.2.2))
theorem KI {x:Int} {l:Ne}:AM (x::l) 0=some x:=AI (by omega) (by simp)
theorem Mh {x:Int} {l:Ne}:slc (x::l) 1 ((x::l).length:Int)=some l:=O9 (a:=1) (by omega) (by simp only [d6]; omega)
theorem Of:∀ (k:Nat) (a b out:Ne),a.length+b.length<=k->out.length+a.length+b.length<=BN->Mp PY (a,b,out) (.inl ([],[],out++F6 a b))
 | k,[],[],out,_,_=>by
  refine .brk ?_;unfold PY;rw [d2 (by simp),Ri,List.append_nil]
 | 0,x::a,b,out,h,_=>by simp at h
 | 0,[],y::b,out,h,_=>by simp at h
 | k+1,[],y::b,out,h,e=>by
  simp only [d6,List.length_nil] at h e;refine .next (s':=([],b,out++[y])) ?_ ?_
  ·unfold PY;rw [d1 (by simp),d2 (by simp; omega),d2 (by simp),bs,bs,d2 (by decide),d2 (by simp),bs,d2 (by decide),KI,bs,CF (by simp only [d6,List.length_nil]; omega),bs,Mh]; rfl
  ·have:=Of k [] b (out++[y]) (by simp; omega) (by simp; omega);rw [F6,ea] at this;rw [F6];exact this
 | k+1,x::a,[],out,h,e=>by
  simp only [d6,List.length_nil] at h e;refine .next (s':=(a,[],out++[x])) ?_ ?_
  ·unfold PY;rw [d1 (by simp),d1 (by simp),bs,d1 rfl,KI,bs,CF (by simp only [d6,List.length_nil]; omega),bs,Mh]; rfl
  ·have:=Of k a [] (out++[x]) (by simp; omega) (by simp; omega);rw [Ri,ea] at this;rw [Ri];exact this
 | k+1,x::a,y::b,out,h,e=>by
  simp only [d6] at h e;have g:(decide (0<(((x::a).length:Nat):Int))||decide (0<(((y::b).length:Nat):Int)))=true:=by simp
  have i:¬ decide ((((y::b).length:Nat):Int)=0)=true:=by simp; omega
  have d:decide (0<(((x::a).length:Nat):Int))=true:=by simp
  by_cases c:x<y
  ·refine .next (s':=(a,y::b,out++[x])) ?_ ?_
   ·unfold PY;rw [d1 g,d2 i,d1 d,KI,bs,KI,bs,bs,bs,d1 (by simpa using c),bs,CF (by simp only [d6,List.length_nil]; omega),bs,Mh]; rfl
   ·have:=Of k a (y::b) (out++[x]) (by simp only [d6]; omega) (by simp only [d4,d6,List.length_nil]; omega);rw [ea] at this;rw [F6,d1 c];exact this
  ·by_cases f:x=y
   ·refine .next (s':=(a,b,out++[y])) ?_ ?_
    ·unfold PY;rw [d1 g,d2 i,d1 d,KI,bs,KI,bs,bs,bs,d2 (by simpa using c),d1 d,bs,bs,bs,d1 (by simpa using f),Mh,bs,bs,CF (by simp only [d6,List.length_nil]; omega),bs,Mh]; rfl
    ·have:=Of k a b (out++[y]) (by omega) (by simp only [d4,d6,List.length_nil]; omega);rw [ea] at this;rw [F6,d2 c,d1 f];exact this
   ·refine .next (s':=(x::a,b,out++[y])) ?_ ?_
    ·unfold PY;rw [d1 g,d2 i,d1 d,KI,bs,KI,bs,bs,bs,d2 (by simpa using c),d1 d,bs,bs,bs,d2 (by simpa using f),bs,CF (by simp only [d6,List.length_nil]; omega),bs,Mh]; rfl
    ·have:=Of k (x::a) b (out++[y]) (by simp only [d6]; omega) (by simp only [d4,d6,List.length_nil]; omega);rw [ea] at this;rw [F6,d2 c,d2 f];exact this
theorem cy {a b:Ne} (h:a.length+b.length<=100000):IJ a b=some (F6 a b):=by
 unfold IJ;show thenR (It PY (a,b,[])) _ _=_;rw [(Of _ a b [] (d3 _) (by simp only [List.length_nil]; unfold BN; omega)).eq,DT]; rfl
theorem Pv {l:List AH} (b:l.length<=12000) {A:Ne} (a:K4 l A) (Q R:List AH->Prop):IJ (GF Q l A) (GF R l A)=some (GF (fun y=>Q y∨R y) l A):=by
 have c:=WQ a Q;have d:=WQ a R;rw [cy (by omega),((Ht a Q).join (Ht a R)).eq a]
theorem TQ {l:List AH} {A:Ne} (a:K4 l A) (Q R:List AH->Prop):GF R l (GF Q l A)=GF (fun y=>∃ u v,y=u++v∧Q u∧R v) l A:=
 (IX.seq a (Ht a Q) (Ht ((Ht a Q).plc a) R)).eq a
theorem Pd {l:List AH} {A:Ne} (a:K4 l A) (r:AH):MI l A r=GF (fun y=>y=[r]) l A:=(RS a r).eq a
theorem U2 {l:List AH} {A:Ne} (a:K4 l A) (r:AH) (R:List AH->Prop):GF R l (MI l A r)=GF (fun y=>∃ v,y=r::v∧R v) l A:=by
 rw [Pd a,TQ a];refine EK a fun y=>?_;constructor
 ·rintro ⟨u,v,e,rfl,k⟩; exact ⟨v,e,k⟩
 ·rintro ⟨v,e,k⟩; exact ⟨_,v,e,rfl,k⟩
theorem VS {l:List AH} {A:Ne} (a:K4 l A) {Q:List AH->Prop} (h:∀ y,¬ Q y):[]=GF Q l A:=(aL h).eq a
theorem Uz {l:List AH} {A:Ne} (a:K4 l A) (P:Int->List AH->Prop):GF (Li P 0) l A=A:=((cL a).eq a).symm
theorem Uv {l:List AH} {A:Ne} (c:K4 l A) (R:Int->List AH->Prop):GF (NX R 0) l A=[]:=(VS c fun y ⟨j,⟨a,b⟩,_⟩=>by omega).symm
end Go.Sf.Sc
namespace Go.Sf.Sc
open Go Go.Sf
def Mm (t:AC) (h:AU) (inj:Bool) (N:Nat) (c:AA) (m:AF) (path:Ne) (good:Bool) (y:List AH):Prop:=HE t h inj c m=good∧DA t h inj N c m path good y
theorem fI {t:AC} {h:AU} {inj:Bool} {c:AA} {m:AF} {a:Bool} (i:c.Kind=3∨c.Kind=4) (f:decide (c.Kind=3)=a) (d:HE t h inj c m=a):∀ k∈c.Kids,HE t h inj k m=a:=fun k g=>by
 rw [RP] at d;rw [d2 (by omega)] at d;by_cases e:c.Kind=3
 ·have b:a=true:=by rw [←f]; simp [e]
  rw [d1 e,b,List.all_eq_true] at d;rw [b]; exact d _ g
 ·have b:a=false:=by rw [←f]; simp [e]
  rw [d2 e,d1 (by omega),b,List.any_eq_false] at d;rw [b]; simpa using d _ g
theorem Yc {t:AC} {h:AU} {inj:Bool} (hf:BX t) (hv:(BF t).2=0) (T:GY t h) (n1:h.Graph.Nodes.length<=14) (n2:h.Graph.Edges.length<=18):∀ (N:Nat) (l:List AH) (A:Ne) (c:AA) (p:Pattern) (m:AF) (d:Ne) (f:Bool),l.length<=12000->K4 l A->SizeOf.sizeOf c<=N->CV t p c->CG t p c->NP t p h m->d.length+cnt c<=1000->∀ n,2*N<=n->ED n ⟨t,h,m,inj⟩ c d f l A=some (GF (Mm t h inj N c m d (!f)) l A)
 | 0,_,_,c,_,_,_,_,_,_,h,_,_,_,_,_,_=>by have:=D5 c; omega
 | N+1,l,A,c,p,m,d,f,L,j,hs,M,X,I,hp,n,hn=>by
  obtain ⟨n,rfl⟩:∃ k,n=k+2:=⟨n - 2,by omega⟩;have he:=Mw c;have hrng:=M.rng;have kid:∀ k∈c.Kids,SizeOf.sizeOf k<=N∧cnt k<=cnt c - 1:=fun k x=>by have:=EP x; have:=Oy x; omega
  have ih:=Yc (inj:=inj) hf hv T n1 n2 N;have mn:=I.m.nlen;have qn:=I.q.g.nodes;rw [ED,VX (s:=⟨t,h,m,inj⟩) hf hv T n1 n2 M X I,bs];dsimp only;by_cases V:HE t h inj c m=(!f)
  case neg=>
   have hd':HE t h inj c m=f:=by cases f <;> cases hx:HE t h inj c m <;> simp_all
   rw [d1 (by simp [hd'])];exact congrArg some (VS j fun y k=>V k.1)
  by_cases Y:A.length=0
  ·rw [d1 (by simp [Y]),List.length_eq_zero_iff.1 Y];exact congrArg some (Y9.eq ⟨List.Pairwise.nil,fun a I=>by simp at I⟩)
  have hno:¬ (((!decide ((0:Int)=0))||(HE t h inj c m==f))||(decide ((A.length:Int)=0)))=true:=by
   rw [V];intro k;simp only [decide_true,Bool.not_true,Bool.false_or,Bool.or_eq_true,zzX] at k;rcases k with k | k
   ·cases f <;> simp at k
   ·omega
  rw [d2 hno];have hD:GF (Mm t h inj (N+1) c m d (!f)) l A=GF (DA t h inj (N+1) c m d (!f)) l A:=EK j fun y=>⟨fun k=>k.2,fun k=>⟨V,k⟩⟩;rw [hD];by_cases h1:c.Kind=1
  ·have K:∀ y,DA t h inj (N+1) c m d (!f) y↔y=[⟨d,1,[]⟩]:=fun y=>by
    rw [DA,d2 (by omega),d2 (by omega),d2 (by omega)]
   rw [d1 (by simpa using h1),Pw (by omega) (by simp),bs,UL L j,bs,EK j K,Pd j]
  rw [d2 (by simpa using h1)];by_cases O:c.Kind=2
  ·have h1:=M.one (.inl O);have x:=AQ (l:=c.Kids) (i:=0) (by omega) (by omega);have G:=kid _ x;rw [d1 (by simpa using O),AI (by omega) (by omega),bs,PO (by omega),bs,
    ih l A _ p m _ _ L j G.1 (M.kid (by omega) _ x) (X.kid (by omega) _ x) I (by simp; omega) (n+1) (by omega),bs]
   refine congrArg some (EK j fun y=>?_);have z:=V;rw [RP,d1 O,Nb h1] at z;rw [DA,d1 O];exact ⟨fun k=>k.2,fun k=>⟨by rw [←z,Bool.not_not],k⟩⟩
  rw [d2 (by simpa using O)];by_cases C:c.Kind=5
  ·have hi:=M.ins C;have Z:=M.one (.inr C);have e0:=PS (inj:=inj) hv T I hi (X.ex C).2 n1 n2;obtain ⟨e1,e2⟩:=Od hv T I hi e0;have x:=AQ (l:=c.Kids) (i:=0) (by omega) (by omega);have G:=kid _ x;have J:AM c.Kids 0=some (AB c.Kids 0):=AI (by omega) (by omega);rw [d1 (by simpa using C),Hx,av hf hv T I hi,bs,d2 (by simp [e0]),PO (by omega),bs];have K:∀ y,DA t h inj (N+1) c m d (!f) y↔(if (!f)=false then
    if (B5 t c h m inj).1.length=0 then y=[⟨d,3,m.Morphism.Nodes⟩] else
    Li (fun i l=>∃ o,l=⟨d,4,(AB (B5 t c h m inj).1 i).Morphism.Nodes⟩::o∧DA t h inj N (AB c.Kids 0) (AB (B5 t c h m inj).1 i) (d++[0]) false o) (min (B5 t c h m inj).1.length 5) y
   else NX (fun i y=>HE t h inj (AB c.Kids 0) (AB (B5 t c h m inj).1 i)=true ∧
    ∃ o,y=⟨d,2,(AB (B5 t c h m inj).1 i).Morphism.Nodes⟩::o∧if (AB c.Kids 0).Kind=1 then o=[] else DA t h inj N (AB c.Kids 0) (AB (B5 t c h m inj).1 i) (d++[0]) true o) ((B5 t c h m inj).1.length:Int) y):=fun y=>by
    rw [DA,d2 O,d2 (by omega),d1 C]; rfl
   have z:=V;rw [RP,d2 (by omega),d2 (by omega),d2 (by omega),d1 C,Nb Z] at z;generalize (B5 t c h m inj).1=E at e1 e2 K z ⊢;have H:∀ (B:Ne) (i:Int) (g:Bool),K4 l B->0<=i->i<E.length->ED n ⟨t,h,AB E i,inj⟩ (AB c.Kids 0) (d++[0]) g l B=some (GF (Mm t h inj N (AB c.Kids 0) (AB E i) (d++[0]) (!g)) l B):=fun B i g hB J Q=>
    ih l B _ c.Pattern _ _ _ L hB G.1 (M.kid5 C _ x) (X.kid5 C _ x) (e2 _ (AQ J Q)) (by simp; omega) n (by omega)
   have rs:∀ (i:Int) (k:Int),0<=i->i<E.length->HT d k (AB E i).Morphism.Nodes=some ⟨d,k,(AB E i).Morphism.Nodes⟩:=fun i k J Q=>by
    have:=e2 _ (AQ J Q);have a1:=this.m.nlen;have a2:=this.q.g.nodes;exact Pw (by omega) (by omega) k
   cases f
   ·have hY:=fun y=>(K y).trans (by rw [d2 (by simp)]);rw [EK j hY,d1 (show (!false)=true from rfl)];rw [DO (a:=0) (b:=(E.length:Int)) (s:=[]) (fun i=>GF (NX (fun i y=>HE t h inj (AB c.Kids 0) (AB E i)=true ∧
     ∃ o,y=(⟨d,2,(AB E i).Morphism.Nodes⟩:AH)::o∧if (AB c.Kids 0).Kind=1 then o=[] else DA t h inj N (AB c.Kids 0) (AB E i) (d++[0]) true o) i) l A) (by omega) (Uv j _),bs,bs]
    intro i r F;rw [AI r F,bs];show ((some (⟨t,h,AB E i,inj⟩:CL)).bind fun x68=>_)=_;rw [bs,J,bs,VX (s:=⟨t,h,AB E i,inj⟩) hf hv T n1 n2 (M.kid5 C _ x) (X.kid5 C _ x) (e2 _ (AQ r F)),bs,←EK j (PJ r)];dsimp only;by_cases w:HE t h inj (AB c.Kids 0) (AB E i)=true
    ·rw [d2 (by simp [w]),bs,rs i 2 r F,bs,UL L j,bs,bs];by_cases D:(AB c.Kids 0).Kind=1
     ·rw [d2 (by simpa using D),Pd j,Pv L j,bs];refine congrArg some (EK j fun y=>or_congr Iff.rfl ?_);constructor
      ·intro e; exact ⟨w,[],e,by rw [d1 D]⟩
      ·rintro ⟨_,v,e,k⟩;rw [d1 D] at k;rw [e,k]
     ·rw [d1 (by simpa using D),bs,H _ i false ((RS j _).plc j) r F,bs,U2 j,Pv L j,bs];refine congrArg some (EK j fun y=>or_congr Iff.rfl ?_);constructor
      ·rintro ⟨v,e,k⟩; exact ⟨w,v,e,by rw [d2 D]; exact k.2⟩
      ·rintro ⟨_,v,e,k⟩;rw [d2 D] at k;exact ⟨v,e,w,k⟩
    ·rw [d1 (by simpa using w)];refine congrArg some (EK j fun y=>⟨fun k=>.inl k,fun k=>k.elim (fun k=>k) fun k=>absurd k.1 w⟩)
   ·rw [d2 (by simp)];by_cases hz:E.length=0
    ·have hY:=fun y=>(K y).trans (by rw [d1 (by rfl),d1 hz]);rw [EK j hY,d1 (by simp [hz]),Pw (by omega) (by show m.Morphism.Nodes.length<=1000; omega),bs,UL L j,bs,Pd j]; rfl
    ·have hY:=fun y=>(K y).trans (by rw [d1 (by rfl),d2 hz]);rw [EK j hY,d2 (by simpa using hz)];have hde:∀ i:Int,0<=i->i<E.length->HE t h inj (AB c.Kids 0) (AB E i)=false:=fun i J Q=>by
      have P:(E.any (HE t h inj (AB c.Kids 0)))=false:=z;rw [List.any_eq_false] at P;simpa using P _ (AQ J Q)
     rw [UX (fun i=>GF (Li (fun i l=>∃ o,l=(⟨d,4,(AB E i).Morphism.Nodes⟩:AH)::o∧DA t h inj N (AB c.Kids 0) (AB E i) (d++[0]) false o) i.toNat) l A) (a:=0) (b:=((min E.length 5:Nat):Int)) (s:=A) (by omega) (Uz j _).symm,DT,Int.toNat_natCast,bs]
     ·intro i r F;have j2:i<E.length:=by omega
      have W:=(Ht j (Li (fun i l=>∃ o,l=(⟨d,4,(AB E i).Morphism.Nodes⟩:AH)::o∧DA t h inj N (AB c.Kids 0) (AB E i) (d++[0]) false o) i.toNat)).plc j;dsimp only;rw [d1 (by simp; omega),AI r j2,bs,rs i 4 r j2,bs,UL L W,bs,bs];show ((some (⟨t,h,AB E i,inj⟩:CL)).bind fun x68=>_)=_;rw [bs,J,bs,H _ i true ((RS W _).plc W) r j2,bs,U2 W,TQ j,BG (n:=i+1) (by omega) (by omega),Pc r];have hE:GF (fun y=>∃ u v,y=u++v∧Li (fun i l=>∃ o,l=(⟨d,4,(AB E i).Morphism.Nodes⟩:AH)::o∧DA t h inj N (AB c.Kids 0) (AB E i) (d++[0]) false o) i.toNat u∧∃ U,v=(⟨d,4,(AB E i).Morphism.Nodes⟩:AH)::U∧Mm t h inj N (AB c.Kids 0) (AB E i) (d++[0]) (!true) U) l A=GF (Li (fun i l=>∃ o,l=(⟨d,4,(AB E i).Morphism.Nodes⟩:AH)::o∧DA t h inj N (AB c.Kids 0) (AB E i) (d++[0]) false o) (i.toNat+1)) l A:=EK j fun y=>by
       rw [Li,show ((i.toNat:Nat):Int)=i by omega];constructor
       ·rintro ⟨u,v,e,k,U,e',S⟩; exact ⟨u,v,e,k,U,e',S.2⟩
       ·rintro ⟨u,v,e,k,U,e',S⟩; exact ⟨u,v,e,k,U,e',hde i r j2,S⟩
      rw [hE]
     ·dsimp only;rw [d2 (by simp; omega)]
  have R:c.Kind=3∨c.Kind=4:=by omega
  rw [d2 (by simpa using C)];have H:∀ (B:Ne) (i:Int),K4 l B->0<=i->i<c.Kids.length->ED (n+1) ⟨t,h,m,inj⟩ (AB c.Kids i) (d++[i]) f l B=some (GF (Mm t h inj N (AB c.Kids i) m (d++[i]) (!f)) l B):=fun B i hB J Q=>by
   have x:=AQ (l:=c.Kids) J Q;have G:=kid _ x;exact ih l B _ p m _ _ L hB G.1 (M.kid C _ x) (X.kid C _ x) I (by simp; omega) (n+1) (by omega)
  by_cases hb:decide (c.Kind=3)=f
  ·have K:∀ y,DA t h inj (N+1) c m d (!f) y↔NX (fun i y=>Mm t h inj N (AB c.Kids i) m (d++[i]) (!f) y) (c.Kids.length:Int) y:=fun y=>by
    rw [DA,d2 O,d1 R,d2 (by rw [hb]; cases f <;> decide)]; rfl
   rw [d1 (by simp [hb]),EK j K];rw [DO (a:=0) (b:=(c.Kids.length:Int)) (s:=[]) (fun i=>GF (NX (fun i y=>Mm t h inj N (AB c.Kids i) m (d++[i]) (!f) y) i) l A) (by omega) (Uv j _),bs];intro i r F;rw [AI r F,bs,PO (by omega),bs,H A i j r F,bs,Pv L j,bs,EK j (PJ r)]
  ·have hb':decide (c.Kind=3)=(!f):=by cases f <;> cases hx:decide (c.Kind=3) <;> simp_all
   have K:∀ y,DA t h inj (N+1) c m d (!f) y↔Li (fun i l=>DA t h inj N (AB c.Kids i) m (d++[i]) (!f) l) c.Kids.length y:=fun y=>by
    rw [DA,d2 O,d1 R,d1 hb']
   rw [d2 (by simp [hb]),EK j K];rw [DO (a:=0) (b:=(c.Kids.length:Int)) (s:=A) (fun i=>GF (Li (fun i l=>DA t h inj N (AB c.Kids i) m (d++[i]) (!f) l) i.toNat) l A) (by omega) (Uz j _),bs,Int.toNat_natCast];intro i r F;have W:=(Ht j (Li (fun i l=>DA t h inj N (AB c.Kids i) m (d++[i]) (!f) l) i.toNat)).plc j;have w:=fI R hb' V _ (AQ (l:=c.Kids) r F);rw [AI r F,bs,PO (by omega),bs,H _ i W r F,bs,TQ j,Pc r];refine congrArg some (EK j fun y=>?_);rw [Li,show ((i.toNat:Nat):Int)=i by omega];constructor
   ·rintro ⟨u,v,e,k,S⟩; exact ⟨u,v,e,k,S.2⟩
   ·rintro ⟨u,v,e,k,S⟩; exact ⟨u,v,e,k,w,S⟩
theorem cE {l:Ne} {n:Int} (h:N1 l) (a:∀ x∈l,x<=n) (d:0<l.length):AB l ((l.length:Int) - 1)=n↔n∈l:=by
 constructor
 ·intro e; rw [←e]; exact AQ (by omega) (by omega)
 ·intro b;obtain ⟨i,c,j,rfl⟩:=EH b;by_cases e:i=(l.length:Int) - 1
  ·rw [e]
  ·have f:=ST h c (show i<(l.length:Int) - 1 by omega) (by omega);have g:=a _ (AQ (l:=l) (i:=(l.length:Int) - 1) (by omega) (by omega));omega
theorem kK {t:AC} {p:Pattern} {c:AA} {h:AU} {m:AF} {inj:Bool} (a:NQ t p c h m inj=0) (b:CV t p c) (d:CG t p c) (e:NP t p h m) (hv:(BF t).2=0) (f:GY t h) (g:h.Graph.Nodes.length<=14) (i:h.Graph.Edges.length<=18):LN t p c h m inj=(HE t h inj c m,0):=by
 have j:=Up (inj:=inj) hv f g i _ c p m (d3 _) b d e;unfold LN wS;simp only [a,ne_eq,not_true_eq_false,if_false,j];cases HE t h inj c m <;> rfl
theorem ar {t:AC} (j:BX t) {p:Pattern} {c:AA} (u:EI c) (v:cnt c<=40) {h:AU} {m:AF} {inj:Bool} (B:FM t p c h=some true) {l:List AH} (C:l.length<=12000):MC t p c h m inj l=some (Y5 t p c h m inj l):=by
 unfold MC Y5;rw [Xw j p u v,bs];by_cases e:(LN t p c h m inj).2=0
 ·by_cases d:(LN t p c h m inj).1=true
  ·rw [d1 (by simp [d])]; simp [d]
  ·obtain ⟨hv,w,f,y,b,I,z,A⟩:=Vg j u v B e;have q:K4 l [0]:=⟨List.pairwise_singleton _ _,fun a b=>by rw [List.mem_singleton] at b; omega⟩;rw [d2 (by simp [e,d]),show Qu ⟨t,h,m,inj⟩ c [] true l [0]=some (GF (Mm t h inj (SizeOf.sizeOf c) c m [] false) l [0]) from FJ (2*SizeOf.sizeOf c) fun n o=>Yc j hv w z A _ l [0] c p m [] true C q (d3 _) f y b (by simp; omega) n o,bs];have F:HE t h inj c m=false:=by
    rw [kK (Ye e) f y b hv w z A] at d;simpa using d
   have r:=Ht q (Mm t h inj (SizeOf.sizeOf c) c m [] false);have g:=r.plc q;have G:=g.len;have i:(l.length:Int)∈GF (Mm t h inj (SizeOf.sizeOf c) c m [] false) l [0]↔DA t h inj (SizeOf.sizeOf c) c m [] false l:=by
    rw [r.mem];constructor
    ·rintro ⟨a,b,_,_,k⟩;rw [List.mem_singleton] at b;subst b;have:=k.2;simpa using this
    ·intro k; exact ⟨0,by simp,by omega,by omega,F,by simpa using k⟩
   have H:((decide ((LN t p c h m inj).2=0)&&!(LN t p c h m inj).1)=true):=by simp [e,d]
   rw [H,Bool.true_and];generalize GF (Mm t h inj (SizeOf.sizeOf c) c m [] false) l [0]=E at r g G i ⊢;by_cases s:0<E.length
   ·rw [d1 (by simpa using s),BG (by omega) (by omega),AI (by omega) (by omega),bs,bs];congr 1;rw [Bool.eq_iff_iff,zzX,@zzX _ (Classical.propDecidable _),←i];exact cE g.asc (fun x D=>(g.rng x D).2) s
   ·rw [d2 (by simpa using s),bs];have:E=[]:=List.length_eq_zero_iff.1 (by omega);rw [this] at i;congr 1;symm;rw [←Bool.not_eq_true,@zzX _ (Classical.propDecidable _),←i];simp
 ·rw [d1 (by simp [e])]; simp [e]
end Go.Sf.Sc
namespace Go.Sf.Sc
open Go Go.Sf
theorem gK (l:List AH) (n:Nat):∃ b,Mg l (n:Int)=some b∧(b=true->l.length<=n):=by
 unfold Mg;by_cases h:(n:Int)<l.length
 ·exact ⟨false,by rw [d1 (by simpa using h)],fun k=>by cases k⟩
 ·rw [d2 (by simpa using h),CR (fun i=>decide (20<((AB l i).Path.length:Int))||decide (60<((AB l i).Nodes.length:Int))) false]
  ·refine ⟨!anyR (fun i=>decide (20<((AB l i).Path.length:Int))||decide (60<((AB l i).Nodes.length:Int))) 0 l.length,?_,fun _=>by omega⟩
   ·cases anyR (fun i=>decide (20<((AB l i).Path.length:Int))||decide (60<((AB l i).Nodes.length:Int))) 0 l.length <;> rfl
  ·intro i d e _;rw [AI d e,bs,bs];by_cases a:20<((AB l i).Path.length:Int)
   ·rw [d1 (by simpa using a),bs,d1 rfl,d1 (by simp; omega)]
   ·rw [d2 (by simpa using a),bs];by_cases c:60<((AB l i).Nodes.length:Int)
    ·rw [d1 (by simpa using c),d1 (by simp; omega)]
    ·rw [d2 (by simpa using c),d2 (by simp; omega)]
theorem SM (t:AC) (x:H6) (y:Nq) (st:(AV t).Sm) (j:(H3 x).Sm) (_:(K9 y).Sm):JT t x y=some true:=by
 obtain ⟨b,e,f⟩:=bC y.At st j;obtain ⟨c,a,k⟩:=gK y.Reasons 60;have a:Mg y.Reasons 60=some c:=a;unfold JT;rw [cF,bs,d2 (by decide),e];cases b
 ·rfl
 rw [bs,bs,d2 (by decide),a];cases c
 ·rfl
 obtain ⟨d,g,h,i⟩:=f rfl;have l:=k rfl;simp only [bs,Bool.not_true,Bool.false_eq_true,if_false];unfold JF;rw [FE (by unfold BN; omega),bs,af d g h i (by omega),bs,ar d g h i (by omega),bs];simp
end Go.Sf.Sc
