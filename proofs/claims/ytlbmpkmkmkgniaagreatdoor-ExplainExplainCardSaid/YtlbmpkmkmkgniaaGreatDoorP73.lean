/- Plain lemmas: what the functions of the program and of the reference compute. -/
import Derived.Test.YtlbmpkmkmkgniaaGreatDoorEval
import Derived.Test.YtlbmpkmkmkgniaaGreatDoorP52
set_option linter.all false
set_option maxRecDepth 100000
namespace Go.Sf.Sc
open Go Go.Sf
def C8 (t:AC) (h:AT) (inj:Bool):Nat->AA->AF->Ne->Bool->List AH
 | 0,_,_,_,_=>[]
 | N+1,c,m,path,good=>
  if c.Kind=2 then C8 t h inj N (AB c.Kids 0) m (path++[0]) (!good) else
  if c.Kind=3∨c.Kind=4 then
   if decide (c.Kind=3)=good then (BJ c.Kids.length).flatMap fun i=>C8 t h inj N (AB c.Kids i) m (path++[i]) good
   else (fst (fun i=>if EY t h inj (AB c.Kids i) m=good then some (C8 t h inj N (AB c.Kids i) m (path++[i]) good) else none) 0 c.Kids.length).getD []
  else if c.Kind=5 then
   if good=false then
    if (BV t c h m inj).1.length=0 then [⟨path,3,m.Morphism.Nodes⟩] else
    (BJ (min (BV t c h m inj).1.length 5)).flatMap fun i=>⟨path,4,(AB (BV t c h m inj).1 i).Morphism.Nodes⟩::C8 t h inj N (AB c.Kids 0) (AB (BV t c h m inj).1 i) (path++[0]) false
   else (fst (fun i=>if EY t h inj (AB c.Kids 0) (AB (BV t c h m inj).1 i)=true then
     some (⟨path,2,(AB (BV t c h m inj).1 i).Morphism.Nodes⟩::if (AB c.Kids 0).Kind=1 then [] else C8 t h inj N (AB c.Kids 0) (AB (BV t c h m inj).1 i) (path++[0]) true) else none) 0 (BV t c h m inj).1.length).getD []
  else [⟨path,1,[]⟩]
theorem Ps (c:AA):1<=cnt c:=by rw [Jy]; omega
variable {F:Int->List AH}
theorem WK:∀ (l:List AA) (k:Nat),(∀ i:Int,k<=i->i<k+l.length->(F i).length<=6 ^ cnt (AB l (i - k)))->((List.range' k l.length).flatMap fun i=>F (i:Nat)).length<=6 ^ HF l
 | [],k,_=>by simp [HF]
 | c::l,k,h=>by
  have e:=h k (by omega) (by simp; omega);have g:=WK l (k+1) (fun i s u=>by
   have:=h i (by omega) (by simp; omega);rw [show (i - (k:Int))=(i - ((k+1:Nat):Int))+1 by omega] at this
   rwa [show AB (c::l) (i - ((k+1:Nat):Int)+1)=AB l (i - ((k+1:Nat):Int)) by
    unfold AB;rw [show (i - ((k+1:Nat):Int)+1).toNat=(i - ((k+1:Nat):Int)).toNat+1 by omega]; rfl] at this)
  rw [Int.sub_self] at e;rw [d6,List.range'_succ,List.flatMap_cons,d4,HF,Nat.pow_add];have j:(F k).length<=6 ^ cnt c:=e;cases l with
  | nil=>simp [HF] at g ⊢; exact j
  | cons d l=>
   have o:6<=6 ^ cnt c:=by have:=Nat.pow_le_pow_right (n:=6) (by omega) (Ps c); simpa using this
   have q:6<=6 ^ HF (d::l):=by
    have v:=Ps d;have:=Nat.pow_le_pow_right (n:=6) (by omega) (show 1<=HF (d::l) by rw [HF]; omega); simpa using this
   have:=Nat.mul_le_mul_left (6 ^ cnt c) q;have:=Nat.mul_le_mul_right (6 ^ HF (d::l)) o;omega
variable {a b:Nat}
theorem SE (h:a<=b):6 ^ a<=6 ^ b:=Nat.pow_le_pow_right (by omega) h
theorem P8 {t:AC} {h:AT} {inj:Bool}:∀ (N:Nat) (c:AA) (p:Pattern) (m:AF) (path:Ne) (d:Bool),CV t p c->(C8 t h inj N c m path d).length<=6 ^ cnt c
 | 0,_,_,_,_,_,_=>by simp [C8]
 | N+1,c,p,m,path,d,j=>by
  have I:=Jy c;have e:∀ k∈c.Kids,cnt k<=cnt c - 1:=fun k g=>by have:=K9 g; omega
  have n:=P8 (t:=t) (h:=h) (inj:=inj) N;have one:1<=6 ^ cnt c:=Nat.pow_pos (by omega);rw [C8];by_cases w:c.Kind=2
  ·have z:=j.one (.inl w);have g:=AP (l:=c.Kids) (i:=0) (by omega) (by omega);rw [d1 w];exact Nat.le_trans (n _ p m _ _ (j.kid (by omega) _ g)) (SE (by have:=e _ g; omega))
  rw [d2 w];by_cases o:c.Kind=3∨c.Kind=4
  ·rw [d1 o];split
   ·have:=WK (F:=fun i=>C8 t h inj N (AB c.Kids i) m (path++[i]) d) c.Kids 0 (fun i u v=>by
     rw [show i - ((0:Nat):Int)=i by omega];exact n _ p m _ _ (j.kid (by omega) _ (AP (by omega) (by omega))))
    unfold BJ;rw [List.flatMap_map,List.range_eq_range'];exact Nat.le_trans this (SE (by omega))
   ·cases y:fst (fun i=>if EY t h inj (AB c.Kids i) m=d then some (C8 t h inj N (AB c.Kids i) m (path++[i]) d) else none) 0 c.Kids.length with
    | none=>simp
    | some r=>
     obtain ⟨i,u,v,k,_⟩:=C1 y;split at k
     ·cases k;have g:=AP (l:=c.Kids) u v;exact Nat.le_trans (n _ p m _ _ (j.kid (by omega) _ g)) (SE (by have:=e _ g; omega))
     ·cases k
  rw [d2 o];by_cases s:c.Kind=5
  ·have z:=j.one (.inr s);have g:=AP (l:=c.Kids) (i:=0) (by omega) (by omega);have C:=e _ g;have G:=Ps (AB c.Kids 0);have q:=j.kid5 s _ g;have J:6*6 ^ cnt (AB c.Kids 0)<=6 ^ cnt c:=by
    have:=SE (show cnt (AB c.Kids 0)+1<=cnt c by omega);rw [Nat.pow_succ] at this; omega
   have K:6<=6 ^ cnt (AB c.Kids 0):=by have:=SE G; simpa using this
   rw [d1 s];split
   ·split
    ·simpa using one
    ·refine Nat.le_trans (NX (B:=1+6 ^ cnt (AB c.Kids 0)) (fun i _=>?_)) ?_
     ·rw [d6];have:=n (AB c.Kids 0) c.Pattern (AB (BV t c h m inj).1 i) (path++[0]) false q;omega
     ·rw [DN];have:min (BV t c h m inj).1.length 5*(1+6 ^ cnt (AB c.Kids 0))<=5*(1+6 ^ cnt (AB c.Kids 0)):=Nat.mul_le_mul_right _ (by omega);omega
   ·generalize H:(BV t c h m inj).1=l;cases y:fst (fun i=>if EY t h inj (AB c.Kids 0) (AB l i)=true then
     some ((⟨path,2,(AB l i).Morphism.Nodes⟩:AH)::if (AB c.Kids 0).Kind=1 then [] else C8 t h inj N (AB c.Kids 0) (AB l i) (path++[0]) true) else none) 0 l.length with
    | none=>simp
    | some r=>
     obtain ⟨i,u,v,k,_⟩:=C1 y;split at k
     ·cases k;have:=n (AB c.Kids 0) c.Pattern (AB l i) (path++[0]) true q;simp only [Option.getD_some,d6];split
      ·simp; omega
      ·omega
     ·cases k
  rw [d2 s];simpa using one
end Go.Sf.Sc
namespace Go.Sf.Sc
open Go Go.Sf
variable {path:Ne}
theorem Jf (h:path.length<=1000) (i:Int):D1 path i=some (path++[i]):=by
 unfold D1 slices_Clone_int;rw [E5 (by unfold BM; omega),bs,B7 (by simp; unfold BM; omega)]; rfl
variable {nodes:Ne}
theorem SG (h:path.length<=1000) (d:nodes.length<=1000) (k:Int):FQ path k nodes=some ⟨path,k,nodes⟩:=by
 unfold FQ slices_Clone_int;rw [E5 (by unfold BM; omega),bs,E5 (by unfold BM; omega)]; rfl
variable {α:Type} {i:Int}
theorem JN (F:Int->List α) (h:0<=i):(BJ (i+1).toNat).flatMap F=(BJ i.toNat).flatMap F++F i:=by
 rw [show (i+1).toNat=i.toNat+1 by omega,LS,List.flatMap_append,List.flatMap_cons,List.flatMap_nil,List.append_nil,show ((i.toNat:Nat):Int)=i by omega]
theorem N1 (F:Int->List α) {k:Nat}:∀ {n:Nat},k<=n->((BJ k).flatMap F).length<=((BJ n).flatMap F).length
 | 0,h=>by rw [show k=0 by omega]; omega
 | n+1,h=>by
  by_cases e:k=n+1
  ·rw [e]; omega
  ·have:=N1 F (k:=k) (n:=n) (by omega);rw [LS,List.flatMap_append,d4]; omega
variable {k:Nat}
theorem ec (h:k<=12):6 ^ k<=BM:=by
 refine Nat.le_trans (SE h) ?_;unfold BM; decide
theorem Te {s:AG} (O:BY s.t) (hv:(BE s.t).2=0) (I:GF s.t s.h) (S:s.h.Graph.Nodes.length<=14) (T:s.h.Graph.Edges.length<=18):∀ (N:Nat) (c:AA) (p:Pattern) (m:AF) (path:Ne) (d:Bool),SizeOf.sizeOf c<=N->CV s.t p c->CG s.t p c->Mh s.t p s.h m->cnt c<=12->path.length+cnt c<=1000->∀ n,2*N<=n->BA n s c m path d=some (C8 s.t s.h s.injective N c m path d)
 | 0,c,_,_,_,_,h,_,_,_,_,_,_,_=>by have:=DP c; omega
 | N+1,c,p,m,path,d,h,H,V,K,X,hp,n,hn=>by
  obtain ⟨n,rfl⟩:∃ k,n=k+2:=⟨n - 2,by omega⟩;have w:=P8 (h:=s.h) (inj:=s.injective) (N+1) c p m path d H;have w:=Nat.le_trans w (ec X);have he:=Jy c;have kid:∀ k∈c.Kids,SizeOf.sizeOf k<=N∧cnt k<=cnt c - 1:=fun k j=>by have:=D9 j; have:=K9 j; omega
  have mn:=K.m.nlen;have qn:=K.q.g.nodes;rw [C8] at w;rw [BA,C8];by_cases U:c.Kind=2
  ·have h1:=H.one (.inl U);have j:=AP (l:=c.Kids) (i:=0) (by omega) (by omega);have y:=kid _ j;rw [d1 (by simpa using U),d1 U,AI (by omega) (by omega),bs,Jf (by omega),bs,
    Te O hv I S T N _ p m _ _ y.1 (H.kid (by omega) _ j) (V.kid (by omega) _ j) K (by omega) (by simp; omega) (n+1) (by omega)]
   rfl
  rw [d2 (by simpa using U),d2 U];rw [d2 U] at w;by_cases z:c.Kind=3∨c.Kind=4
  ·have hw:(if (decide (c.Kind=3))=true then some (decide (c.Kind=3)) else some (decide (c.Kind=4)))=some true:=by
    rcases z with e | e <;> simp [e]
   rw [hw,bs,d1 rfl,d1 z,CB];rw [d1 z] at w;have W:∀ i:Int,0<=i->i<c.Kids.length->BA n s (AB c.Kids i) m (path++[i]) d=some (C8 s.t s.h s.injective N (AB c.Kids i) m (path++[i]) d):=fun i o v=>by
    have j:=AP (l:=c.Kids) o v;have y:=kid _ j;exact Te O hv I S T N _ p m _ _ y.1 (H.kid (by omega) _ j) (V.kid (by omega) _ j) K (by omega) (by simp; omega) n (by omega)
   by_cases Y:decide (c.Kind=3)=d
   ·rw [d1 Y] at w ⊢;rw [Kj (a:=0) (b:=c.Kids.length) (s:=[]) (fun i=>(BJ i.toNat).flatMap fun i=>C8 s.t s.h s.injective N (AB c.Kids i) m (path++[i]) d) (fun _=>none) (by omega) rfl (fun i o v _=>by
     have C:=N1 (fun i=>C8 s.t s.h s.injective N (AB c.Kids i) m (path++[i]) d) (k:=(i+1).toNat) (n:=c.Kids.length) (by omega);rw [JN _ o,d4] at C;rw [AI o v,bs,d1 (by simp [Y]),Jf (by omega),bs,W i o v,bs,B7 (by omega),bs,JN _ o]; rfl)]
    rw [DA.2 (fun _ _ _=>rfl),Int.toNat_natCast]; rfl
   ·rw [d2 Y];rw [Kj (a:=0) (b:=c.Kids.length) (s:=[]) (fun _=>[]) (fun i=>if EY s.t s.h s.injective (AB c.Kids i) m=d then some (C8 s.t s.h s.injective N (AB c.Kids i) m (path++[i]) d) else none) (by omega) rfl (fun i o v _=>by
     have j:=AP (l:=c.Kids) o v;rw [AI o v,bs,d2 (by simp [Y]),e_holds O hv I S T (H.kid (by omega) _ j) (V.kid (by omega) _ j) K,bs];by_cases e:EY s.t s.h s.injective (AB c.Kids i) m=d
     ·rw [d1 (by simp [e]),Jf (by omega),bs,W i o v,bs,d1 e]; rfl
     ·rw [d2 (by simp [e]),d2 e]; rfl)]
    cases fst (fun i=>if EY s.t s.h s.injective (AB c.Kids i) m=d then some (C8 s.t s.h s.injective N (AB c.Kids i) m (path++[i]) d) else none) 0 c.Kids.length <;> rfl
  have hw:(if (decide (c.Kind=3))=true then some (decide (c.Kind=3)) else some (decide (c.Kind=4)))=some false:=by
   rw [d2 (by simp; omega)];simp; omega
  rw [hw,bs,d2 (by decide),d2 z];rw [d2 z] at w;by_cases u:c.Kind=5
  ·have hi:=H.ins u;have h1:=H.one (.inr u);have e0:=N0 (inj:=s.injective) hv I K hi (V.ex u).2 S T;obtain ⟨e1,e2⟩:=NW hv I K hi e0;have j:=AP (l:=c.Kids) (i:=0) (by omega) (by omega);have y:=kid _ j;have o:AM c.Kids 0=some (AB c.Kids 0):=AI (by omega) (by omega);rw [d1 (by simpa using u),d1 u,CI,WD O hv I K hi e0,bs];rw [d1 u] at w;generalize hle:(BV s.t c s.h m s.injective).1=l at w e1 e2 ⊢;have W:∀ (i:Int) (g:Bool),0<=i->i<l.length->BA n s (AB c.Kids 0) (AB l i) (path++[0]) g=some (C8 s.t s.h s.injective N (AB c.Kids 0) (AB l i) (path++[0]) g):=fun i g o v=>
    Te O hv I S T N _ c.Pattern _ _ _ y.1 (H.kid5 u _ j) (V.kid5 u _ j) (e2 _ (AP o v)) (by omega) (by simp; omega) n (by omega)
   have rs:∀ (i:Int) (k:Int),0<=i->i<l.length->FQ path k (AB l i).Morphism.Nodes=some ⟨path,k,(AB l i).Morphism.Nodes⟩:=fun i k o v=>by
    have:=e2 _ (AP o v);have a1:=this.m.nlen;have a2:=this.q.g.nodes;exact SG (by omega) (by omega) k
   cases d
   ·rw [d1 rfl] at w ⊢;by_cases Z:l.length=0
    ·rw [d1 (by simp [Z]),d1 Z,SG (by omega) (by omega)]; rfl
    ·have hz':¬ ((!false)&&decide ((l.length:Int)=0))=true:=by
      rw [zzZ,zzX]; omega
     rw [d2 hz',d2 Z];rw [d2 Z] at w;rw [Kj (a:=0) (b:=l.length) (s:=[]) (fun i=>(BJ (min i 5).toNat).flatMap fun i=>(⟨path,4,(AB l i).Morphism.Nodes⟩:AH)::C8 s.t s.h s.injective N (AB c.Kids 0) (AB l i) (path++[0]) false) (fun _=>none) (by omega) rfl (fun i G J _=>by
      rw [AI G J,bs];by_cases h5':i<5
      ·have C:=N1 (fun i=>(⟨path,4,(AB l i).Morphism.Nodes⟩:AH)::C8 s.t s.h s.injective N (AB c.Kids 0) (AB l i) (path++[0]) false) (k:=(i+1).toNat) (n:=min l.length 5) (by omega);rw [JN _ G,d4,d6] at C;rw [show (min (i+1) 5)=i+1 by omega,show min i 5=i by omega,JN _ G];rw [d1 (by simp; omega),rs i 4 G J,bs,B7 (by simp only [d6,List.length_nil]; omega),bs,o,bs,Jf (by omega),bs,W i false G J,bs,B7 (by simp only [d4,d6,List.length_nil]; omega),bs,ea]; rfl
      ·rw [show (min (i+1) 5)=5 by omega,show min i 5=5 by omega,d2 (by simp; omega)]; rfl)]
     rw [DA.2 (fun _ _ _=>rfl),show (min (l.length:Int) 5).toNat=min l.length 5 by omega]; rfl
   ·rw [d2 (by simp),d2 (by simp)];rw [Kj (a:=0) (b:=l.length) (s:=[]) (fun _=>[]) (fun i=>if EY s.t s.h s.injective (AB c.Kids 0) (AB l i)=true then
     some ((⟨path,2,(AB l i).Morphism.Nodes⟩:AH)::if (AB c.Kids 0).Kind=1 then [] else C8 s.t s.h s.injective N (AB c.Kids 0) (AB l i) (path++[0]) true) else none) (by omega) rfl (fun i G J _=>by
     rw [AI G J,bs,d2 (by simp),d1 rfl,o,bs,e_holds O hv I S T (H.kid5 u _ j) (V.kid5 u _ j) (e2 _ (AP G J)),bs,bs];by_cases e:EY s.t s.h s.injective (AB c.Kids 0) (AB l i)=true
     ·have hlen:=P8 (h:=s.h) (inj:=s.injective) N (AB c.Kids 0) c.Pattern (AB l i) (path++[0]) true (H.kid5 u _ j);have:=SE (show cnt (AB c.Kids 0)<=11 by omega);rw [d1 e,d1 e,rs i 2 G J,bs,bs];by_cases ek:(AB c.Kids 0).Kind=1
      ·rw [d2 (by simp [ek]),d1 ek]; rfl
      ·rw [d1 (by simp [ek]),d2 ek,bs,Jf (by omega),bs,W i true G J,bs,B7 (by simp only [d6,List.length_nil]; unfold BM; omega)]; rfl
     ·rw [d2 e,d2 e]; rfl)]
    cases fst (fun i=>if EY s.t s.h s.injective (AB c.Kids 0) (AB l i)=true then
     some ((⟨path,2,(AB l i).Morphism.Nodes⟩:AH)::if (AB c.Kids 0).Kind=1 then [] else C8 s.t s.h s.injective N (AB c.Kids 0) (AB l i) (path++[0]) true) else none) 0 l.length <;> rfl
  rw [d2 (by simpa using u),d2 u,SG (by omega) (by simp)]; rfl
end Go.Sf.Sc
namespace Go.Sf.Sc
open Go Go.Sf
variable {σ ρ:Type} {f:σ × Int->Option (CZ (σ × Int) ρ)}
theorem XX (s:σ) (d:Int->Option σ):∀ (n:Nat) (a:Int),(∀ i,a<=i->i<a+n->f (s,i)=some (match d i with | some r=>.brk (r,i) | none=>.next (s,i+1)))->f (s,a+n)=some (.brk (s,a+n))->∃ j,Mj f (s,a) (.inl ((FH d n a).getD s,j))
 | 0,a,_,g=>⟨a,.brk (by simpa [FH] using g)⟩
 | n+1,a,h,g=>by
  have e:=h a (Int.le_refl _) (by omega);rw [FH];cases o:d a with
  | some r=>
   rw [o] at e;exact ⟨a,.brk e⟩
  | none=>
   rw [o] at e;obtain ⟨j,q⟩:=XX s d n (a+1) (fun i u v=>h i (by omega) (by omega)) (by rw [show a+1+(n:Int)=a+((n+1:Nat):Int) by omega]; exact g);exact ⟨j,.next e q⟩
theorem Vh {σ ρ β γ:Type} {g:β->Option γ} {f:σ × Int->Option (CZ (σ × Int) ρ)} {k:σ × Int->Option β} {o:ρ->Option β} {s:σ} {X:Option γ} (d:Int->Option σ) (n:Nat) (h:∀ i:Int,0<=i->i<n->f (s,i)=some (match d i with | some r=>.brk (r,i) | none=>.next (s,i+1))) (q:f (s,n)=some (.brk (s,n))) (u:∀ j,(k ((fst d 0 n).getD s,j)).bind g=X):(thenR (I7 f (s,0)) k o).bind g=X:=by
 obtain ⟨j,w⟩:=XX s d n 0 (fun i v y=>h i v (by omega)) (by simpa using q);rw [w.eq,DX];have e:fst d 0 n=FH d n 0:=by unfold fst; rw [show ((n:Int) - 0).toNat=n by omega]
 rw [←e,u]
variable {path:Ne}
theorem Nz (h:path.length<=1000) (i:Int):HY path i=some (path++[i]):=by
 unfold HY;rw [E5 (by unfold BM; omega),bs,B7 (by simp; unfold BM; omega)]; rfl
variable {nodes:Ne}
theorem Pl (h:path.length<=1000) (d:nodes.length<=1000) (k:Int):HZ path k nodes=some ⟨path,k,nodes⟩:=by
 unfold HZ;rw [E5 (by unfold BM; omega),bs,E5 (by unfold BM; omega)]; rfl
variable {c:AA} {p:Pattern}
theorem VL {s:A3} (o:BY s.T) (hv:(BE s.T).2=0) (e:GF s.T s.H) (q:s.H.Graph.Nodes.length<=14) (u:s.H.Graph.Edges.length<=18) (g:CV s.T p c) (v:CG s.T p c) (j:Mh s.T p s.H s.M):ref23_holds s c=some (EY s.T s.H s.Injective c s.M,0):=by
 have d:=Ug (inj:=s.Injective) hv e q u _ c p s.M (d3 _) g v j;rw [Uh,Wh] at d;unfold ref23_holds Kt;rw [Ww o hv e g j,bs];cases n:EY s.T s.H s.Injective c s.M
 ·rw [n] at d;rw [d1 (by rw [d]; rfl)]; rfl
 ·rw [n] at d;rw [d2 (by rw [d]; decide),d]; rfl
variable {t:AC}
theorem OX {h:AT} {inj:Bool} (O:BY t) (hv:(BE t).2=0) (J:GF t h) (S:h.Graph.Nodes.length<=14) (T:h.Graph.Edges.length<=18):∀ (N:Nat) (c:AA) (p:Pattern) (m:AF) (path:Ne) (d:Bool),SizeOf.sizeOf c<=N->CV t p c->CG t p c->Mh t p h m->cnt c<=12->path.length+cnt c<=1000->∀ n,2*N<=n->CU n ⟨t,h,m,inj⟩ c path d=some (C8 t h inj N c m path (!d),0)
 | 0,c,_,_,_,_,h,_,_,_,_,_,_,_=>by have:=DP c; omega
 | N+1,c,p,m,path,d,hs,H,X,K,hn12,hp,n,hn=>by
  obtain ⟨n,rfl⟩:∃ k,n=k+2:=⟨n - 2,by omega⟩;have y:=P8 (h:=h) (inj:=inj) (N+1) c p m path (!d) H;have y:=Nat.le_trans y (ec hn12);have he:=Jy c;have hrng:=H.rng;have kid:∀ k∈c.Kids,SizeOf.sizeOf k<=N∧cnt k<=cnt c - 1:=fun k o=>by have:=D9 o; have:=K9 o; omega
  have mn:=K.m.nlen;have qn:=K.q.g.nodes;rw [C8] at y;rw [CU,C8];by_cases h1:c.Kind=1
  ·rw [d1 (by simpa using h1),d2 (by omega),d2 (by omega),d2 (by omega),Pl (by omega) (by simp)]; rfl
  rw [d2 (by simpa using h1)];by_cases U:c.Kind=2
  ·have h1:=H.one (.inl U);have o:=AP (l:=c.Kids) (i:=0) (by omega) (by omega);have C:=kid _ o;rw [d1 (by simpa using U),d1 U,AI (by omega) (by omega),bs,Nz (by omega),bs,
    OX O hv J S T N _ p m _ _ C.1 (H.kid (by omega) _ o) (X.kid (by omega) _ o) K (by omega) (by simp; omega) (n+1) (by omega)]
   rfl
  rw [d2 (by simpa using U),d2 U];rw [d2 U] at y;have Z:∀ (i:Int) (b:Bool),¬ c.Kind=5->0<=i->i<c.Kids.length->CU n ⟨t,h,m,inj⟩ (AB c.Kids i) (path++[i]) b=some (C8 t h inj N (AB c.Kids i) m (path++[i]) (!b),0):=fun i b u v z=>by
   have o:=AP (l:=c.Kids) v z;have C:=kid _ o;exact OX O hv J S T N _ p m _ _ C.1 (H.kid u _ o) (X.kid u _ o) K (by omega) (by simp; omega) n (by omega)
  have all:∀ b:Bool,¬ c.Kind=5->((BJ c.Kids.length).flatMap fun i=>C8 t h inj N (AB c.Kids i) m (path++[i]) (!b)).length<=BM->GR (n+1) ⟨t,h,m,inj⟩ c path b=some ((BJ c.Kids.length).flatMap fun i=>C8 t h inj N (AB c.Kids i) m (path++[i]) (!b),0):=by
   intro b u y;rw [GR,Kj (a:=0) (b:=c.Kids.length) (s:=[]) (fun i=>(BJ i.toNat).flatMap fun i=>C8 t h inj N (AB c.Kids i) m (path++[i]) (!b)) (fun _=>none) (by omega) rfl (fun i v z _=>by
    have G:=N1 (fun i=>C8 t h inj N (AB c.Kids i) m (path++[i]) (!b)) (k:=(i+1).toNat) (n:=c.Kids.length) (by omega);rw [JN _ v,d4] at G;rw [AI v z,bs,Nz (by omega),bs,Z i b u v z,bs,d2 (by simp),B7 (by dsimp only; omega),bs,JN _ v]; rfl)]
   rw [DA.2 (fun _ _ _=>rfl),Int.toNat_natCast]; rfl
  have one:∀ b:Bool,¬ c.Kind=5->GT (n+1) ⟨t,h,m,inj⟩ c path b=some ((fst (fun i=>if EY t h inj (AB c.Kids i) m=(!b) then some (C8 t h inj N (AB c.Kids i) m (path++[i]) (!b)) else none) 0 c.Kids.length).getD [],0):=by
   intro b u;rw [GT,C5 (fun i=>if EY t h inj (AB c.Kids i) m=(!b) then some (C8 t h inj N (AB c.Kids i) m (path++[i]) (!b),(0:Int)) else none) (fun i v z _=>by
    have o:=AP (l:=c.Kids) v z;rw [AI v z,bs,VL (s:=⟨t,h,m,inj⟩) O hv J S T (H.kid u _ o) (X.kid u _ o) K,bs,d2 (by simp)];by_cases e:EY t h inj (AB c.Kids i) m=(!b)
    ·rw [d1 (by simp [e]),bs,Nz (by omega),bs,Z i b u v z,bs,d1 e]; rfl
    ·rw [d2 (by simpa using e),d2 e]; rfl)]
   have hm:(fun i=>if EY t h inj (AB c.Kids i) m=(!b) then some (C8 t h inj N (AB c.Kids i) m (path++[i]) (!b),(0:Int)) else none)=fun i=>((fun i=>if EY t h inj (AB c.Kids i) m=(!b) then some (C8 t h inj N (AB c.Kids i) m (path++[i]) (!b)) else none) i).map fun r=>(r,(0:Int)):=by
    funext i;dsimp only;split <;> rfl
   rw [hm,NY];cases fst (fun i=>if EY t h inj (AB c.Kids i) m=(!b) then some (C8 t h inj N (AB c.Kids i) m (path++[i]) (!b)) else none) 0 c.Kids.length <;> rfl
  by_cases V:c.Kind=3
  ·have w:c.Kind=3∨c.Kind=4:=.inl V;rw [d1 (by simpa using V),d1 w];rw [d1 w] at y;cases d
   ·rw [d1 (by simp [V])] at y;rw [d2 (by simp),all false (by omega) y,d1 (by simp [V])]; rfl
   ·rw [d1 rfl,one true (by omega),d2 (by simp [V])]; rfl
  rw [d2 (by simpa using V)];by_cases W:c.Kind=4
  ·have w:c.Kind=3∨c.Kind=4:=.inr W;rw [d1 (by simpa using W),d1 w];rw [d1 w] at y;cases d
   ·rw [d2 (by simp),one false (by omega),d2 (by simp [W])]; rfl
   ·rw [d1 (by simp [W])] at y;rw [d1 rfl,all true (by omega) y,d1 (by simp [W])]; rfl
  have w:¬ (c.Kind=3∨c.Kind=4):=by omega
  rw [d2 (by simpa using W),d2 w];rw [d2 w] at y;have u:c.Kind=5:=by omega
  have hi:=H.ins u;have hone:=H.one (.inr u);have e0:=N0 (inj:=inj) hv J K hi (X.ex u).2 S T;obtain ⟨e1,e2⟩:=NW hv J K hi e0;have o:=AP (l:=c.Kids) (i:=0) (by omega) (by omega);have C:=kid _ o;have v:AM c.Kids 0=some (AB c.Kids 0):=AI (by omega) (by omega);rw [d1 u,FO,ak O hv J K hi,bs,d2 (by simp [e0])];rw [d1 u] at y;generalize hle:(BV t c h m inj).1=l at y e1 e2 ⊢;have ih:∀ (i:Int) (b:Bool),0<=i->i<l.length->CU n ⟨t,h,AB l i,inj⟩ (AB c.Kids 0) (path++[0]) b=some (C8 t h inj N (AB c.Kids 0) (AB l i) (path++[0]) (!b),0):=fun i b v z=>
   OX O hv J S T N _ c.Pattern _ _ _ C.1 (H.kid5 u _ o) (X.kid5 u _ o) (e2 _ (AP v z)) (by omega) (by simp; omega) n (by omega)
  have rs:∀ (i:Int) (k:Int),0<=i->i<l.length->HZ path k (AB l i).Morphism.Nodes=some ⟨path,k,(AB l i).Morphism.Nodes⟩:=fun i k v z=>by
   have:=e2 _ (AP v z);have a1:=this.m.nlen;have a2:=this.q.g.nodes;exact Pl (by omega) (by omega) k
  cases d
  ·rw [d2 (by simp),d2 (by simp)];refine Vh (fun i=>if EY t h inj (AB c.Kids 0) (AB l i)=true then
     some ((⟨path,2,(AB l i).Morphism.Nodes⟩:AH)::if (AB c.Kids 0).Kind=1 then [] else C8 t h inj N (AB c.Kids 0) (AB l i) (path++[0]) true) else none) l.length (fun i I Y=>?_) ?_ (fun j=>?_)
   ·dsimp only;rw [d1 (by simp; omega),AI I Y,bs];show ((some (⟨t,h,AB l i,inj⟩:A3)).bind fun x68=>_)=_;rw [bs,d1 (show (!false)=true from rfl),v,bs,VL (s:=⟨t,h,AB l i,inj⟩) O hv J S T (H.kid5 u _ o) (X.kid5 u _ o) (e2 _ (AP I Y)),bs,d2 (by simp)];by_cases e:EY t h inj (AB c.Kids 0) (AB l i)=true
    ·have hlen:=P8 (h:=h) (inj:=inj) N (AB c.Kids 0) c.Pattern (AB l i) (path++[0]) true (H.kid5 u _ o);have:=SE (show cnt (AB c.Kids 0)<=11 by omega);rw [d2 (by simp [e]),d1 e,bs,rs i 2 I Y,bs,B7 (by simp; unfold BM; omega),bs,bs,bs];by_cases ek:(AB c.Kids 0).Kind=1
     ·rw [d2 (by simp [ek]),d1 ek]; rfl
     ·rw [d1 (by simp [ek]),d2 ek,bs,Nz (by omega),bs,ih i false I Y,bs,d2 (by simp),B7 (by simp only [List.nil_append,d6,List.length_nil,Bool.not_false]; unfold BM; omega),bs]; rfl
    ·rw [d1 (by simpa using e),d2 e,BI (n:=i+1) (by omega) (by omega)]
   ·dsimp only;rw [d2 (by simp)]
   ·rfl
  ·rw [Bool.not_true,d1 rfl] at y;rw [Bool.not_true,d1 rfl];by_cases hz:l.length=0
   ·rw [d1 (by simp [hz]),d1 hz,Pl (by omega) (by show m.Morphism.Nodes.length<=1000; omega)]; rfl
   ·have hz':¬ (true&&decide ((l.length:Int)=0))=true:=by
     rw [zzZ,zzX]; omega
    rw [d2 hz',d2 hz];rw [d2 hz] at y;rw [UN (fun i=>(BJ i.toNat).flatMap fun i=>(⟨path,4,(AB l i).Morphism.Nodes⟩:AH)::C8 t h inj N (AB c.Kids 0) (AB l i) (path++[0]) false) (a:=0) (b:=((min l.length 5:Nat):Int)) (s:=[]) (by omega) rfl,DX,Int.toNat_natCast]
    ·rfl
    ·intro i I Y;have j2:i<l.length:=by omega
     have G:=N1 (fun i=>(⟨path,4,(AB l i).Morphism.Nodes⟩:AH)::C8 t h inj N (AB c.Kids 0) (AB l i) (path++[0]) false) (k:=(i+1).toNat) (n:=min l.length 5) (by omega);rw [JN _ I,d4,d6] at G;rw [JN _ I];dsimp only;rw [d1 (by simp; omega),AI I j2,bs];show ((some (⟨t,h,AB l i,inj⟩:A3)).bind fun x68=>_)=_;rw [bs,d2 (by decide),bs,rs i 4 I j2,bs,B7 (by simp only [d6,List.length_nil]; omega),bs,bs,d1 rfl,v,bs,Nz (by omega),bs,ih i true I j2,bs,d2 (by simp),B7 (by simp only [d4,d6,List.length_nil,Bool.not_true]; omega),bs,d2 (by decide),ea,BI (n:=i+1) (by omega) (by omega)]; rfl
    ·dsimp only;rw [d2 (by simp; omega)]
end Go.Sf.Sc
namespace Go.Sf.Sc
open Go Go.Sf
variable {x:H8}
theorem aV (e:(H5 x).Sm):(AE x.C).Sm:=by
 obtain ⟨p,c⟩:=x;cases c;have d:TV.Sms [_,_,_,_,_,_,_,_,_,_,_,_,_,_]:=e;obtain ⟨_,_,_,_,_,h⟩:=d;exact h
variable {t:AC}
theorem aw (y:KO) (st:(AV t).Sm) (e:(H5 x).Sm):∃ b,Lw t x y=some b∧(b=true->BY t∧EE x.C∧cnt x.C<=40∧E0 t x.P x.C y.H=some true):=by
 obtain ⟨j,n,d⟩:=Uw st;unfold Lw;rw [n,bs];cases j
 ·exact ⟨_,rfl,fun h=>by simp at h⟩
 obtain ⟨o,q,s⟩:=ap (d rfl) st x.P (aV e) y.H;rw [d1 rfl,q];refine ⟨_,rfl,fun h=>?_⟩;rw [zzZ,zzZ] at h;have g:o=true:=h.1.1;subst g;have:=s rfl;exact ⟨d rfl,this.1,this.2.1,rfl⟩
variable {p:Pattern} {c:AA} {h:AT}
theorem ZC (d:BY t) (g:EE c) (j:cnt c<=1000) (n:H3 t p c=0) (o:E0 t p c h=some true):TO p c h:=by
 obtain ⟨b,e,f⟩:=cd d g j n h;rw [o] at e;cases e;exact f rfl
variable {m:AF}
theorem V5 {inj:Bool} (e:NL t p c h m inj=0):H3 t p c=0:=by
 unfold NL at e;split at e
 ·rename_i k; exact absurd e k
 ·rename_i k; exact Classical.not_not.1 k
theorem Ue {inj:Bool} (e:(Ij t p c h m inj).2=0):NL t p c h m inj=0:=by
 by_cases d:NL t p c h m inj=0
 ·exact d
 have g:(wS t p c h m inj).2=NL t p c h m inj:=by unfold wS; rw [d1 d]
 unfold Ij at e;rw [g,d2 (V6 t p c h m inj)] at e;exact e
theorem cF (d:cnt c<=1000) (e:H3 t p c=0):cnt c<=12:=by
 obtain ⟨_,m1,_⟩:=XG (RU e).2.1;rw [Wd d] at m1;simp only at m1;omega
noncomputable def PI (t:AC) (p:Pattern) (c:AA) (h:AT) (m:AF) (inj:Bool):List AH × Int:=
 if (Ij t p c h m inj).2≠0 then ([],(Ij t p c h m inj).2) else if (Ij t p c h m inj).1=true then ([],10) else (C8 t h inj (SizeOf.sizeOf c) c m [] false,0)
theorem Pc (n:BY t) (q:EE c) (s:cnt c<=40) {inj:Bool} (u:E0 t p c h=some true) (e:(Ij t p c h m inj).2=0) :
  (BE t).2=0∧GF t h∧CV t p c∧CG t p c∧Mh t p h m∧cnt c<=12∧h.Graph.Nodes.length<=14∧h.Graph.Edges.length<=18:=by
 have o:=Ue e;have g:=V5 o;obtain ⟨hv,v,j,w⟩:=Y1 n s o;have d:=ZC n q (by omega) g u;have:=d.nodes;have:=d.edges;exact ⟨hv,v,j,cc d g,w,cF (by omega) g,by omega,by omega⟩
theorem aX (g:BY t) (q:EE c) (u:cnt c<=40) {inj:Bool} (v:E0 t p c h=some true):E8 t p c h m inj=some (PI t p c h m inj):=by
 unfold E8 PI;rw [Sr g p q u,bs];by_cases e:(Ij t p c h m inj).2=0
 ·have y:¬ (Ij t p c h m inj).2≠0:=fun k=>k e;rw [d2 (by simp [e]),d2 y];by_cases d:(Ij t p c h m inj).1=true
  ·rw [d1 d,d1 d]
  ·obtain ⟨hv,z,j,C,G,o,H,I⟩:=Pc g q u v e;rw [d2 d,d2 d,show Hy ⟨t,h,inj⟩ c m [] false=some (C8 t h inj (SizeOf.sizeOf c) c m [] false) from E9 (2*SizeOf.sizeOf c) fun n w=>Te (s:=⟨t,h,inj⟩) g hv z H I _ c p m [] false (d3 _) j C G o (by simp; omega) n w];rfl
 ·rw [d1 (by simp [e]),d1 e]
theorem aj (g:BY t) (q:EE c) (s:cnt c<=40) {inj:Bool} (u:E0 t p c h=some true):Ke t p c h m inj=some (PI t p c h m inj):=by
 unfold Ke PI;rw [Xv g p q s,bs];by_cases e:(Ij t p c h m inj).2=0
 ·have w:¬ (Ij t p c h m inj).2≠0:=fun k=>k e;rw [d2 (by simp [e]),d2 w];by_cases d:(Ij t p c h m inj).1=true
  ·rw [d1 d,d1 d]
  ·obtain ⟨hv,y,j,z,C,o,G,H⟩:=Pc g q s u e;rw [d2 d,d2 d,show OO ⟨t,h,m,inj⟩ c [] true=some (C8 t h inj (SizeOf.sizeOf c) c m [] false,0) from E9 (2*SizeOf.sizeOf c) fun n v=>OX g hv y G H _ c p m [] true (d3 _) j z C o (by simp; omega) n v];rfl
 ·rw [d1 (by simp [e]),d1 e]
theorem cp (a b:AH):I3 a b=some (decide (a=b)):=by
 unfold I3;rw [YW,YW];obtain ⟨j,n,o⟩:=a;obtain ⟨q,s,u⟩:=b;simp only [bs,AH.mk.injEq];by_cases d:j=q <;> by_cases e:n=s <;> by_cases g:o=u <;> simp [d,e,g]
instance:Inhabited AH:=⟨⟨[],0,[]⟩⟩
theorem cu (a:List AH):NA a a=some true:=by
 unfold NA;rw [d2 (by simp),CR (fun _=>false) false]
 ·have:anyR (fun _=>false) 0 (a.length:Int)=false:=ET.2 fun _ _ _=>rfl;rw [this]; rfl
 ·intro i d e _;rw [AI d e,bs,bs,cp,bs]; simp
end Go.Sf.Sc
namespace Go.Sf.Sc
open Go Go.Sf
def Oi (l:Ne):Prop:=l.Pairwise (·<·)
theorem S0:∀ {a b:Ne},Oi a->Oi b->(∀ x,x∈a↔x∈b)->a=b
 | [],[],_,_,_=>rfl
 | [],y::b,_,_,h=>by have:=(h y).2 (by simp); simp at this
 | x::a,[],_,_,h=>by have:=(h x).1 (by simp); simp at this
 | x::a,y::b,q,s,h=>by
  have d:=List.pairwise_cons.1 q;have g:=List.pairwise_cons.1 s;have e:x=y:=by
   have n:=(h x).1 (by simp);have o:=(h y).2 (by simp);rcases List.mem_cons.1 n with e | n
   ·exact e
   ·rcases List.mem_cons.1 o with e | o
    ·exact e.symm
    ·have:=g.1 x n;have:=d.1 y o;omega
  subst e;rw [S0 d.2 g.2 fun z=>by
   constructor
   ·intro j;have:=d.1 z j;rcases List.mem_cons.1 ((h z).1 (List.mem_cons_of_mem _ j)) with e | k
    ·omega
    ·exact k
   ·intro j;have:=g.1 z j;rcases List.mem_cons.1 ((h z).2 (List.mem_cons_of_mem _ j)) with e | k
    ·omega
    ·exact k]
theorem Xi {l:Ne} (u:l.Pairwise (·<=·)):Oi (Go.Lib.compact l)∧∀ x,x∈Go.Lib.compact l↔x∈l:=by
 have g:∀ j (o:j<l.length),l.toArray[j]! = l[j]:=by
  intro j o;rw [getElem!_pos _ _ (by simpa using o)];simp
 have q:=List.pairwise_iff_getElem.1 u;refine ⟨?_,fun x=>⟨fun h=>Sj h,fun h=>?_⟩⟩
 ·unfold Oi Go.Lib.compact Go.Lib.compactUpTo;rw [List.pairwise_map];refine List.Pairwise.imp_of_mem (R:=(·<·)) (fun {i j} hi o v=>?_) (List.Pairwise.filter _ List.pairwise_lt_range);rw [List.mem_filter,List.mem_range] at hi o;have d:=o.2;simp only [Go.Lib.keeps,zzX] at d;rw [g i hi.1,g j o.1];rw [g j o.1,g (j - 1) (by omega)] at d;have d:=d.resolve_left (by omega);have z:=q (j - 1) j (by omega) o.1 (by omega);by_cases e:i=j - 1
  ·subst e; omega
  ·have C:=q i (j - 1) hi.1 (by omega) (by omega);omega
 ·obtain ⟨i,hi,rfl⟩:=List.getElem_of_mem h;have key:∀ (n i:Nat) (hi:i<l.length),i<=n->l[i]∈Go.Lib.compact l:=by
   intro n
   induction n with
   | zero=>
    intro i hi w;have e:i=0:=by omega
    subst e;unfold Go.Lib.compact Go.Lib.compactUpTo;exact List.mem_map.2 ⟨0,List.mem_filter.2 ⟨List.mem_range.2 hi,by simp [Go.Lib.keeps]⟩,g 0 hi⟩
   | succ n y=>
    intro i hi w;by_cases d:Go.Lib.keeps l.toArray i=true
    ·unfold Go.Lib.compact Go.Lib.compactUpTo;exact List.mem_map.2 ⟨i,List.mem_filter.2 ⟨List.mem_range.2 hi,d⟩,g i hi⟩
    ·simp only [Go.Lib.keeps,zzX] at d;rw [not_or] at d;obtain ⟨G,s⟩:=d;rw [Classical.not_not,g i hi,g (i - 1) (by omega)] at s;rw [s];exact y (i - 1) (by omega) (by omega)
  exact key i i hi (d3 _)
def TJ (a b:Ne):Ne:=Go.Lib.compact (Nk (a++b))
theorem TK (a b:Ne):Oi (TJ a b)∧∀ x,x∈TJ a b↔x∈a∨x∈b:=by
 obtain ⟨d,e⟩:=Xi (Mz (a++b));refine ⟨d,fun x=>(e x).trans ?_⟩;rw [(LX (a++b)).mem_iff,List.mem_append]
theorem XQ {a b:Ne} (d:a.length+b.length<=BM):GQ a b=some (TJ a b):=by
 unfold BM at d;have j:Ie [a,b]=some (a++b):=by
  unfold Ie;rw [show (([a,b]:List Ne).length:Int)=2 from rfl,EF (a:=0) (b:=2) (s:=0) (fun i=>if i=0 then 0 else if i=1 then (a.length:Int) else (a.length:Int)+b.length) (by omega) rfl,bs]
  ·have n:IU [] (if (2:Int)=0 then 0 else if (2:Int)=1 then (a.length:Int) else (a.length:Int)+b.length)=some []:=by
    have o:(if (2:Int)=0 then 0 else if (2:Int)=1 then (a.length:Int) else (a.length:Int)+b.length)=(a.length:Int)+b.length:=by rw [d2 (by decide),d2 (by decide)]
    rw [o];unfold IU;rw [d1 ⟨rfl,by omega,by unfold BM; omega⟩]
   rw [n,bs,EF (a:=0) (b:=2) (s:=[]) (fun i=>if i=0 then [] else if i=1 then a else a++b) (by omega) rfl]
   ·rfl
   ·intro i e g;have:i=0∨i=1:=by omega
    rcases this with rfl | rfl
    ·rw [AI (by omega) (by simp),bs];show (B0 [] a).bind _=_;rw [E5 (by unfold BM; omega)]; rfl
    ·rw [AI (by omega) (by simp),bs];show (B0 a b).bind _=_;rw [B7 (by unfold BM; omega)]; rfl
  ·intro i e g;have:i=0∨i=1:=by omega
   rcases this with rfl | rfl
   ·rw [AI (by omega) (by simp),bs];show (if (decide ((A4 (0+(a.length:Int)))<0))=true then none else some (A4 (0+(a.length:Int))))=some (a.length:Int);rw [BI (by omega) (by omega),d2 (by simp),Int.zero_add]
   ·rw [AI (by omega) (by simp),bs];show (if (decide ((A4 ((a.length:Int)+(b.length:Int)))<0))=true then none else some (A4 ((a.length:Int)+(b.length:Int))))=some ((a.length:Int)+b.length);rw [BI (by omega) (by omega),d2 (by simp; omega)]
 have q:(Nk (a++b)).length=a.length+b.length:=by rw [(LX (a++b)).length_eq,d4]
 unfold GQ slices_Sort_int slices_Compact_int;rw [j,bs,d1 (by rw [d4]; unfold BM; omega),bs,d1 (by rw [q]; unfold BM; omega)]; rfl
end Go.Sf.Sc
namespace Go.Sf.Sc
open Go Go.Sf
def rb (c:AA):Nat:=cnt c*10 ^ KF c
variable {a b:Nat}
theorem XN (h:a<=b):10 ^ a<=10 ^ b:=Nat.pow_le_pow_right (by omega) h
theorem RS {a b d e:Nat} (g:a<=b) (j:d<=e):a*10 ^ d<=b*10 ^ e:=Nat.le_trans (Nat.mul_le_mul_right _ g) (Nat.mul_le_mul_left _ (XN j))
theorem WB:∀ {l:List AA} {k:AA},k∈l->KF k<=Ll l
 | x::l,k,h=>by
  rw [Ll];rcases List.mem_cons.1 h with rfl | h
  ·omega
  ·have:=WB h; omega
variable {F:Int->List AH}
theorem WL:∀ (l:List AA) (k:Nat),(∀ i:Int,k<=i->i<k+l.length->(F i).length<=rb (AB l (i - k)))->((List.range' k l.length).flatMap fun i=>F (i:Nat)).length<=HF l*10 ^ Ll l
 | [],k,_=>by simp
 | c::l,k,h=>by
  have d:=h k (by omega) (by simp; omega);have j:=WL l (k+1) (fun i e g=>by
   have:=h i (by omega) (by simp; omega);rw [show (i - (k:Int))=(i - ((k+1:Nat):Int))+1 by omega] at this
   rwa [show AB (c::l) (i - ((k+1:Nat):Int)+1)=AB l (i - ((k+1:Nat):Int)) by
    unfold AB;rw [show (i - ((k+1:Nat):Int)+1).toNat=(i - ((k+1:Nat):Int)).toNat+1 by omega]; rfl] at this)
  rw [Int.sub_self] at d;have n:(F k).length<=cnt c*10 ^ KF c:=d;rw [d6,List.range'_succ,List.flatMap_cons,d4,HF,Ll,Nat.add_mul];have o:=Nat.mul_le_mul_left (cnt c) (XN (show KF c<=max (KF c) (Ll l) by omega));have q:=Nat.mul_le_mul_left (HF l) (XN (show Ll l<=max (KF c) (Ll l) by omega));omega
theorem Xa {t:AC} {h:AT} {inj:Bool}:∀ (N:Nat) (c:AA) (p:Pattern) (m:AF) (path:Ne) (d:Bool),CV t p c->(C8 t h inj N c m path d).length<=cnt c*10 ^ KF c
 | 0,_,_,_,_,_,_=>by simp [C8]
 | N+1,c,p,m,path,d,j=>by
  have I:=Jy c;have C:=Ta c;have g:∀ k∈c.Kids,cnt k+1<=cnt c∧KF k<=Ll c.Kids:=fun k e=>⟨by have:=K9 e; omega,WB e⟩;have n:=Xa (t:=t) (h:=h) (inj:=inj) N;have one:1<=cnt c*10 ^ KF c:=Nat.mul_pos (Ps c) (Nat.pow_pos (by omega));rw [C8];by_cases w:c.Kind=2
  ·have G:=j.one (.inl w);have e:=AP (l:=c.Kids) (i:=0) (by omega) (by omega);have z:=g _ e;rw [d1 w];exact Nat.le_trans (n _ p m _ _ (j.kid (by omega) _ e)) (RS (by omega) (by omega))
  rw [d2 w];by_cases o:c.Kind=3∨c.Kind=4
  ·rw [d1 o];split
   ·have:=WL (F:=fun i=>C8 t h inj N (AB c.Kids i) m (path++[i]) d) c.Kids 0 (fun i u v=>by
     rw [show i - ((0:Nat):Int)=i by omega];exact n _ p m _ _ (j.kid (by omega) _ (AP (by omega) (by omega))))
    unfold BJ;rw [List.flatMap_map,List.range_eq_range'];exact Nat.le_trans this (RS (by omega) (by omega))
   ·cases y:fst (fun i=>if EY t h inj (AB c.Kids i) m=d then some (C8 t h inj N (AB c.Kids i) m (path++[i]) d) else none) 0 c.Kids.length with
    | none=>simp
    | some r=>
     obtain ⟨i,u,v,k,_⟩:=C1 y;split at k
     ·cases k;have e:=AP (l:=c.Kids) u v;have z:=g _ e;exact Nat.le_trans (n _ p m _ _ (j.kid (by omega) _ e)) (RS (by omega) (by omega))
     ·cases k
  rw [d2 o];by_cases q:c.Kind=5
  ·have G:=j.one (.inr q);have e:=AP (l:=c.Kids) (i:=0) (by omega) (by omega);have z:=g _ e;have s:=j.kid5 q _ e;rw [d1 q] at C;have J:1<=cnt (AB c.Kids 0)*10 ^ KF (AB c.Kids 0):=Nat.mul_pos (Ps _) (Nat.pow_pos (by omega));have K:10*(cnt (AB c.Kids 0)*10 ^ KF (AB c.Kids 0))<=cnt c*10 ^ KF c:=by
    have:=RS (show cnt (AB c.Kids 0)<=cnt c by omega) (show KF (AB c.Kids 0)+1<=KF c by omega);rw [Nat.pow_succ,←Nat.mul_assoc] at this; omega
   rw [d1 q];split
   ·split
    ·simpa using one
    ·refine Nat.le_trans (NX (B:=1+cnt (AB c.Kids 0)*10 ^ KF (AB c.Kids 0)) (fun i _=>?_)) ?_
     ·rw [d6];have:=n (AB c.Kids 0) c.Pattern (AB (BV t c h m inj).1 i) (path++[0]) false s;omega
     ·rw [DN];have:min (BV t c h m inj).1.length 5*(1+cnt (AB c.Kids 0)*10 ^ KF (AB c.Kids 0))<=5*(1+cnt (AB c.Kids 0)*10 ^ KF (AB c.Kids 0)):=Nat.mul_le_mul_right _ (by omega);omega
   ·generalize H:(BV t c h m inj).1=l;cases y:fst (fun i=>if EY t h inj (AB c.Kids 0) (AB l i)=true then
     some ((⟨path,2,(AB l i).Morphism.Nodes⟩:AH)::if (AB c.Kids 0).Kind=1 then [] else C8 t h inj N (AB c.Kids 0) (AB l i) (path++[0]) true) else none) 0 l.length with
    | none=>simp
    | some r=>
     obtain ⟨i,u,v,k,_⟩:=C1 y;split at k
     ·cases k;have:=n (AB c.Kids 0) c.Pattern (AB l i) (path++[0]) true s;simp only [Option.getD_some,d6];split
      ·simp; omega
      ·omega
     ·cases k
  rw [d2 q];simpa using one
end Go.Sf.Sc
namespace Go.Sf.Sc
open Go Go.Sf
def NT (l:List AH) (r:AH):Bool:=decide (l.head?=some r)
theorem PG (l:List AH) (path:Ne) (k:Int) (nodes:Ne):G6 l path k nodes=some (NT l ⟨path,k,nodes⟩):=by
 unfold G6 NT;cases l with
 | nil=>rfl
 | cons x l=>
  obtain ⟨d,g,j⟩:=x;have e:AM ((⟨d,g,j⟩:AH)::l) 0=some ⟨d,g,j⟩:=AI (by omega) (by simp);rw [d1 (by simp),e];simp only [bs,eJ,List.head?_cons,zzY,AH.mk.injEq];by_cases n:d=path <;> by_cases o:g=k <;> by_cases q:j=nodes <;> simp [n,o,q]
variable {starts:Ne} {more:Int->Option Ne} {M:Int->Ne}
theorem bz {B:Nat} (y:B<=20000) (U:starts.length<=B) (G:∀ n∈starts,more n=some (M n)) (z:∀ n∈starts,(M n).length<=B) (H:∀ n∈starts,0<=n∧n<=B) (I:∀ n∈starts,∀ k∈M n,0<=k∧k<=B) :
  EM starts more=some (TJ (starts.flatMap fun n=>(M n).map fun k=>n+k) []):=by
 have e:∀ l:Ne,(∀ n∈l,n∈starts)->(l.flatMap fun n=>(M n).map fun k=>n+k).length<=l.length*B:=fun l h=>NX fun n g=>by
  rw [d7]; exact z n (h n g)
 have C:=e starts fun n g=>g;have J:starts.length*B<=20000*20000:=Nat.mul_le_mul (by omega) y;unfold EM;rw [EF (a:=0) (b:=starts.length) (s:=[]) (fun i=>(starts.take i.toNat).flatMap fun n=>(M n).map fun k=>n+k) (by omega) rfl,bs,Int.toNat_natCast,List.take_length,XQ (by simp only [List.length_nil]; unfold BM; omega)]
 ·rfl
 ·intro i q u;have d:=AP (l:=starts) q u;have o:=e (starts.take i.toNat) fun n g=>List.mem_of_mem_take g;have K:(starts.take i.toNat).length<=starts.length:=by rw [d5]; omega
  have N:(starts.take i.toNat).length*B<=20000*20000:=Nat.mul_le_mul (by omega) y;have O:=z _ d;have V:=H _ d;rw [AI q u,bs,G _ d,bs];generalize S:((starts.take i.toNat).flatMap fun n=>(M n).map fun k=>n+k)=P at o ⊢;rw [EF (a:=0) (b:=(M (AB starts i)).length) (s:=P) (fun j=>P++((M (AB starts i)).take j.toNat).map fun k=>AB starts i+k) (by omega) (by simp),bs,Int.toNat_natCast,List.take_length,Hs q u,List.flatMap_append,S]
  ·simp
  ·intro j v w;have T:=I _ d _ (AP (l:=M (AB starts i)) v w);rw [AI v w,bs,BI (by omega) (by omega),B7 (by simp only [d4,d7,d5,d6,List.length_nil]; unfold BM; omega),bs,Hs v w,List.map_append,ea]; rfl
theorem Z6 (x:Int):x∈TJ (starts.flatMap fun n=>(M n).map fun k=>n+k) []↔∃ n∈starts,∃ k∈M n,x=n+k:=by
 rw [(TK _ _).2];simp only [List.mem_flatMap,List.mem_map,List.not_mem_nil,or_false];constructor
 ·rintro ⟨n,d,k,e,rfl⟩; exact ⟨n,d,k,e,rfl⟩
 ·rintro ⟨n,d,k,e,rfl⟩; exact ⟨n,d,k,e,rfl⟩
end Go.Sf.Sc
namespace Go.Sf.Sc
open Go Go.Sf
def Q0 (P:Int->List AH->Prop):Nat->List AH->Prop
 | 0,l=>l=[]
 | n+1,l=>∃ a b,l=a++b∧Q0 P n a∧P n b
variable {P:Int->List AH->Prop} {F:Int->List AH}
theorem S2:∀ n:Nat,(∀ i:Int,0<=i->i<n->P i (F i))->Q0 P n ((BJ n).flatMap F)
 | 0,_=>rfl
 | n+1,h=>⟨(BJ n).flatMap F,F n,by rw [LS,List.flatMap_append,List.flatMap_cons,List.flatMap_nil,List.append_nil],S2 n (fun i d e=>h i d (by omega)),h n (by omega) (by omega)⟩
def FP (t:AC) (h:AT) (inj:Bool):Nat->AA->AF->Ne->Bool->List AH->Prop
 | 0,_,_,_,_,_=>False
 | N+1,c,m,path,good,l=>
  if c.Kind=2 then FP t h inj N (AB c.Kids 0) m (path++[0]) (!good) l else
  if c.Kind=3∨c.Kind=4 then
   if decide (c.Kind=3)=good then Q0 (fun i l=>FP t h inj N (AB c.Kids i) m (path++[i]) good l) c.Kids.length l
   else ∃ i:Int,(0<=i∧i<c.Kids.length)∧EY t h inj (AB c.Kids i) m=good∧FP t h inj N (AB c.Kids i) m (path++[i]) good l
  else if c.Kind=5 then
   if good=false then
    if (BV t c h m inj).1.length=0 then l=[⟨path,3,m.Morphism.Nodes⟩] else
    Q0 (fun i l=>∃ l',l=⟨path,4,(AB (BV t c h m inj).1 i).Morphism.Nodes⟩::l'∧FP t h inj N (AB c.Kids 0) (AB (BV t c h m inj).1 i) (path++[0]) false l') (min (BV t c h m inj).1.length 5) l
   else ∃ i:Int,(0<=i∧i<(BV t c h m inj).1.length)∧EY t h inj (AB c.Kids 0) (AB (BV t c h m inj).1 i)=true ∧
    ∃ l',l=⟨path,2,(AB (BV t c h m inj).1 i).Morphism.Nodes⟩::l'∧if (AB c.Kids 0).Kind=1 then l'=[] else FP t h inj N (AB c.Kids 0) (AB (BV t c h m inj).1 i) (path++[0]) true l'
  else l=[⟨path,1,[]⟩]
theorem XZ {t:AC} {h:AT} {inj:Bool}:∀ (N:Nat) (c:AA) (p:Pattern) (m:AF) (path:Ne) (d:Bool),SizeOf.sizeOf c<=N->CV t p c->EY t h inj c m=d->FP t h inj N c m path d (C8 t h inj N c m path d)
 | 0,c,_,_,_,_,h,_,_=>by have:=DP c; omega
 | N+1,c,p,m,path,d,X,G,n=>by
  have kid:∀ k∈c.Kids,SizeOf.sizeOf k<=N:=fun k g=>by have:=D9 g; omega
  have H:=XZ (t:=t) (h:=h) (inj:=inj) N;rw [WA] at n;rw [FP,C8];by_cases w:c.Kind=2
  ·have O:=G.one (.inl w);have g:=AP (l:=c.Kids) (i:=0) (by omega) (by omega);rw [d1 w,NZ O] at n;rw [d1 w,d1 w];exact H _ p m _ _ (kid _ g) (G.kid (by omega) _ g) (by rw [←n,Bool.not_not])
  rw [d2 w] at n;rw [d2 w,d2 w];by_cases s:c.Kind=3∨c.Kind=4
  ·rw [d1 s,d1 s];by_cases C:decide (c.Kind=3)=d
   ·rw [d1 C,d1 C];refine S2 _ fun i u v=>?_;have g:=AP (l:=c.Kids) u v;refine H _ p m _ _ (kid _ g) (G.kid (by omega) _ g) ?_;by_cases y:c.Kind=3
    ·have q:d=true:=by rw [←C]; simp [y]
     rw [d1 y,q,List.all_eq_true] at n;rw [q]; exact n _ g
    ·have q:d=false:=by rw [←C]; simp [y]
     rw [d2 y,d1 (by omega),q,List.any_eq_false] at n;rw [q]; simpa using n _ g
   ·rw [d2 C,d2 C];have S:∃ k∈c.Kids,EY t h inj k m=d:=by
     by_cases y:c.Kind=3
     ·have q:d=false:=by cases d <;> simp_all
      rw [d1 y,q,List.all_eq_false] at n;obtain ⟨k,g,e⟩:=n;exact ⟨k,g,by rw [q]; simpa using e⟩
     ·have q:d=true:=by cases d <;> simp_all
      rw [d2 y,d1 (by omega),q,List.any_eq_true] at n;obtain ⟨k,g,e⟩:=n;exact ⟨k,g,by rw [q]; exact e⟩
    obtain ⟨k,g,e⟩:=S;obtain ⟨j,T,U,rfl⟩:=ED g;cases I:fst (fun i=>if EY t h inj (AB c.Kids i) m=d then some (C8 t h inj N (AB c.Kids i) m (path++[i]) d) else none) 0 c.Kids.length with
    | none=>
     have:=DA.1 I j T U;rw [d1 e] at this; cases this
    | some r=>
     obtain ⟨i,u,v,k,_⟩:=C1 I;split at k
     ·rename_i o;cases k;have g:=AP (l:=c.Kids) u v;exact ⟨i,⟨u,v⟩,o,H _ p m _ _ (kid _ g) (G.kid (by omega) _ g) o⟩
     ·cases k
  rw [d2 s,d2 s];rw [d2 (by omega),d2 (by omega)] at n;by_cases z:c.Kind=5
  ·have O:=G.one (.inr z);have g:=AP (l:=c.Kids) (i:=0) (by omega) (by omega);have J:=G.kid5 z _ g;rw [d1 z,NZ O] at n;rw [d1 z,d1 z];generalize W:(BV t c h m inj).1=l at n ⊢;cases d
   ·rw [d1 rfl,d1 rfl];by_cases K:l.length=0
    ·rw [d1 K,d1 K]
    ·rw [d2 K,d2 K];rw [List.any_eq_false] at n;refine S2 _ fun i u v=>⟨_,rfl,H _ c.Pattern _ _ _ (kid _ g) J ?_⟩;simpa using n _ (AP (l:=l) u (by omega))
   ·rw [d2 (by decide),d2 (by decide)];rw [List.any_eq_true] at n;obtain ⟨k,V,e⟩:=n;obtain ⟨j,T,U,rfl⟩:=ED V;cases I:fst (fun i=>if EY t h inj (AB c.Kids 0) (AB l i)=true then
     some ((⟨path,2,(AB l i).Morphism.Nodes⟩:AH)::if (AB c.Kids 0).Kind=1 then [] else C8 t h inj N (AB c.Kids 0) (AB l i) (path++[0]) true) else none) 0 l.length with
    | none=>
     have:=DA.1 I j T U;rw [d1 e] at this; cases this
    | some r=>
     obtain ⟨i,u,v,k,_⟩:=C1 I;split at k
     ·rename_i o;cases k;refine ⟨i,⟨u,v⟩,o,_,rfl,?_⟩;split
      ·rfl
      ·exact H _ c.Pattern _ _ _ (kid _ g) J o
     ·cases k
  rw [d2 z,d2 z]
end Go.Sf.Sc
namespace Go.Sf.Sc
open Go Go.Sf
structure Je (l:List AH) (Q:List AH->Prop) (L:Ne):Prop where
 asc:Oi L
 mem:∀ x,x∈L↔(0<=x∧x<=l.length)∧Q (l.take x.toNat)
theorem Sz:∀ {L:Ne} {a b:Int},Oi L->(∀ x∈L,a<=x∧x<=b)->a<=b+1->(L.length:Int)<=b+1 - a
 | [],_,_,_,_,h=>by simp; omega
 | y::L,a,b,h,g,_=>by
  have e:=List.pairwise_cons.1 h;have j:=g y (by simp);have:=Sz (a:=y+1) (b:=b) e.2 (fun x d=>⟨by have:=e.1 x d; omega,(g x (List.mem_cons_of_mem _ d)).2⟩) (by omega);rw [d6];omega
variable {l:List AH} {Q:List AH->Prop} {L:Ne}
theorem Je.len (h:Je l Q L):L.length<=l.length+1:=by
 have:=Sz (a:=0) (b:=l.length) h.asc (fun x d=>((h.mem x).1 d).1) (by omega);omega
variable {P:Int->List AH->Prop}
theorem aO:Je l (Q0 P 0) [0]:=by
 refine ⟨List.pairwise_singleton _ _,fun x=>?_⟩;rw [List.mem_singleton];constructor
 ·rintro rfl; exact ⟨by omega,rfl⟩
 ·rintro ⟨⟨e,g⟩,d⟩;have d:l.take x.toNat=[]:=d;have:=congrArg List.length d;rw [d5,List.length_nil] at this;omega
end Go.Sf.Sc
namespace Go.Sf.Sc
open Go Go.Sf
variable {l:List AH}
theorem Qj {P Q:List AH->Prop} {a x:Nat} (g:a<=x) (j:x<=l.length):(∃ u v,(l.drop a).take (x - a)=u++v∧P u∧Q v)↔∃ b,a<=b∧b<=x∧P ((l.drop a).take (b - a))∧Q ((l.drop b).take (x - b)):=by
 constructor
 ·rintro ⟨u,v,e,d,hv⟩;have n:u.length+v.length=x - a:=by
   have:=congrArg List.length e;rw [d5,List.length_drop,d4] at this; omega
  refine ⟨a+u.length,by omega,by omega,?_,?_⟩
  ·have:=congrArg (List.take u.length) e;rw [List.take_take,List.take_left,show min u.length (x - a)=u.length by omega] at this;rw [show a+u.length - a=u.length by omega,this]; exact d
  ·have:=congrArg (List.drop u.length) e;rw [List.drop_take,List.drop_left,List.drop_drop] at this;rw [show x - (a+u.length)=x - a - u.length by omega,this]; exact hv
 ·rintro ⟨b,o,q,d,hv⟩;refine ⟨_,_,?_,d,hv⟩;rw [show l.drop b=(l.drop a).drop (b - a) by rw [List.drop_drop]; congr 1; omega,show x - a=(b - a)+(x - b) by omega,List.take_add]
structure Z0 (l:List AH) (A:Ne):Prop where
 asc:Oi A
 rng:∀ a∈A,0<=a∧a<=l.length
structure Kx (l:List AH) (A:Ne) (Q:List AH->Prop) (E:Ne):Prop where
 asc:Oi E
 mem:∀ x,x∈E↔∃ a∈A,a<=x∧x<=l.length∧Q ((l.drop a.toNat).take (x - a).toNat)
variable {A:Ne}
theorem Z0.len (h:Z0 l A):A.length<=l.length+1:=by
 have:=Sz (a:=0) (b:=l.length) h.asc h.rng (by omega);omega
variable {E:Ne} {Q R:List AH->Prop}
theorem Kx.congr (h:Kx l A Q E) (j:∀ y,Q y↔R y):Kx l A R E:=
 ⟨h.asc,fun x=>(h.mem x).trans ⟨fun ⟨a,d,e,g,k⟩=>⟨a,d,e,g,(j _).1 k⟩,fun ⟨a,d,e,g,k⟩=>⟨a,d,e,g,(j _).2 k⟩⟩⟩
variable {B:Ne}
theorem Kx.seq (j:Z0 l A) (n:Kx l A Q B) (e:Kx l B R E):Kx l A (fun y=>∃ u v,y=u++v∧Q u∧R v) E:=by
 refine ⟨e.asc,fun x=>⟨fun s=>?_,?_⟩⟩
 ·obtain ⟨b,w,z,o,C⟩:=(e.mem x).1 s;obtain ⟨a,d,G,q,g⟩:=(n.mem b).1 w;have:=j.rng a d;refine ⟨a,d,by omega,o,?_⟩;rw [show (x - a).toNat=x.toNat - a.toNat by omega];exact (Qj (P:=Q) (Q:=R) (by omega) (by omega)).2 ⟨b.toNat,by omega,by omega,by rwa [show b.toNat - a.toNat=(b - a).toNat by omega],by rwa [show x.toNat - b.toNat=(x - b).toNat by omega]⟩
 ·rintro ⟨a,d,G,q,g⟩;have:=j.rng a d;rw [show (x - a).toNat=x.toNat - a.toNat by omega] at g;obtain ⟨b,z,o,C,H⟩:=(Qj (P:=Q) (Q:=R) (by omega) (by omega)).1 g;refine (e.mem x).2 ⟨(b:Int),(n.mem b).2 ⟨a,d,by omega,by omega,by rwa [show ((b:Int) - a).toNat=b - a.toNat by omega]⟩,by omega,q,?_⟩;rw [show (x - (b:Int)).toNat=x.toNat - b by omega]; simpa using H
variable {D:Ne}
theorem Kx.or (n:Kx l A Q B) (o:Kx l A R D) (q:Oi E) (s:∀ x,x∈E↔x∈B∨x∈D):Kx l A (fun y=>Q y∨R y) E:=by
 refine ⟨q,fun x=>(s x).trans ?_⟩;rw [n.mem,o.mem];constructor
 ·rintro (⟨a,e,g,j,d⟩ | ⟨a,e,g,j,d⟩)
  ·exact ⟨a,e,g,j,.inl d⟩
  ·exact ⟨a,e,g,j,.inr d⟩
 ·rintro ⟨a,e,g,j,d | d⟩
  ·exact .inl ⟨a,e,g,j,d⟩
  ·exact .inr ⟨a,e,g,j,d⟩
def JQ:Ne->Ne->Ne
 | [],b=>b
 | x::a,[]=>x::a
 | x::a,y::b=>if x<y then x::JQ a (y::b) else if x=y then y::JQ a b else y::JQ (x::a) b
termination_by a b=>a.length+b.length
theorem LE:∀ (n:Nat) (a b:Ne),a.length+b.length<=n->∀ x,x∈JQ a b↔x∈a∨x∈b
 | _,[],b,_,x=>by rw [JQ]; simp
 | _,z::a,[],_,x=>by rw [JQ]; simp
 | 0,z::a,y::b,h,x=>by simp at h
 | n+1,z::a,y::b,h,x=>by
  simp only [d6] at h;rw [JQ];split
  ·rw [List.mem_cons,LE n a (y::b) (by simp only [d6]; omega),List.mem_cons (l:=a),or_assoc]
  ·split
   ·rename_i e;rw [List.mem_cons,LE n a b (by omega),List.mem_cons,List.mem_cons,e];constructor
    ·rintro (k | k | k) <;> simp [k]
    ·rintro ((k | k) | (k | k)) <;> simp [k]
   ·rw [List.mem_cons,LE n (z::a) b (by simp only [d6]; omega),List.mem_cons (l:=b)];constructor
    ·rintro (k | k | k) <;> simp [k]
    ·rintro (k | k | k) <;> simp [k]
theorem PP:∀ (n:Nat) (a b:Ne),a.length+b.length<=n->Oi a->Oi b->Oi (JQ a b)
 | _,[],b,_,_,j=>by rw [JQ]; exact j
 | _,z::a,[],_,o,_=>by rw [JQ]; exact o
 | 0,z::a,y::b,h,_,_=>by simp at h
 | n+1,z::a,y::b,h,o,j=>by
  simp only [d6] at h;have d:=List.pairwise_cons.1 o;have e:=List.pairwise_cons.1 j;rw [JQ];split
  ·refine List.pairwise_cons.2 ⟨fun x g=>?_,PP n a (y::b) (by simp only [d6]; omega) d.2 j⟩;rcases (LE _ _ _ (d3 _) x).1 g with k | k
   ·exact d.1 x k
   ·rcases List.mem_cons.1 k with k | k
    ·omega
    ·have:=e.1 x k; omega
  ·split
   ·refine List.pairwise_cons.2 ⟨fun x g=>?_,PP n a b (by omega) d.2 e.2⟩;rcases (LE _ _ _ (d3 _) x).1 g with k | k
    ·have:=d.1 x k; omega
    ·exact e.1 x k
   ·refine List.pairwise_cons.2 ⟨fun x g=>?_,PP n (z::a) b (by simp only [d6]; omega) o e.2⟩;rcases (LE _ _ _ (d3 _) x).1 g with k | k
    ·rcases List.mem_cons.1 k with k | k
     ·omega
     ·have:=d.1 x k; omega
    ·exact e.1 x k
theorem Kx.join (d:Kx l A Q B) (e:Kx l A R D):Kx l A (fun y=>Q y∨R y) (JQ B D):=
 d.or e (PP _ _ _ (d3 _) d.asc e.asc) (LE _ _ _ (d3 _))
end Go.Sf.Sc
namespace Go.Sf.Sc
open Go Go.Sf
theorem XR (n:Nat):Oi (BJ n):=by
 unfold Oi BJ;rw [List.pairwise_map];exact List.Pairwise.imp (fun h=>Int.ofNat_lt.2 h) List.pairwise_lt_range
noncomputable def IX (Q:List AH->Prop) (l:List AH):Ne:=(BJ (l.length+1)).filter fun x=>@decide (Q (l.take x.toNat)) (Classical.propDecidable _)
theorem E4 (Q:List AH->Prop) (l:List AH):Je l Q (IX Q l):=by
 refine ⟨List.Pairwise.filter _ (XR _),fun x=>?_⟩;unfold IX;rw [List.mem_filter,Hu,@zzX _ (Classical.propDecidable _)];constructor
 ·rintro ⟨e,d⟩; exact ⟨by omega,d⟩
 ·rintro ⟨e,d⟩; exact ⟨by omega,d⟩
variable {l:List AH} {Q:List AH->Prop} {L:Ne}
theorem Je.eq (h:Je l Q L):L=IX Q l:=
 S0 h.asc (E4 Q l).asc fun x=>(h.mem x).trans ((E4 Q l).mem x).symm
variable {R:List AH->Prop}
theorem Je.congr (h:Je l Q L) (e:∀ y,Q y↔R y):Je l R L:=
 ⟨h.asc,fun x=>(h.mem x).trans ⟨fun ⟨a,b⟩=>⟨a,(e _).1 b⟩,fun ⟨a,b⟩=>⟨a,(e _).2 b⟩⟩⟩
theorem EU (l:List AH) (e:∀ y,Q y↔R y):IX Q l=IX R l:=((E4 Q l).congr e).eq
variable {M:Int->Ne}
theorem cZ {S:Ne} (e:Je l Q S) (g:∀ n∈S,Je (l.drop n.toNat) R (M n)):Je l (fun y=>∃ u v,y=u++v∧Q u∧R v) (TJ (S.flatMap fun n=>(M n).map fun k=>n+k) []):=by
 refine ⟨(TK _ _).1,fun x=>?_⟩;rw [Z6];have j:=fun (h:x.toNat<=l.length)=>Qj (P:=Q) (Q:=R) (l:=l) (a:=0) (x:=x.toNat) (by omega) h;constructor
 ·rintro ⟨n,d,k,z,rfl⟩;obtain ⟨⟨G,H⟩,o⟩:=(e.mem n).1 d;obtain ⟨⟨I,q⟩,J⟩:=((g n d).mem k).1 z;rw [List.length_drop] at q;refine ⟨by omega,?_⟩;have:=(j (by omega)).2 ⟨n.toNat,by omega,by omega,by simpa using o,by rwa [show (n+k).toNat - n.toNat=k.toNat by omega]⟩;simpa using this
 ·rintro ⟨⟨O,T⟩,C⟩;obtain ⟨n,K,N,s,w⟩:=(j (by omega)).1 (by simpa using C);have d:(n:Int)∈S:=(e.mem n).2 ⟨by omega,by simpa using s⟩;exact ⟨n,d,x - n,((g n d).mem _).2 ⟨by rw [List.length_drop]; simp; omega,by rw [show (x - (n:Int)).toNat=x.toNat - n by omega]; simpa using w⟩,by omega⟩
variable {more:Int->Option Ne}
theorem OR (j:l.length<=12000) (h:∀ n∈IX Q l,more n=some (IX R (l.drop n.toNat))):EM (IX Q l) more=some (IX (fun y=>∃ u v,y=u++v∧Q u∧R v) l):=by
 have d:=E4 Q l;rw [bz (M:=fun n=>IX R (l.drop n.toNat)) (B:=12001) (by omega) (by have:=d.len; omega) h (fun n _=>by have:=(E4 R (l.drop n.toNat)).len; rw [List.length_drop] at this; omega)
  (fun n e=>by have:=((d.mem n).1 e).1; omega) (fun n _ k g=>by have:=(((E4 R (l.drop n.toNat)).mem k).1 g).1; rw [List.length_drop] at this; omega)]
 rw [(cZ d fun n _=>E4 R (l.drop n.toNat)).eq]
theorem S9 (l:List AH) (r:AH):Je l (fun y=>y=[r]) (if NT l r=true then [1] else []):=by
 unfold NT;cases l with
 | nil=>
  rw [d2 (by simp)];refine ⟨List.Pairwise.nil,fun x=>⟨fun h=>by simp at h,fun ⟨_,h⟩=>by simp at h⟩⟩
 | cons z l=>
  by_cases e:z=r
  ·rw [d1 (by simp [e])];refine ⟨List.pairwise_singleton _ _,fun x=>?_⟩;rw [List.mem_singleton];constructor
   ·rintro rfl; exact ⟨by rw [d6]; omega,by simp [e]⟩
   ·rintro ⟨⟨j,g⟩,d⟩;rw [d6] at g;have:=congrArg List.length d;rw [d5,d6,d6,List.length_nil] at this;omega
  ·rw [d2 (by simp [e])];refine ⟨List.Pairwise.nil,fun x=>⟨fun h=>by simp at h,fun ⟨⟨j,g⟩,d⟩=>?_⟩⟩;exfalso;rw [d6] at g;have n:=congrArg List.length d;rw [d5,d6,d6,List.length_nil] at n;rw [show x.toNat=1 by omega,List.take_succ_cons,List.take_zero] at d;exact e (List.cons.inj d).1
variable {r:AH}
theorem YL (h:¬ NT l r=true) (g:∀ y,Q y->∃ v,y=r::v):Je l Q []:=by
 refine ⟨List.Pairwise.nil,fun x=>⟨fun k=>by simp at k,fun ⟨_,k⟩=>?_⟩⟩;exfalso;obtain ⟨v,e⟩:=g _ k;apply h;unfold NT;cases l with
 | nil=>simp at e
 | cons z l=>
  cases d:x.toNat with
  | zero=>rw [d] at e; simp at e
  | succ k=>
   rw [d,List.take_succ_cons] at e;simp [(List.cons.inj e).1]
variable {A B:Ne}
theorem fe (d:Je l Q A) (e:Je l R B):Je l (fun y=>Q y∨R y) (TJ A B):=by
 obtain ⟨g,j⟩:=TK A B;refine ⟨g,fun x=>(j x).trans ?_⟩;rw [d.mem,e.mem];constructor
 ·rintro (⟨a,b⟩ | ⟨a,b⟩)
  ·exact ⟨a,.inl b⟩
  ·exact ⟨a,.inr b⟩
 ·rintro ⟨a,b | b⟩
  ·exact .inl ⟨a,b⟩
  ·exact .inr ⟨a,b⟩
theorem TA (d:Je l Q A) (e:Je l R []):Je l (fun y=>Q y∨R y) A:=by
 refine ⟨d.asc,fun x=>(d.mem x).trans ⟨fun ⟨a,b⟩=>⟨a,.inl b⟩,fun ⟨a,b⟩=>?_⟩⟩;rcases b with b | b
 ·exact ⟨a,b⟩
 ·have:=(e.mem x).2 ⟨a,b⟩; simp at this
theorem QY (h:∀ y,¬ Q y):Je l Q []:=
 ⟨List.Pairwise.nil,fun x=>⟨fun k=>by simp at k,fun ⟨_,k⟩=>absurd k (h _)⟩⟩
def RI (R:Int->List AH->Prop) (i:Int) (y:List AH):Prop:=∃ j,(0<=j∧j<i)∧R j y
variable {i:Int}
theorem Um {R:Int->List AH->Prop} (h:0<=i) (y:List AH):(RI R i y∨R i y)↔RI R (i+1) y:=by
 unfold RI;constructor
 ·rintro (⟨j,⟨a,b⟩,k⟩ | k)
  ·exact ⟨j,⟨a,by omega⟩,k⟩
  ·exact ⟨i,⟨h,by omega⟩,k⟩
 ·rintro ⟨j,⟨a,b⟩,k⟩;by_cases e:j=i
  ·subst e; exact .inr k
  ·exact .inl ⟨j,⟨a,by omega⟩,k⟩
theorem Un {R:Int->List AH->Prop} (l:List AH):IX (RI R 0) l=[]:=(QY fun y ⟨j,⟨a,b⟩,_⟩=>by omega).eq.symm
theorem V3 (P:Int->List AH->Prop) (l:List AH):IX (Q0 P 0) l=[0]:=aO.eq.symm
theorem WY (Q:List AH->Prop) (l:List AH):(IX Q l).length<=l.length+1:=(E4 Q l).len
theorem Qy (d:l.length<=12000) (Q R:List AH->Prop):GQ (IX Q l) (IX R l)=some (IX (fun y=>Q y∨R y) l):=by
 have e:=WY Q l;have g:=WY R l;rw [XQ (by unfold BM; omega),(fe (E4 Q l) (E4 R l)).eq]
theorem Oz (h:NT l r=true):[(1:Int)]=IX (fun y=>y=[r]) l:=by
 have:=S9 l r;rw [d1 h] at this;exact this.eq
end Go.Sf.Sc
namespace Go.Sf.Sc
open Go Go.Sf
theorem ic (l:Ne) (v:Int):slices_Contains_int l v=some (cO l v):=TZ l v
variable {i:Int}
theorem VE (h:0<=i):(i+1).toNat=i.toNat+1:=by omega
theorem YC {s:AG} (hf:BY s.t) (hv:(BE s.t).2=0) (X:GF s.t s.h) (n1:s.h.Graph.Nodes.length<=14) (n2:s.h.Graph.Edges.length<=18):∀ (N:Nat) (l:List AH) (c:AA) (p:Pattern) (m:AF) (path:Ne) (d:Bool),l.length<=12000->SizeOf.sizeOf c<=N->CV s.t p c->CG s.t p c->Mh s.t p s.h m->path.length+cnt c<=1000->∀ n,4*N<=n->AZ n s l c m path d=some (IX (FP s.t s.h s.injective N c m path d) l)
 | 0,_,c,_,_,_,_,_,h,_,_,_,_,_,_=>by have:=DP c; omega
 | N+1,l,c,p,m,path,d,U,h,S,Y,Z,hp,n,hn=>by
  obtain ⟨n,rfl⟩:∃ k,n=k+4:=⟨n - 4,by omega⟩;have he:=Jy c;have hrng:=S.rng;have kid:∀ k∈c.Kids,SizeOf.sizeOf k<=N∧cnt k<=cnt c - 1:=fun k q=>by have:=D9 q; have:=K9 q; omega
  have ih:=YC (s:=s) hf hv X n1 n2 N;rw [AZ];by_cases T:c.Kind=2
  ·have h1:=S.one (.inl T);have q:=AP (l:=c.Kids) (i:=0) (by omega) (by omega);have I:=kid _ q;rw [d1 (by simpa using T),AI (by omega) (by omega),bs,Jf (by omega),bs,
    ih l _ p m _ _ U I.1 (S.kid (by omega) _ q) (Y.kid (by omega) _ q) Z (by simp; omega) (n+3) (by omega),bs]
   congr 1;refine EU l fun y=>?_;rw [FP,d1 T]
  rw [d2 (by simpa using T)];by_cases z:c.Kind=5
  ·have hi:=S.ins z;have h1:=S.one (.inr z);have e0:=N0 (inj:=s.injective) hv X Z hi (Y.ex z).2 n1 n2;obtain ⟨e1,e2⟩:=NW hv X Z hi e0;have q:=AP (l:=c.Kids) (i:=0) (by omega) (by omega);have I:=kid _ q;have i0:AM c.Kids 0=some (AB c.Kids 0):=AI (by omega) (by omega);rw [d1 (by simpa using z),BL,WD hf hv X Z hi e0,bs,i0,bs];have O:∀ y,FP s.t s.h s.injective (N+1) c m path d y↔(if d=false then
    if (BV s.t c s.h m s.injective).1.length=0 then y=[⟨path,3,m.Morphism.Nodes⟩] else
    Q0 (fun i l=>∃ j,l=⟨path,4,(AB (BV s.t c s.h m s.injective).1 i).Morphism.Nodes⟩::j∧FP s.t s.h s.injective N (AB c.Kids 0) (AB (BV s.t c s.h m s.injective).1 i) (path++[0]) false j) (min (BV s.t c s.h m s.injective).1.length 5) y
   else RI (fun i y=>EY s.t s.h s.injective (AB c.Kids 0) (AB (BV s.t c s.h m s.injective).1 i)=true ∧
    ∃ j,y=⟨path,2,(AB (BV s.t c s.h m s.injective).1 i).Morphism.Nodes⟩::j∧if (AB c.Kids 0).Kind=1 then j=[] else FP s.t s.h s.injective N (AB c.Kids 0) (AB (BV s.t c s.h m s.injective).1 i) (path++[0]) true j) ((BV s.t c s.h m s.injective).1.length:Int) y):=fun y=>by
    rw [FP,d2 T,d2 (by omega),d1 z]; rfl
   generalize (BV s.t c s.h m s.injective).1=E at e1 e2 O ⊢;have J:∀ (j:List AH) (i:Int) (g:Bool),j.length<=12000->0<=i->i<E.length->∀ n,4*N<=n->AZ n s j (AB c.Kids 0) (AB E i) (path++[0]) g=some (IX (FP s.t s.h s.injective N (AB c.Kids 0) (AB E i) (path++[0]) g) j):=fun j i g V i0 i1 n hn=>
    ih j _ c.Pattern _ _ _ V I.1 (S.kid5 z _ q) (Y.kid5 z _ q) (e2 _ (AP i0 i1)) (by simp; omega) n hn
   cases d
   ·by_cases hz:E.length=0
    ·have hY:=fun y=>(O y).trans (by rw [d1 rfl,d1 hz]);rw [EU l hY,d1 (by simp [hz]),PG,bs,←(S9 l ⟨path,3,m.Morphism.Nodes⟩).eq];cases NT l ⟨path,3,m.Morphism.Nodes⟩ <;> rfl
    ·have hz':¬ ((!false)&&decide ((E.length:Int)=0))=true:=by
      rw [zzZ,zzX]; omega
     have hY:=fun y=>(O y).trans (by rw [d1 rfl,d2 hz]);rw [EU l hY,d2 hz',d1 (show (!false)=true from rfl),MS (by omega) (by omega),bs];have hT:((E.take (min (E.length:Int) 5).toNat).length:Int)=((min E.length 5:Nat):Int):=by rw [d5]; omega
     rw [hT];rw [EF (a:=0) (b:=((min E.length 5:Nat):Int)) (s:=[0]) (fun i=>IX (Q0 (fun i l=>∃ j,l=(⟨path,4,(AB E i).Morphism.Nodes⟩:AH)::j∧FP s.t s.h s.injective N (AB c.Kids 0) (AB E i) (path++[0]) false j) i.toNat) l) (by omega) (V3 _ l),bs,Int.toNat_natCast,bs];intro i w K;rw [AI w (by omega),bs,X3 (by omega),VE w];rw [OR U (R:=fun l=>∃ j,l=(⟨path,4,(AB E i).Morphism.Nodes⟩:AH)::j∧FP s.t s.h s.injective N (AB c.Kids 0) (AB E i) (path++[0]) false j),bs]
     ·congr 1
      all_goals (refine EU l fun y=>?_; rw [Q0,show ((i.toNat:Nat):Int)=i by omega])
     ·intro a W;have hr:=(((E4 _ l).mem a).1 W).1;rw [BC,Qs (by omega) (by omega),bs,PG,bs];have hdl:(l.drop a.toNat).length<=12000:=by rw [List.length_drop]; omega
      by_cases o:NT (l.drop a.toNat) ⟨path,4,(AB E i).Morphism.Nodes⟩=true
      ·rw [d2 (by simp [o]),Oz o,OR hdl (R:=FP s.t s.h s.injective N (AB c.Kids 0) (AB E i) (path++[0]) false),bs]
       ·congr 1;refine EU _ fun y=>?_;constructor
        ·rintro ⟨u,v,e,rfl,k⟩; exact ⟨v,e,k⟩
        ·rintro ⟨v,e,k⟩; exact ⟨_,v,e,rfl,k⟩
       ·intro b H;rw [←Oz o,List.mem_singleton] at H;subst H;have h3:1<=(l.drop a.toNat).length:=by
         cases C:l.drop a.toNat with
         | nil=>rw [C] at o; simp [NT] at o
         | cons _ _=>simp
        rw [List.length_drop] at h3;rw [A6,BI (by omega) (by omega),Qs (by omega) (by omega),bs,Jf (by omega),bs,J _ i false (by rw [List.length_drop]; omega) w (by omega) _ (by omega),bs,List.drop_drop,show (a+1).toNat=a.toNat+(1:Int).toNat by omega]
      ·rw [d1 (by simpa using o)];exact congrArg some (YL o (Q:=fun l=>∃ j,l=(⟨path,4,(AB E i).Morphism.Nodes⟩:AH)::j∧FP s.t s.h s.injective N (AB c.Kids 0) (AB E i) (path++[0]) false j) fun y ⟨v,e,_⟩=>⟨v,e⟩).eq
   ·have hY:=fun y=>(O y).trans (by rw [d2 (by simp)]);rw [EU l hY,d2 (by simp),d2 (by simp)];rw [EF (a:=0) (b:=(E.length:Int)) (s:=[]) (fun i=>IX (RI (fun i y=>EY s.t s.h s.injective (AB c.Kids 0) (AB E i)=true ∧
     ∃ j,y=(⟨path,2,(AB E i).Morphism.Nodes⟩:AH)::j∧if (AB c.Kids 0).Kind=1 then j=[] else FP s.t s.h s.injective N (AB c.Kids 0) (AB E i) (path++[0]) true j) i) l) (by omega) (Un l),bs,bs]
    intro i w K;rw [AI w K,bs,PG,bs,←EU l (Um w)];by_cases o:NT l ⟨path,2,(AB E i).Morphism.Nodes⟩=true
    ·rw [d2 (by simp [o]),e_holds hf hv X n1 n2 (S.kid5 z _ q) (Y.kid5 z _ q) (e2 _ (AP w K)),bs,bs];by_cases C:EY s.t s.h s.injective (AB c.Kids 0) (AB E i)=true
     ·rw [d2 (by simp [C])];by_cases G:(AB c.Kids 0).Kind=1
      ·rw [d1 (by simpa using G),Oz o,Qy U,bs];congr 1;refine EU l fun y=>?_;refine or_congr Iff.rfl ?_;constructor
       ·intro e; exact ⟨C,[],e,by rw [d1 G]⟩
       ·rintro ⟨_,v,e,k⟩;rw [d1 G] at k;rw [e,k]
      ·rw [d2 (by simpa using G),Oz o,OR U (R:=FP s.t s.h s.injective N (AB c.Kids 0) (AB E i) (path++[0]) true),bs,Qy U,bs]
       ·congr 1;refine EU l fun y=>?_;refine or_congr Iff.rfl ?_;constructor
        ·rintro ⟨u,v,e,rfl,k⟩; exact ⟨C,v,e,by rw [d2 G]; exact k⟩
        ·rintro ⟨_,v,e,k⟩;rw [d2 G] at k;exact ⟨_,v,e,rfl,k⟩
       ·intro b H;rw [←Oz o,List.mem_singleton] at H;subst H;have h3:1<=l.length:=by
         cases C:l with
         | nil=>rw [C] at o; simp [NT] at o
         | cons _ _=>simp
        rw [BD,Qs (by omega) (by omega),bs,Jf (by omega),bs,J _ i true (by rw [List.length_drop]; omega) w (by omega) _ (by omega),bs]
     ·rw [d1 (by simpa using C)];exact congrArg some (TA (E4 _ l) (QY fun y k=>C k.1)).eq
    ·rw [d1 (by simpa using o),bs,d1 rfl];exact congrArg some (TA (E4 _ l) (YL o fun y k=>by obtain ⟨_,v,e,_⟩:=k; exact ⟨v,e⟩)).eq
  rw [d2 (by simpa using z)];by_cases h1:c.Kind=1
  ·have O:∀ y,FP s.t s.h s.injective (N+1) c m path d y↔y=[⟨path,1,[]⟩]:=fun y=>by
    rw [FP,d2 T,d2 (by omega),d2 z]
   rw [d1 (by simpa using h1),PG,bs,EU l O,←(S9 l ⟨path,1,[]⟩).eq];cases NT l ⟨path,1,[]⟩ <;> rfl
  have h34:c.Kind=3∨c.Kind=4:=by omega
  rw [d2 (by simpa using h1)];have J:∀ (j:List AH) (i:Int),j.length<=12000->0<=i->i<c.Kids.length->∀ n,4*N<=n->AZ n s j (AB c.Kids i) m (path++[i]) d=some (IX (FP s.t s.h s.injective N (AB c.Kids i) m (path++[i]) d) j):=fun j i V i0 i1 n hn=>by
   have q:=AP (l:=c.Kids) i0 i1;have I:=kid _ q;exact ih j _ p m _ _ V I.1 (S.kid z _ q) (Y.kid z _ q) Z (by simp; omega) n hn
  by_cases o:decide (c.Kind=3)=d
  ·have O:∀ y,FP s.t s.h s.injective (N+1) c m path d y↔Q0 (fun i l=>FP s.t s.h s.injective N (AB c.Kids i) m (path++[i]) d l) c.Kids.length y:=fun y=>by
    rw [FP,d2 T,d1 h34,d1 o]
   rw [d1 (by simp [o]),EU l O];rw [EF (a:=0) (b:=(c.Kids.length:Int)) (s:=[0]) (fun i=>IX (Q0 (fun i l=>FP s.t s.h s.injective N (AB c.Kids i) m (path++[i]) d l) i.toNat) l) (by omega) (V3 _ l),bs,Int.toNat_natCast];intro i w K;rw [AI w K,bs,VE w,OR U (R:=FP s.t s.h s.injective N (AB c.Kids i) m (path++[i]) d),bs]
   ·congr 1
    all_goals (refine EU l fun y=>?_; rw [Q0,show ((i.toNat:Nat):Int)=i by omega])
   ·intro a W;have hr:=(((E4 _ l).mem a).1 W).1;rw [BG,Qs (by omega) (by omega),bs,Jf (by omega),bs,J _ i (by rw [List.length_drop]; omega) w K _ (by omega),bs]
  ·have O:∀ y,FP s.t s.h s.injective (N+1) c m path d y↔RI (fun i y=>EY s.t s.h s.injective (AB c.Kids i) m=d∧FP s.t s.h s.injective N (AB c.Kids i) m (path++[i]) d y) (c.Kids.length:Int) y:=fun y=>by
    rw [FP,d2 T,d1 h34,d2 o]; rfl
   rw [d2 (by simp [o]),EU l O];rw [EF (a:=0) (b:=(c.Kids.length:Int)) (s:=[]) (fun i=>IX (RI (fun i y=>EY s.t s.h s.injective (AB c.Kids i) m=d∧FP s.t s.h s.injective N (AB c.Kids i) m (path++[i]) d y) i) l) (by omega) (Un l),bs];intro i w K;have q:=AP (l:=c.Kids) w K;rw [AI w K,bs,e_holds hf hv X n1 n2 (S.kid z _ q) (Y.kid z _ q) Z,bs,←EU l (Um w)];by_cases C:EY s.t s.h s.injective (AB c.Kids i) m=d
   ·rw [d1 (by simp [C]),Jf (by omega),bs,J l i U w K _ (by omega),bs,Qy U,bs];congr 1;refine EU l fun y=>or_congr Iff.rfl ⟨fun k=>⟨C,k⟩,fun k=>k.2⟩
   ·rw [d2 (by simp [C])];exact congrArg some (TA (E4 _ l) (QY fun y k=>C k.1)).eq
noncomputable def cE (t:AC) (p:Pattern) (c:AA) (h:AT) (m:AF) (inj:Bool) (l:List AH):Bool:=
 decide ((Ij t p c h m inj).2=0)&&!(Ij t p c h m inj).1&&@decide (FP t h inj (SizeOf.sizeOf c) c m [] false l) (Classical.propDecidable _)
variable {t:AC} {p:Pattern} {c:AA} {h:AT} {m:AF} {l:List AH}
theorem aW (g:BY t) (q:EE c) (u:cnt c<=40) {inj:Bool} (v:E0 t p c h=some true) (w:l.length<=12000):GO t p c h m inj l=some (cE t p c h m inj l):=by
 unfold GO cE;rw [Sr g p q u,bs];by_cases e:(Ij t p c h m inj).2=0
 ·by_cases d:(Ij t p c h m inj).1=true
  ·rw [d2 (by simp [d])]; simp [d]
  ·obtain ⟨hv,y,o,z,C,G,H,I⟩:=Pc g q u v e;rw [d1 (by simp [e,d]),show FX ⟨t,h,inj⟩ l c m [] false=some (IX (FP t h inj (SizeOf.sizeOf c) c m [] false) l) from E9 (4*SizeOf.sizeOf c) fun n j=>YC (s:=⟨t,h,inj⟩) g hv y H I _ l c p m [] false w (d3 _) o z C (by simp; omega) n j,bs,ic,bs,bs];congr 1;rw [Bool.eq_iff_iff];simp only [e,d,decide_true,Bool.not_false,Bool.and_self,Bool.true_and,Bool.not_eq_true,@zzX _ (Classical.propDecidable _)];rw [cP,(E4 _ l).mem];constructor
   ·rintro ⟨_,k⟩; simpa using k
   ·intro k; exact ⟨⟨by omega,by omega⟩,by simpa using k⟩
 ·rw [d2 (by simp [e])]; simp [e]
end Go.Sf.Sc
namespace Go.Sf.Sc
open Go Go.Sf
noncomputable def cH (Q:List AH->Prop) (l:List AH) (A:Ne):Ne:=(BJ (l.length+1)).filter fun x=>@decide (∃ a∈A,a<=x∧x<=l.length∧Q ((l.drop a.toNat).take (x - a).toNat)) (Classical.propDecidable _)
variable {l:List AH} {A:Ne}
theorem Us (g:Z0 l A) (Q:List AH->Prop):Kx l A Q (cH Q l A):=by
 refine ⟨List.Pairwise.filter _ (XR _),fun x=>?_⟩;unfold cH;rw [List.mem_filter,Hu,@zzX _ (Classical.propDecidable _)];constructor
 ·rintro ⟨_,d⟩; exact d
 ·rintro ⟨a,e,j,d,n⟩;have:=g.rng a e;exact ⟨by omega,a,e,j,d,n⟩
variable {E:Ne} {Q:List AH->Prop}
theorem Kx.eq (d:Z0 l A) (h:Kx l A Q E):E=cH Q l A:=
 S0 h.asc (Us d Q).asc fun x=>(h.mem x).trans ((Us d Q).mem x).symm
end Go.Sf.Sc
namespace Go.Sf.Sc
open Go Go.Sf
variable {t:AC} {p:Pattern} {c:AA} {h:AT} {m:AF}
theorem kD {inj:Bool} (d:NL t p c h m inj=0) (e:CV t p c) (g:CG t p c) (j:Mh t p h m) (hv:(BE t).2=0) (n:GF t h) (o:h.Graph.Nodes.length<=14) (q:h.Graph.Edges.length<=18):Ij t p c h m inj=(EY t h inj c m,0):=by
 have s:=Ug (inj:=inj) hv n o q _ c p m (d3 _) e g j;unfold Ij wS;simp only [d,ne_eq,not_true_eq_false,if_false,s];cases EY t h inj c m <;> rfl
end Go.Sf.Sc
namespace Go.Sf.Sc
open Go Go.Sf
variable {t:AC} {p:Pattern} {c:AA}
theorem cG (g:cnt c<=1000) (e:H3 t p c=0):cnt c<=12∧KF c<=3∧Pd (SizeOf.sizeOf c) c=true:=by
 obtain ⟨w,m1,d⟩:=XG (RU e).2.1;rw [Wd g] at m1 d;simp only at m1 d;exact ⟨by omega,by omega,w⟩
variable {h:AT} {m:AF} {path:Ne}
theorem gv (j:cnt c<=40) (e:H3 t p c=0) {inj:Bool} {N:Nat} {d:Bool} (g:CV t p c):(C8 t h inj N c m path d).length<=12000:=by
 obtain ⟨a,b,_⟩:=cG (by omega) e;refine Nat.le_trans (Xa N c p m path d g) (Nat.le_trans (RS a b) ?_);decide
theorem RE (t:AC) (x:H8) (y:KO) (st:(AV t).Sm) (u:(H5 x).Sm) (_:(LA y).Sm):Ig t x y=some true:=by
 obtain ⟨b,e,f⟩:=aw y st u;unfold Ig;rw [b8,bs,d2 (by decide),e];cases b
 ·rfl
 obtain ⟨o,q,n,s⟩:=f rfl;simp only [bs,Bool.not_true,Bool.false_eq_true,if_false];rw [aX o q n s,aj o q n s];simp only [bs];rw [cu,bs,d2 (by simp)];by_cases g:(PI t x.P x.C y.H y.M y.Injective).2=0
 ·rw [d2 (by simp [g])];have d:(Ij t x.P x.C y.H y.M y.Injective).2=0∧¬ (Ij t x.P x.C y.H y.M y.Injective).1=true:=by
   unfold PI at g;split at g
   ·rename_i k; exact absurd g k
   ·rename_i k;split at g
    ·cases g
    ·rename_i v; exact ⟨Classical.not_not.1 k,v⟩
  have w:(PI t x.P x.C y.H y.M y.Injective).1=C8 t y.H y.Injective (SizeOf.sizeOf x.C) x.C y.M [] false:=by
   unfold PI;rw [d2 (fun k=>k d.1),d2 d.2]
  obtain ⟨hv,J,j,K,N,O,S,T⟩:=Pc o q n s d.1;have z:=V5 (Ue d.1);have G:EY t y.H y.Injective x.C y.M=false:=by
   have:=d.2;rw [kD (Ue d.1) j K N hv J S T] at this;simpa using this
  rw [w,aW o q n s (gv n z j)];have I:=XZ (t:=t) (h:=y.H) (inj:=y.Injective) (SizeOf.sizeOf x.C) x.C x.P y.M [] false (d3 _) j G;simp only [bs,zzY];unfold cE;rw [zzZ,zzZ,@zzX _ (Classical.propDecidable _)];exact ⟨⟨by simpa using d.1,by simpa using d.2⟩,I⟩
 ·rw [d1 (by simpa using g)]; rfl
end Go.Sf.Sc
