/- Plain lemmas: what the functions of the program and of the reference compute. -/
import Derived.Test.YtmaobfbhdkafkaaGreatP25
set_option maxRecDepth 100000
namespace Go.Sf.Sc
open Go Go.Sf
def D4:AA:=⟨1,[],⟨[],[]⟩,⟨⟨[],[]⟩,[],0,[]⟩⟩
def noC:AA:=⟨2,[D4],⟨[],[]⟩,⟨⟨[],[]⟩,[],0,[]⟩⟩
theorem oc:Hy=some D4:=rfl
theorem r0:JT=some noC:=rfl
theorem Vv:LA=some D4:=rfl
inductive NF:AA->Prop
 | yes:NF D4
 | not (k:AA) (h:NF k) (h2:k.Kind≠2):NF ⟨2,[k],⟨[],[]⟩,⟨⟨[],[]⟩,[],0,[]⟩⟩
 | conn (kd:Int) (ks:List AA) (hk:kd=3∨kd=4) (h2:2<=ks.length) (h:∀ x∈ks,NF x) (hx:∀ x∈ks,x.Kind≠kd∧x≠D4∧x≠noC) (hd:ks.Nodup):NF ⟨kd,ks,⟨[],[]⟩,⟨⟨[],[]⟩,[],0,[]⟩⟩
 | ex (k:AA) (m:Morphism) (p:Pattern) (h:NF k) (hn:k≠noC):NF ⟨5,[k],m,p⟩
theorem NF.no:NF noC:=.not D4 .yes (by decide)
theorem NF.kids {c:AA} (h:NF c):∀ x∈c.Kids,NF x:=by
 cases h with
 | yes=>intro x hx; cases hx
 | not k h _=>intro x hx; rw [List.mem_singleton.1 hx]; exact h
 | conn kd ks _ _ h _ _=>exact h
 | ex k m p h _=>intro x hx; rw [List.mem_singleton.1 hx]; exact h
theorem NF.yes_iff {c:AA} (h:NF c):c.Kind=1↔c=D4:=by
 cases h with
 | yes=>exact ⟨fun _=>rfl,fun _=>rfl⟩
 | not k h _=>exact ⟨fun e=>by simp at e,fun e=>by rw [e]; rfl⟩
 | conn kd ks hk _ _ _ _=>exact ⟨fun e=>by simp at e; omega,fun e=>by rw [e]; rfl⟩
 | ex k m p _ _=>exact ⟨fun e=>by simp at e,fun e=>by rw [e]; rfl⟩
theorem NF.kid2 {c:AA} (h:NF c) (h2:c.Kind=2):∃ k,c=⟨2,[k],⟨[],[]⟩,⟨⟨[],[]⟩,[],0,[]⟩⟩∧NF k∧k.Kind≠2:=by
 cases h with
 | yes=>simp [D4] at h2
 | not k h h3=>exact ⟨k,rfl,h,h3⟩
 | conn kd ks hk _ _ _ _=>simp at h2; omega
 | ex k m p _ _=>simp at h2
theorem XN {c:AA} (h:NF c):FB c=some (F4 c D4):=by
 unfold FB
 congr 1
 rw [Bool.eq_iff_iff,IG,zzX]
 exact h.yes_iff
theorem Vn {c:AA} (h:NF c):D7 c=some (F4 c noC):=by
 unfold D7
 by_cases h2:c.Kind=2
 ·obtain ⟨k,rfl,hk,_⟩:=h.kid2 h2
  rw [if_pos (by simp)]
  show some (decide (k.Kind=1))=_
  congr 1
  rw [Bool.eq_iff_iff,IG,zzX,hk.yes_iff]
  constructor
  ·rintro rfl; rfl
  ·intro e
   simp only [noC,AA.mk.injEq,List.cons.injEq] at e
   exact e.2.1.1
 ·rw [if_neg (by simpa using h2)]
  have:F4 c noC=false:=by
   rw [←Bool.not_eq_true,IG]
   rintro rfl; exact h2 rfl
  rw [this]; rfl
def flat (kd:Int) (l:List AA):List AA:=l.flatMap fun c=>if c.Kind=kd then c.Kids else [c]
theorem VJ (kd:Int) (l m:List AA):flat kd (l++m)=flat kd l++flat kd m:=List.flatMap_append
theorem aq (kd:Int) (c:AA):flat kd [c]=if c.Kind=kd then c.Kids else [c]:=by simp [flat]
theorem W7 {kd:Int} {l:List AA} (h:∀ x∈l,NF x):∀ x∈flat kd l,NF x:=by
 intro x hx
 obtain ⟨c,hc,hx⟩:=List.mem_flatMap.1 hx
 split at hx
 ·exact (h c hc).kids x hx
 ·rw [List.mem_singleton.1 hx]; exact h c hc
theorem Tw {kd:Int} {l:List AA} {f:Int->List AA->Option (List AA)} (hl:(flat kd l).length<=1000) (h:∀ (i:Int) s,0<=i->i<l.length->f i s=if decide ((AB l i).Kind=kd)=true then AX s (AB l i).Kids else AX s [AB l i]):forA f 0 l.length []=some (flat kd l):=by
 rw [IH (fun i=>flat kd (l.take i.toNat)) (by omega) (by rfl)]
 ·rw [Int.toNat_natCast,List.take_length]
 ·intro i i1 i2
  have e:flat kd (l.take (i+1).toNat)=flat kd (l.take i.toNat)++if (AB l i).Kind=kd then (AB l i).Kids else [AB l i]:=by
   rw [HY i1 i2,VJ,aq]
  have hb:(flat kd (l.take (i+1).toNat)).length<=1000:=by
   have:=congrArg List.length (VJ kd (l.take (i+1).toNat) (l.drop (i+1).toNat))
   rw [List.take_append_drop,List.length_append] at this
   omega
  rw [e,List.length_append] at hb
  rw [h i _ i1 i2,e]
  by_cases hk:(AB l i).Kind=kd
  ·rw [if_pos hk] at hb ⊢
   rw [if_pos (by simpa using hk),BE (by unfold BA; omega)]
  ·rw [if_neg hk] at hb ⊢
   rw [if_neg (by simpa using hk),BE (by unfold BA; omega)]
noncomputable def L6 (ab ne:AA):List AA->List AA->Option (List AA)
 | out,[]=>some out
 | out,x::l=>if F4 x ab=true then none else L6 ab ne (if (!F4 x ne&&!out.any fun y=>F4 y x)=true then out++[x] else out) l
theorem V5 {σ:Type} {l:List AA} {ab ne:AA} {z:σ} {f:Int->σ × List AA->Option (B9 (σ × List AA) AA)}
  (h:∀ (i:Int) out,0<=i->i<l.length->(out.length:Int)<=i->f i (z,out)=some (if F4 (AB l i) ab=true then .ret ab else .next (z,if (!F4 (AB l i) ne&&!out.any fun y=>F4 y (AB l i))=true then out++[AB l i] else out))) :
  forR f 0 l.length (z,[])=some (match L6 ab ne [] l with | some out=>.inl (z,out) | none=>.inr ab):=by
 have key:∀ (m i:Nat) (out:List AA),i+m=l.length->out.length<=i->forGo f m (i:Int) (z,out)=some (match L6 ab ne out (l.drop i) with | some out=>.inl (z,out) | none=>.inr ab):=by
  intro m
  induction m with
  | zero=>intro i out hi _; rw [List.drop_of_length_le (by omega)]; rfl
  | succ m ih=>
   intro i out hi ho
   have hd:=Wu (l:=l) (k:=(i:Int)) (by omega) (by omega)
   rw [show ((i:Int)+1).toNat=i+1 by omega,Int.toNat_natCast] at hd
   rw [FM,h i out (by omega) (by omega) (by omega),hd,L6]
   by_cases hb:F4 (AB l i) ab=true
   ·rw [if_pos hb,if_pos hb]
   ·rw [if_neg hb,if_neg hb]
    exact ih (i+1) _ (by omega) (by split <;> (try simp only [List.length_append,List.length_cons,List.length_nil]) <;> omega)
 have:=key l.length 0 [] (by omega) (Nat.zero_le _)
 unfold forR
 rw [show ((l.length:Int) - 0).toNat=l.length by omega]
 exact this
noncomputable def MB (kd:Int):AA:=if kd=4 then D4 else noC
noncomputable def LV (kd:Int):AA:=if kd=4 then noC else D4
def Q6 (kd:Int) (ne:AA) (out:List AA):AA:=if out.length=0 then ne else if out.length=1 then AB out 0 else ⟨kd,out,⟨[],[]⟩,⟨⟨[],[]⟩,[],0,[]⟩⟩
noncomputable def conn (kd:Int) (l:List AA):AA:=match L6 (MB kd) (LV kd) [] (flat kd l) with | some out=>Q6 kd (LV kd) out | none=>MB kd
theorem ZG (kd:Int) (ne:AA) (out:List AA):(if (decide ((out.length:Int)=0))=true then
 some ne
 else
 if (decide ((out.length:Int)=1))=true then
 (AH out 0).bind fun x73=>
 some x73
 else
 some (AA.mk kd out (Morphism.mk [] []) (Pattern.mk (Graph.mk [] []) [] 0 [])))=some (Q6 kd ne out):=by
 unfold Q6
 by_cases h0:out.length=0
 ·rw [if_pos (by simp [h0]),if_pos h0]
 ·rw [if_neg (by simp; exact fun e=>h0 (by simp [e])),if_neg h0]
  by_cases h1:out.length=1
  ·rw [if_pos (by simp [h1]),if_pos h1,AF (by omega) (by omega)]; rfl
  ·rw [if_neg (by simp; omega),if_neg h1]
end Go.Sf.Sc
namespace Go.Sf.Sc
open Go Go.Sf
theorem UB {σ:Type} {x ab ne:AA} {out:List AA} {z:σ} {fa fn:AA->Option Bool} (ha:fa x=some (F4 x ab)) (hn:fn x=some (F4 x ne)) (ho:out.length<=1000) :
  ((fa x).bind fun x48=>
 if x48=true then
 some (.ret ab)
 else
 (fn x).bind fun x52=>
 (if (!x52)=true then ((BC out (fun y0=>G6 y0 x)).bind fun x57=>
 some (!x57)) else some false).bind fun x59=>
 if x59=true then
 (AX out [x]).bind fun x63=>
 some (.next (z,x63))
 else
 some (.next (z,out)))=some (if F4 x ab=true then .ret ab else (.next (z,if (!F4 x ne&&!out.any fun y=>F4 y x)=true then out++[x] else out):B9 (σ × List AA) AA)):=by
 rw [ha,bs]
 cases F4 x ab
 ·rw [if_neg (by decide),hn,bs,Q4 (p:=fun y=>F4 y x) (fun y _=>by
   unfold G6
   rw [ew]; rfl),BE (l:=out) (m:=[x]) (by simp; unfold BA; omega)]
  cases F4 x ne
  ·cases out.any fun y=>F4 y x
   ·rfl
   ·rfl
  ·rfl
 ·rfl
theorem iO {kd:Int} (hk:kd=3∨kd=4) {l:List AA} (hn:∀ x∈l,NF x) (hl:(flat kd l).length<=1000):G5 kd l=some (conn kd l):=by
 have hf:∀ (i:Int) (s:List AA),0<=i->i<l.length->((AH l i).bind fun x25=>
   if (decide (x25.Kind=kd))=true then
   (AX s x25.Kids).bind fun x34=>
   some x34
   else
   (AX s [x25]).bind fun x38=>
   some x38)=if decide ((AB l i).Kind=kd)=true then AX s (AB l i).Kids else AX s [AB l i]:=by
  intro i s i1 i2
  rw [AF i1 i2,bs]
  simp only [Option.bind_fun_some]
 have hm:=W7 (kd:=kd) hn
 unfold G5 conn
 rw [oc,bs,r0,bs]
 rcases hk with rfl | rfl
 ·rw [if_neg (by decide),Tw hl hf,bs,show MB 3=noC from rfl,show LV 3=D4 from rfl,V5 (ab:=noC) (ne:=D4) (fun i out i1 i2 ho=>by
   have hx:=hm _ (AN i1 i2)
   rw [AF i1 i2,bs]
   exact UB (out:=out) (fa:=D7) (fn:=FB) (Vn hx) (XN hx) (by omega))]
  cases L6 noC D4 [] (flat 3 l) with
  | none=>rfl
  | some out=>exact ZG 3 D4 out
 ·rw [if_pos (by decide),bs,bs,Tw hl hf,bs,show MB 4=D4 from rfl,show LV 4=noC from rfl,V5 (ab:=D4) (ne:=noC) (fun i out i1 i2 ho=>by
   have hx:=hm _ (AN i1 i2)
   rw [AF i1 i2,bs]
   exact UB (out:=out) (fa:=FB) (fn:=D7) (XN hx) (Vn hx) (by omega))]
  cases L6 D4 noC [] (flat 4 l) with
  | none=>rfl
  | some out=>exact ZG 4 noC out
end Go.Sf.Sc
namespace Go.Sf.Sc
open Go Go.Sf
noncomputable def Qk (k:Int) (ks:List AA) (m:Morphism) (p:Pattern):AA:=
 if k=2 then (if (AB ks 0).Kind=2 then AB (AB ks 0).Kids 0 else ⟨2,ks,⟨[],[]⟩,⟨⟨[],[]⟩,[],0,[]⟩⟩) else
 if k=3∨k=4 then conn k ks else
 if k=5 then (if F4 (AB ks 0) noC=true then noC else ⟨5,ks,m,p⟩) else D4
mutual
noncomputable def BF:AA->AA
 | ⟨k,kids,m,p⟩=>Qk k (Uo kids) m p
noncomputable def Uo:List AA->List AA
 | []=>[]
 | c::l=>BF c::Uo l
end
theorem UP:∀ l:List AA,Uo l=l.map BF
 | []=>rfl
 | c::l=>by rw [Uo,UP l]; rfl
theorem Ob (c:AA):BF c=Qk c.Kind (c.Kids.map BF) c.Map c.Pattern:=by
 cases c
 rw [BF,UP]
theorem U5 (l m:List AA):B2 (l++m)=B2 l+B2 m:=by
 induction l with
 | nil=>simp [B2]
 | cons x l ih=>rw [List.cons_append,B2,B2,ih]; omega
theorem VC (l m:List AA):C4 (l++m)=max (C4 l) (C4 m):=by
 induction l with
 | nil=>simp [C4]
 | cons x l ih=>rw [List.cons_append,C4,C4,ih]; omega
theorem P9:∀ l:List AA,l.length<=B2 l
 | []=>Nat.zero_le _
 | x::l=>by
  have:=P9 l
  rw [B2,GG,List.length_cons]; omega
theorem SF (kd:Int):∀ l:List AA,B2 (flat kd l)<=B2 l∧C4 (flat kd l)<=C4 l
 | []=>⟨Nat.le_refl _,Nat.le_refl _⟩
 | x::l=>by
  have ih:=SF kd l
  have e:flat kd (x::l)=(if x.Kind=kd then x.Kids else [x])++flat kd l:=rfl
  rw [e,U5,VC,B2,C4]
  have h1:=GG x
  have h2:=MK x
  split
  ·constructor <;> omega
  ·rw [show B2 [x]=cnt x by simp [B2],show C4 [x]=JG x by simp [C4]]
   constructor <;> omega
structure f0 (kd:Int) (out:List AA):Prop where
 nf:∀ x∈out,NF x
 ne:∀ x∈out,x.Kind≠kd∧x≠D4∧x≠noC
 nd:out.Nodup
theorem SP {kd:Int} {ab ne:AA} (hab:(ab=D4∧ne=noC)∨(ab=noC∧ne=D4)):∀ (l out r:List AA),L6 ab ne out l=some r->(∀ x∈l,NF x∧x.Kind≠kd)->f0 kd out->f0 kd r∧B2 r<=B2 out+B2 l∧C4 r<=max (C4 out) (C4 l)
 | [],out,r,h,_,hk=>by
  rw [L6] at h
  cases h
  exact ⟨hk,by simp [B2],by simp [C4]⟩
 | x::l,out,r,h,hl,hk=>by
  rw [L6] at h
  by_cases h1:F4 x ab=true
  ·rw [if_pos h1] at h; cases h
  rw [if_neg h1] at h
  rw [IG] at h1
  have hx:=hl x List.mem_cons_self
  have hl':∀ y∈l,NF y∧y.Kind≠kd:=fun y hy=>hl y (List.mem_cons_of_mem _ hy)
  rw [B2,C4]
  by_cases h2:(!F4 x ne&&!out.any fun y=>F4 y x)=true
  ·rw [if_pos h2] at h
   simp only [zzZ,Bool.not_eq_true',List.any_eq_false] at h2
   have hne:x≠ne:=fun e=>by rw [←IG (a:=x),h2.1] at e; cases e
   have hin:x ∉ out:=fun hm=>h2.2 x hm (IG.2 rfl)
   have:=SP hab l (out++[x]) r h hl' ⟨fun y hy=>by
     rcases List.mem_append.1 hy with hy | hy
     ·exact hk.nf y hy
     ·rw [List.mem_singleton.1 hy]; exact hx.1,fun y hy=>by
     rcases List.mem_append.1 hy with hy | hy
     ·exact hk.ne y hy
     ·rw [List.mem_singleton.1 hy]
      rcases hab with ⟨rfl,rfl⟩ | ⟨rfl,rfl⟩
      ·exact ⟨hx.2,h1,hne⟩
      ·exact ⟨hx.2,hne,h1⟩,List.nodup_append.2 ⟨hk.nd,by simp,fun a ha b hb=>by
       rw [List.mem_singleton.1 hb]
       exact fun e=>hin (e ▸ ha)⟩⟩
   obtain ⟨k1,k2,k3⟩:=this
   rw [U5] at k2
   rw [VC] at k3
   rw [show B2 [x]=cnt x by simp [B2]] at k2
   rw [show C4 [x]=JG x by simp [C4]] at k3
   exact ⟨k1,by omega,by omega⟩
  ·rw [if_neg h2] at h
   obtain ⟨k1,k2,k3⟩:=SP hab l out r h hl' hk
   exact ⟨k1,by omega,by omega⟩
theorem ZL {kd:Int} (hk:kd=3∨kd=4) {l:List AA} (h:∀ x∈l,NF x):∀ x∈flat kd l,NF x∧x.Kind≠kd:=by
 intro x hx
 refine ⟨W7 h x hx,?_⟩
 obtain ⟨c,hc,hxc⟩:=List.mem_flatMap.1 hx
 split at hxc
 ·rename_i hck
  have:=h c hc
  cases this with
  | yes=>cases hxc
  | not k h1 h2=>simp at hck; omega
  | conn kd' ks hk' h2 h3 h4 h5=>
   simp at hck
   subst hck
   exact (h4 x hxc).1
  | ex k m p h1 h2=>simp at hck; omega
 ·rw [List.mem_singleton.1 hxc]; assumption
theorem N9:cnt D4=1:=by simp [cnt,B2,D4]
theorem Y7:cnt noC=2:=by simp [cnt,B2,noC,N9]
theorem TT:JG D4=0:=by simp [JG,C4,D4]
theorem ZB:JG noC=0:=by simp [JG,C4,noC,TT]
theorem d9 {kd:Int} (hk:kd=3∨kd=4) {l:List AA} (h:∀ x∈l,NF x) (h0:l≠[]):NF (conn kd l)∧cnt (conn kd l)<=1+B2 l∧JG (conn kd l)<=C4 l:=by
 have hl:1<=B2 l:=by
  have:=P9 l
  have:=List.length_pos_iff.2 h0
  omega
 have hfl:=SF kd l
 have hyn:∀ c,c=D4∨c=noC->NF c∧cnt c<=2∧JG c=0:=by
  rintro c (rfl | rfl)
  ·exact ⟨.yes,by rw [N9]; omega,TT⟩
  ·exact ⟨.no,by rw [Y7]; exact Nat.le_refl _,ZB⟩
 have hab:(MB kd=D4∧LV kd=noC)∨(MB kd=noC∧LV kd=D4):=by
  rcases hk with rfl | rfl
  ·exact .inr ⟨rfl,rfl⟩
  ·exact .inl ⟨rfl,rfl⟩
 unfold conn
 cases hs:L6 (MB kd) (LV kd) [] (flat kd l) with
 | none=>
  obtain ⟨k1,k2,k3⟩:=hyn (MB kd) (by rcases hab with h | h <;> simp [h.1])
  exact ⟨k1,by simp only; omega,by simp only; omega⟩
 | some r=>
  obtain ⟨k1,k2,k3⟩:=SP hab _ _ r hs (ZL hk h) ⟨fun x hx=>(by cases hx),fun x hx=>(by cases hx),List.nodup_nil⟩
  have e1:B2 ([]:List AA)=0:=by simp [B2]
  have e2:C4 ([]:List AA)=0:=by simp [C4]
  rw [e1] at k2
  rw [e2] at k3
  simp only
  unfold Q6
  split
  ·obtain ⟨j1,j2,j3⟩:=hyn (LV kd) (by rcases hab with h | h <;> simp [h.2])
   exact ⟨j1,by omega,by omega⟩
  ·split
   ·rename_i hr1
    obtain ⟨x,rfl⟩:=List.length_eq_one_iff.1 hr1
    have:AB [x] 0=x:=rfl
    rw [this]
    rw [show B2 [x]=cnt x by simp [B2]] at k2
    rw [show C4 [x]=JG x by simp [C4]] at k3
    exact ⟨k1.nf x List.mem_cons_self,by omega,by omega⟩
   ·refine ⟨.conn kd r hk (by omega) k1.nf k1.ne k1.nd,?_,?_⟩
    ·rw [GG]; simp only; omega
    ·rw [MK]
     simp only
     rw [if_neg (by omega)]; omega
end Go.Sf.Sc
namespace Go.Sf.Sc
open Go Go.Sf
theorem Va {f:AA->AA}:∀ {l:List AA},(∀ k∈l,cnt (f k)<=cnt k∧JG (f k)<=JG k)->B2 (l.map f)<=B2 l∧C4 (l.map f)<=C4 l
 | [],_=>⟨Nat.le_refl _,Nat.le_refl _⟩
 | x::l,h=>by
  have h1:=h x List.mem_cons_self
  have h2:=Va (l:=l) (fun k hk=>h k (List.mem_cons_of_mem _ hk))
  rw [List.map_cons,B2,B2,C4,C4]
  constructor <;> omega
theorem M9 {N:Nat} {c:AA} (h:KG (N+1) c=true):(∀ k∈c.Kids,KG N k=true) ∧
  ((c.Kind=1∧c.Kids=[]∧Kc c=true)∨(c.Kind=2∧(∃ k,c.Kids=[k])∧Kc c=true)∨((c.Kind=3∨c.Kind=4)∧c.Kids≠[]∧Kc c=true)∨(c.Kind=5∧∃ k,c.Kids=[k])):=by
 rw [KG,zzZ,List.all_eq_true] at h
 refine ⟨h.2,?_⟩
 have hh:=h.1
 unfold N0 at hh
 split at hh
 ·rename_i h1
  simp only [zzZ,zzX,List.length_eq_zero_iff] at hh
  exact .inl ⟨h1,hh⟩
 ·split at hh
  ·rename_i h1
   simp only [zzZ,zzX,List.length_eq_one_iff] at hh
   exact .inr (.inl ⟨h1,hh⟩)
  ·split at hh
   ·rename_i h1
    simp only [zzZ,zzX] at hh
    exact .inr (.inr (.inl ⟨h1,List.length_pos_iff.1 hh.1,hh.2⟩))
   ·split at hh
    ·rename_i h1
     simp only [zzX,List.length_eq_one_iff] at hh
     exact .inr (.inr (.inr ⟨h1,hh⟩))
    ·cases hh
theorem jU (ks:List AA) (m:Morphism) (p:Pattern):Qk 1 ks m p=D4:=rfl
theorem ce (k:AA) (m:Morphism) (p:Pattern):Qk 2 [k] m p=if k.Kind=2 then AB k.Kids 0 else ⟨2,[k],⟨[],[]⟩,⟨⟨[],[]⟩,[],0,[]⟩⟩:=rfl
theorem Yf {kd:Int} (h:kd=3∨kd=4) (ks:List AA) (m:Morphism) (p:Pattern):Qk kd ks m p=conn kd ks:=by
 unfold Qk
 rw [if_neg (by omega),if_pos h]
theorem cf (k:AA) (m:Morphism) (p:Pattern):Qk 5 [k] m p=if F4 k noC=true then noC else ⟨5,[k],m,p⟩:=rfl
theorem OB:∀ (N:Nat) (c:AA),KG N c=true->NF (BF c)∧cnt (BF c)<=cnt c∧JG (BF c)<=JG c
 | 0,_,h=>by cases h
 | N+1,c,h=>by
  obtain ⟨hk,hc⟩:=M9 h
  have ih:∀ k∈c.Kids,NF (BF k)∧cnt (BF k)<=cnt k∧JG (BF k)<=JG k:=fun k hm=>OB N k (hk k hm)
  rw [Ob,GG c,MK c]
  rcases hc with ⟨e,hK,_⟩ | ⟨e,⟨k,hK⟩,_⟩ | ⟨e,hK,_⟩ | ⟨e,⟨k,hK⟩⟩
  ·rw [e,jU,N9,TT]
   exact ⟨.yes,by omega,Nat.zero_le _⟩
  ·rw [hK] at ih ⊢
   obtain ⟨i1,i2,i3⟩:=ih k List.mem_cons_self
   rw [e,List.map_cons,List.map_nil,ce,if_neg (show ¬ (2:Int)=5 by decide),show B2 [k]=cnt k by simp [B2],show C4 [k]=JG k by simp [C4]]
   split
   ·rename_i h2
    obtain ⟨j,hj,j1,j2⟩:=i1.kid2 h2
    have hat:AB (BF k).Kids 0=j:=by rw [hj]; rfl
    rw [hat]
    rw [hj,GG,show B2 [j]=cnt j by simp [B2]] at i2
    rw [hj,MK,show C4 [j]=JG j by simp [C4]] at i3
    simp only at i2 i3
    rw [if_neg (by decide)] at i3
    exact ⟨j1,by omega,by omega⟩
   ·rename_i h2
    refine ⟨.not _ i1 h2,?_,?_⟩
    ·rw [GG]
     show 1+B2 [BF k]<=_
     rw [show B2 [BF k]=cnt (BF k) by simp [B2]]; omega
    ·rw [MK]
     show (if (2:Int)=5 then 1 else 0)+C4 [BF k]<=_
     rw [if_neg (by decide),show C4 [BF k]=JG (BF k) by simp [C4]]; omega
  ·rw [Yf e,if_neg (by omega)]
   have hm:=Va (f:=BF) (l:=c.Kids) (fun k hk=>(ih k hk).2)
   obtain ⟨k1,k2,k3⟩:=d9 e (l:=c.Kids.map BF) (fun x hx=>by
    obtain ⟨y,hy,rfl⟩:=List.mem_map.1 hx
    exact (ih y hy).1) (by simpa using hK)
   exact ⟨k1,by omega,by omega⟩
  ·rw [hK] at ih ⊢
   obtain ⟨i1,i2,i3⟩:=ih k List.mem_cons_self
   rw [e,List.map_cons,List.map_nil,cf,if_pos rfl,show B2 [k]=cnt k by simp [B2],show C4 [k]=JG k by simp [C4]]
   split
   ·rw [Y7,ZB]
    have:=GG k
    exact ⟨.no,by omega,by omega⟩
   ·rename_i h2
    rw [IG] at h2
    refine ⟨.ex _ _ _ i1 h2,?_,?_⟩
    ·rw [GG]
     show 1+B2 [BF k]<=_
     rw [show B2 [BF k]=cnt (BF k) by simp [B2]]; omega
    ·rw [MK]
     show (if (5:Int)=5 then 1 else 0)+C4 [BF k]<=_
     rw [if_pos rfl,show C4 [BF k]=JG (BF k) by simp [C4]]; omega
theorem dE:∀ (N:Nat) {c:AA},NF c->SizeOf.sizeOf c<=N->KG N c=true
 | 0,c,_,h=>by have:=DO c; omega
 | N+1,c,h,hs=>by
  rw [KG,zzZ,List.all_eq_true]
  refine ⟨?_,fun k hk=>dE N (h.kids k hk) (by have:=D3 hk; omega)⟩
  cases h with
  | yes=>rfl
  | not k h h2=>rfl
  | conn kd ks hk h2 h hx hd=>
   unfold N0
   rcases hk with rfl | rfl
   ·simp [Kc]; omega
   ·simp [Kc]; omega
  | ex k m p h hn=>rfl
end Go.Sf.Sc
namespace Go.Sf.Sc
open Go Go.Sf
theorem bP {p:Pattern} (h:P1 p):IN p=some p:=by
 have:=h.nodes
 have:=h.edges
 have:=h.slots
 have:=h.tests
 unfold IN slices_Clone_int JI JJ JK
 rw [DX (by unfold BA; omega),DX (by unfold BA; omega),DX (by unfold BA; omega),DX (by unfold BA; omega)]
 rfl
structure gA (c:AA):Prop where
 nf:∀ x∈c.Kids.map BF,NF x
 len:c.Kids.length<=1000
 flat:∀ kd,(flat kd (c.Kids.map BF)).length<=1000
theorem eW {c:AA} {M:Nat} (hc:cnt c<=1000) (hw:∀ k∈c.Kids,KG M k=true):gA c:=by
 rw [GG] at hc
 have h1:=P9 c.Kids
 have h2:=(Va (f:=BF) (l:=c.Kids) (fun k hk=>(OB M k (hw k hk)).2)).1
 refine ⟨fun x hx=>?_,by omega,fun kd=>?_⟩
 ·obtain ⟨y,hy,rfl⟩:=List.mem_map.1 hx
  exact (OB M y (hw y hy)).1
 ·have h3:=(SF kd (c.Kids.map BF)).1
  have h4:=P9 (flat kd (c.Kids.map BF))
  omega
theorem eV {c k:AA} (hc:cnt c<=1000) (h:k∈c.Kids):cnt k<=1000:=by
 rw [GG] at hc
 have:=QA h
 omega
theorem Zl:∀ (N:Nat) (c:AA),SizeOf.sizeOf c<=N->CL c->cnt c<=1000->∀ M,KG M c=true->∀ n,N<=n->DH n c=some (BF c)
 | 0,c,h,_,_,_,_,_,_=>by have:=DO c; omega
 | N+1,c,h,hf,hc,0,hw,_,_=>by cases hw
 | N+1,c,h,hf,hc,M+1,hw,n,hn=>by
  obtain ⟨n,rfl⟩:∃ m,n=m+1:=⟨n - 1,by omega⟩
  obtain ⟨hk,hcs⟩:=M9 hw
  have ok:=eW hc hk
  have hks:forA (fun (i0:Int) (s0:List AA)=>
    (AH c.Kids i0).bind fun x12=>
    (DH n x12).bind fun x16=>
    (AX s0 [x16]).bind fun x18=>
    some x18) 0 (c.Kids.length:Int) []=some (c.Kids.map BF):=by
   rw [IH (fun i=>(c.Kids.take i.toNat).map BF) (by omega) (by rfl)]
   ·rw [Int.toNat_natCast,List.take_length]
   ·intro i i1 i2
    have hm:=AN (l:=c.Kids) i1 i2
    have:=D3 hm
    have:=ok.len
    rw [AF i1 i2,bs,Zl N _ (by omega) (hf.k _ hm) (eV hc hm) M (hk _ hm) n (by omega),bs,BE (by simp; unfold BA; omega),bs,HY i1 i2,List.map_append]; rfl
  rw [DH,hks,bs,Ob]
  have hnf:=ok.nf
  rcases hcs with ⟨e,hK,_⟩ | ⟨e,⟨k,hK⟩,_⟩ | ⟨e,hK,_⟩ | ⟨e,⟨k,hK⟩⟩
  ·rw [e]; rfl
  ·rw [e]
   rw [hK] at hnf ⊢
   have hnk:=hnf (BF k) (by simp)
   rw [List.map_cons,List.map_nil,ce]
   by_cases h2:(BF k).Kind=2
   ·obtain ⟨j,hj,_,_⟩:=hnk.kid2 h2
    rw [if_pos h2,hj]; rfl
   ·rw [if_neg h2]
    show (if decide ((BF k).Kind=2)=true then _ else _)=_
    rw [if_neg (by simpa using h2)]
  ·rw [Yf e]
   have hl:=iO e hnf (ok.flat c.Kind)
   rcases e with e | e
   ·rw [e] at hl ⊢
    show (G5 3 (c.Kids.map BF)).bind _=_
    rw [hl]; rfl
   ·rw [e] at hl ⊢
    show (G5 4 (c.Kids.map BF)).bind _=_
    rw [hl]; rfl
  ·rw [e]
   rw [hK] at hnf ⊢
   have hnk:=hnf (BF k) (by simp)
   have h1:=hf.m.nodes
   have h2:=hf.m.edges
   rw [List.map_cons,List.map_nil,cf]
   show (D7 (BF k)).bind _=_
   rw [Vn hnk,bs]
   cases F4 (BF k) noC
   ·rw [if_neg (by decide),if_neg (by decide)]
    unfold slices_Clone_int
    rw [DX (by unfold BA; omega),DX (by unfold BA; omega),bP hf.q]; rfl
   ·rfl
end Go.Sf.Sc
namespace Go.Sf.Sc
open Go Go.Sf
theorem P7 (kd:Int) {ks:List AA} (h:∀ k∈ks,CL k):CL ⟨kd,ks,⟨[],[]⟩,⟨⟨[],[]⟩,[],0,[]⟩⟩:=.mk _ ⟨Nat.zero_le _,Nat.zero_le _,Nat.zero_le _,Nat.zero_le _⟩ ⟨Nat.zero_le _,Nat.zero_le _⟩ h
theorem NB:CL D4:=P7 1 (fun k hk=>by cases hk)
theorem Vd:CL noC:=P7 2 (fun k hk=>by rw [List.mem_singleton.1 hk]; exact NB)
theorem Tg {ab ne:AA}:∀ {l out r:List AA},L6 ab ne out l=some r->∀ x∈r,x∈out∨x∈l
 | [],out,r,h,x,hx=>by
  rw [L6] at h
  cases h
  exact .inl hx
 | y::l,out,r,h,x,hx=>by
  rw [L6] at h
  by_cases h1:F4 y ab=true
  ·rw [if_pos h1] at h; cases h
  rw [if_neg h1] at h
  rcases Tg h x hx with h2 | h2
  ·split at h2
   ·rcases List.mem_append.1 h2 with h2 | h2
    ·exact .inl h2
    ·rw [List.mem_singleton.1 h2]; exact .inr List.mem_cons_self
   ·exact .inl h2
  ·exact .inr (List.mem_cons_of_mem _ h2)
theorem aj {kd:Int} {l:List AA} (h:∀ x∈l,CL x):CL (conn kd l):=by
 have hab:CL (MB kd):=by
  unfold MB
  split
  ·exact NB
  ·exact Vd
 have hne:CL (LV kd):=by
  unfold LV
  split
  ·exact Vd
  ·exact NB
 have hfl:∀ x∈flat kd l,CL x:=by
  intro x hx
  obtain ⟨c,hc,hxc⟩:=List.mem_flatMap.1 hx
  split at hxc
  ·exact (h c hc).k x hxc
  ·rw [List.mem_singleton.1 hxc]; exact h c hc
 unfold conn
 cases hs:L6 (MB kd) (LV kd) [] (flat kd l) with
 | none=>exact hab
 | some r=>
  have hr:∀ x∈r,CL x:=fun x hx=>by
   rcases Tg hs x hx with h1 | h1
   ·cases h1
   ·exact hfl x h1
  simp only
  unfold Q6
  split
  ·exact hne
  ·split
   ·rename_i h1
    obtain ⟨x,rfl⟩:=List.length_eq_one_iff.1 h1
    exact hr x List.mem_cons_self
   ·exact P7 kd hr
theorem VG:∀ (N:Nat) (c:AA),KG N c=true->CL c->CL (BF c)
 | 0,_,h,_=>by cases h
 | N+1,c,h,hf=>by
  obtain ⟨hk,hc⟩:=M9 h
  have ih:∀ k∈c.Kids,CL (BF k):=fun k hm=>VG N k (hk k hm) (hf.k k hm)
  have inf:∀ k∈c.Kids,NF (BF k):=fun k hm=>(OB N k (hk k hm)).1
  rw [Ob]
  rcases hc with ⟨e,hK,_⟩ | ⟨e,⟨k,hK⟩,_⟩ | ⟨e,hK,_⟩ | ⟨e,⟨k,hK⟩⟩
  ·rw [e,jU]; exact NB
  ·rw [hK] at ih inf ⊢
   have i1:=ih k List.mem_cons_self
   rw [e,List.map_cons,List.map_nil,ce]
   split
   ·rename_i h2
    obtain ⟨j,hj,_,_⟩:=(inf k List.mem_cons_self).kid2 h2
    have hat:AB (BF k).Kids 0=j:=by rw [hj]; rfl
    rw [hat]
    exact i1.k j (by rw [hj]; exact List.mem_cons_self)
   ·exact P7 2 (fun x hx=>by rw [List.mem_singleton.1 hx]; exact i1)
  ·rw [Yf e]
   exact aj (fun x hx=>by
    obtain ⟨y,hy,rfl⟩:=List.mem_map.1 hx
    exact ih y hy)
  ·rw [hK] at ih ⊢
   have i1:=ih k List.mem_cons_self
   rw [e,List.map_cons,List.map_nil,cf]
   split
   ·exact Vd
   ·exact .mk _ hf.q hf.m (fun x hx=>by rw [List.mem_singleton.1 hx]; exact i1)
theorem SQ {c:AA} (h:I0 c=0):Xk c=true∧(N2 c).1<=12∧(N2 c).2<=3:=by
 unfold I0 at h
 split at h
 ·cases h
 ·rename_i h1
  split at h
  ·cases h
  ·rename_i h2
   exact ⟨by simpa using h1,by omega,by omega⟩
theorem bw {c:AA} (h1:Xk c=true) (h2:(N2 c).1<=12) (h3:(N2 c).2<=3):I0 c=0:=by
 unfold I0
 rw [if_neg (by simp [h1]),if_neg (by omega)]
theorem iH {c:AA} (hf:CL c) (hn:cnt c<=1000) (hE:I0 c=0):HK c=some (BF c,0):=by
 unfold HK
 rw [XO hf,bs,hE,if_neg (by decide),show Kn c=some (BF c) from E2 (SizeOf.sizeOf c) fun n hn'=>Zl _ c (Nat.le_refl _) hf hn _ (SQ hE).1 n hn']; rfl
end Go.Sf.Sc
