/- The operations one by one: what the model computes is what the pure language says. -/
import Derived.Test.YtmaobfbhdkafkaaGreatSfOps1
import Derived.Laws.StructEq
namespace Go.Sf
open Go.RowKit (Below)
def EO (P:Program) (t:TypeId):Option Nat:=(P.info? t).map (·.size)
def C9 (P:Program) (t:TypeId):Option Bool:=
 match P.underlying t with
 | some (.struct _) | some (.array _ _)=>some true
 | some _=>some false
 | none=>none
def KV (P:Program) (t:TypeId):Option Nat:=
 match P.underlying t with
 | some (.slice e)=>EO P e
 | _=>none
def Ni (P:Program) (t:TypeId) (f:Nat):Option Nat:=
 match P.underlying t with
 | some (.struct fs)=>match fs[f]? with
  | some x=>match EO P x.type with
   | some 0=>none
   | some _=>some x.offset
   | none=>none
  | none=>none
 | _=>none
section
variable {P:Program} {w:World}
theorem DD {t:TypeId} {n:Nat} (h:EO P t=some n):(sizeOf t).run P w=.ok n w:=by
 simp only [EO,Option.map_eq_some_iff] at h
 obtain ⟨i,hi,rfl⟩:=h
 simp [sizeOf,typeInfo,hi]
theorem EL {t:TypeId} {b:Bool} (h:C9 P t=some b):(isAgg t).run P w=.ok b w:=by
 unfold C9 at h
 unfold isAgg underlying
 simp only [Sem.run_bind,run_program,Result.andThen_ok]
 cases hu:P.underlying t with
 | none=>rw [hu] at h; simp at h
 | some d=>
  rw [hu] at h
  cases d <;> simp_all
theorem Qp {t:TypeId} {f k b o:Nat} (h:Ni P t f=some k) :
  (Instr.fieldAt t (.pointer (some ⟨b,o,none⟩)) f).run P w=.ok (.pointer (some ⟨b,o+k,none⟩)) w:=by
 unfold Ni at h
 split at h
 ·rename_i fs hu
  split at h
  ·rename_i x hx
   split at h
   ·cases h
   ·rename_i n hn hc
    simp only [zzY] at h
    subst h
    have hne:¬ (n=0):=fun e=>hn (by rw [e])
    simp [Instr.fieldAt,run_underlying hu,hx,Instr.sureAddr,fieldPlace,DD hc,hne,Addr.add_lit]
   ·cases h
  ·cases h
 ·cases h
theorem Px {F:Nat->Nat->Prop} {ts:List TV} {b o:Nat} (h:DR w F ts b o):∃ vs:List Value,AM w F ts vs∧(∀ x∈vs,x.oneCell'=true)∧∀ (j:Nat) (v:Value),vs[j]?=some v->w.cell? ((⟨b,o,none⟩:Addr).add j)=some v:=by
 induction ts generalizing o with
 | nil=>exact ⟨[],rfl,by simp,by simp⟩
 | cons t ts ih=>
  simp only [DR] at h
  obtain ⟨⟨v,h1,h2,h0,h3⟩,h4⟩:=h
  obtain ⟨vs,h5,h7,h6⟩:=ih h4
  refine ⟨v::vs,⟨v,vs,rfl,h3,h5⟩,by simp only [List.mem_cons,forall_eq_or_imp]; exact ⟨h0,h7⟩,fun j u hu=>?_⟩
  rw [Addr.add_lit]
  cases j with
  | zero=>simp at hu; subst hu; exact h1
  | succ j=>
   have:=h6 j u (by simpa using hu)
   rw [Addr.add_lit] at this
   rwa [show o+(j+1)=o+1+j from by omega]
theorem BX {F:Nat->Nat->Prop} {ts:List TV} {vs:List Value} (h:AM w F ts vs):vs.length=ts.length:=((B1 ts vs).1 h).1
theorem XO {F:Nat->Nat->Prop} {t:TypeId} {n:Nat} {es:List TV} {v:Value} {k:IntKind} {j:Int} (ht:KV P t=some n) (h:A1 w F (.list n es) v) (h0:0<=j) {e:TV} (he:es[j.toNat]?=some e) :
  ∃ p,(Instr.indexAt t v (.int k j)).run P w=.ok p w∧A1 w F (.pt e.cells) p:=by
 simp only [A1] at h
 obtain ⟨a,cap,rfl,_,h1,h2⟩:=h
 have hlt:j.toNat<es.length:=by
  rcases Nat.lt_or_ge j.toNat es.length with h | h
  ·exact h
  ·rw [List.getElem?_eq_none h] at he; cases he
 cases a with
 | none=>have:=h1 rfl; subst this; simp at hlt
 | some ad=>
  obtain ⟨h3,h4⟩:=h2 ad rfl
  obtain ⟨b,o,sp⟩:=ad
  simp only at h3 h4
  have h3:sp=none:=h3.resolve_left (fun e=>by subst e; simp at hlt)
  subst h3
  unfold KV at ht
  split at ht
  ·rename_i el hu
   rw [OH] at h4
   have h5:=h4 j.toNat e he
   have hj:0<=j∧j<(es.length:Int):=by omega
   refine ⟨.pointer (some ⟨b,o+j.toNat*n,none⟩),?_,?_⟩
   ·simp [Instr.indexAt,asIntOf,run_underlying hu,hj,DD ht,Addr.add_lit]
   ·simp only [A1]
    exact ⟨b,_,rfl,h5.1⟩
  ·cases ht
end
end Go.Sf
