/- Contracts of functions of Go's library that give texts. No program. -/
import Derived.Test.YtlbmpkmkmkgniaaGreatDoorSfSort
import Derived.Lib.ItoaNum
import Derived.Lib.Join
namespace Go.Sf
open Go.RowKit (Below)
variable {w:World} {F:Nat->Nat->Prop}
theorem UF {b:Nat}:∀ (xs:List ByteArray) (o:Nat),IN w F 1 (xs.map TV.str) b o->∀ (j:Nat) x,xs[j]?=some x->w.cell? ⟨b,o+j,none⟩=some (.string x)
 | [],_,_,j,x,a=>by simp at a
 | z::zs,o,h,0,x,a=>by
  simp only [List.map_cons,IN,Jo] at h;obtain ⟨⟨v,c,_,_,rfl⟩,_⟩:=h;simp at a;subst a;simpa using c
 | z::zs,o,h,j+1,x,a=>by
  simp only [List.map_cons,IN] at h;have:=UF zs (o+1) h.2.2 j x (by simpa using a);rw [show o+(j+1)=o+1+j from by omega];exact this
theorem cy {xs:List ByteArray} {v:Value} (h:A7 w F (.list 1 (xs.map TV.str)) v) :
  (xs=[]∧∃ a cap,v=.slice a 0 cap)∨∃ b c cap,v=.slice (some ⟨b,c,none⟩) xs.length cap∧xs.length<=cap∧b<w.heap.size∧∀ (j:Nat) x,xs[j]?=some x->w.cell? ⟨b,c+j,none⟩=some (.string x):=by
 simp only [A7,d7] at h;obtain ⟨a,cap,rfl,n,o,p⟩:=h;cases a with
 | none=>
  have d:xs=[]:=by simpa using o rfl
  subst d;exact .inl ⟨rfl,none,cap,rfl⟩
 | some m=>
  obtain ⟨g,q⟩:=p m rfl;obtain ⟨b,c,r⟩:=m;simp only at g;by_cases d:xs=[]
  ·subst d;exact .inl ⟨rfl,_,cap,rfl⟩
  have g:r=none:=g.resolve_left (fun e=>d (by simpa using e));subst g;have i:=UF xs c q;refine .inr ⟨b,c,cap,rfl,n,?_,i⟩;cases xs with
  | nil=>exact absurd rfl d
  | cons x l=>
   have:=i 0 x rfl;unfold World.cell? at this;by_cases k:b<w.heap.size
   ·exact k
   ·rw [Array.getElem?_eq_none (by simpa using k)] at this;simp at this
variable {P:Program} {f:FuncId}
theorem fZ (g:GY P f=true) {n:Int} {s:ByteArray} (h:s.size<=I0) (b:∀ w:World,Calls P f #[.int .i64 n] w fun e w'=>e=.returned (.string s)∧w'=w):AU P f [.int .i64 n] (.sh (.str s)):=by
 refine AU.of0 (fun j=>⟨g,fun F0 w vs a=>?_⟩) rfl;have c:vs=#[.int .i64 n]:=by
  simp only [AS] at a;obtain ⟨v,r,i,d,rfl⟩:=a;simp only [A7] at d;subst d;rw [←Array.toArray_toList (xs:=vs),i]
 subst c;refine ⟨h,?_⟩;refine (b w).mono ?_;rintro _ _ ⟨rfl,rfl⟩;exact ⟨_,rfl,Below.refl _ _,by simp [Ju,A7]⟩
theorem fb (m:GY P f=true) {xs:List ByteArray} {d out:ByteArray} (n:out.size<=I0)
  (g:∀ (a:Option Addr) (c:Nat) (w:World),xs=[]->Calls P f #[.slice a 0 c,.string d] w fun e w'=>e=.returned (.string out)∧w'=w)
  (h:∀ (b o c:Nat) (w:World),(∀ (j:Nat) x,xs[j]?=some x->w.cell? ⟨b,o+j,none⟩=some (.string x))->b<w.heap.size->xs.length<=c->Calls P f #[.slice (some ⟨b,o,none⟩) xs.length c,.string d] w fun e w'=>e=.returned (.string out)∧Below w.heap.size w w') :
  AU P f [.list 1 (xs.map TV.str),.str d] (.sh (.str out)):=by
 refine AU.of0 (fun y=>⟨m,fun F0 w vs i=>?_⟩) rfl;obtain ⟨v,z,rfl,p,l⟩:=Qw i;simp only [A7] at l;subst l;refine ⟨n,?_⟩;rcases cy p with ⟨rfl,r,cap,rfl⟩ | ⟨b,k,cap,rfl,s,t,u⟩
 ·refine (g r cap w rfl).mono ?_;rintro _ _ ⟨rfl,rfl⟩;exact ⟨_,rfl,Below.refl _ _,by simp [Ju,A7]⟩
 ·refine (h b k cap w u t s).mono ?_;rintro _ _ ⟨rfl,q⟩;exact ⟨_,rfl,q,by simp [Ju,A7]⟩
def Tu (i:Nat):List UInt8:=if i<10 then [UInt8.ofNat (48+i)] else [UInt8.ofNat (48+i / 10),UInt8.ofNat (48+i % 10)]
theorem cY (i:Nat) (h:i<100):Go.Lib.decDigits i=Tu i:=by
 unfold Tu;by_cases a:i<10
 ·rw [Go.Lib.decDigits,dif_pos a,d1 a]
 ·rw [Go.Lib.decDigits,dif_neg a,d2 a,Go.Lib.decDigits,dif_pos (show i / 10<10 by omega)]; rfl
def ZA (i:Nat):ByteArray:=⟨(Tu i).toArray⟩
theorem ZB (i:Nat):(ZA i).size<=2:=by
 show (Tu i).toArray.size<=2;unfold Tu;split <;> simp
def JQ (xs:List ByteArray) (sep:ByteArray):ByteArray:=⟨(Go.Lib.join (xs.map (·.data.toList)) sep.data.toList).toArray⟩
end Go.Sf
