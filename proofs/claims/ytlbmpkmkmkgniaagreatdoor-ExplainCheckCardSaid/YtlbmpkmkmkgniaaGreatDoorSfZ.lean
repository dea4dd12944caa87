/- Zeros behind a list of one's own. -/
import Derived.Test.YtlbmpkmkmkgniaaGreatDoorSfY
import Derived.Lib.AppendZerosOnto
set_option linter.all false
namespace Go.Sf
open Go.RowKit (Below)
theorem Ki {z b:Value} (h:z.cells=#[b]) (k:Nat):Builtin.zeroCells z.cells k=(List.replicate k b).toArray:=by
 rw [h];apply Array.ext
 ·simp [Builtin.zeroCells]
 ·intro i c e;simp [Builtin.zeroCells,Nat.mod_one]
section
variable {P:Program} {w:World}
theorem QB (t v ty e x:TypeId) (i:TypeInfo) (z q:Value) (D E:IntKind) (y:P.underlying t=some (.slice e)) (l:P.underlying v=some (.int E)) (hi:P.info? e=some i) (F:i.zero=some z) (A:i.size=1) (r:z.cells=#[q]) (H:q.oneCell'=true)
  (g b c:Nat) (f:Array Value) (I:w.heap[g]?=some (.cells f x (0,0)))
  (k:Nat) (J:k*i.bytes<=281474976710656) (B:(k:Int)<=9223372036854775807) (j:b+k<=c) (m:b+k<=f.size) :
  (Builtin.append_ #[t,v] ty #[.slice (some ⟨g,0,none⟩) b c,.int D k]).run P w =
   .ok (.slice (some ⟨g,0,none⟩) (b+k) c) (w.setRow g (f.toList.take b++List.replicate k q++f.toList.drop (b+k)).toArray):=by
 have M:IntKind.i64.wrap (k:Int)=k:=by rw [IntKind.wrap_i64]; omega
 have n:¬ ((k:Int)<0):=by omega
 have p:¬ (281474976710656<(k:Int)*(i.bytes:Int)):=by
  rw [←Int.natCast_mul];omega
 have h:=run_storeCells_at P g b x (List.replicate k q) 0 f w I (by simpa using m) (fun u L=>by rw [List.eq_of_mem_replicate L]; exact H);simp only [Nat.add_zero,List.length_replicate] at h;by_cases C:k=0
 ·subst C;simp only [List.replicate_zero,Nat.add_zero] at h;have s:IntKind.i64.wrap 0=0:=by decide
  simp [Builtin.append_,run_underlying y,run_underlying l,sizeOf,typeInfo,hi,asInt,asIntOf,s,A,show b<=c from by omega,Addr.add_lit,h]
 ·simp [Builtin.append_,run_underlying y,run_underlying l,sizeOf,typeInfo,zeroValue,hi,F,asInt,asIntOf,M,n,p,A,C,j,Addr.add_lit,Ki r,h]
theorem RC (t c ty e:TypeId) (i:TypeInfo) (f g:IntKind) (h:P.underlying t=some (.slice e)) (b:P.underlying c=some (.int g)) (hi:P.info? e=some i) :
  (Builtin.append_ #[t,c] ty #[.slice none 0 0,.int f 0]).run P w=.ok (.slice none 0 0) w:=by
 have j:IntKind.i64.wrap 0=0:=by decide
 simp [Builtin.append_,run_underlying h,run_underlying b,sizeOf,typeInfo,hi,asInt,asIntOf,j]
theorem dE (t F ty e:TypeId) (i:TypeInfo) (z H:Value) (M N:IntKind) (V:P.underlying t=some (.slice e)) (x:P.underlying F=some (.int N)) (hi:P.info? e=some i) (X:i.zero=some z)
  (hs:i.size=1) (Q:i.bytes<=4096) (n:z.cells=#[H]) (h1:H.oneCell'=true) (v:Value) (len:Nat) (xs:List Value) (W:Option (Nat × Nat)) (c:IB w 1 v len xs W) (k:Nat) (Y:k<=4096) (A:len+k<=BN) :
  ∃ v' w' z',(Builtin.append_ #[t,F] ty #[v,.int M k]).run P w=.ok v' w'∧IB w' 1 v' (len+k) (xs++List.replicate k H) z'∧Jh w w' W z':=by
 have f:(xs++List.replicate k H).length=(len+k)*1:=by rw [d4,c.1,List.length_replicate]; omega
 have y:(len+k)*i.bytes<=140737488355328:=by
  calc (len+k)*i.bytes<=BN*4096:=Nat.mul_le_mul A Q
   _<=140737488355328:=by decide
 have B:k*i.bytes<=281474976710656:=by
  calc k*i.bytes<=4096*4096:=Nat.mul_le_mul Y Q
   _<=281474976710656:=by decide
 have hml:len+k<=maxLen:=by simp only [maxLen,BN] at *; omega
 have R:∀ b lo,W=some (b,lo)->b<w.heap.size:=by
  intro b lo l;rcases c.2 with ⟨_,_,h⟩ | ⟨g,cap,r,E,_,L,_,_,_,_,h⟩
  ·rw [h] at l; cases l
  ·rw [h] at l;simp only [zzY,Prod.mk.injEq] at l;rw [←l.1]; exact (Array.getElem?_eq_some_iff.1 L).1
 have p:∀ (old:Nat),old<len+k ->
   IB (w.drew.alloc (.cells (xs.toArray++Builtin.zeroCells z.cells k++Builtin.zeroCells z.cells (grownCap w (len+k) old e - (len+k))) e)) 1
    (.slice (some ⟨w.heap.size,0,none⟩) (len+k) (grownCap w (len+k) old e)) (len+k) (xs++List.replicate k H) (some (w.heap.size,(len+k)*1)) ∧
   Jh w (w.drew.alloc (.cells (xs.toArray++Builtin.zeroCells z.cells k++Builtin.zeroCells z.cells (grownCap w (len+k) old e - (len+k))) e)) W (some (w.heap.size,(len+k)*1)):=by
  intro old ho;have hge:=grownCap_ge w (len+k) old e;have C:grownCap w (len+k) old e<=maxLen:=grownCap_le_maxLen w (len+k) old e hml;have T:xs.length=len:=by simpa using c.1
  refine ⟨⟨f,.inr ⟨w.heap.size,_,_,e,rfl,heap_alloc_new w.drew _,hge,C,?_,?_,rfl⟩⟩,⟨rfl,rfl,rfl,by simp,fun k Y _=>Below.heap_alloc w.drew _ k Y,fun b o v I _=>?_,fun b lo l=>?_⟩⟩
  ·rw [Ki n,Ki n];simp only [Array.size_append,List.size_toArray,List.length_replicate,T];omega
  ·rw [Ki n,Ki n];simp only [Array.toList_append,ea];rw [←ea,←f];exact List.take_left
  ·have l:b<w.heap.size:=World.block_lt_of_cell? w ⟨b,o,none⟩ I;rw [World.cell?_alloc_lt _ _ (a:=⟨b,o,none⟩) (by simpa using l)];simpa using I
  ·simp only [zzY,Prod.mk.injEq] at l;rw [←l.1];exact ⟨by simp,.inl (d3 _)⟩
 rcases c.2 with ⟨rfl,rfl,rfl⟩ | ⟨g,cap,r,E,rfl,L,hnc,C,hcs,s,rfl⟩
 ·have hx:xs=[]:=List.eq_nil_of_length_eq_zero (by simpa using c.1);subst hx;by_cases hk0:k=0
  ·subst hk0;exact ⟨_,_,none,RC t F ty e i M N V x hi,⟨by simp,.inl ⟨rfl,rfl,rfl⟩⟩,Jh.refl w none (by simp)⟩
  ·have J:=Lib.run_append_nil_zeros (P:=P) w t F ty e i z M N V x hi X k (by omega) (by omega) (by omega) B;have m:=p 0 (by omega);simp only [Nat.zero_add,List.nil_append,Array.empty_append] at m J ⊢;exact ⟨_,_,_,J,m.1,m.2⟩
 ·have T:xs.length=len:=by simpa using c.1
  simp only [Nat.mul_one] at hcs s;by_cases q:len+k<=cap
  ·have J:=QB (P:=P) (w:=w) t F ty e E i z H M N V x hi X hs n h1 g len cap r L k B (by omega) q (by omega);refine ⟨_,_,some (g,(len+k)*1),J,⟨f,.inr ⟨g,cap,_,E,rfl,setRow_heap w g r _ E _ L,q,C,?_,?_,rfl⟩⟩,⟨rfl,rfl,rfl,by simp,fun j _ hj=>setRow_other w g j _ (fun e=>hj (len*1) (by rw [e])),fun b o u I Z=>?_,fun b lo l=>?_⟩⟩
   ·simp only [List.size_toArray,d4,d5,List.length_drop,Array.length_toList,List.length_replicate];omega
   ·rw [s,←f];exact List.take_left
   ·by_cases U:b=g
    ·subst U;have ho:=Z (len*1) rfl;rw [cell_of_row _ b o _ E (0,0) (setRow_heap w b r _ E _ L)];rw [cell_of_row w b o r E (0,0) L] at I;rw [List.getElem?_toArray,ea,List.getElem?_append_left (by simp; omega),List.getElem?_take_of_lt (by omega)];simpa using I
    ·rw [World.cell?_of_block (w:=w) (a:=⟨b,o,none⟩) (setRow_other w g b _ (fun e=>U e))];exact I
   ·simp only [zzY,Prod.mk.injEq] at l;obtain ⟨rfl,rfl⟩:=l;refine ⟨by simpa using R g (len*1) rfl,.inr ⟨len*1,rfl,Nat.mul_le_mul_right _ (by omega)⟩⟩
  ·have D:(Builtin.firstCells i.size len (.slice (some ⟨g,0,none⟩) len cap)).run P w.drew=.ok xs.toArray w.drew:=by
    refine run_firstCells_some (P:=P) w.drew i.size len ⟨g,0,none⟩ len cap xs (by rw [hs]; omega) (fun j u hu=>?_);rw [Addr.add_lit,Nat.zero_add];have:=c.cell rfl j u hu;simpa using this
   have J:=Lib.run_append_grow_zeros (P:=P) w t F ty e i z M N V x hi X (some ⟨g,0,none⟩) len cap xs D k (by omega) (by omega) (by omega) (by simp only [BN] at A; omega) B (growslice_fits (by omega) y);have m:=p cap (by omega);exact ⟨_,_,_,J,m.1,m.2⟩
end
def Operand.isTmp2 (n:Nat):Operand->Bool
 | .tmp m=>m==n
 | _=>false
theorem Operand.isTmp_eq' {n:Nat} {x:Operand} (h:Operand.isTmp2 n x=true):x=.tmp n:=by
 cases x <;> simp [Operand.isTmp2] at h;rw [h]
def ac (P:Program) (n s:Nat) (z:TV) (x:AL) (c:Call):Bool:=
 match c.callee,c.args.toList,c.argTypes.toList with
 | .builtin .append,[p,q],[t,t']=>Operand.isTmp2 s p&&AP q x&&(match P.underlying t,P.underlying t' with
  | some (.slice e),some (.int _)=>(match P.info? e with
   | some i=>(match i.zero with
    | some zz=>(match zz.cells.toList with
     | [z0]=>n==1&&i.size==1&&decide (i.bytes<=4096)&&FO z z0&&z0.oneCell'
     | _=>false)
    | none=>false)
   | none=>false)
  | _,_=>false)
 | _,_,_=>false
section
variable {P:Program} {S:FuncId->QQ->CS->Prop} {F0:Nat->Nat->Prop} {w0:W0} {O:AD} {a:Act} {w:World} {G:DP} {d:Nat} {o:Oper} {K:EV->AD->Prop}
theorem bT (I:AZ F0 w0 O a w G) (hd:d<a.tmps.size) {s:Nat} {x:Operand} {y:AL} {t J e:TypeId} {kn:IntKind} {i:TypeInfo} {L l:Value} {z:TV} (M:o.op=.call { callee:=.builtin .append,args:=#[.tmp s,x],argTypes:=#[t,J] })
  (ht:P.underlying t=some (.slice e)) (N:P.underlying J=some (.int kn)) (hi:P.info? e=some i) (f:i.zero=some L) (Q:i.size=1) (R:i.bytes<=4096) (T:L.cells=#[l]) (r:FO z l=true) (h1:l.oneCell'=true)
  (U:AP x y=true) (h:(AJ.appz 1 s z y).wp S O (some d) K):B2 P F0 w0 a w o d K:=by
 simp only [AJ.wp] at h;split at h
 ·rename_i d' m es kk j A Y hy;simp only [zzY] at A;subst A;obtain ⟨⟨⟨rfl,_⟩,D⟩,⟨h0,h4⟩,⟨c,hno,hds⟩,hK⟩:=h;obtain ⟨k,rfl⟩:∃ k:Nat,j=k:=⟨j.toNat,by omega⟩;simp only [Int.toNat_natCast] at c hK;have g:=A9 I Y (by simp);have n:=I.wf s;rw [Y] at n;simp only [AY] at g;obtain ⟨xs,⟨zo,k1,E⟩,k2,k3,k4⟩:=g;have hv:=(BR I U hy).1;simp only [A7] at hv;obtain ⟨v',w',z',F,r1,q⟩:=dE (P:=P) t J o.type e i L l kk kn ht N hi f Q R T h1 (slot a s) es.length xs zo k1 k (by omega) c;have Z:∀ k,(∀ lo,G s none≠some (k,lo))->∀ lo,zo≠some (k,lo):=fun k V lo f=>V 0 (by rw [E,f]; rfl);have hfm:∀ k,(List.replicate k z).flatMap TV.cells=List.replicate k z:=by
   intro k
   induction k with
   | zero=>rfl
   | succ k ih=>rw [List.replicate_succ,List.flatMap_cons,ih,D]; rfl
  refine ⟨v',w',?_,_,_,hK,I.xgo Y hd hds (z':=z'.map fun p=>(p.1,0)) q.os q.tape q.output q.size (fun k V f=>q.other k V (Z k f)) (fun b lo f=>?_) (by simp) (fun _=>hno) (fun F' G' env' a' W hG=>?_) ?_⟩
  ·simp [execOp,M,resolve,invoke,builtin,show a.eval (.tmp s)=slot a s from rfl,hv,F]
  ·cases z' with
   | none=>simp at f
   | some p=>
    simp only [Option.map_some,zzY,Prod.mk.injEq] at f;obtain ⟨q1,H⟩:=q.zone p.1 p.2 rfl;rw [←f.1];refine ⟨q1,?_⟩;rcases H with H | ⟨lo',H,_⟩
    ·exact .inl H
    ·exact .inr ⟨0,by rw [E,H]; rfl⟩
  ·simp only [AY];rw [hG];refine ⟨xs++List.replicate k l,⟨z',by rw [d4,List.length_replicate]; exact r1,rfl⟩,?_,?_,?_⟩
   ·rw [List.flatMap_append,hfm];refine Kg (BP W _ _ k2) ?_;rw [CP];refine ⟨by simp,fun i u v X hv=>?_⟩;rw [List.eq_of_mem_replicate (List.mem_of_getElem? X),List.eq_of_mem_replicate (List.mem_of_getElem? hv)];exact (Il _ F' z l r).1
   ·intro e B;rcases List.mem_append.1 B with B | B
    ·exact k3 e B
    ·rw [List.eq_of_mem_replicate B,D]; rfl
   ·intro x C;rcases List.mem_append.1 C with C | C
    ·exact k4 x C
    ·rw [List.eq_of_mem_replicate C]; exact h1
  ·simp only [EV.WF,TV.WF] at n ⊢;refine ⟨by rw [d4,List.length_replicate]; exact T7 c,Lf.2 ⟨n.2,?_⟩⟩;rw [CU];intro u X;rw [List.eq_of_mem_replicate X];exact (Il w (fun _ _=>False) z l r).2
 ·exact h.elim
theorem Zq (j:AZ F0 w0 O a w G) (l:d<a.tmps.size) {f:FuncId} {xs:Array Operand} {c:List AL} {e:Array TypeId} (g:o.op=.call { callee:=.value (.func f),args:=xs,argTypes:=e }) (i:DK xs.toList c=true) (h:(AJ.callf f c).wp (AT P) O (some d) K):B2 P F0 w0 a w o d K:=by
 simp only [AJ.wp] at h;cases b:vals O c with
 | none=>rw [b] at h; exact h.elim
 | some v=>
  rw [b] at h;simp only [BA] at h;obtain ⟨k,m,n⟩:=h;have hv:=KJ j i b;obtain ⟨⟨p,q⟩,s⟩:=m hv.2;obtain ⟨r,t,u⟩:=s w (xs.map a.eval) (by simpa using BP Ui _ _ hv.1);refine ⟨.tuple r,w,by simp [execOp,g,resolve,Act.eval,Deferred.ofValue,invoke,←t],_,_,n,_,j.quiet (Below.refl _ _) d l (.tp k) _ (fun _=>none) (by simp) (by simp) (by simp) ?_ q⟩;simp only [AY];exact ⟨r,rfl,KD k p _ u⟩
def Wr (P:Program) (t:TypeId) (n:Nat):Bool:=
 match P.underlying t with
 | some (.slice e)=>(match P.info? e with
  | some ie=>ie.size==n
  | none=>false)
 | _=>false
theorem ba (l:AZ F0 w0 O a w G) (m:d<a.tmps.size) {t:TypeId} {n:Nat} (g:o.op=.buildSlice t 0 #[]) (c:Wr P t n=true) (h:(AJ.lstz n).wp S O (some d) K):B2 P F0 w0 a w o d K:=by
 simp only [AJ.wp] at h;obtain ⟨j,r⟩:=h;unfold Wr at c;split at c
 ·rename_i e p;split at c
  ·rename_i u i;have f:(execOp a.eval o).run P w=.ok (.value (.slice (some ⟨w.heap.size,0,none⟩) 0 0)) (w.alloc (.cells #[] e)):=by
    simp [execOp,g,Instr.buildSlice,run_underlying p,sizeOf,typeInfo,i,Instr.fill,newRow];rw [Array.range_zero']; simp
   have q:Below w.heap.size w (w.alloc (.cells #[] e)):=(Below.refl _ _).alloc (d3 _) _;refine ⟨_,_,f,_,_,r,l.xnew q m j (z:=some (w.heap.size,0*n)) (xs:=[]) ⟨by simp,.inr ⟨w.heap.size,0,_,e,by simp,heap_alloc_new w _,by simp,by simp [maxLen],by simp,by simp,by simp⟩⟩ (fun b lo k=>?_) (fun s _=>rfl) (by simp) (by simp) ⟨by simp,trivial⟩⟩;simp only [zzY,Prod.mk.injEq] at k;rw [←k.1]; exact ⟨d3 _,by simp⟩
  ·cases c
 ·cases c
theorem LB (c:AD):∀ (b:ci) (O:AD) (n:Nat),AD.get (OJ c b O) n=if n∈b then (c.get n).gave else O.get n
 | [],_,_=>by simp [OJ]
 | q::b,O,n=>by
  rw [OJ,AD.get_cons,LB c b O n];by_cases h:q=n
  ·rw [d1 h,d1 (by rw [h]; exact List.mem_cons_self),h]
  ·have f:¬ n=q:=fun e=>h e.symm;simp [h,f]
theorem M1 (e:EV):(∃ t,e=.ow t∧e.gave=.tv t)∨e.gave=.undef:=by
 cases e <;> first | exact .inl ⟨_,rfl,rfl⟩ | exact .inr rfl
abbrev Sy:=Value ⊕ (Operand × Nat × Nat)
def Ry:List Sy->Nat->List Sy->List Sy
 | l,_,[]=>l
 | l,i,y::ys=>Ry (l.set i y) (i+1) ys
def QE (place:Nat->Option (Nat × Nat)):List (Nat × Operand)->List Sy->Option (List Sy)
 | [],row=>some row
 | (i,x)::ps,row=>match place i with
  | some (off,n)=>if off+n<=row.length then QE place ps (Ry row off ((List.range n).map fun k=>.inr (x,k,n))) else none
  | none=>none
def Sy.is (a:Act):Sy->Value->Prop
 | .inl u,v=>v=u
 | .inr (x,k,_),v=>(a.eval x).cells[k]?=some v
def PH (a:Act) (row:List Sy) (xs:List Value):Prop:=xs.length=row.length∧∀ (j:Nat) (s:Sy) (v:Value),row[j]?=some s->xs[j]?=some v->s.is a v
theorem bK {a:Act} {row:List Sy} {xs:List Value} (h:PH a row xs) {s:Sy} {v:Value} (f:s.is a v) (i:Nat):PH a (row.set i s) (xs.set i v):=by
 refine ⟨by simp [h.1],fun j s' g b c=>?_⟩;rw [List.getElem?_set] at b c;by_cases e:i=j
 ·rw [d1 e] at b c;split at b
  ·split at c
   ·cases b; cases c; exact f
   ·cases c
  ·cases b
 ·rw [d2 e] at b c;exact h.2 j s' g b c
theorem Vf {a:Act}:∀ {b:List Sy} {vs:List Value} {row:List Sy} {xs:List Value} (i:Nat),PH a row xs->PH a b vs->PH a (Ry row i b) (TK xs i vs)
 | [],[],_,_,_,h,_=>h
 | [],_::_,_,_,_,_,h=>by have:=h.1; simp at this
 | _::_,[],_,_,_,_,h=>by have:=h.1; simp at this
 | s::b,v::vs,row,xs,i,h,c=>by
  rw [Ry,TK];exact Vf (i+1) (bK h (c.2 0 s v rfl rfl) i) ⟨by have:=c.1; simpa using this,fun j s' e f g=>c.2 (j+1) s' e (by simpa using f) (by simpa using g)⟩
theorem WU {a:Act} {place:Nat->Option (Nat × Nat)}:∀ {g:List (Nat × Operand)} {row b:List Sy} {xs:Array Value},PH a row xs.toList->(∀ p∈g,∀ c n,place p.1=some (c,n)->(a.eval p.2).cells.size=n)->QE place g row=some b ->
  ∃ xs',Instr.fill place xs (g.map fun (i,x)=>(i,a.eval x))=some xs'∧PH a b xs'.toList
 | [],row,b,xs,h,_,e=>by
  simp only [QE,zzY] at e;subst e;exact ⟨xs,rfl,h⟩
 | (i,x)::g,row,b,xs,h,t,e=>by
  rw [QE] at e;split at e
  ·rename_i c n l;split at e
   ·rename_i z;have f:=t (i,x) (by simp) c n l;simp only at f;have A:=h.1;rw [Array.length_toList] at A;have B:PH a (Ry row c ((List.range n).map fun k=>.inr (x,k,n))) (((a.eval x).cells.zipIdx.foldl (fun cs (y:Value × Nat)=>cs.setIfInBounds (c+y.2) y.1) xs)).toList:=by
     rw [←Array.foldl_toList,Array.toList_zipIdx,PU,Nat.add_zero];refine Vf c h ⟨by simp [f],fun j s v m u=>?_⟩;rw [List.getElem?_map] at m;simp only [Option.map_eq_some_iff] at m;obtain ⟨k,r,rfl⟩:=m;have q:k=j:=by
      rw [List.getElem?_range] at r
      ·cases r; rfl
      ·have:=(List.getElem?_eq_some_iff.1 r).1; simpa using this
     subst q;show (a.eval x).cells[k]?=some v;rw [←Array.getElem?_toList]; exact u
    obtain ⟨xs',C,D⟩:=WU B (fun p l=>t p (by simp [l])) e;refine ⟨xs',?_,D⟩;simp only [List.map_cons,Instr.fill,l];rw [d2 (by simp; omega)];exact C
   ·cases e
  ·cases e
def P8:GC->Sy->Bool
 | .z c,.inl v=>Rl c v
 | .v y k n,.inr (x,k',n')=>AP x y&&k==k'&&n==n'
 | .w q,.inr (x,k',n')=>AP x (.s q)&&k'==0&&n'==1
 | .g q k n,.inr (x,k',n')=>AP x (.s q)&&k==k'&&n==n'
 | _,_=>false
def QZ:List GC->List Sy->Bool
 | [],[]=>true
 | g::gs,s::ss=>P8 g s&&QZ gs ss
 | _,_=>false
def Rh (x:Operand) (n:Nat):GC->Bool
 | .z _=>false
 | .v y _ m=>AP x y&&m==n
 | .w q=>AP x (.s q)&&1==n
 | .g q _ m=>AP x (.s q)&&m==n
def Qm (place:Nat->Option (Nat × Nat)) (z:List Value) (ps:List (Nat × Operand)) (gs:List GC):Bool:=
 (ps.all fun p=>match place p.1 with
  | some (_,n)=>gs.any (Rh p.2 n)
  | none=>false) &&
 match QE place ps (z.map .inl) with
 | some row=>QZ gs row
 | none=>false
def Wq (P:Program) (t:TypeId) (ps:List (Nat × Operand)) (gs:List GC):Bool:=
 match P.info? t,P.underlying t with
 | some it,some (.array _ e)=>
  match it.zero,P.info? e with
  | some z,some ie=>Qm (fun i=>some (i*ie.size,ie.size)) z.cells.toList ps gs
  | _,_=>false
 | some it,some (.struct fields)=>
  match it.zero,fields.toList.mapM (fun f=>(P.info? f.type).map fun i=>(f.offset,i.size)) with
  | some z,some places=>Qm (places.toArray[·]?) z.cells.toList ps gs
  | _,_=>false
 | _,_=>false
theorem Rg:∀ {b:List GC} {c:List Sy},QZ b c=true->c.length=b.length∧∀ (j:Nat) (g:GC),b[j]?=some g->∃ s,c[j]?=some s∧P8 g s=true
 | [],[],_=>⟨rfl,fun j g h=>by simp at h⟩
 | [],_::_,h=>by cases h
 | _::_,[],h=>by cases h
 | g::b,s::c,h=>by
  rw [QZ,zzZ] at h;obtain ⟨i,k⟩:=Rg h.2;refine ⟨by simp [i],fun j f e=>?_⟩;cases j with
  | zero=>simp at e; subst e; exact ⟨s,rfl,h.1⟩
  | succ j=>simpa using k j f (by simpa using e)
theorem Ty:∀ {b:List GC} {cs:List A1},JR O b=some cs->cs.length=b.length∧∀ (j:Nat) (g:GC),b[j]?=some g->∃ c,cs[j]?=some c∧g.cell O=some c
 | [],cs,h=>by simp only [JR,zzY] at h; subst h; exact ⟨rfl,fun j g h=>by simp at h⟩
 | g::b,cs,h=>by
  rw [JR] at h;split at h
  ·rename_i c cs' k f;cases h;obtain ⟨l,m⟩:=Ty f;refine ⟨by simp [l],fun j i e=>?_⟩;cases j with
   | zero=>simp at e; subst e; exact ⟨c,rfl,k⟩
   | succ j=>simpa using m j i (by simpa using e)
  ·cases h
theorem QU {x:Operand} {q:Nat} (h:AP x (.s q)=true):a.eval x=slot a q:=by
 cases x <;> simp [AP] at h;rw [h]; rfl
theorem cQ (f:AZ F0 w0 O a w G) {g:GC} {c:A1} (h:g.cell O=some c) {x:Operand} {n:Nat} (b:Rh x n g=true):(a.eval x).cells.size=n:=by
 cases g with
 | z c=>cases b
 | v y k m=>
  simp only [Rh,zzZ,beq_iff_eq] at b;obtain ⟨b,rfl⟩:=b;simp only [GC.cell] at h;split at h
  ·rename_i t l;split at h
   ·rename_i i j;have:=CN (Ja (BR f b l).1).1;rw [Array.length_toList,Nat.eq_of_beq_eq_true i] at this;exact this
   ·cases h
  ·cases h
 | w q=>
  simp only [Rh,zzZ,beq_iff_eq] at b;obtain ⟨b,rfl⟩:=b;rw [QU b];have:(slot a q).oneCell'=true:=by
   simp only [GC.cell] at h;split at h
   ·rename_i t e;have:=A9 f e (by simp);simp only [AY] at this;exact R8 this
   ·rename_i m es e;have:=A9 f e (by simp);exact MN (c:=⟨true,.xl m es⟩) this
   ·cases h
  rw [Ph this]; rfl
 | g q k m=>
  simp only [Rh,zzZ,beq_iff_eq] at b;obtain ⟨b,rfl⟩:=b;rw [QU b];simp only [GC.cell] at h;split at h
  ·rename_i cs e;split at h
   ·rename_i i;have:=A9 f e (by simp);simp only [AY] at this;obtain ⟨vs,j,p,_⟩:=this;rw [j];show vs.size=m;rw [p,Nat.eq_of_beq_eq_true i]
   ·cases h
  ·cases h
theorem iw (i:AZ F0 w0 O a w G) {g:GC} {c:A1} (h:g.cell O=some c) {s:Sy} {v:Value} (f:P8 g s=true) (hv:s.is a v):C3 w (A3 w0.heap.size F0 G) (g.src.bind fun p=>G p.1 p.2) c v∧c.t.WF:=by
 cases g with
 | z c'=>
  cases s with
  | inr p=>cases f
  | inl u=>
   simp only [GC.cell,zzY] at h;subst h;have:v=u:=hv;subst this;exact SS f
 | v y k m=>
  cases s with
  | inl u=>cases f
  | inr p=>
   obtain ⟨x,r,A⟩:=p;simp only [P8,zzZ,beq_iff_eq] at f;obtain ⟨⟨j,rfl⟩,_⟩:=f;have hv:(a.eval x).cells[k]?=some v:=hv;simp only [GC.cell] at h;split at h
   ·rename_i t C;split at h
    ·rename_i c' J l;cases h;obtain ⟨D,E⟩:=BR i j C;obtain ⟨F,H⟩:=Ja D;rw [←Array.getElem?_toList] at hv;exact ⟨⟨((CP _ _).1 F).2 k _ _ l hv,H v (List.mem_of_getElem? hv)⟩,CU.1 (Ka E) _ (List.mem_of_getElem? l)⟩
    ·cases h
   ·cases h
 | w q=>
  cases s with
  | inl u=>cases f
  | inr p=>
   obtain ⟨x,r,A⟩:=p;simp only [P8,zzZ,beq_iff_eq] at f;obtain ⟨⟨j,rfl⟩,_⟩:=f;have hv:(a.eval x).cells[0]?=some v:=hv;rw [QU j] at hv;have b:=i.wf q;simp only [GC.cell] at h;split at h
   ·rename_i t e;cases h;have:=A9 i e (by simp);simp only [AY] at this;rw [Ph (R8 this)] at hv;cases hv;rw [e] at b;exact ⟨this.c,b⟩
   ·rename_i m es e;cases h;have:=A9 i e (by simp);have n:C3 w (A3 w0.heap.size F0 G) (G q none) ⟨true,.xl m es⟩ (slot a q):=this;rw [Ph (MN n)] at hv;cases hv;rw [e] at b;exact ⟨n,b⟩
   ·cases h
 | g q k m=>
  cases s with
  | inl u=>cases f
  | inr p=>
   obtain ⟨x,r,A⟩:=p;simp only [P8,zzZ,beq_iff_eq] at f;obtain ⟨⟨j,rfl⟩,_⟩:=f;have hv:(a.eval x).cells[k]?=some v:=hv;rw [QU j] at hv;have b:=i.wf q;simp only [GC.cell] at h;split at h
   ·rename_i cs e;split at h
    ·have:=A9 i e (by simp);simp only [AY] at this;obtain ⟨vs,l,_,I⟩:=this;rw [l] at hv;have hv:vs[k]?=some v:=hv;obtain ⟨x',B,n⟩:=I k c h;rw [hv] at B;cases B;rw [e] at b;exact ⟨n,b c (List.mem_of_getElem? h)⟩
    ·cases h
   ·cases h
theorem AZ.regather (h:AZ F0 w0 O a w G) (hd:d<a.tmps.size) {z:ci} {cs:List A1} {vs:Array Value} (σ:Nat->Option (Nat × Option Nat)) (hdq:d ∉ z) (L:vs.size=cs.length) (Z:∀ j q i,σ j=some (q,i)->q∈z)
  (C:∀ j D p,σ j=some p->σ D=some p->j=D) (M:∀ (j:Nat) (c:A1),cs[j]?=some c->∃ x,vs[j]?=some x∧C3 w (A3 w0.heap.size F0 G) ((σ j).bind fun p=>G p.1 p.2) c x) (N:∀ c∈cs,c.t.WF) (hq:∀ q∈z,q<a.tmps.size) :
  DI F0 w0 ((d,.oag cs)::OJ O z O) (a.put (some d) (.agg vs)) w:=by
 let u:DP:=fun p i=>if p=d then i.bind fun j=>(σ j).bind fun p=>G p.1 p.2 else if p∈z then none else G p i
 have s:∀ p i b lo,u p i=some (b,lo)->(∃ j q k,p=d∧i=some j∧σ j=some (q,k)∧G q k=some (b,lo))∨(p≠d∧p ∉ z∧G p i=some (b,lo)):=by
  intro p i b lo g;simp only [u] at g;split at g
  ·rename_i m;cases i with
   | none=>cases g
   | some j=>
    simp only [Option.bind_some] at g;cases X:σ j with
    | none=>rw [X] at g; cases g
    | some q=>rw [X] at g; exact .inl ⟨j,q.1,q.2,m,rfl,X,g⟩
  ·rename_i m;split at g
   ·cases g
   ·rename_i hn; exact .inr ⟨m,hn,g⟩
 have hF:∀ b o,A3 w0.heap.size F0 u b o->A3 w0.heap.size F0 G b o:=fun b o Q=>A3.mono (fun p i b lo g=>by
  rcases s _ _ _ _ g with ⟨j,q,k,_,_,_,e⟩ | ⟨_,_,e⟩
  ·exact ⟨q,k,lo,e,d3 _⟩
  ·exact ⟨p,i,lo,e,d3 _⟩) Q
 have A:DW w w (A3 w0.heap.size F0 G) (A3 w0.heap.size F0 u):=fun b o v M Q=>⟨M,fun R=>Q (hF b o R)⟩;refine ⟨u,?_,?_,h.below,by rw [LS]; exact h.defers,?_,?_,?_⟩
 ·intro p i p' i' b lo lo' V n;rcases s _ _ _ _ V with ⟨j,q,k,rfl,rfl,F,f2⟩ | ⟨n1,n2,F⟩ <;> rcases s _ _ _ _ n with ⟨D,q',k',rfl,rfl,H,g2⟩ | ⟨m1,m2,H⟩
  ·obtain ⟨E,e4⟩:=h.uniq _ _ _ _ _ _ _ f2 g2;subst E; subst e4;exact ⟨rfl,by rw [C j D _ F H]⟩
  ·obtain ⟨E,_⟩:=h.uniq _ _ _ _ _ _ _ f2 H;exact absurd (E ▸ Z j q k F) m2
  ·obtain ⟨E,_⟩:=h.uniq _ _ _ _ _ _ _ g2 F;exact absurd (E ▸ Z D q' k' H) n2
  ·exact h.uniq _ _ _ _ _ _ _ F H
 ·intro p i b lo V;rcases s _ _ _ _ V with ⟨j,q,k,_,_,_,f⟩ | ⟨_,_,f⟩ <;> exact h.lt _ _ _ _ f
 ·intro p g;rw [FW] at g;rw [AD.get_cons,d2 (by omega),LB];split
  ·rename_i hm;have:=hq p hm;omega
  ·exact h.dom p g
 ·intro p g;rw [FW] at g;rw [AD.get_cons];by_cases m:d=p
  ·subst m;rw [d1 rfl,Ia _ _ _ hd];simp only [AY];refine ⟨_,rfl,L,fun i c T=>?_⟩;obtain ⟨x,J,hr⟩:=M i c T;refine ⟨x,J,?_⟩;have:u d (some i)=(σ i).bind fun p=>G p.1 p.2:=by simp only [u,if_true]; rfl
   rw [this];exact hr.kept A (fun _ _ _=>rfl)
  ·rw [d2 m,BJ _ _ _ _ m,LB];split
   ·rcases M1 (O.get p) with ⟨t,e,n⟩ | n
    ·have y:=A9 h e (by simp);rw [n];simp only [AY] at y ⊢;exact DG A _ _ (C1.rep y (fun b lo o hz ho=>O5 h b lo o hz ho))
    ·rw [n]; simp only [AY]
   ·rename_i W;refine AY.kept A (fun i=>by simp only [u]; rw [d2 (fun e=>m e.symm),d2 W]) (fun _ _ _ _=>rfl) (fun r off _ ⟨cs',l⟩=>?_) (fun r i _ ⟨pp,U⟩=>?_) (h.slots p g)
    ·rw [AD.get_cons] at l;by_cases B:d=r
     ·rw [d1 B] at l; cases l
     ·rw [d2 B,LB] at l;split at l
      ·rcases M1 (O.get r) with ⟨t,_,n⟩ | n <;> (rw [n] at l; cases l)
      ·exact ⟨⟨cs',l⟩,BJ _ _ _ _ B⟩
    ·have Y:=AD.xat_drop (by simp) (by simp) U;have I:=LB O z O r;split at I
     ·have h2:=Y.2;rcases M1 (O.get r) with ⟨t,_,n⟩ | n <;> rw [n] at I <;> cases i <;> simp only [AD.xat,I] at h2 <;> cases h2
     ·have J:∃ p,O.xat r i=some p:=⟨pp,by rw [←Y.2]; exact (AD.xat_of I).symm⟩;exact ⟨J,h.xv J (BJ _ _ _ _ Y.1) (fun _ _=>rfl)⟩
 ·intro p;rw [AD.get_cons];split
  ·exact N
  ·rw [LB];have:=h.wf p;split
   ·rcases M1 (O.get p) with ⟨t,e,n⟩ | n
    ·rw [e] at this; rw [n]; exact this
    ·rw [n]; trivial
   ·exact this
theorem Vp {α β:Type} {f:α->Option β} {l:List α} (b:(l.filterMap f).Nodup) {i j:Nat} {p:β} (hi:(l[i]?).bind f=some p) (m:(l[j]?).bind f=some p):i=j:=by
 have key:∀ (l:List α) (i j:Nat),(l.filterMap f).Nodup->(l[i]?).bind f=some p->(l[j]?).bind f=some p->i<j->False:=by
  intro l
  induction l with
  | nil=>intro i j _ h; simp at h
  | cons x l s=>
   intro i j b g n q;obtain ⟨j,rfl⟩:∃ k,j=k+1:=⟨j - 1,by omega⟩;have c:(l[j]?).bind f=some p:=by simpa using n
   cases i with
   | zero=>
    have g:f x=some p:=by simpa using g
    rw [List.filterMap_cons,g] at b;rw [List.nodup_cons] at b;refine b.1 (List.mem_filterMap.2 ?_);rw [Option.bind_eq_some_iff] at c;obtain ⟨y,r,e⟩:=c;exact ⟨y,List.mem_of_getElem? r,e⟩
   | succ i=>
    refine s i j ?_ (by simpa using g) c (by omega);rw [List.filterMap_cons] at b;split at b
    ·exact b
    ·exact (List.nodup_cons.1 b).2
 rcases Nat.lt_trichotomy i j with h | h | h
 ·exact (key l i j b hi m h).elim
 ·exact h
 ·exact (key l j i b m hi h).elim
theorem bU (I:AZ F0 w0 O a w G) (hd:d<a.tmps.size) {t:TypeId} {C:Array (Nat × Operand)} {m:List GC} (T:o.op=.build t C) (b:Wq P t C.toList m=true) (h:(AJ.bldg m).wp S O (some d) K):B2 P F0 w0 a w o d K:=by
 simp only [AJ.wp] at h;obtain ⟨⟨hn,Y⟩,h⟩:=h;cases E:JR O m with
 | none=>rw [E] at h; exact h.elim
 | some cs=>
  rw [E] at h;simp only [BA] at h;obtain ⟨hl,l⟩:=Ty E;have key:∀ (place:Nat->Option (Nat × Nat)) (z:Array Value),Qm place z.toList C.toList m=true->∃ xs',Instr.fill place z (C.map fun (i,x)=>(i,a.eval x)).toList=some xs'∧xs'.size=cs.length ∧
    ∀ (j:Nat) (c:A1),cs[j]?=some c->(∃ x,xs'[j]?=some x∧C3 w (A3 w0.heap.size F0 G) (((m[j]?).bind GC.src).bind fun p=>G p.1 p.2) c x)∧c.t.WF:=by
   intro place z V;unfold Qm at V;rw [zzZ,List.all_eq_true] at V;obtain ⟨Z,H⟩:=V;split at H
   ·rename_i row J;have h5:(C.map fun (i,x)=>(i,a.eval x)).toList=C.toList.map fun (i,x)=>(i,a.eval x):=by simp
    obtain ⟨xs',U,N⟩:=WU (a:=a) (xs:=z) (row:=z.toList.map .inl) ⟨by simp,fun j s v r B=>by
     rw [List.getElem?_map] at r;simp only [Option.map_eq_some_iff] at r;obtain ⟨u,hu,rfl⟩:=r;rw [hu] at B;cases B;rfl⟩ (fun p hm off n D=>by
     have:=Z p hm;rw [D] at this;simp only [List.any_eq_true] at this;obtain ⟨g,A,hs⟩:=this;obtain ⟨j,F⟩:=List.getElem?_of_mem A;obtain ⟨c,_,f⟩:=l j g F;exact cQ I f hs) J
    obtain ⟨m1,m2⟩:=Rg H;have L:=N.1;rw [Array.length_toList] at L;refine ⟨xs',by rw [h5]; exact U,by omega,fun j c f=>?_⟩;have F:j<m.length:=by have:=(List.getElem?_eq_some_iff.1 f).1; omega
    have A:m[j]?=some m[j]:=List.getElem?_eq_getElem F;obtain ⟨c',M,hc2⟩:=l j _ A;rw [f] at M;cases M;obtain ⟨s,hs1,hs2⟩:=m2 j _ A;have hx:xs'[j]?=some (xs'[j]'(by omega)):=Array.getElem?_eq_getElem (by omega);obtain ⟨r1,r2⟩:=iw I hc2 hs2 (N.2 j s _ hs1 (by rw [Array.getElem?_toList]; exact hx));rw [A];exact ⟨⟨_,hx,r1⟩,r2⟩
   ·cases H
  have built:∃ xs',P.built t (C.map fun (i,x)=>(i,a.eval x)).toList=some xs'∧xs'.size=cs.length ∧
    ∀ (j:Nat) (c:A1),cs[j]?=some c->(∃ x,xs'[j]?=some x∧C3 w (A3 w0.heap.size F0 G) (((m[j]?).bind GC.src).bind fun p=>G p.1 p.2) c x)∧c.t.WF:=by
   unfold Wq at b;unfold Program.built;split at b
   ·rename_i it len e r B;simp only [r,B];split at b
    ·rename_i z ie W X;simp only [W,X];exact key _ _ b
    ·cases b
   ·rename_i it Q r B;simp only [r,B];split at b
    ·rename_i z R W D;simp only [W,D];exact key _ _ b
    ·cases b
   ·cases b
  obtain ⟨xs',r,B,h3⟩:=built;refine ⟨.agg xs',w,by simp [execOp,T,run_build w t _ _ r],_,_,h,I.regather hd (fun j=>(m[j]?).bind GC.src) Y B (fun j q i e=>?_) (fun j j' p U N=>Vp hn U N) (fun j c f=>(h3 j c f).1) (fun c f=>?_) (fun q hq=>?_)⟩
  ·rw [Option.bind_eq_some_iff] at e;obtain ⟨g,A,e⟩:=e;refine List.mem_filterMap.2 ⟨g,List.mem_of_getElem? A,?_⟩;cases g <;> simp [GC.src] at e <;> simp [GC.slot,e.1]
  ·obtain ⟨j,F⟩:=List.getElem?_of_mem f;exact (h3 j c F).2
  ·obtain ⟨g,A,e⟩:=List.mem_filterMap.1 hq;obtain ⟨j,F⟩:=List.getElem?_of_mem A;obtain ⟨c,_,f⟩:=l j g F;cases g with
   | z c=>cases e
   | v y k n=>cases e
   | w q'=>
    cases e;simp only [GC.cell] at f;split at f
    ·rename_i t e; exact G7 I e (by simp)
    ·rename_i n es e; exact G7 I e (by simp)
    ·cases f
   | g q' k n=>
    cases e;simp only [GC.cell] at f;split at f
    ·rename_i cs e; exact G7 I e (by simp)
    ·cases f
end
end Go.Sf
