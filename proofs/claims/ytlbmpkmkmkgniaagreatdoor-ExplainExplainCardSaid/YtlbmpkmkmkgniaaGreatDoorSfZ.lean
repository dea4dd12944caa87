/- Zeros behind a list of one's own. -/
import Derived.Test.YtlbmpkmkmkgniaaGreatDoorSfY
import Derived.Lib.AppendZerosOnto
set_option linter.all false
namespace Go.Sf
open Go.RowKit (Below)
theorem Kh {z b:Value} (h:z.cells=#[b]) (k:Nat):Builtin.zeroCells z.cells k=(List.replicate k b).toArray:=by
 rw [h];apply Array.ext
 ·simp [Builtin.zeroCells]
 ·intro i e f;simp [Builtin.zeroCells,Nat.mod_one]
section
variable {P:Program} {w:World}
theorem P0 (t C ty e D:TypeId) (i:TypeInfo) (z y:Value) (J L:IntKind) (E:P.underlying t=some (.slice e)) (m:P.underlying C=some (.int L)) (hi:P.info? e=some i) (M:i.zero=some z) (F:i.size=1) (A:z.cells=#[y]) (N:y.oneCell'=true)
  (g b f:Nat) (h:Array Value) (Q:w.heap[g]?=some (.cells h D (0,0)))
  (k:Nat) (R:k*i.bytes<=281474976710656) (H:(k:Int)<=9223372036854775807) (l:b+k<=f) (p:b+k<=h.size) :
  (Builtin.append_ #[t,C] ty #[.slice (some ⟨g,0,none⟩) b f,.int J k]).run P w =
   .ok (.slice (some ⟨g,0,none⟩) (b+k) f) (w.setRow g (h.toList.take b++List.replicate k y++h.toList.drop (b+k)).toArray):=by
 have U:IntKind.i64.wrap (k:Int)=k:=by rw [IntKind.wrap_i64]; omega
 have q:¬ ((k:Int)<0):=by omega
 have r:¬ (281474976710656<(k:Int)*(i.bytes:Int)):=by
  rw [←Int.natCast_mul];omega
 have j:=run_storeCells_at P g b D (List.replicate k y) 0 h w Q (by simpa using p) (fun u T=>by rw [List.eq_of_mem_replicate T]; exact N);simp only [Nat.add_zero,List.length_replicate] at j;by_cases I:k=0
 ·subst I;simp only [List.replicate_zero,Nat.add_zero] at j;have B:IntKind.i64.wrap 0=0:=by decide
  simp [Builtin.append_,run_underlying E,run_underlying m,sizeOf,typeInfo,hi,asInt,asIntOf,B,F,show b<=f from by omega,Addr.add_lit,j]
 ·simp [Builtin.append_,run_underlying E,run_underlying m,sizeOf,typeInfo,zeroValue,hi,M,asInt,asIntOf,U,q,r,F,I,l,Addr.add_lit,Kh A,j]
theorem RF (t f ty e:TypeId) (i:TypeInfo) (h j:IntKind) (k:P.underlying t=some (.slice e)) (b:P.underlying f=some (.int j)) (hi:P.info? e=some i) :
  (Builtin.append_ #[t,f] ty #[.slice none 0 0,.int h 0]).run P w=.ok (.slice none 0 0) w:=by
 have l:IntKind.i64.wrap 0=0:=by decide
 simp [Builtin.append_,run_underlying k,run_underlying b,sizeOf,typeInfo,hi,asInt,asIntOf,l]
theorem c7 (t L ty e:TypeId) (i:TypeInfo) (z M:Value) (T U:IntKind) (Z:P.underlying t=some (.slice e)) (C:P.underlying L=some (.int U)) (hi:P.info? e=some i) (hz:i.zero=some z)
  (hs:i.size=1) (V:i.bytes<=4096) (q:z.cells=#[M]) (h1:M.oneCell'=true) (v:Value) (len:Nat) (xs:List Value) (zo:Option (Nat × Nat)) (f:ID w 1 v len xs zo) (k:Nat) (hk:k<=4096) (E:len+k<=BM) :
  ∃ v' w' z',(Builtin.append_ #[t,L] ty #[v,.int T k]).run P w=.ok v' w'∧ID w' 1 v' (len+k) (xs++List.replicate k M) z'∧Jd w w' zo z':=by
 have l:(xs++List.replicate k M).length=(len+k)*1:=by rw [d4,f.1,List.length_replicate]; omega
 have D:(len+k)*i.bytes<=140737488355328:=by
  calc (len+k)*i.bytes<=BM*4096:=Nat.mul_le_mul E V
   _<=140737488355328:=by decide
 have F:k*i.bytes<=281474976710656:=by
  calc k*i.bytes<=4096*4096:=Nat.mul_le_mul hk V
   _<=281474976710656:=by decide
 have hml:len+k<=maxLen:=by simp only [maxLen,BM] at *; omega
 have W:∀ b lo,zo=some (b,lo)->b<w.heap.size:=by
  intro b lo m;rcases f.2 with ⟨_,_,h⟩ | ⟨g,cap,A,J,_,R,_,_,_,_,h⟩
  ·rw [h] at m; cases m
  ·rw [h] at m;simp only [zzY,Prod.mk.injEq] at m;rw [←m.1]; exact (Array.getElem?_eq_some_iff.1 R).1
 have r:∀ (old:Nat),old<len+k ->
   ID (w.drew.alloc (.cells (xs.toArray++Builtin.zeroCells z.cells k++Builtin.zeroCells z.cells (grownCap w (len+k) old e - (len+k))) e)) 1
    (.slice (some ⟨w.heap.size,0,none⟩) (len+k) (grownCap w (len+k) old e)) (len+k) (xs++List.replicate k M) (some (w.heap.size,(len+k)*1)) ∧
   Jd w (w.drew.alloc (.cells (xs.toArray++Builtin.zeroCells z.cells k++Builtin.zeroCells z.cells (grownCap w (len+k) old e - (len+k))) e)) zo (some (w.heap.size,(len+k)*1)):=by
  intro old ho;have hge:=grownCap_ge w (len+k) old e;have H:grownCap w (len+k) old e<=maxLen:=grownCap_le_maxLen w (len+k) old e hml;have X:xs.length=len:=by simpa using f.1
  refine ⟨⟨l,.inr ⟨w.heap.size,_,_,e,rfl,heap_alloc_new w.drew _,hge,H,?_,?_,rfl⟩⟩,⟨rfl,rfl,rfl,by simp,fun k hk _=>Below.heap_alloc w.drew _ k hk,fun b o v N _=>?_,fun b lo m=>?_⟩⟩
  ·rw [Kh q,Kh q];simp only [Array.size_append,List.size_toArray,List.length_replicate,X];omega
  ·rw [Kh q,Kh q];simp only [Array.toList_append,ea];rw [←ea,←l];exact List.take_left
  ·have m:b<w.heap.size:=World.block_lt_of_cell? w ⟨b,o,none⟩ N;rw [World.cell?_alloc_lt _ _ (a:=⟨b,o,none⟩) (by simpa using m)];simpa using N
  ·simp only [zzY,Prod.mk.injEq] at m;rw [←m.1];exact ⟨by simp,.inl (d3 _)⟩
 rcases f.2 with ⟨rfl,rfl,rfl⟩ | ⟨g,cap,A,J,rfl,R,hnc,H,hcs,B,rfl⟩
 ·have hx:xs=[]:=List.eq_nil_of_length_eq_zero (by simpa using f.1);subst hx;by_cases hk0:k=0
  ·subst hk0;exact ⟨_,_,none,RF t L ty e i T U Z C hi,⟨by simp,.inl ⟨rfl,rfl,rfl⟩⟩,Jd.refl w none (by simp)⟩
  ·have Q:=Lib.run_append_nil_zeros (P:=P) w t L ty e i z T U Z C hi hz k (by omega) (by omega) (by omega) F;have p:=r 0 (by omega);simp only [Nat.zero_add,List.nil_append,Array.empty_append] at p Q ⊢;exact ⟨_,_,_,Q,p.1,p.2⟩
 ·have X:xs.length=len:=by simpa using f.1
  simp only [Nat.mul_one] at hcs B;by_cases y:len+k<=cap
  ·have Q:=P0 (P:=P) (w:=w) t L ty e J i z M T U Z C hi hz hs q h1 g len cap A R k F (by omega) y (by omega);refine ⟨_,_,some (g,(len+k)*1),Q,⟨l,.inr ⟨g,cap,_,J,rfl,setRow_heap w g A _ J _ R,y,H,?_,?_,rfl⟩⟩,⟨rfl,rfl,rfl,by simp,fun j _ hj=>setRow_other w g j _ (fun e=>hj (len*1) (by rw [e])),fun b o u N hlo=>?_,fun b lo m=>?_⟩⟩
   ·simp only [List.size_toArray,d4,d5,List.length_drop,Array.length_toList,List.length_replicate];omega
   ·rw [B,←l];exact List.take_left
   ·by_cases Y:b=g
    ·subst Y;have ho:=hlo (len*1) rfl;rw [cell_of_row _ b o _ J (0,0) (setRow_heap w b A _ J _ R)];rw [cell_of_row w b o A J (0,0) R] at N;rw [List.getElem?_toArray,ea,List.getElem?_append_left (by simp; omega),List.getElem?_take_of_lt (by omega)];simpa using N
    ·rw [World.cell?_of_block (w:=w) (a:=⟨b,o,none⟩) (setRow_other w g b _ (fun e=>Y e))];exact N
   ·simp only [zzY,Prod.mk.injEq] at m;obtain ⟨rfl,rfl⟩:=m;refine ⟨by simpa using W g (len*1) rfl,.inr ⟨len*1,rfl,Nat.mul_le_mul_right _ (by omega)⟩⟩
  ·have I:(Builtin.firstCells i.size len (.slice (some ⟨g,0,none⟩) len cap)).run P w.drew=.ok xs.toArray w.drew:=by
    refine run_firstCells_some (P:=P) w.drew i.size len ⟨g,0,none⟩ len cap xs (by rw [hs]; omega) (fun j u hu=>?_);rw [Addr.add_lit,Nat.zero_add];have:=f.cell rfl j u hu;simpa using this
   have Q:=Lib.run_append_grow_zeros (P:=P) w t L ty e i z T U Z C hi hz (some ⟨g,0,none⟩) len cap xs I k (by omega) (by omega) (by omega) (by simp only [BM] at E; omega) F (growslice_fits (by omega) D);have p:=r cap (by omega);exact ⟨_,_,_,Q,p.1,p.2⟩
end
def Operand.isTmp2 (n:Nat):Operand->Bool
 | .tmp m=>m==n
 | _=>false
variable {n:Nat} {x:Operand}
theorem Operand.isTmp_eq' (h:Operand.isTmp2 n x=true):x=.tmp n:=by
 cases x <;> simp [Operand.isTmp2] at h;rw [h]
def aU (P:Program) (n s:Nat) (z:TV) (x:AL) (c:Call):Bool:=
 match c.callee,c.args.toList,c.argTypes.toList with
 | .builtin .append,[p,q],[t,t']=>Operand.isTmp2 s p&&AR q x&&(match P.underlying t,P.underlying t' with
  | some (.slice e),some (.int _)=>(match P.info? e with
   | some i=>(match i.zero with
    | some zz=>(match zz.cells.toList with
     | [z0]=>n==1&&i.size==1&&decide (i.bytes<=4096)&&FT z z0&&z0.oneCell'
     | _=>false)
    | none=>false)
   | none=>false)
  | _,_=>false)
 | _,_,_=>false
section
variable {P:Program} {S:FuncId->QQ->CS->Prop} {F0:Nat->Nat->Prop} {w0:W0} {O:AD} {a:Act} {w:World} {G:DT} {d:Nat} {o:Oper} {K:EV->AD->Prop}
variable {x:Operand}
theorem bP (M:AY F0 w0 O a w G) (hd:d<a.tmps.size) {s:Nat} {y:AL} {t N e:TypeId} {kn:IntKind} {i:TypeInfo} {Q r:Value} {z:TV} (R:o.op=.call { callee:=.builtin .append,args:=#[.tmp s,x],argTypes:=#[t,N] })
  (ht:P.underlying t=some (.slice e)) (T:P.underlying N=some (.int kn)) (hi:P.info? e=some i) (l:i.zero=some Q) (U:i.size=1) (V:i.bytes<=4096) (W:Q.cells=#[r]) (C:FT z r=true) (h1:r.oneCell'=true)
  (X:AR x y=true) (h:(AJ.appz 1 s z y).wp S O (some d) K):B3 P F0 w0 a w o d K:=by
 simp only [AJ.wp] at h;split at h
 ·rename_i d' m es kk j D hs hy;simp only [zzY] at D;subst D;obtain ⟨⟨⟨rfl,_⟩,H⟩,⟨h0,h4⟩,⟨f,hno,hds⟩,hK⟩:=h;obtain ⟨k,rfl⟩:∃ k:Nat,j=k:=⟨j.toNat,by omega⟩;simp only [Int.toNat_natCast] at f hK;have q:=A9 M hs (by simp);have A:=M.wf s;rw [hs] at A;simp only [AX] at q;obtain ⟨xs,⟨zo,k1,I⟩,k2,k3,k4⟩:=q;have hv:=(BU M X hy).1;simp only [A7] at hv;obtain ⟨v',w',z',J,r1,B⟩:=c7 (P:=P) t N o.type e i Q r kk kn ht T hi l U V W h1 (slot a s) es.length xs zo k1 k (by omega) f;have hnz:∀ k,(∀ lo,G s none≠some (k,lo))->∀ lo,zo≠some (k,lo):=fun k Y lo l=>Y 0 (by rw [I,l]; rfl);have hfm:∀ k,(List.replicate k z).flatMap TV.cells=List.replicate k z:=by
   intro k
   induction k with
   | zero=>rfl
   | succ k ih=>rw [List.replicate_succ,List.flatMap_cons,ih,H]; rfl
  refine ⟨v',w',?_,_,_,hK,M.xgo hs hd hds (z':=z'.map fun p=>(p.1,0)) B.os B.tape B.output B.size (fun k Y l=>B.other k Y (hnz k l)) (fun b lo l=>?_) (by simp) (fun _=>hno) (fun F' G' env' a' Z hG=>?_) ?_⟩
  ·simp [execOp,R,resolve,invoke,builtin,show a.eval (.tmp s)=slot a s from rfl,hv,J]
  ·cases z' with
   | none=>simp at l
   | some p=>
    simp only [Option.map_some,zzY,Prod.mk.injEq] at l;obtain ⟨q1,L⟩:=B.zone p.1 p.2 rfl;rw [←l.1];refine ⟨q1,?_⟩;rcases L with L | ⟨lo',L,_⟩
    ·exact .inl L
    ·exact .inr ⟨0,by rw [I,L]; rfl⟩
  ·simp only [AX];rw [hG];refine ⟨xs++List.replicate k r,⟨z',by rw [d4,List.length_replicate]; exact r1,rfl⟩,?_,?_,?_⟩
   ·rw [List.flatMap_append,hfm];refine Kf (BS Z _ _ k2) ?_;rw [CP];refine ⟨by simp,fun i u v hu hv=>?_⟩;rw [List.eq_of_mem_replicate (List.mem_of_getElem? hu),List.eq_of_mem_replicate (List.mem_of_getElem? hv)];exact (Ik _ F' z r C).1
   ·intro e E;rcases List.mem_append.1 E with E | E
    ·exact k3 e E
    ·rw [List.eq_of_mem_replicate E,H]; rfl
   ·intro x F;rcases List.mem_append.1 F with F | F
    ·exact k4 x F
    ·rw [List.eq_of_mem_replicate F]; exact h1
  ·simp only [EV.WF,TV.WF] at A ⊢;refine ⟨by rw [d4,List.length_replicate]; exact Tx f,Lg.2 ⟨A.2,?_⟩⟩;rw [CW];intro u hu;rw [List.eq_of_mem_replicate hu];exact (Ik w (fun _ _=>False) z r C).2
 ·exact h.elim
theorem Zl (l:AY F0 w0 O a w G) (p:d<a.tmps.size) {f:FuncId} {xs:Array Operand} {e:List AL} {i:Array TypeId} (j:o.op=.call { callee:=.value (.func f),args:=xs,argTypes:=i }) (k:DL xs.toList e=true) (h:(AJ.callf f e).wp (AU P) O (some d) K):B3 P F0 w0 a w o d K:=by
 simp only [AJ.wp] at h;cases b:vals O e with
 | none=>rw [b] at h; exact h.elim
 | some D=>
  rw [b] at h;simp only [BB] at h;obtain ⟨m,q,u⟩:=h;have hv:=KH l k b;obtain ⟨⟨y,z⟩,A⟩:=q hv.2;obtain ⟨r,B,C⟩:=A w (xs.map a.eval) (by simpa using BS UY _ _ hv.1);refine ⟨.tuple r,w,by simp [execOp,j,resolve,Act.eval,Deferred.ofValue,invoke,←B],_,_,u,_,l.quiet (Below.refl _ _) d p (.tp m) _ (fun _=>none) (by simp) (by simp) (by simp) ?_ z⟩;simp only [AX];exact ⟨r,rfl,KB m y _ C⟩
def Wk (P:Program) (t:TypeId) (n:Nat):Bool:=
 match P.underlying t with
 | some (.slice e)=>(match P.info? e with
  | some ie=>ie.size==n
  | none=>false)
 | _=>false
variable {t:TypeId} {n:Nat}
theorem bW (p:AY F0 w0 O a w G) (q:d<a.tmps.size) (j:o.op=.buildSlice t 0 #[]) (f:Wk P t n=true) (h:(AJ.lstz n).wp S O (some d) K):B3 P F0 w0 a w o d K:=by
 simp only [AJ.wp] at h;obtain ⟨l,y⟩:=h;unfold Wk at f;split at f
 ·rename_i e r;split at f
  ·rename_i B k;have i:(execOp a.eval o).run P w=.ok (.value (.slice (some ⟨w.heap.size,0,none⟩) 0 0)) (w.alloc (.cells #[] e)):=by
    simp [execOp,j,Instr.buildSlice,run_underlying r,sizeOf,typeInfo,k,Instr.fill,newRow];rw [Array.range_zero']; simp
   have u:Below w.heap.size w (w.alloc (.cells #[] e)):=(Below.refl _ _).alloc (d3 _) _;refine ⟨_,_,i,_,_,y,p.xnew u q l (z:=some (w.heap.size,0*n)) (xs:=[]) ⟨by simp,.inr ⟨w.heap.size,0,_,e,by simp,heap_alloc_new w _,by simp,by simp [maxLen],by simp,by simp,by simp⟩⟩ (fun b lo m=>?_) (fun A _=>rfl) (by simp) (by simp) ⟨by simp,trivial⟩⟩;simp only [zzY,Prod.mk.injEq] at m;rw [←m.1]; exact ⟨d3 _,by simp⟩
  ·cases f
 ·cases f
theorem LC (f:AD):∀ (b:ci) (O:AD) (n:Nat),AD.get (OI f b O) n=if n∈b then (f.get n).gave else O.get n
 | [],_,_=>by simp [OI]
 | q::b,O,n=>by
  rw [OI,AD.get_cons,LC f b O n];by_cases h:q=n
  ·rw [d1 h,d1 (by rw [h]; exact List.mem_cons_self),h]
  ·have i:¬ n=q:=fun e=>h e.symm;simp [h,i]
theorem Mw (e:EV):(∃ t,e=.ow t∧e.gave=.tv t)∨e.gave=.undef:=by
 cases e <;> first | exact .inl ⟨_,rfl,rfl⟩ | exact .inr rfl
abbrev Sy:=Value ⊕ (Operand × Nat × Nat)
def SM:List Sy->Nat->List Sy->List Sy
 | l,_,[]=>l
 | l,i,y::ys=>SM (l.set i y) (i+1) ys
def P3 (place:Nat->Option (Nat × Nat)):List (Nat × Operand)->List Sy->Option (List Sy)
 | [],row=>some row
 | (i,x)::ps,row=>match place i with
  | some (off,n)=>if off+n<=row.length then P3 place ps (SM row off ((List.range n).map fun k=>.inr (x,k,n))) else none
  | none=>none
def Sy.is (a:Act):Sy->Value->Prop
 | .inl u,v=>v=u
 | .inr (x,k,_),v=>(a.eval x).cells[k]?=some v
def PA (a:Act) (row:List Sy) (xs:List Value):Prop:=xs.length=row.length∧∀ (j:Nat) (s:Sy) (v:Value),row[j]?=some s->xs[j]?=some v->s.is a v
variable {s:Sy} {v:Value}
theorem bG {a:Act} {row:List Sy} {xs:List Value} (h:PA a row xs) (k:s.is a v) (i:Nat):PA a (row.set i s) (xs.set i v):=by
 refine ⟨by simp [h.1],fun j s' l b f=>?_⟩;rw [List.getElem?_set] at b f;by_cases e:i=j
 ·rw [d1 e] at b f;split at b
  ·split at f
   ·cases b; cases f; exact k
   ·cases f
  ·cases b
 ·rw [d2 e] at b f;exact h.2 j s' l b f
theorem VT {a:Act}:∀ {b:List Sy} {vs:List Value} {row:List Sy} {xs:List Value} (i:Nat),PA a row xs->PA a b vs->PA a (SM row i b) (TE xs i vs)
 | [],[],_,_,_,h,_=>h
 | [],_::_,_,_,_,_,h=>by have:=h.1; simp at this
 | _::_,[],_,_,_,_,h=>by have:=h.1; simp at this
 | s::b,v::vs,row,xs,i,h,e=>by
  rw [SM,TE];exact VT (i+1) (bG h (e.2 0 s v rfl rfl) i) ⟨by have:=e.1; simpa using this,fun j s' f k l=>e.2 (j+1) s' f (by simpa using k) (by simpa using l)⟩
theorem WI {a:Act} {place:Nat->Option (Nat × Nat)}:∀ {m:List (Nat × Operand)} {row b:List Sy} {xs:Array Value},PA a row xs.toList->(∀ p∈m,∀ e n,place p.1=some (e,n)->(a.eval p.2).cells.size=n)->P3 place m row=some b ->
  ∃ xs',Instr.fill place xs (m.map fun (i,x)=>(i,a.eval x))=some xs'∧PA a b xs'.toList
 | [],row,b,xs,h,_,f=>by
  simp only [P3,zzY] at f;subst f;exact ⟨xs,rfl,h⟩
 | (i,x)::m,row,b,xs,h,A,f=>by
  rw [P3] at f;split at f
  ·rename_i e n q;split at f
   ·rename_i C;have l:=A (i,x) (by simp) e n q;simp only at l;have D:=h.1;rw [Array.length_toList] at D;have E:PA a (SM row e ((List.range n).map fun k=>.inr (x,k,n))) (((a.eval x).cells.zipIdx.foldl (fun cs (y:Value × Nat)=>cs.setIfInBounds (e+y.2) y.1) xs)).toList:=by
     rw [←Array.foldl_toList,Array.toList_zipIdx,PL,Nat.add_zero];refine VT e h ⟨by simp [l],fun j s v r B=>?_⟩;rw [List.getElem?_map] at r;simp only [Option.map_eq_some_iff] at r;obtain ⟨k,z,rfl⟩:=r;have u:k=j:=by
      rw [List.getElem?_range] at z
      ·cases z; rfl
      ·have:=(List.getElem?_eq_some_iff.1 z).1; simpa using this
     subst u;show (a.eval x).cells[k]?=some v;rw [←Array.getElem?_toList]; exact B
    obtain ⟨xs',F,H⟩:=WI E (fun p q=>A p (by simp [q])) f;refine ⟨xs',?_,H⟩;simp only [List.map_cons,Instr.fill,q];rw [d2 (by simp; omega)];exact F
   ·cases f
  ·cases f
def Px:GC->Sy->Bool
 | .z c,.inl v=>R9 c v
 | .v y k n,.inr (x,k',n')=>AR x y&&k==k'&&n==n'
 | .w q,.inr (x,k',n')=>AR x (.s q)&&k'==0&&n'==1
 | .g q k n,.inr (x,k',n')=>AR x (.s q)&&k==k'&&n==n'
 | _,_=>false
def QS:List GC->List Sy->Bool
 | [],[]=>true
 | g::gs,s::ss=>Px g s&&QS gs ss
 | _,_=>false
def R6 (x:Operand) (n:Nat):GC->Bool
 | .z _=>false
 | .v y _ m=>AR x y&&m==n
 | .w q=>AR x (.s q)&&1==n
 | .g q _ m=>AR x (.s q)&&m==n
def Qf (place:Nat->Option (Nat × Nat)) (z:List Value) (ps:List (Nat × Operand)) (gs:List GC):Bool:=
 (ps.all fun p=>match place p.1 with
  | some (_,n)=>gs.any (R6 p.2 n)
  | none=>false) &&
 match P3 place ps (z.map .inl) with
 | some row=>QS gs row
 | none=>false
def Wj (P:Program) (t:TypeId) (ps:List (Nat × Operand)) (gs:List GC):Bool:=
 match P.info? t,P.underlying t with
 | some it,some (.array _ e)=>
  match it.zero,P.info? e with
  | some z,some ie=>Qf (fun i=>some (i*ie.size,ie.size)) z.cells.toList ps gs
  | _,_=>false
 | some it,some (.struct fields)=>
  match it.zero,fields.toList.mapM (fun f=>(P.info? f.type).map fun i=>(f.offset,i.size)) with
  | some z,some places=>Qf (places.toArray[·]?) z.cells.toList ps gs
  | _,_=>false
 | _,_=>false
theorem R5:∀ {b:List GC} {e:List Sy},QS b e=true->e.length=b.length∧∀ (j:Nat) (g:GC),b[j]?=some g->∃ s,e[j]?=some s∧Px g s=true
 | [],[],_=>⟨rfl,fun j g h=>by simp at h⟩
 | [],_::_,h=>by cases h
 | _::_,[],h=>by cases h
 | g::b,s::e,h=>by
  rw [QS,zzZ] at h;obtain ⟨k,l⟩:=R5 h.2;refine ⟨by simp [k],fun j i f=>?_⟩;cases j with
  | zero=>simp at f; subst f; exact ⟨s,rfl,h.1⟩
  | succ j=>simpa using l j i (by simpa using f)
theorem Tp:∀ {b:List GC} {cs:List At},JO O b=some cs->cs.length=b.length∧∀ (j:Nat) (g:GC),b[j]?=some g->∃ c,cs[j]?=some c∧g.cell O=some c
 | [],cs,h=>by simp only [JO,zzY] at h; subst h; exact ⟨rfl,fun j g h=>by simp at h⟩
 | g::b,cs,h=>by
  rw [JO] at h;split at h
  ·rename_i c cs' k f;cases h;obtain ⟨l,m⟩:=Tp f;refine ⟨by simp [l],fun j i e=>?_⟩;cases j with
   | zero=>simp at e; subst e; exact ⟨c,rfl,k⟩
   | succ j=>simpa using m j i (by simpa using e)
  ·cases h
theorem QI {q:Nat} (h:AR x (.s q)=true):a.eval x=slot a q:=by
 cases x <;> simp [AR] at h;rw [h]; rfl
variable {g:GC} {c:At}
theorem cM (f:AY F0 w0 O a w G) (h:g.cell O=some c) (b:R6 x n g=true):(a.eval x).cells.size=n:=by
 cases g with
 | z c=>cases b
 | v y k m=>
  simp only [R6,zzZ,beq_iff_eq] at b;obtain ⟨b,rfl⟩:=b;simp only [GC.cell] at h;split at h
  ·rename_i t l;split at h
   ·rename_i i j;have:=CN (JW (BU f b l).1).1;rw [Array.length_toList,Nat.eq_of_beq_eq_true i] at this;exact this
   ·cases h
  ·cases h
 | w q=>
  simp only [R6,zzZ,beq_iff_eq] at b;obtain ⟨b,rfl⟩:=b;rw [QI b];have:(slot a q).oneCell'=true:=by
   simp only [GC.cell] at h;split at h
   ·rename_i t e;have:=A9 f e (by simp);simp only [AX] at this;exact SW this
   ·rename_i m es e;have:=A9 f e (by simp);exact ML (c:=⟨true,.xl m es⟩) this
   ·cases h
  rw [PW this]; rfl
 | g q k m=>
  simp only [R6,zzZ,beq_iff_eq] at b;obtain ⟨b,rfl⟩:=b;rw [QI b];simp only [GC.cell] at h;split at h
  ·rename_i cs e;split at h
   ·rename_i i;have:=A9 f e (by simp);simp only [AX] at this;obtain ⟨vs,j,p,_⟩:=this;rw [j];show vs.size=m;rw [p,Nat.eq_of_beq_eq_true i]
   ·cases h
  ·cases h
theorem im (i:AY F0 w0 O a w G) (h:g.cell O=some c) (f:Px g s=true) (hv:s.is a v):C6 w (A2 w0.heap.size F0 G) (g.src.bind fun p=>G p.1 p.2) c v∧c.t.WF:=by
 cases g with
 | z c'=>
  cases s with
  | inr p=>cases f
  | inl u=>
   simp only [GC.cell,zzY] at h;subst h;have:v=u:=hv;subst this;exact Sp f
 | v y k m=>
  cases s with
  | inl u=>cases f
  | inr p=>
   obtain ⟨x,A,B⟩:=p;simp only [Px,zzZ,beq_iff_eq] at f;obtain ⟨⟨j,rfl⟩,_⟩:=f;have hv:(a.eval x).cells[k]?=some v:=hv;simp only [GC.cell] at h;split at h
   ·rename_i t D;split at h
    ·rename_i c' L l;cases h;obtain ⟨E,F⟩:=BU i j D;obtain ⟨H,I⟩:=JW E;rw [←Array.getElem?_toList] at hv;exact ⟨⟨((CP _ _).1 H).2 k _ _ l hv,I v (List.mem_of_getElem? hv)⟩,CW.1 (KY F) _ (List.mem_of_getElem? l)⟩
    ·cases h
   ·cases h
 | w q=>
  cases s with
  | inl u=>cases f
  | inr p=>
   obtain ⟨x,A,B⟩:=p;simp only [Px,zzZ,beq_iff_eq] at f;obtain ⟨⟨j,rfl⟩,_⟩:=f;have hv:(a.eval x).cells[0]?=some v:=hv;rw [QI j] at hv;have b:=i.wf q;simp only [GC.cell] at h;split at h
   ·rename_i t e;cases h;have:=A9 i e (by simp);simp only [AX] at this;rw [PW (SW this)] at hv;cases hv;rw [e] at b;exact ⟨this.c,b⟩
   ·rename_i m es e;cases h;have:=A9 i e (by simp);have r:C6 w (A2 w0.heap.size F0 G) (G q none) ⟨true,.xl m es⟩ (slot a q):=this;rw [PW (ML r)] at hv;cases hv;rw [e] at b;exact ⟨r,b⟩
   ·cases h
 | g q k m=>
  cases s with
  | inl u=>cases f
  | inr p=>
   obtain ⟨x,A,B⟩:=p;simp only [Px,zzZ,beq_iff_eq] at f;obtain ⟨⟨j,rfl⟩,_⟩:=f;have hv:(a.eval x).cells[k]?=some v:=hv;rw [QI j] at hv;have b:=i.wf q;simp only [GC.cell] at h;split at h
   ·rename_i cs e;split at h
    ·have:=A9 i e (by simp);simp only [AX] at this;obtain ⟨vs,l,_,J⟩:=this;rw [l] at hv;have hv:vs[k]?=some v:=hv;obtain ⟨x',C,r⟩:=J k c h;rw [hv] at C;cases C;rw [e] at b;exact ⟨r,b c (List.mem_of_getElem? h)⟩
    ·cases h
   ·cases h
theorem AY.regather (h:AY F0 w0 O a w G) (hd:d<a.tmps.size) {C:ci} {cs:List At} {vs:Array Value} (σ:Nat->Option (Nat × Option Nat)) (hdq:d ∉ C) (Q:vs.size=cs.length) (hσ:∀ j q i,σ j=some (q,i)->q∈C)
  (F:∀ j H p,σ j=some p->σ H=some p->j=H) (R:∀ (j:Nat) (c:At),cs[j]?=some c->∃ x,vs[j]?=some x∧C6 w (A2 w0.heap.size F0 G) ((σ j).bind fun p=>G p.1 p.2) c x) (T:∀ c∈cs,c.t.WF) (hq:∀ q∈C,q<a.tmps.size) :
  DJ F0 w0 ((d,.oag cs)::OI O C O) (a.put (some d) (.agg vs)) w:=by
 let A:DT:=fun p i=>if p=d then i.bind fun j=>(σ j).bind fun p=>G p.1 p.2 else if p∈C then none else G p i
 have z:∀ p i b lo,A p i=some (b,lo)->(∃ j q k,p=d∧i=some j∧σ j=some (q,k)∧G q k=some (b,lo))∨(p≠d∧p ∉ C∧G p i=some (b,lo)):=by
  intro p i b lo l;simp only [A] at l;split at l
  ·rename_i u;cases i with
   | none=>cases l
   | some j=>
    simp only [Option.bind_some] at l;cases hj:σ j with
    | none=>rw [hj] at l; cases l
    | some q=>rw [hj] at l; exact .inl ⟨j,q.1,q.2,u,rfl,hj,l⟩
  ·rename_i u;split at l
   ·cases l
   ·rename_i hn; exact .inr ⟨u,hn,l⟩
 have hF:∀ b o,A2 w0.heap.size F0 A b o->A2 w0.heap.size F0 G b o:=fun b o U=>A2.mono (fun p i b lo l=>by
  rcases z _ _ _ _ l with ⟨j,q,k,_,_,_,e⟩ | ⟨_,_,e⟩
  ·exact ⟨q,k,lo,e,d3 _⟩
  ·exact ⟨p,i,lo,e,d3 _⟩) U
 have D:D0 w w (A2 w0.heap.size F0 G) (A2 w0.heap.size F0 A):=fun b o v R U=>⟨R,fun V=>U (hF b o V)⟩;refine ⟨A,?_,?_,h.below,by rw [LT]; exact h.defers,?_,?_,?_⟩
 ·intro p i p' i' b lo lo' Y y;rcases z _ _ _ _ Y with ⟨j,q,k,rfl,rfl,J,f2⟩ | ⟨n1,n2,J⟩ <;> rcases z _ _ _ _ y with ⟨H,q',k',rfl,rfl,L,g2⟩ | ⟨m1,m2,L⟩
  ·obtain ⟨I,e4⟩:=h.uniq _ _ _ _ _ _ _ f2 g2;subst I; subst e4;exact ⟨rfl,by rw [F j H _ J L]⟩
  ·obtain ⟨I,_⟩:=h.uniq _ _ _ _ _ _ _ f2 L;exact absurd (I ▸ hσ j q k J) m2
  ·obtain ⟨I,_⟩:=h.uniq _ _ _ _ _ _ _ g2 J;exact absurd (I ▸ hσ H q' k' L) n2
  ·exact h.uniq _ _ _ _ _ _ _ J L
 ·intro p i b lo Y;rcases z _ _ _ _ Y with ⟨j,q,k,_,_,_,f⟩ | ⟨_,_,f⟩ <;> exact h.lt _ _ _ _ f
 ·intro p l;rw [F1] at l;rw [AD.get_cons,d2 (by omega),LC];split
  ·rename_i hm;have:=hq p hm;omega
  ·exact h.dom p l
 ·intro p l;rw [F1] at l;rw [AD.get_cons];by_cases u:d=p
  ·subst u;rw [d1 rfl,IY _ _ _ hd];simp only [AX];refine ⟨_,rfl,Q,fun i c W=>?_⟩;obtain ⟨x,N,hr⟩:=R i c W;refine ⟨x,N,?_⟩;have:A d (some i)=(σ i).bind fun p=>G p.1 p.2:=by simp only [A,if_true]; rfl
   rw [this];exact hr.kept D (fun _ _ _=>rfl)
  ·rw [d2 u,BN _ _ _ _ u,LC];split
   ·rcases Mw (O.get p) with ⟨t,e,y⟩ | y
    ·have B:=A9 h e (by simp);rw [y];simp only [AX] at B ⊢;exact DH D _ _ (C3.rep B (fun b lo o hz ho=>O0 h b lo o hz ho))
    ·rw [y]; simp only [AX]
   ·rename_i Z;refine AX.kept D (fun i=>by simp only [A]; rw [d2 (fun e=>u e.symm),d2 Z]) (fun _ _ _ _=>rfl) (fun r off _ ⟨cs',m⟩=>?_) (fun r i _ ⟨pp,X⟩=>?_) (h.slots p l)
    ·rw [AD.get_cons] at m;by_cases E:d=r
     ·rw [d1 E] at m; cases m
     ·rw [d2 E,LC] at m;split at m
      ·rcases Mw (O.get r) with ⟨t,_,y⟩ | y <;> (rw [y] at m; cases m)
      ·exact ⟨⟨cs',m⟩,BN _ _ _ _ E⟩
    ·have h1:=AD.xat_drop (by simp) (by simp) X;have M:=LC O C O r;split at M
     ·have h2:=h1.2;rcases Mw (O.get r) with ⟨t,_,y⟩ | y <;> rw [y] at M <;> cases i <;> simp only [AD.xat,M] at h2 <;> cases h2
     ·have N:∃ p,O.xat r i=some p:=⟨pp,by rw [←h1.2]; exact (AD.xat_of M).symm⟩;exact ⟨N,h.xv N (BN _ _ _ _ h1.1) (fun _ _=>rfl)⟩
 ·intro p;rw [AD.get_cons];split
  ·exact T
  ·rw [LC];have:=h.wf p;split
   ·rcases Mw (O.get p) with ⟨t,e,y⟩ | y
    ·rw [e] at this; rw [y]; exact this
    ·rw [y]; trivial
   ·exact this
theorem Vc {α β:Type} {f:α->Option β} {l:List α} (b:(l.filterMap f).Nodup) {i j:Nat} {p:β} (hi:(l[i]?).bind f=some p) (r:(l[j]?).bind f=some p):i=j:=by
 have key:∀ (l:List α) (i j:Nat),(l.filterMap f).Nodup->(l[i]?).bind f=some p->(l[j]?).bind f=some p->i<j->False:=by
  intro l
  induction l with
  | nil=>intro i j _ h; simp at h
  | cons x l B=>
   intro i j b q u z;obtain ⟨j,rfl⟩:∃ k,j=k+1:=⟨j - 1,by omega⟩;have m:(l[j]?).bind f=some p:=by simpa using u
   cases i with
   | zero=>
    have q:f x=some p:=by simpa using q
    rw [List.filterMap_cons,q] at b;rw [List.nodup_cons] at b;refine b.1 (List.mem_filterMap.2 ?_);rw [Option.bind_eq_some_iff] at m;obtain ⟨y,A,e⟩:=m;exact ⟨y,List.mem_of_getElem? A,e⟩
   | succ i=>
    refine B i j ?_ (by simpa using q) m (by omega);rw [List.filterMap_cons] at b;split at b
    ·exact b
    ·exact (List.nodup_cons.1 b).2
 rcases Nat.lt_trichotomy i j with h | h | h
 ·exact (key l i j b hi r h).elim
 ·exact h
 ·exact (key l j i b r hi h).elim
theorem bQ (I:AY F0 w0 O a w G) (hd:d<a.tmps.size) {C:Array (Nat × Operand)} {m:List GC} (T:o.op=.build t C) (b:Wj P t C.toList m=true) (h:(AJ.bldg m).wp S O (some d) K):B3 P F0 w0 a w o d K:=by
 simp only [AJ.wp] at h;obtain ⟨⟨hn,Y⟩,h⟩:=h;cases E:JO O m with
 | none=>rw [E] at h; exact h.elim
 | some cs=>
  rw [E] at h;simp only [BB] at h;obtain ⟨hl,l⟩:=Tp E;have key:∀ (place:Nat->Option (Nat × Nat)) (z:Array Value),Qf place z.toList C.toList m=true->∃ xs',Instr.fill place z (C.map fun (i,x)=>(i,a.eval x)).toList=some xs'∧xs'.size=cs.length ∧
    ∀ (j:Nat) (c:At),cs[j]?=some c->(∃ x,xs'[j]?=some x∧C6 w (A2 w0.heap.size F0 G) (((m[j]?).bind GC.src).bind fun p=>G p.1 p.2) c x)∧c.t.WF:=by
   intro place z V;unfold Qf at V;rw [zzZ,List.all_eq_true] at V;obtain ⟨Z,H⟩:=V;split at H
   ·rename_i row J;have h5:(C.map fun (i,x)=>(i,a.eval x)).toList=C.toList.map fun (i,x)=>(i,a.eval x):=by simp
    obtain ⟨xs',U,N⟩:=WI (a:=a) (xs:=z) (row:=z.toList.map .inl) ⟨by simp,fun j s v r B=>by
     rw [List.getElem?_map] at r;simp only [Option.map_eq_some_iff] at r;obtain ⟨u,hu,rfl⟩:=r;rw [hu] at B;cases B;rfl⟩ (fun p hm off n D=>by
     have:=Z p hm;rw [D] at this;simp only [List.any_eq_true] at this;obtain ⟨g,A,hs⟩:=this;obtain ⟨j,F⟩:=List.getElem?_of_mem A;obtain ⟨c,_,f⟩:=l j g F;exact cM I f hs) J
    obtain ⟨m1,m2⟩:=R5 H;have L:=N.1;rw [Array.length_toList] at L;refine ⟨xs',by rw [h5]; exact U,by omega,fun j c f=>?_⟩;have F:j<m.length:=by have:=(List.getElem?_eq_some_iff.1 f).1; omega
    have A:m[j]?=some m[j]:=List.getElem?_eq_getElem F;obtain ⟨c',M,hc2⟩:=l j _ A;rw [f] at M;cases M;obtain ⟨s,hs1,hs2⟩:=m2 j _ A;have hx:xs'[j]?=some (xs'[j]'(by omega)):=Array.getElem?_eq_getElem (by omega);obtain ⟨r1,r2⟩:=im I hc2 hs2 (N.2 j s _ hs1 (by rw [Array.getElem?_toList]; exact hx));rw [A];exact ⟨⟨_,hx,r1⟩,r2⟩
   ·cases H
  have built:∃ xs',P.built t (C.map fun (i,x)=>(i,a.eval x)).toList=some xs'∧xs'.size=cs.length ∧
    ∀ (j:Nat) (c:At),cs[j]?=some c->(∃ x,xs'[j]?=some x∧C6 w (A2 w0.heap.size F0 G) (((m[j]?).bind GC.src).bind fun p=>G p.1 p.2) c x)∧c.t.WF:=by
   unfold Wj at b;unfold Program.built;split at b
   ·rename_i it len e r B;simp only [r,B];split at b
    ·rename_i z ie W X;simp only [W,X];exact key _ _ b
    ·cases b
   ·rename_i it Q r B;simp only [r,B];split at b
    ·rename_i z R W D;simp only [W,D];exact key _ _ b
    ·cases b
   ·cases b
  obtain ⟨xs',r,B,h3⟩:=built;refine ⟨.agg xs',w,by simp [execOp,T,run_build w t _ _ r],_,_,h,I.regather hd (fun j=>(m[j]?).bind GC.src) Y B (fun j q i e=>?_) (fun j j' p U N=>Vc hn U N) (fun j c f=>(h3 j c f).1) (fun c f=>?_) (fun q hq=>?_)⟩
  ·rw [Option.bind_eq_some_iff] at e;obtain ⟨g,A,e⟩:=e;refine List.mem_filterMap.2 ⟨g,List.mem_of_getElem? A,?_⟩;cases g <;> simp [GC.src] at e <;> simp [GC.slot,e.1]
  ·obtain ⟨j,F⟩:=List.getElem?_of_mem f;exact (h3 j c F).2
  ·obtain ⟨g,A,e⟩:=List.mem_filterMap.1 hq;obtain ⟨j,F⟩:=List.getElem?_of_mem A;obtain ⟨c,_,f⟩:=l j g F;cases g with
   | z c=>cases e
   | v y k n=>cases e
   | w q'=>
    cases e;simp only [GC.cell] at f;split at f
    ·rename_i t e; exact G9 I e (by simp)
    ·rename_i n es e; exact G9 I e (by simp)
    ·cases f
   | g q' k n=>
    cases e;simp only [GC.cell] at f;split at f
    ·rename_i cs e; exact G9 I e (by simp)
    ·cases f
end
end Go.Sf
