/- The rules of single operations that take the typed text along. -/
import Derived.Test.YtlbmpkmkmkgniaaGreatDoorSfAuto
import Derived.Test.YtlbmpkmkmkgniaaGreatDoorSfLib
set_option linter.all false
namespace Go.Sf
section
variable {P:Program} {S:FuncId->QQ->CQ->Prop} {K:AD->Prop} {os:List PR} {O:AD} {d:Nat} {α β:Type} {k:α->Option β} {r:β}
theorem kX {n:Nat} {x i:AJ} {es:QQ} {e:α->TV} {l:List α} {ik:IntKind} {j:Int} (h:(AL l j).bind k=some r) (o:x.val O=some (.list n es)) (hi:i.val O=some (.int ik j)) (p:es=l.map e)
  (q:∀ a,AL l j=some a->k a=some r->WO S K os ((d,.tv (.pt (e a).cells))::O)):WO S K (⟨some d,.iad x i n,none⟩::os) O:=by
 obtain ⟨a,m,h⟩:=bind_some h;exact qk o hi p m rfl (q a m h)
theorem ku {β:Type} {γ:Type} {k:List γ->Option β} {r:β} {n:Nat} {x:AJ} {lo hi:Option AJ} {es:QQ} {e:γ->TV} {l:List γ} {p q:IntKind} {a b:Int} (h:(slc l a b).bind k=some r) (s:x.val O=some (.list n es)) (t:es=l.map e) (i:G9 O 0 lo=some (.int p a)) (j:G9 O l.length hi=some (.int q b))
  (u:∀ m,slc l a b=some m->k m=some r->WO S K os ((d,.tv (.list n (m.map e)))::O)):WO S K (⟨some d,.slc n x lo hi,none⟩::os) O:=by
 obtain ⟨m,o,h⟩:=bind_some h;exact q8 s t i j o (u m o h)
theorem iH {k:ByteArray->Option β} {x:AJ} {lo hi:Option AJ} {s:ByteArray} {l o:IntKind} {a b:Int} (h:(sslc s a b).bind k=some r) (p:x.val O=some (.str s)) (e:G9 O 0 lo=some (.int l a)) (i:G9 O s.size hi=some (.int o b))
  (q:∀ m,sslc s a b=some m->k m=some r->WO S K os ((d,.tv (.str m))::O)):WO S K (⟨some d,.sslc x lo hi,none⟩::os) O:=by
 obtain ⟨m,j,h⟩:=bind_some h;exact j5 p e i j (q m j h)
theorem iF {k:Int->Option β} {x i:AJ} {s:ByteArray} {ik:IntKind} {j:Int} (h:(sidx s j).bind k=some r) (l:x.val O=some (.str s)) (hi:i.val O=some (.int ik j))
  (m:∀ b,sidx s j=some b->k b=some r->WO S K os ((d,.tv (.int .u8 b))::O)):WO S K (⟨some d,.sidx x i,none⟩::os) O:=by
 obtain ⟨b,e,h⟩:=bind_some h;exact jx l hi e (m b e h)
theorem kN {γ:Type} {k:List γ->Option β} {n s:Nat} {y:AJ} {es i:QQ} {e:γ->TV} {l m:List γ} (h:(B2 l m).bind k=some r) (o:O.get s=.ow (.list n es)) (p:y.val O=some (.list n i)) (q:es=l.map e) (t:i=m.map e)
  (u:∀ x,B2 l m=some x->k x=some r->WO S K os ((d,.ow (.list n (x.map e)))::(s,.tv (.list n es))::O)):WO S K (⟨some d,.app n (.s s) y,none⟩::os) O:=by
 obtain ⟨x,j,h⟩:=bind_some h;exact eE o p q t j rfl (u x j h)
theorem gz {γ:Type} {k:List γ->Option β} {n s:Nat} {y:AJ} {es i:QQ} {e:γ->TV} {l m:List γ} {f:List γ->TV} (h:(B2 l m).bind k=some r) (o:O.get s=.ow (.list n es)) (p:y.val O=some (.list n i)) (q:es=l.map e) (t:i=m.map e) (c:Fl e n f)
  (u:∀ x,B2 l m=some x->k x=some r->WO S K os ((d,.ow (f x))::(s,.tv (.list n es))::O)):WO S K (⟨some d,.app n (.s s) y,none⟩::os) O:=by
 obtain ⟨x,j,h⟩:=bind_some h;have:=u x j h;rw [c.eq] at this;exact eE o p q t j rfl this
theorem g0 {γ:Type} {k:List γ->Option β} {n s:Nat} {y:AJ} {es i:QQ} {e:γ->TV} {l m:List γ} (h:(B2 l m).bind k=some r) (o:O.get s=.xo n es) (p:y.val O=some (.list n i)) (q:es=l.map e) (t:i=m.map e) (u:O.noRef d=true) (w:d≠s)
  (A:∀ x,B2 l m=some x->k x=some r->WO S K os ((d,.xo n (x.map e))::(s,.undef)::O)):WO S K (⟨some d,.appx n s y,none⟩::os) O:=by
 obtain ⟨x,j,h⟩:=bind_some h;exact ja o p q t j rfl u w (A x j h)
theorem g5 {γ:Type} {k:List γ->Option β} {n s:Nat} {i:TV} {x:AJ} {es:QQ} {e:γ->TV} {z:γ} {l:List γ} {ik:IntKind} {j:Int} (h:(ST l j z).bind k=some r) (q:O.get s=.xo n es) (t:x.val O=some (.int ik j)) (u:es=l.map e) (w:i=e z) (A:O.noRef d=true) (B:d≠s) (o:n=1) (C:i.cells=[i])
  (D:∀ m,ST l j z=some m->k m=some r->WO S K os ((d,.xo n (m.map e))::(s,.undef)::O)):WO S K (⟨some d,.appz n s i x,none⟩::os) O:=by
 obtain ⟨m,p,h⟩:=bind_some h;exact jc q t u w p rfl A B o C (D m p h)
theorem kP {γ:Type} {k:List γ->Option β} {n s:Nat} {hi:AJ} {es:QQ} {e:γ->TV} {l:List γ} {ik:IntKind} {j:Int} (h:(slc l 0 j).bind k=some r) (o:O.get s=.xo n es) (p:hi.val O=some (.int ik j)) (q:es=l.map e) (t:O.noRef d=true) (u:d≠s)
  (w:∀ m,slc l 0 j=some m->k m=some r->WO S K os ((d,.xo n (m.map e))::(s,.undef)::O)):WO S K (⟨some d,.cut n s hi,none⟩::os) O:=by
 obtain ⟨m,i,h⟩:=bind_some h;exact qY o p q i rfl t u (w m i h)
theorem kf {γ:Type} {k:List γ->Option β} {n:Nat} {zero:QQ} {x:AJ} {ik:IntKind} {j:Int} {e:γ->TV} {z:γ} (h:(J7 j z).bind k=some r) (l:O.noRef d=true) (o:x.val O=some (.int ik j)) (p:(match zero with | [t]=>t | ts=>.agg ts)=e z)
  (q:∀ m,J7 j z=some m->k m=some r->WO S K os ((d,.xo n (m.map e))::O)):WO S K (⟨some d,.mkx n zero x,none⟩::os) O:=by
 obtain ⟨m,i,h⟩:=bind_some h;exact qu l o p i rfl (q m i h)
theorem ky {x i:AJ} {q n:Nat} {m:Option Nat} {es:QQ} {e:α->TV} {l:List α} {ik:IntKind} {j:Int} (h:(AL l j).bind k=some r) (p:x.xlist O=some ((q,m),n,es)) (hi:i.val O=some (.int ik j)) (s:es=l.map e) (t:(x.ev O).ref=some q)
  (u:∀ a,AL l j=some a->k a=some r->WO S K os ((d,.lp q m (j.toNat*n))::O)):WO S K (⟨some d,.xia x i n,none⟩::os) O:=by
 obtain ⟨a,o,h⟩:=bind_some h;exact rG p hi s o t (u a o h)
section ints
variable {k:Int->Option β} {x y:AJ} {ik:IntKind} {a b:Int}
theorem kh (h:(quo a b).bind k=some r) (j:x.val O=some (.int ik a)) (l:y.val O=some (.int ik b)) (o:∀ q,quo a b=some q->k q=some r->WO S K os ((d,.tv (.int ik (ik.wrap q)))::O)):WO S K (⟨some d,.bin .i .quo x y,none⟩::os) O:=by
 obtain ⟨m,e,h⟩:=bind_some h;exact q5 j l e (o m e h)
theorem kj (h:(eD a b).bind k=some r) (j:x.val O=some (.int ik a)) (l:y.val O=some (.int ik b)) (o:∀ q,eD a b=some q->k q=some r->WO S K os ((d,.tv (.int ik q))::O)):WO S K (⟨some d,.bin .i .rem x y,none⟩::os) O:=by
 obtain ⟨m,e,h⟩:=bind_some h;exact q7 j l e (o m e h)
theorem kO {op:BinOp} {e:IntKind} (h:(Lv ik op a b).bind k=some r) (j:x.val O=some (.int ik a)) (l:y.val O=some (.int e b)) (o:ik=e∨op=.shl∨op=.shr) (p:∀ q,Lv ik op a b=some q->k q=some r->WO S K os ((d,.tv (.int ik q))::O)):WO S K (⟨some d,.bin .w op x y,none⟩::os) O:=by
 obtain ⟨m,i,h⟩:=bind_some h;exact qU j l o i (p m i h)
end ints
theorem iE {k:ByteArray->Option β} {x y:AJ} {u v:ByteArray} (h:(M3 u v).bind k=some r) (i:x.val O=some (.str u)) (j:y.val O=some (.str v)) (l:∀ q,M3 u v=some q->k q=some r->WO S K os ((d,.tv (.str q))::O)):WO S K (⟨some d,.bin .s .add x y,none⟩::os) O:=by
 obtain ⟨m,e,h⟩:=bind_some h;exact jv i j e (l m e h)
theorem kY {k:Unit->Option β} {x:AJ} {n:Nat} {es:QQ} {e:α->TV} {l:List α} (h:(WN l).bind k=some r) (i:x.val O=some (.list n es)) (j:es=l.map e) (m:∀ u,k u=some r->WO S K os ((d,.tv (.bool false))::O)):WO S K (⟨some d,.isn x,none⟩::os) O:=by
 obtain ⟨u,p,h⟩:=bind_some h;refine eF i j fun b o=>?_;obtain rfl:=Z5 p o;exact m u h
theorem dh {x:AJ} {n:Nat} {e:α->TV} {a:α} (h:BU O (x.ev O)=some (e a).cells) (i:Nat.beq (e a).cells.length n=true) (j:TV.agg (e a).cells=e a) (l:WO S K os ((d,.tv (e a))::O)):WO S K (⟨some d,.lda x n,none⟩::os) O:=by
 have i:=Nat.eq_of_beq_eq_true i;exact ZG h (by rw [i]; exact Nat.ble_self_eq_true n) (by rw [List.take_of_length_le (by omega),j]) l
theorem kZ {s n:Nat} {cs:List AY} {e:α->TV} {a:α} (h:O.get s=.bx cs) (j:cs.map (·.t)=(e a).cells) (i:Nat.beq (e a).cells.length n=true) (l:TV.agg (e a).cells=e a) (m:WO S K os ((d,.tv (e a))::O)):WO S K (⟨some d,.ldb s n,none⟩::os) O:=by
 have i:=Nat.eq_of_beq_eq_true i;exact eG h (by rw [j,i]; exact Nat.ble_self_eq_true n) (by rw [j,List.take_of_length_le (by omega),l]) m
theorem iI {n s:Nat} {v:AJ} {cs:List AY} {t:TV} (h:O.get s=.bx cs) (hv:v.ev O=.tv t) (i:t.cells.length=n) (e:Nat.beq n cs.length=true) (j:WO S K os ((s,.bx (t.cells.map (⟨false,·⟩)))::O)):WO S K (⟨none,.stb n s v,none⟩::os) O:=by
 have e:=Nat.eq_of_beq_eq_true e;refine eJ h hv i (by rw [Nat.zero_add,e]; exact Nat.ble_self_eq_true _) ?_ j;rw [List.take_zero,Nat.zero_add,e,List.drop_length,List.append_nil,List.nil_append]
theorem iB {x:AJ} {n:Nat} {e:α->TV} {a:α} (h:BU O (x.ev O)=some (((e a).cells.map fun t=>(⟨false,t⟩:AY)).map (·.t))) (i:Nat.beq (e a).cells.length n=true) (j:TV.agg (e a).cells=e a) (l:WO S K os ((d,.tv (e a))::O)):WO S K (⟨some d,.lda x n,none⟩::os) O:=
 dh (by rw [h,List.map_map]; congr 1; exact List.map_id _) i j l
def YZ (n:Nat):QQ->Bool
 | []=>true
 | t::ts=>Nat.beq t.cells.length n&&YZ n ts
theorem Vh {n:Nat}:∀ {ts:QQ},YZ n ts=true->∀ t∈ts,t.cells.length=n
 | [],_,_,h=>by cases h
 | t::ts,h,u,e=>by
  simp only [YZ,zzZ] at h;rcases List.mem_cons.1 e with rfl | e
  ·exact Nat.eq_of_beq_eq_true h.1
  ·exact Vh h.2 u e
theorem ke {n:Nat} {parts:List AJ} {ts:QQ} (h:vals O parts=some ts) (e:YZ n ts=true) (i:WO S K os ((d,.ow (.list n ts))::O)):WO S K (⟨some d,.lst n parts,none⟩::os) O:=by
 have:=i.out;refine ⟨?_⟩;simp only [wpOps,PR.wp,AH.wp,h,A9];exact ⟨Vh e,this⟩
theorem g6 {zero:QQ} {parts:List (Nat × Nat × AJ)} {ts:List (Nat × Nat × TV)} {cs:QQ} {e:α->TV} {a:α} (h:(some a).bind k=some r) (_:En α e) (i:Ii O parts=some ts) (j:Hz zero ts=some cs) (l:TV.agg cs=e a) (m:∀ x,x=a->k x=some r->WO S K os ((d,.tv (e x))::O)):WO S K (⟨some d,.bld zero parts,none⟩::os) O:=by
 rw [Option.bind_some] at h;exact ZE i j l (m a rfl h)
theorem kc {x:AJ} {n:Nat} {cs:QQ} {e:α->TV} {a:α} (h:(some a).bind k=some r) (_:En α e) (i:BU O (x.ev O)=some cs) (j:Nat.ble n cs.length=true) (l:TV.agg (cs.take n)=e a) (m:∀ x,x=a->k x=some r->WO S K os ((d,.tv (e x))::O)):WO S K (⟨some d,.lda x n,none⟩::os) O:=by
 rw [Option.bind_some] at h;exact ZG i j l (m a rfl h)
inductive Lm {α:Type} (e:α->TV):QQ->List α->Prop
 | nil:Lm e [] []
 | cons {t:TV} {ts:QQ} {a:α} {l:List α}:t=e a->Lm e ts l->Lm e (t::ts) (a::l)
theorem Lm.eq {e:α->TV} {ts:QQ} {l:List α} (h:Lm e ts l):ts=l.map e:=by
 induction h with
 | nil=>rfl
 | cons h _ i=>rw [h,i]; rfl
theorem iC {n:Nat} {parts:List AJ} {ts:QQ} {e:α->TV} {l:List α} (h:vals O parts=some ts) (i:Lm e ts l) (j:∀ a,(e a).cells.length=n) (m:WO S K os ((d,.ow (.list n (l.map e)))::O)):WO S K (⟨some d,.lst n parts,none⟩::os) O:=eH h i.eq j m
theorem iD {n:Nat} {parts:List AJ} {ts:QQ} {e:α->TV} {l:List α} {f:List α->TV} (h:vals O parts=some ts) (j:Lm e ts l) (m:∀ a,(e a).cells.length=n) (c:Fl e n f) (i:WO S K os ((d,.ow (f l))::O)):WO S K (⟨some d,.lst n parts,none⟩::os) O:=by
 rw [c.eq] at i;exact eH h j.eq m i
theorem gv {e:α->TV} {n:ci} {x y:AJ} {a:α} {cs:QQ} (j:x.val O=some (e a)) (l:y.val O=some (.agg cs)) [c:Zb e] [i:Decidable (a=c.un cs)] (m:TV.agg (e a).cells=e a) (o:(e (c.un cs)).cells=cs) (p:(e a).cells.map TV.kd=n) (q:WO S K os ((d,.tv (.bool (decide (a=c.un cs))))::O)):WO S K (⟨some d,.bin (.a n) .eql x y,none⟩::os) O:=by
 obtain ⟨s,h⟩:=c.dec a (c.un cs);have:i=s:=Subsingleton.elim _ _;subst this;rw [←m] at j;rw [o] at h;exact ah j l p h q
theorem gx {e:α->TV} {n:ci} {x y:AJ} {a:α} {cs:QQ} (j:x.val O=some (e a)) (l:y.val O=some (.agg cs)) [c:Zb e] [i:Decidable (a=c.un cs)] (m:TV.agg (e a).cells=e a) (o:(e (c.un cs)).cells=cs) (p:(e a).cells.map TV.kd=n) (q:WO S K os ((d,.tv (.bool (!decide (a=c.un cs))))::O)):WO S K (⟨some d,.bin (.a n) .neq x y,none⟩::os) O:=by
 obtain ⟨s,h⟩:=c.dec a (c.un cs);have:i=s:=Subsingleton.elim _ _;subst this;rw [←m] at j;rw [o] at h;exact ai j l p h q
theorem gu {e:α->TV} {n:ci} {x y:AJ} {a b:α} {i:Decidable (a=b)} (j:x.val O=some (e a)) (l:y.val O=some (e b)) (c:Zb e) (m:TV.agg (e a).cells=e a) (o:TV.agg (e b).cells=e b) (p:(e a).cells.map TV.kd=n) (q:WO S K os ((d,.tv (.bool (decide (a=b))))::O)):WO S K (⟨some d,.bin (.a n) .eql x y,none⟩::os) O:=by
 obtain ⟨s,h⟩:=c.dec a b;have:i=s:=Subsingleton.elim _ _;subst this;rw [←m] at j;rw [←o] at l;exact ah j l p h q
theorem gw {e:α->TV} {n:ci} {x y:AJ} {a b:α} {i:Decidable (a=b)} (j:x.val O=some (e a)) (l:y.val O=some (e b)) (c:Zb e) (m:TV.agg (e a).cells=e a) (o:TV.agg (e b).cells=e b) (p:(e a).cells.map TV.kd=n) (q:WO S K os ((d,.tv (.bool (!decide (a=b))))::O)):WO S K (⟨some d,.bin (.a n) .neq x y,none⟩::os) O:=by
 obtain ⟨s,h⟩:=c.dec a b;have:i=s:=Subsingleton.elim _ _;subst this;rw [←m] at j;rw [←o] at l;exact ai j l p h q
section calls
variable {x:Option α} {f:FuncId} {ts:QQ} {R:α->CQ} {args:List AJ}
theorem kS {s:Nat} {cs:List AY} {row:QQ} (e:O.get s=.bx cs) (f:Fz cs row) (k:WO S K os ((s,.tv (.pt row))::O)):WO S K (⟨none,.frz s,none⟩::os) O:=qf e f.h k
theorem g7 {t:α->TV} (h:x.bind k=some r) (c:Ct P x f ts R) (i:vals O args=some ts) (j:∀ a,R a=.sh (t a)) (l:∀ a,x=some a->k a=some r->WO (AT P) K os ((d,.tv (t a))::O)):WO (AT P) K (⟨some d,.call f args,none⟩::os) O:=by
 obtain ⟨a,e,h⟩:=bind_some h;have:=c.snd a e;rw [j] at this;exact aj i this (l a e h)
theorem ec {t:α->TV} (h:x.bind k=some r) (c:Ct P x f ts R) (i:vals O args=some ts) (j:∀ a,R a=.own (t a)) (l:∀ a,x=some a->k a=some r->WO (AT P) K os ((d,.ow (t a))::O)):WO (AT P) K (⟨some d,.call f args,none⟩::os) O:=by
 obtain ⟨a,e,h⟩:=bind_some h;have:=c.snd a e;rw [j] at this;exact gM i this (l a e h)
theorem ef {t:α->TV} (_:HS d) (h:x.bind k=some r) (c:Ct P x f ts R) (i:vals O args=some ts) (j:∀ a,R a=.own (t a)) (l:∀ a,x=some a->k a=some r->WO (AT P) K os ((d,.tv (t a))::O)):WO (AT P) K (⟨some d,.call f args,none⟩::os) O:=by
 obtain ⟨a,e,h⟩:=bind_some h;have:=c.snd a e;rw [j] at this;exact aj i (iv this) (l a e h)
theorem ei {n:Nat} {t:α->QQ} (h:x.bind k=some r) (c:Ct P x f ts R) (i:vals O args=some ts) (j:∀ a,R a=.xown n (t a)) (l:∀ a,x=some a->k a=some r->WO (AT P) K os ((d,.ow (.list n (t a)))::O)):WO (AT P) K (⟨some d,.call f args,none⟩::os) O:=by
 obtain ⟨a,e,h⟩:=bind_some h;have:=c.snd a e;rw [j] at this;exact gP i this (l a e h)
theorem ee {t:α->QQ} (h:x.bind k=some r) (c:Ct P x f ts R) (i:vals O args=some ts) (j:∀ a,R a=.tp (t a)) (l:∀ a,x=some a->k a=some r->WO (AT P) K os ((d,.tp (t a))::O)):WO (AT P) K (⟨some d,.call f args,none⟩::os) O:=by
 obtain ⟨a,e,h⟩:=bind_some h;have:=c.snd a e;rw [j] at this;exact gN i this (l a e h)
theorem eY {t:α->List AY} (h:x.bind k=some r) (c:Ct P x f ts R) (i:vals O args=some ts) (j:∀ a,R a=.oag (t a)) (l:∀ a,x=some a->k a=some r->WO (AT P) K os ((d,.tv (.agg ((t a).map (·.t))))::O)):WO (AT P) K (⟨some d,.call f args,none⟩::os) O:=by
 obtain ⟨a,e,h⟩:=bind_some h;have:=c.snd a e;rw [j] at this;exact gJ i this rfl (l a e h)
theorem eX {t:α->List AY} (h:x.bind k=some r) (c:Ct P x f ts R) (i:vals O args=some ts) (j:∀ a,R a=.oag (t a)) (l:∀ a,x=some a->k a=some r->WO (AT P) K os ((d,.oag (t a))::O)):WO (AT P) K (⟨some d,.callg f args,none⟩::os) O:=by
 obtain ⟨a,e,h⟩:=bind_some h;have:=c.snd a e;rw [j] at this;exact gI i this (l a e h)
theorem ej {n:Nat} {t:α->QQ} (h:x.bind k=some r) (c:Ct P x f ts R) (i:O.noRef d=true) (j:vals O args=some ts) (l:∀ a,R a=.xown n (t a)) (m:∀ a,x=some a->k a=some r->WO (AT P) K os ((d,.xo n (t a))::O)):WO (AT P) K (⟨some d,.callx f args,none⟩::os) O:=by
 obtain ⟨a,e,h⟩:=bind_some h;have:=c.snd a e;rw [l] at this;exact gQ i j this (m a e h)
theorem ba {γ:Type} {k:List γ->Option β} {x:Option (List γ)} {R:List γ->CQ} {n:Nat} {e:γ->TV} (h:x.bind k=some r) (c:Ct P x f ts R) (j:O.noRef d=true) (l:vals O args=some ts) (m:∀ a,R a=.own (.list n (a.map e))) (o:∀ a,(e a).flat=true) (p:∀ a,x=some a->k a=some r->WO (AT P) K os ((d,.xo n (a.map e))::O)):WO (AT P) K (⟨some d,.callx f args,none⟩::os) O:=by
 obtain ⟨a,i,h⟩:=bind_some h;have:=c.snd a i;rw [m] at this;exact cq j l this rfl o (p a i h)
theorem eZ {t:α->TV} (h:x.bind k=some r) (c:Ct P x f ts R) (i:lvals O args=some ts) (j:∀ a,R a=.sh (t a)) (l:∀ a,(t a).flat=true) (m:∀ a,x=some a->k a=some r->WO (AT P) K os ((d,.tv (t a))::O)):WO (AT P) K (⟨some d,.calll f args,none⟩::os) O:=by
 obtain ⟨a,e,h⟩:=bind_some h;have:=c.snd a e;rw [j] at this;exact gK i this (l a) (m a e h)
theorem bX {t:α->QQ} (h:x.bind k=some r) (c:Ct P x f ts R) (i:lvals O args=some ts) (j:∀ a,R a=.tp (t a)) (l:∀ a,TV.flats (t a)=true) (m:∀ a,x=some a->k a=some r->WO (AT P) K os ((d,.tp (t a))::O)):WO (AT P) K (⟨some d,.calll f args,none⟩::os) O:=by
 obtain ⟨a,e,h⟩:=bind_some h;have:=c.snd a e;rw [j] at this;exact cn i this (l a) (m a e h)
theorem bW {γ:Type} {k:List γ->Option β} {x:Option (List γ)} {R:List γ->CQ} {n:Nat} {e:γ->TV} (h:x.bind k=some r) (c:Ct P x f ts R) (j:lvals O args=some ts) (l:∀ a,R a=.own (.list n (a.map e))) (m:∀ a,(e a).flat=true) (o:∀ a,x=some a->k a=some r->WO (AT P) K os ((d,.ow (.list n (a.map e)))::O)):WO (AT P) K (⟨some d,.calll f args,none⟩::os) O:=by
 obtain ⟨a,i,h⟩:=bind_some h;have:=c.snd a i;rw [l] at this;exact cm j this rfl rfl m (o a i h)
theorem eW {t:α->QQ} (h:x.bind k=some r) (c:Ct P x f ts R) (i:vals O args=some ts) (j:∀ a,R a=.ext (t a)) (l:∀ a,x=some a->k a=some r->WO (AT P) K os ((d,.tp (t a))::O)):WO (AT P) K (⟨some d,.callf f args,none⟩::os) O:=by
 obtain ⟨a,e,h⟩:=bind_some h;have:=c.snd a e;rw [j] at this;exact gH i this (l a e h)
theorem eU {i s:Nat} {cs:List AY} {cs':α->List AY} {us:α->QQ} {e:α->EV} (h:x.bind k=some r) (c:Ct P x f ts R) (l:(args[i]?).bind (·.place O)=some (s,0)) (m:O.get s=.bx cs) (o:O.noX s none=true) (p:d≠s) (q:OC O i args=some ts) (t:∀ a,R a=.bo cs (cs' a) i (us a)) (u:∀ a,EV.ofs (us a)=e a) (w:∀ a,x=some a->k a=some r->WO (AT P) K os ((d,e a)::(s,.bx (cs' a))::O)):WO (AT P) K (⟨some d,.callb f args i,none⟩::os) O:=by
 obtain ⟨a,j,h⟩:=bind_some h;have:=c.snd a j;rw [t] at this;exact gF l m o p q this (u a) (w a j h)
theorem eb {k:Ne->Option β} {f:FuncId} {x:AJ} {q:Nat} {e:Option Nat} {es:QQ} {l:Ne} {y:Option Ne} {env':Ne->AD} (h:y.bind k=some r) (c:Ct P y f [.list 1 (l.map (TV.int .i64))] CQ.turn) (j:x.xlist O=some ((q,e),1,es)) (m:es=l.map (TV.int .i64)) (hv:∀ a,O.xput q e 1 (a.map (TV.int .i64))=env' a) (o:∀ a,y=some a->k a=some r->WO (AT P) K os ((d,.tp [])::env' a)):WO (AT P) K (⟨some d,.callm f x,none⟩::os) O:=by
 obtain ⟨a,i,h⟩:=bind_some h;exact gL j m rfl (c.snd a i) rfl (hv a) (o a i h)
theorem eV {k:Ne->Option β} {f:FuncId} {x:AJ} {q:Nat} {es:QQ} {l:Ne} {y:Option Ne} (h:y.bind k=some r) (c:Ct P y f [.list 1 (l.map (TV.int .i64))] CQ.cut) (j:x.xlist O=some ((q,none),1,es)) (m:es=l.map (TV.int .i64)) (e:q≠d) (o:O.noRef d=true) (p:∀ a,y=some a->k a=some r->WO (AT P) K os ((d,.xo 1 (a.map (TV.int .i64)))::(q,.undef)::O)):WO (AT P) K (⟨some d,.callc f x,none⟩::os) O:=by
 obtain ⟨a,i,h⟩:=bind_some h;exact gG j m rfl e o (c.snd a i) rfl (p a i h)
section values
variable {v:AJ} {caps us:QQ}
theorem eg {t:α->TV} (h:x.bind k=some r) (c:Ct P x f ts R) (hv:v.val O=some (.clo f caps)) (i:vals O args=some us) (j:us++caps=ts) (l:∀ a,R a=.sh (t a)) (m:∀ a,x=some a->k a=some r->WO (AT P) K os ((d,.tv (t a))::O)):WO (AT P) K (⟨some d,.callv v args,none⟩::os) O:=by
 obtain ⟨a,e,h⟩:=bind_some h;have:=c.snd a e;rw [l,←j] at this;exact gO hv i this (m a e h)
theorem bY {t:α->TV} (h:x.bind k=some r) (c:Ct P x f ts R) (hv:v.val O=some (.clo f caps)) (i:vals O args=some us) (j:us++caps=ts) (l:∀ a,R a=.own (t a)) (m:∀ a,x=some a->k a=some r->WO (AT P) K os ((d,.ow (t a))::O)):WO (AT P) K (⟨some d,.callv v args,none⟩::os) O:=by
 obtain ⟨a,e,h⟩:=bind_some h;have:=c.snd a e;rw [l,←j] at this;exact co hv i this (m a e h)
theorem bZ {t:α->QQ} (h:x.bind k=some r) (c:Ct P x f ts R) (hv:v.val O=some (.clo f caps)) (i:vals O args=some us) (j:us++caps=ts) (l:∀ a,R a=.tp (t a)) (m:∀ a,x=some a->k a=some r->WO (AT P) K os ((d,.tp (t a))::O)):WO (AT P) K (⟨some d,.callv v args,none⟩::os) O:=by
 obtain ⟨a,e,h⟩:=bind_some h;have:=c.snd a e;rw [l,←j] at this;exact cp hv i this (m a e h)
end values
end calls
inductive GS (g:Nat) (b:Bool):ci->List PR->ci->Nat->Prop
 | done {acc:ci} {os:List PR}:GS g b acc os [] 0
 | step {acc js:ci} {d n:Nat} {op:AH} {os:List PR}:GS g b (d::acc) os js n->GS g b acc (⟨some d,op,some (g,b)⟩::os) (d::js) (n+1)
 | nest {acc js:ci} {d n g':Nat} {b':Bool} {op:AH} {os:List PR}:acc.contains g'=true->GS g b (d::acc) os js n->GS g b acc (⟨some d,op,some (g',b')⟩::os) (d::js) (n+1)
def gq:ci->AD->(AD->Prop)->Prop
 | [],z,K=>K z
 | k::ks,z,K=>∃ j,gq ks ((k,j)::z) K
structure Gj (js:ci) (d:Nat) (v:TV) (z e:AD):Prop where
 of::out:gq js z fun y=>e=(d,.tv v)::y
theorem Z0 {d:Nat} {v:TV} {z e:AD} (h:e=(d,.tv v)::z):Gj [] d v z e:=⟨h⟩
theorem fN {k d:Nat} {i:ci} {v:TV} {j:EV} {z e:AD} (h:Gj i d v ((k,j)::z) e):Gj (k::i) d v z e:=⟨j,h.out⟩
theorem hU {js:ci} {v:TV} {z:AD} (h:Gj js d v z O):WO S (Gj js d v z) [] O:=⟨h⟩
structure UO (js:ci) (z:AD) (Q:AD->Prop):Prop where
 of::out:∀ (d:Nat) (v:TV) (e:AD),Gj js d v z e->∃ y,e=(d,.tv v)::y∧Q y
theorem fO {z:AD} {Q:AD->Prop} (h:Q z):UO [] z Q:=⟨fun _ _ _ e=>⟨z,e.out,h⟩⟩
theorem bu {k:Nat} {i:ci} {z:AD} {Q:AD->Prop} (h:∀ j,UO i ((k,j)::z) Q):UO (k::i) z Q:=⟨fun d v e l=>by
 obtain ⟨j,m⟩:=l.out;exact (h j).out d v e ⟨m⟩⟩
theorem pU {dd:Option Nat} {op:AH} {g:Nat} {b q:Bool} (e:O.get g=.tv (.bool q)) (h:Zd g b q) (i:WO S K (⟨dd,op,none⟩::os) O):WO S K (⟨dd,op,some (g,b)⟩::os) O:=tN e h.out i
theorem iY {op:AH} {g:Nat} {b q:Bool} (e:O.get g=.tv (.bool q)) (h:Vd g b q) (i:WO S K os ((d,.sk)::O)):WO S K (⟨some d,op,some (g,b)⟩::os) O:=pT e h.out i
theorem Yl {d n:Nat} {js:ci} {v:TV} (h:WO S (Gj js d v O) (os.take n) O) (i:UO js O fun e=>WO S K (os.drop n) ((d,.tv v)::e)):WO S K os O:=
 pS n (Gj js d v) h fun e j=>by
  obtain ⟨y,rfl,l⟩:=i.out d v e j;exact l
section groups
variable {g n:Nat} {js:ci} {c:Bool} {dd gd:Option Nat} {op:AH} {x y z:AJ} {gg:Option (Nat × Bool)}
theorem kW {k:Bool->Option β} {T:ca} {j:List PR} (h:(if c=true then T else some false).bind k=some r) (_:GS g true [] os js n) (p:O.get g=.tv (.bool c)) (_:os[n]?=some ⟨some d,.pick x y z,gg⟩)
  (l:∀ v,Zd g true c->c=true->T=some v->WO S (Gj js d (.bool v) O) (os.take (n+1)) O) (m:∀ v,Vd g true c->c=false->some false=some v->WO S (Gj js d (.bool v) O) (os.take (n+1)) O)
  (o:∀ v,k v=some r->UO js O fun e=>WO S K (os.drop (n+1)) ((d,.tv (.bool v))::e)) (ho:os=⟨dd,op,some (g,true)⟩::j):WO S K (⟨dd,op,some (g,true)⟩::j) O:=by
 obtain ⟨v,hv,h⟩:=bind_some h;rw [←ho];refine Yl (n:=n+1) (v:=.bool v) ?_ (o v h);rcases Bool.eq_false_or_eq_true c with i | i
 ·exact l v ⟨i⟩ i (VW i hv)
 ·exact m v ⟨by rw [i]; rfl⟩ i (VV i hv)
theorem kV {k:Bool->Option β} {T:ca} {j:List PR} (h:(if c=true then some true else T).bind k=some r) (_:GS g false [] os js n) (p:O.get g=.tv (.bool c)) (_:os[n]?=some ⟨some d,.pick x y z,gg⟩)
  (l:∀ v,Zd g false c->c=false->T=some v->WO S (Gj js d (.bool v) O) (os.take (n+1)) O) (m:∀ v,Vd g false c->c=true->some true=some v->WO S (Gj js d (.bool v) O) (os.take (n+1)) O)
  (o:∀ v,k v=some r->UO js O fun e=>WO S K (os.drop (n+1)) ((d,.tv (.bool v))::e)) (ho:os=⟨dd,op,some (g,false)⟩::j):WO S K (⟨dd,op,some (g,false)⟩::j) O:=by
 obtain ⟨v,hv,h⟩:=bind_some h;rw [←ho];refine Yl (n:=n+1) (v:=.bool v) ?_ (o v h);rcases Bool.eq_false_or_eq_true c with i | i
 ·exact m v ⟨by rw [i]; rfl⟩ i (VW i hv)
 ·exact l v ⟨i⟩ i (VV i hv)
theorem kU {e:Bool} {h:List PR} (ho:os=⟨dd,op,some (g,true)⟩::h) (_:GS g true [] os js n) (m:O.get g=.tv (.bool c)) (_:os[n]?=some ⟨some d,.pick x y z,gg⟩)
  (i:Zd g true c->c=true->WO S (Gj js d (.bool e) O) (os.take (n+1)) O) (j:Vd g true c->c=false->WO S (Gj js d (.bool false) O) (os.take (n+1)) O)
  (l:UO js O fun z=>WO S K (os.drop (n+1)) ((d,.tv (.bool (c&&e)))::z)):WO S K (⟨dd,op,some (g,true)⟩::h) O:=by
 rw [←ho];refine Yl (n:=n+1) (v:=.bool (c&&e)) ?_ l;cases c
 ·exact j ⟨rfl⟩ rfl
 ·exact i ⟨rfl⟩ rfl
theorem kT {e:Bool} {h:List PR} (ho:os=⟨dd,op,some (g,false)⟩::h) (_:GS g false [] os js n) (m:O.get g=.tv (.bool c)) (_:os[n]?=some ⟨some d,.pick x y z,gg⟩)
  (i:Zd g false c->c=false->WO S (Gj js d (.bool e) O) (os.take (n+1)) O) (j:Vd g false c->c=true->WO S (Gj js d (.bool true) O) (os.take (n+1)) O)
  (l:UO js O fun z=>WO S K (os.drop (n+1)) ((d,.tv (.bool (c||e)))::z)):WO S K (⟨dd,op,some (g,false)⟩::h) O:=by
 rw [←ho];refine Yl (n:=n+1) (v:=.bool (c||e)) ?_ l;cases c
 ·exact i ⟨rfl⟩ rfl
 ·exact j ⟨rfl⟩ rfl
end groups
theorem kz {x:AJ} {q n i:Nat} {m:Option Nat} {es row:QQ} {e:α->TV} {l:List α} {j:Int} {a:α} {t:TV} (h:x.ev O=.lp q m (j.toNat*n+i)) (o:O.xat q m=some (n,es)) (p:es=l.map e) (s:∀ a,(e a).cells.length=n) (u:AL l j=some a) (hi:Nat.blt i n=true) (w:(e a).cells=row) (A:row[i]?=some t)
  (B:WO S K os ((d,.tv t)::O)):WO S K (⟨some d,.xld x,none⟩::os) O:=eK h o p s u rfl hi w A B
theorem iJ {x:AJ} {q n:Nat} {m:Option Nat} {es row:QQ} {e:α->TV} {l:List α} {j:Int} {a:α} {t:TV} (h:x.ev O=.lp q m (j.toNat*n)) (o:O.xat q m=some (n,es)) (p:es=l.map e) (s:∀ a,(e a).cells.length=n) (u:AL l j=some a) (hi:Nat.blt 0 n=true) (w:(e a).cells=row) (A:row[0]?=some t)
  (B:WO S K os ((d,.tv t)::O)):WO S K (⟨some d,.xld x,none⟩::os) O:=eK (i:=0) h o p s u rfl hi w A B
theorem iL {γ:Type} {s:Nat} {v:AJ} {q n i:Nat} {m:Option Nat} {env':AD} {es:QQ} {e:α->TV} {g:γ->TV} {l:List α} {j:Int} {a:α} {b:γ} {f:α->γ->α} (_:HX s f) (h:(AJ.s s).ev O=.lp q m (j.toNat*n+i)) (p:O.xat q m=some (n,es)) (hv:v.ev O=.tv (g b)) (t:es=l.map e) (u:∀ a,(e a).cells.length=n) (w:AL l j=some a) (hi:Nat.blt i n=true) (A:(g b).cells=[g b])
  (B:(e (f a b)).cells=(e a).cells.set i (g b)) (o:O.xput q m n ((CJ l j (f a b)).map e)=env') (C:WO S K os env'):WO S K (⟨none,.xst (.s s) v,none⟩::os) O:=eM h p hv t u w rfl hi A B rfl o C
theorem iK {x v:AJ} {q n:Nat} {m:Option Nat} {env':AD} {es:QQ} {e:α->TV} {l:List α} {j:Int} {a b:α} (h:x.ev O=.lp q m (j.toNat*n)) (p:O.xat q m=some (n,es)) (hv:v.ev O=.tv (e b)) (s:es=l.map e) (t:∀ a,(e a).cells.length=n) (u:AL l j=some a) (hi:Nat.blt 0 n=true) (w:(e b).cells=[e b])
  (A:(e b).cells=(e a).cells.set 0 (e b)) (o:O.xput q m n ((CJ l j b).map e)=env') (B:WO S K os env'):WO S K (⟨none,.xst x v,none⟩::os) O:=eM (i:=0) h p hv s t u rfl hi w A rfl o B
end
end Go.Sf
