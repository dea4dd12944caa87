/- The rules of single operations that take the typed text along. -/
import Derived.Test.YtlbmpkmkmkgniaaGreatDoorSfAuto
import Derived.Test.YtlbmpkmkmkgniaaGreatDoorSfLib
set_option linter.all false
namespace Go.Sf
section
variable {P:Program} {S:FuncId->QQ->CM->Prop} {K:AC->Prop} {os:List PR} {O:AC} {d:Nat} {α β:Type} {k:α->Option β} {r:β}
theorem jG {n:Nat} {x i:AJ} {es:QQ} {e:α->TV} {l:List α} {ik:IntKind} {j:Int} (h:(AK l j).bind k=some r) (o:x.val O=some (.list n es)) (hi:i.val O=some (.int ik j)) (p:es=l.map e)
  (q:∀ a,AK l j=some a->k a=some r->WO S K os ((d,.tv (.pt (e a).cells))::O)):WO S K (⟨some d,.iad x i n,none⟩::os) O:=by
 obtain ⟨a,m,h⟩:=bind_some h;exact oo o hi p m rfl (q a m h)
theorem jS {β:Type} {γ:Type} {k:List γ->Option β} {r:β} {n:Nat} {x:AJ} {lo hi:Option AJ} {es:QQ} {e:γ->TV} {l:List γ} {p q:IntKind} {a b:Int} (h:(slc l a b).bind k=some r) (s:x.val O=some (.list n es)) (t:es=l.map e) (i:GX O 0 lo=some (.int p a)) (j:GX O l.length hi=some (.int q b))
  (u:∀ m,slc l a b=some m->k m=some r->WO S K os ((d,.tv (.list n (m.map e)))::O)):WO S K (⟨some d,.slc n x lo hi,none⟩::os) O:=by
 obtain ⟨m,o,h⟩:=bind_some h;exact pC s t i j o (u m o h)
theorem fj {k:ByteArray->Option β} {x:AJ} {lo hi:Option AJ} {s:ByteArray} {l o:IntKind} {a b:Int} (h:(sslc s a b).bind k=some r) (p:x.val O=some (.str s)) (e:GX O 0 lo=some (.int l a)) (i:GX O s.size hi=some (.int o b))
  (q:∀ m,sslc s a b=some m->k m=some r->WO S K os ((d,.tv (.str m))::O)):WO S K (⟨some d,.sslc x lo hi,none⟩::os) O:=by
 obtain ⟨m,j,h⟩:=bind_some h;exact iW p e i j (q m j h)
theorem fh {k:Int->Option β} {x i:AJ} {s:ByteArray} {ik:IntKind} {j:Int} (h:(sidx s j).bind k=some r) (l:x.val O=some (.str s)) (hi:i.val O=some (.int ik j))
  (m:∀ b,sidx s j=some b->k b=some r->WO S K os ((d,.tv (.int .u8 b))::O)):WO S K (⟨some d,.sidx x i,none⟩::os) O:=by
 obtain ⟨b,e,h⟩:=bind_some h;exact iT l hi e (m b e h)
theorem iw {γ:Type} {k:List γ->Option β} {n s:Nat} {y:AJ} {es i:QQ} {e:γ->TV} {l m:List γ} (h:(B9 l m).bind k=some r) (o:O.get s=.ow (.list n es)) (p:y.val O=some (.list n i)) (q:es=l.map e) (t:i=m.map e)
  (u:∀ x,B9 l m=some x->k x=some r->WO S K os ((d,.ow (.list n (x.map e)))::(s,.tv (.list n es))::O)):WO S K (⟨some d,.app n (.s s) y,none⟩::os) O:=by
 obtain ⟨x,j,h⟩:=bind_some h;exact ce o p q t j rfl (u x j h)
theorem fS {γ:Type} {k:List γ->Option β} {n s:Nat} {y:AJ} {es i:QQ} {e:γ->TV} {l m:List γ} {f:List γ->TV} (h:(B9 l m).bind k=some r) (o:O.get s=.ow (.list n es)) (p:y.val O=some (.list n i)) (q:es=l.map e) (t:i=m.map e) (c:Fl e n f)
  (u:∀ x,B9 l m=some x->k x=some r->WO S K os ((d,.ow (f x))::(s,.tv (.list n es))::O)):WO S K (⟨some d,.app n (.s s) y,none⟩::os) O:=by
 obtain ⟨x,j,h⟩:=bind_some h;have:=u x j h;rw [c.eq] at this;exact ce o p q t j rfl this
theorem fT {γ:Type} {k:List γ->Option β} {n s:Nat} {y:AJ} {es i:QQ} {e:γ->TV} {l m:List γ} (h:(B9 l m).bind k=some r) (o:O.get s=.xo n es) (p:y.val O=some (.list n i)) (q:es=l.map e) (t:i=m.map e) (u:O.noRef d=true) (w:d≠s)
  (A:∀ x,B9 l m=some x->k x=some r->WO S K os ((d,.xo n (x.map e))::(s,.undef)::O)):WO S K (⟨some d,.appx n s y,none⟩::os) O:=by
 obtain ⟨x,j,h⟩:=bind_some h;exact iB o p q t j rfl u w (A x j h)
theorem fU {γ:Type} {k:List γ->Option β} {n s:Nat} {i:TV} {x:AJ} {es:QQ} {e:γ->TV} {z:γ} {l:List γ} {ik:IntKind} {j:Int} (h:(Rf l j z).bind k=some r) (q:O.get s=.xo n es) (t:x.val O=some (.int ik j)) (u:es=l.map e) (w:i=e z) (A:O.noRef d=true) (B:d≠s) (o:n=1) (C:i.cells=[i])
  (D:∀ m,Rf l j z=some m->k m=some r->WO S K os ((d,.xo n (m.map e))::(s,.undef)::O)):WO S K (⟨some d,.appz n s i x,none⟩::os) O:=by
 obtain ⟨m,p,h⟩:=bind_some h;exact iC q t u w p rfl A B o C (D m p h)
theorem iz {γ:Type} {k:List γ->Option β} {n s:Nat} {hi:AJ} {es:QQ} {e:γ->TV} {l:List γ} {ik:IntKind} {j:Int} (h:(slc l 0 j).bind k=some r) (o:O.get s=.xo n es) (p:hi.val O=some (.int ik j)) (q:es=l.map e) (t:O.noRef d=true) (u:d≠s)
  (w:∀ m,slc l 0 j=some m->k m=some r->WO S K os ((d,.xo n (m.map e))::(s,.undef)::O)):WO S K (⟨some d,.cut n s hi,none⟩::os) O:=by
 obtain ⟨m,i,h⟩:=bind_some h;exact oc o p q i rfl t u (w m i h)
theorem jL {γ:Type} {k:List γ->Option β} {n:Nat} {zero:QQ} {x:AJ} {ik:IntKind} {j:Int} {e:γ->TV} {z:γ} (h:(Ls j z).bind k=some r) (l:O.noRef d=true) (o:x.val O=some (.int ik j)) (p:(match zero with | [t]=>t | ts=>.agg ts)=e z)
  (q:∀ m,Ls j z=some m->k m=some r->WO S K os ((d,.xo n (m.map e))::O)):WO S K (⟨some d,.mkx n zero x,none⟩::os) O:=by
 obtain ⟨m,i,h⟩:=bind_some h;exact o3 l o p i rfl (q m i h)
theorem jW {x i:AJ} {q n:Nat} {m:Option Nat} {es:QQ} {e:α->TV} {l:List α} {ik:IntKind} {j:Int} (h:(AK l j).bind k=some r) (p:x.xlist O=some ((q,m),n,es)) (hi:i.val O=some (.int ik j)) (s:es=l.map e) (t:(x.ev O).ref=some q)
  (u:∀ a,AK l j=some a->k a=some r->WO S K os ((d,.lp q m (j.toNat*n))::O)):WO S K (⟨some d,.xia x i n,none⟩::os) O:=by
 obtain ⟨a,o,h⟩:=bind_some h;exact pL p hi s o t (u a o h)
section ints
variable {k:Int->Option β} {x y:AJ} {ik:IntKind} {a b:Int}
theorem jM (h:(quo a b).bind k=some r) (j:x.val O=some (.int ik a)) (l:y.val O=some (.int ik b)) (o:∀ q,quo a b=some q->k q=some r->WO S K os ((d,.tv (.int ik (ik.wrap q)))::O)):WO S K (⟨some d,.bin .i .quo x y,none⟩::os) O:=by
 obtain ⟨m,e,h⟩:=bind_some h;exact o9 j l e (o m e h)
theorem jO (h:(cd a b).bind k=some r) (j:x.val O=some (.int ik a)) (l:y.val O=some (.int ik b)) (o:∀ q,cd a b=some q->k q=some r->WO S K os ((d,.tv (.int ik q))::O)):WO S K (⟨some d,.bin .i .rem x y,none⟩::os) O:=by
 obtain ⟨m,e,h⟩:=bind_some h;exact pB j l e (o m e h)
theorem iy {op:BinOp} {e:IntKind} (h:(LC ik op a b).bind k=some r) (j:x.val O=some (.int ik a)) (l:y.val O=some (.int e b)) (o:ik=e∨op=.shl∨op=.shr) (p:∀ q,LC ik op a b=some q->k q=some r->WO S K os ((d,.tv (.int ik q))::O)):WO S K (⟨some d,.bin .w op x y,none⟩::os) O:=by
 obtain ⟨m,i,h⟩:=bind_some h;exact oY j l o i (p m i h)
end ints
theorem fg {k:ByteArray->Option β} {x y:AJ} {u v:ByteArray} (h:(MN u v).bind k=some r) (i:x.val O=some (.str u)) (j:y.val O=some (.str v)) (l:∀ q,MN u v=some q->k q=some r->WO S K os ((d,.tv (.str q))::O)):WO S K (⟨some d,.bin .s .add x y,none⟩::os) O:=by
 obtain ⟨m,e,h⟩:=bind_some h;exact iR i j e (l m e h)
theorem jH {k:Unit->Option β} {x:AJ} {n:Nat} {es:QQ} {e:α->TV} {l:List α} (h:(VQ l).bind k=some r) (i:x.val O=some (.list n es)) (j:es=l.map e) (m:∀ u,k u=some r->WO S K os ((d,.tv (.bool false))::O)):WO S K (⟨some d,.isn x,none⟩::os) O:=by
 obtain ⟨u,p,h⟩:=bind_some h;refine cf i j fun b o=>?_;obtain rfl:=Yz p o;exact m u h
theorem cI {x:AJ} {n:Nat} {e:α->TV} {a:α} (h:BP O (x.ev O)=some (e a).cells) (i:Nat.beq (e a).cells.length n=true) (j:TV.agg (e a).cells=e a) (l:WO S K os ((d,.tv (e a))::O)):WO S K (⟨some d,.lda x n,none⟩::os) O:=by
 have i:=Nat.eq_of_beq_eq_true i;exact X9 h (by rw [i]; exact Nat.ble_self_eq_true n) (by rw [List.take_of_length_le (by omega),j]) l
theorem jI {s n:Nat} {cs:List AV} {e:α->TV} {a:α} (h:O.get s=.bx cs) (j:cs.map (·.t)=(e a).cells) (i:Nat.beq (e a).cells.length n=true) (l:TV.agg (e a).cells=e a) (m:WO S K os ((d,.tv (e a))::O)):WO S K (⟨some d,.ldb s n,none⟩::os) O:=by
 have i:=Nat.eq_of_beq_eq_true i;exact cj h (by rw [j,i]; exact Nat.ble_self_eq_true n) (by rw [j,List.take_of_length_le (by omega),l]) m
theorem fk {n s:Nat} {v:AJ} {cs:List AV} {t:TV} (h:O.get s=.bx cs) (hv:v.ev O=.tv t) (i:t.cells.length=n) (e:Nat.beq n cs.length=true) (j:WO S K os ((s,.bx (t.cells.map (⟨false,·⟩)))::O)):WO S K (⟨none,.stb n s v,none⟩::os) O:=by
 have e:=Nat.eq_of_beq_eq_true e;refine cm h hv i (by rw [Nat.zero_add,e]; exact Nat.ble_self_eq_true _) ?_ j;rw [List.take_zero,Nat.zero_add,e,List.drop_length,List.append_nil,List.nil_append]
theorem fc {x:AJ} {n:Nat} {e:α->TV} {a:α} (h:BP O (x.ev O)=some (((e a).cells.map fun t=>(⟨false,t⟩:AV)).map (·.t))) (i:Nat.beq (e a).cells.length n=true) (j:TV.agg (e a).cells=e a) (l:WO S K os ((d,.tv (e a))::O)):WO S K (⟨some d,.lda x n,none⟩::os) O:=
 cI (by rw [h,List.map_map]; congr 1; exact List.map_id _) i j l
def XT (n:Nat):QQ->Bool
 | []=>true
 | t::ts=>Nat.beq t.cells.length n&&XT n ts
theorem Un {n:Nat}:∀ {ts:QQ},XT n ts=true->∀ t∈ts,t.cells.length=n
 | [],_,_,h=>by cases h
 | t::ts,h,u,e=>by
  simp only [XT,zzZ] at h;rcases List.mem_cons.1 e with rfl | e
  ·exact Nat.eq_of_beq_eq_true h.1
  ·exact Un h.2 u e
theorem jK {n:Nat} {parts:List AJ} {ts:QQ} (h:vals O parts=some ts) (e:XT n ts=true) (i:WO S K os ((d,.ow (.list n ts))::O)):WO S K (⟨some d,.lst n parts,none⟩::os) O:=by
 have:=i.out;refine ⟨?_⟩;simp only [wpOps,PR.wp,AH.wp,h,A7];exact ⟨Un e,this⟩
theorem fV {zero:QQ} {parts:List (Nat × Nat × AJ)} {ts:List (Nat × Nat × TV)} {cs:QQ} {e:α->TV} {a:α} (h:(some a).bind k=some r) (_:En α e) (i:IP O parts=some ts) (j:Ho zero ts=some cs) (l:TV.agg cs=e a) (m:∀ x,x=a->k x=some r->WO S K os ((d,.tv (e x))::O)):WO S K (⟨some d,.bld zero parts,none⟩::os) O:=by
 rw [Option.bind_some] at h;exact X8 i j l (m a rfl h)
theorem jJ {x:AJ} {n:Nat} {cs:QQ} {e:α->TV} {a:α} (h:(some a).bind k=some r) (_:En α e) (i:BP O (x.ev O)=some cs) (j:Nat.ble n cs.length=true) (l:TV.agg (cs.take n)=e a) (m:∀ x,x=a->k x=some r->WO S K os ((d,.tv (e x))::O)):WO S K (⟨some d,.lda x n,none⟩::os) O:=by
 rw [Option.bind_some] at h;exact X9 i j l (m a rfl h)
inductive Lm {α:Type} (e:α->TV):QQ->List α->Prop
 | nil:Lm e [] []
 | cons {t:TV} {ts:QQ} {a:α} {l:List α}:t=e a->Lm e ts l->Lm e (t::ts) (a::l)
theorem Lm.eq {e:α->TV} {ts:QQ} {l:List α} (h:Lm e ts l):ts=l.map e:=by
 induction h with
 | nil=>rfl
 | cons h _ i=>rw [h,i]; rfl
theorem fe {n:Nat} {parts:List AJ} {ts:QQ} {e:α->TV} {l:List α} (h:vals O parts=some ts) (i:Lm e ts l) (j:∀ a,(e a).cells.length=n) (m:WO S K os ((d,.ow (.list n (l.map e)))::O)):WO S K (⟨some d,.lst n parts,none⟩::os) O:=cl h i.eq j m
theorem ff {n:Nat} {parts:List AJ} {ts:QQ} {e:α->TV} {l:List α} {f:List α->TV} (h:vals O parts=some ts) (j:Lm e ts l) (m:∀ a,(e a).cells.length=n) (c:Fl e n f) (i:WO S K os ((d,.ow (f l))::O)):WO S K (⟨some d,.lst n parts,none⟩::os) O:=by
 rw [c.eq] at i;exact cl h j.eq m i
theorem fP {e:α->TV} {n:ci} {x y:AJ} {a:α} {cs:QQ} (j:x.val O=some (e a)) (l:y.val O=some (.agg cs)) [c:YU e] [i:Decidable (a=c.un cs)] (m:TV.agg (e a).cells=e a) (o:(e (c.un cs)).cells=cs) (p:(e a).cells.map TV.kd=n) (q:WO S K os ((d,.tv (.bool (decide (a=c.un cs))))::O)):WO S K (⟨some d,.bin (.a n) .eql x y,none⟩::os) O:=by
 obtain ⟨s,h⟩:=c.dec a (c.un cs);have:i=s:=Subsingleton.elim _ _;subst this;rw [←m] at j;rw [o] at h;exact ZW j l p h q
theorem fR {e:α->TV} {n:ci} {x y:AJ} {a:α} {cs:QQ} (j:x.val O=some (e a)) (l:y.val O=some (.agg cs)) [c:YU e] [i:Decidable (a=c.un cs)] (m:TV.agg (e a).cells=e a) (o:(e (c.un cs)).cells=cs) (p:(e a).cells.map TV.kd=n) (q:WO S K os ((d,.tv (.bool (!decide (a=c.un cs))))::O)):WO S K (⟨some d,.bin (.a n) .neq x y,none⟩::os) O:=by
 obtain ⟨s,h⟩:=c.dec a (c.un cs);have:i=s:=Subsingleton.elim _ _;subst this;rw [←m] at j;rw [o] at h;exact ZX j l p h q
theorem fO {e:α->TV} {n:ci} {x y:AJ} {a b:α} {i:Decidable (a=b)} (j:x.val O=some (e a)) (l:y.val O=some (e b)) (c:YU e) (m:TV.agg (e a).cells=e a) (o:TV.agg (e b).cells=e b) (p:(e a).cells.map TV.kd=n) (q:WO S K os ((d,.tv (.bool (decide (a=b))))::O)):WO S K (⟨some d,.bin (.a n) .eql x y,none⟩::os) O:=by
 obtain ⟨s,h⟩:=c.dec a b;have:i=s:=Subsingleton.elim _ _;subst this;rw [←m] at j;rw [←o] at l;exact ZW j l p h q
theorem fQ {e:α->TV} {n:ci} {x y:AJ} {a b:α} {i:Decidable (a=b)} (j:x.val O=some (e a)) (l:y.val O=some (e b)) (c:YU e) (m:TV.agg (e a).cells=e a) (o:TV.agg (e b).cells=e b) (p:(e a).cells.map TV.kd=n) (q:WO S K os ((d,.tv (.bool (!decide (a=b))))::O)):WO S K (⟨some d,.bin (.a n) .neq x y,none⟩::os) O:=by
 obtain ⟨s,h⟩:=c.dec a b;have:i=s:=Subsingleton.elim _ _;subst this;rw [←m] at j;rw [←o] at l;exact ZX j l p h q
section calls
variable {x:Option α} {f:FuncId} {ts:QQ} {R:α->CM} {args:List AJ}
theorem jB {s:Nat} {cs:List AV} {row:QQ} (e:O.get s=.bx cs) (f:Fz cs row) (k:WO S K os ((s,.tv (.pt row))::O)):WO S K (⟨none,.frz s,none⟩::os) O:=oj e f.h k
theorem fW {t:α->TV} (h:x.bind k=some r) (c:Ct P x f ts R) (i:vals O args=some ts) (j:∀ a,R a=.sh (t a)) (l:∀ a,x=some a->k a=some r->WO (AR P) K os ((d,.tv (t a))::O)):WO (AR P) K (⟨some d,.call f args,none⟩::os) O:=by
 obtain ⟨a,e,h⟩:=bind_some h;have:=c.snd a e;rw [j] at this;exact ZY i this (l a e h)
theorem dC {t:α->TV} (h:x.bind k=some r) (c:Ct P x f ts R) (i:vals O args=some ts) (j:∀ a,R a=.own (t a)) (l:∀ a,x=some a->k a=some r->WO (AR P) K os ((d,.ow (t a))::O)):WO (AR P) K (⟨some d,.call f args,none⟩::os) O:=by
 obtain ⟨a,e,h⟩:=bind_some h;have:=c.snd a e;rw [j] at this;exact ei i this (l a e h)
theorem dF {t:α->TV} (_:HS d) (h:x.bind k=some r) (c:Ct P x f ts R) (i:vals O args=some ts) (j:∀ a,R a=.own (t a)) (l:∀ a,x=some a->k a=some r->WO (AR P) K os ((d,.tv (t a))::O)):WO (AR P) K (⟨some d,.call f args,none⟩::os) O:=by
 obtain ⟨a,e,h⟩:=bind_some h;have:=c.snd a e;rw [j] at this;exact ZY i (gV this) (l a e h)
theorem dH {n:Nat} {t:α->QQ} (h:x.bind k=some r) (c:Ct P x f ts R) (i:vals O args=some ts) (j:∀ a,R a=.xown n (t a)) (l:∀ a,x=some a->k a=some r->WO (AR P) K os ((d,.ow (.list n (t a)))::O)):WO (AR P) K (⟨some d,.call f args,none⟩::os) O:=by
 obtain ⟨a,e,h⟩:=bind_some h;have:=c.snd a e;rw [j] at this;exact eo i this (l a e h)
theorem dE {t:α->QQ} (h:x.bind k=some r) (c:Ct P x f ts R) (i:vals O args=some ts) (j:∀ a,R a=.tp (t a)) (l:∀ a,x=some a->k a=some r->WO (AR P) K os ((d,.tp (t a))::O)):WO (AR P) K (⟨some d,.call f args,none⟩::os) O:=by
 obtain ⟨a,e,h⟩:=bind_some h;have:=c.snd a e;rw [j] at this;exact ej i this (l a e h)
theorem c7 {t:α->List AV} (h:x.bind k=some r) (c:Ct P x f ts R) (i:vals O args=some ts) (j:∀ a,R a=.oag (t a)) (l:∀ a,x=some a->k a=some r->WO (AR P) K os ((d,.tv (.agg ((t a).map (·.t))))::O)):WO (AR P) K (⟨some d,.call f args,none⟩::os) O:=by
 obtain ⟨a,e,h⟩:=bind_some h;have:=c.snd a e;rw [j] at this;exact ee i this rfl (l a e h)
theorem cz {t:α->List AV} (h:x.bind k=some r) (c:Ct P x f ts R) (i:vals O args=some ts) (j:∀ a,R a=.oag (t a)) (l:∀ a,x=some a->k a=some r->WO (AR P) K os ((d,.oag (t a))::O)):WO (AR P) K (⟨some d,.callg f args,none⟩::os) O:=by
 obtain ⟨a,e,h⟩:=bind_some h;have:=c.snd a e;rw [j] at this;exact ed i this (l a e h)
theorem dI {n:Nat} {t:α->QQ} (h:x.bind k=some r) (c:Ct P x f ts R) (i:O.noRef d=true) (j:vals O args=some ts) (l:∀ a,R a=.xown n (t a)) (m:∀ a,x=some a->k a=some r->WO (AR P) K os ((d,.xo n (t a))::O)):WO (AR P) K (⟨some d,.callx f args,none⟩::os) O:=by
 obtain ⟨a,e,h⟩:=bind_some h;have:=c.snd a e;rw [l] at this;exact et i j this (m a e h)
theorem aD {γ:Type} {k:List γ->Option β} {x:Option (List γ)} {R:List γ->CM} {n:Nat} {e:γ->TV} (h:x.bind k=some r) (c:Ct P x f ts R) (j:O.noRef d=true) (l:vals O args=some ts) (m:∀ a,R a=.own (.list n (a.map e))) (o:∀ a,(e a).flat=true) (p:∀ a,x=some a->k a=some r->WO (AR P) K os ((d,.xo n (a.map e))::O)):WO (AR P) K (⟨some d,.callx f args,none⟩::os) O:=by
 obtain ⟨a,i,h⟩:=bind_some h;have:=c.snd a i;rw [m] at this;exact bN j l this rfl o (p a i h)
theorem dA {t:α->TV} (h:x.bind k=some r) (c:Ct P x f ts R) (i:lvals O args=some ts) (j:∀ a,R a=.sh (t a)) (l:∀ a,(t a).flat=true) (m:∀ a,x=some a->k a=some r->WO (AR P) K os ((d,.tv (t a))::O)):WO (AR P) K (⟨some d,.calll f args,none⟩::os) O:=by
 obtain ⟨a,e,h⟩:=bind_some h;have:=c.snd a e;rw [j] at this;exact ef i this (l a) (m a e h)
theorem aA {t:α->QQ} (h:x.bind k=some r) (c:Ct P x f ts R) (i:lvals O args=some ts) (j:∀ a,R a=.tp (t a)) (l:∀ a,TV.flats (t a)=true) (m:∀ a,x=some a->k a=some r->WO (AR P) K os ((d,.tp (t a))::O)):WO (AR P) K (⟨some d,.calll f args,none⟩::os) O:=by
 obtain ⟨a,e,h⟩:=bind_some h;have:=c.snd a e;rw [j] at this;exact bK i this (l a) (m a e h)
theorem Z9 {γ:Type} {k:List γ->Option β} {x:Option (List γ)} {R:List γ->CM} {n:Nat} {e:γ->TV} (h:x.bind k=some r) (c:Ct P x f ts R) (j:lvals O args=some ts) (l:∀ a,R a=.own (.list n (a.map e))) (m:∀ a,(e a).flat=true) (o:∀ a,x=some a->k a=some r->WO (AR P) K os ((d,.ow (.list n (a.map e)))::O)):WO (AR P) K (⟨some d,.calll f args,none⟩::os) O:=by
 obtain ⟨a,i,h⟩:=bind_some h;have:=c.snd a i;rw [l] at this;exact bJ j this rfl rfl m (o a i h)
theorem cy {t:α->QQ} (h:x.bind k=some r) (c:Ct P x f ts R) (i:vals O args=some ts) (j:∀ a,R a=.ext (t a)) (l:∀ a,x=some a->k a=some r->WO (AR P) K os ((d,.tp (t a))::O)):WO (AR P) K (⟨some d,.callf f args,none⟩::os) O:=by
 obtain ⟨a,e,h⟩:=bind_some h;have:=c.snd a e;rw [j] at this;exact ec i this (l a e h)
theorem cw {i s:Nat} {cs:List AV} {cs':α->List AV} {us:α->QQ} {e:α->EV} (h:x.bind k=some r) (c:Ct P x f ts R) (l:(args[i]?).bind (·.place O)=some (s,0)) (m:O.get s=.bx cs) (o:O.noX s none=true) (p:d≠s) (q:NY O i args=some ts) (t:∀ a,R a=.bo cs (cs' a) i (us a)) (u:∀ a,EV.ofs (us a)=e a) (w:∀ a,x=some a->k a=some r->WO (AR P) K os ((d,e a)::(s,.bx (cs' a))::O)):WO (AR P) K (⟨some d,.callb f args i,none⟩::os) O:=by
 obtain ⟨a,j,h⟩:=bind_some h;have:=c.snd a j;rw [t] at this;exact eZ l m o p q this (u a) (w a j h)
theorem dB {k:Ne->Option β} {f:FuncId} {x:AJ} {q:Nat} {e:Option Nat} {es:QQ} {l:Ne} {y:Option Ne} {env':Ne->AC} (h:y.bind k=some r) (c:Ct P y f [.list 1 (l.map (TV.int .i64))] CM.turn) (j:x.xlist O=some ((q,e),1,es)) (m:es=l.map (TV.int .i64)) (hv:∀ a,O.xput q e 1 (a.map (TV.int .i64))=env' a) (o:∀ a,y=some a->k a=some r->WO (AR P) K os ((d,.tp [])::env' a)):WO (AR P) K (⟨some d,.callm f x,none⟩::os) O:=by
 obtain ⟨a,i,h⟩:=bind_some h;exact eg j m rfl (c.snd a i) rfl (hv a) (o a i h)
theorem cx {k:Ne->Option β} {f:FuncId} {x:AJ} {q:Nat} {es:QQ} {l:Ne} {y:Option Ne} (h:y.bind k=some r) (c:Ct P y f [.list 1 (l.map (TV.int .i64))] CM.cut) (j:x.xlist O=some ((q,none),1,es)) (m:es=l.map (TV.int .i64)) (e:q≠d) (o:O.noRef d=true) (p:∀ a,y=some a->k a=some r->WO (AR P) K os ((d,.xo 1 (a.map (TV.int .i64)))::(q,.undef)::O)):WO (AR P) K (⟨some d,.callc f x,none⟩::os) O:=by
 obtain ⟨a,i,h⟩:=bind_some h;exact eb j m rfl e o (c.snd a i) rfl (p a i h)
section values
variable {v:AJ} {caps us:QQ}
theorem dG {t:α->TV} (h:x.bind k=some r) (c:Ct P x f ts R) (hv:v.val O=some (.clo f caps)) (i:vals O args=some us) (j:us++caps=ts) (l:∀ a,R a=.sh (t a)) (m:∀ a,x=some a->k a=some r->WO (AR P) K os ((d,.tv (t a))::O)):WO (AR P) K (⟨some d,.callv v args,none⟩::os) O:=by
 obtain ⟨a,e,h⟩:=bind_some h;have:=c.snd a e;rw [l,←j] at this;exact en hv i this (m a e h)
theorem aB {t:α->TV} (h:x.bind k=some r) (c:Ct P x f ts R) (hv:v.val O=some (.clo f caps)) (i:vals O args=some us) (j:us++caps=ts) (l:∀ a,R a=.own (t a)) (m:∀ a,x=some a->k a=some r->WO (AR P) K os ((d,.ow (t a))::O)):WO (AR P) K (⟨some d,.callv v args,none⟩::os) O:=by
 obtain ⟨a,e,h⟩:=bind_some h;have:=c.snd a e;rw [l,←j] at this;exact bL hv i this (m a e h)
theorem aC {t:α->QQ} (h:x.bind k=some r) (c:Ct P x f ts R) (hv:v.val O=some (.clo f caps)) (i:vals O args=some us) (j:us++caps=ts) (l:∀ a,R a=.tp (t a)) (m:∀ a,x=some a->k a=some r->WO (AR P) K os ((d,.tp (t a))::O)):WO (AR P) K (⟨some d,.callv v args,none⟩::os) O:=by
 obtain ⟨a,e,h⟩:=bind_some h;have:=c.snd a e;rw [l,←j] at this;exact bM hv i this (m a e h)
end values
end calls
inductive GS (g:Nat) (b:Bool):ci->List PR->ci->Nat->Prop
 | done {acc:ci} {os:List PR}:GS g b acc os [] 0
 | step {acc js:ci} {d n:Nat} {op:AH} {os:List PR}:GS g b (d::acc) os js n->GS g b acc (⟨some d,op,some (g,b)⟩::os) (d::js) (n+1)
 | nest {acc js:ci} {d n g':Nat} {b':Bool} {op:AH} {os:List PR}:acc.contains g'=true->GS g b (d::acc) os js n->GS g b acc (⟨some d,op,some (g',b')⟩::os) (d::js) (n+1)
def fM:ci->AC->(AC->Prop)->Prop
 | [],z,K=>K z
 | k::ks,z,K=>∃ j,fM ks ((k,j)::z) K
structure Gj (js:ci) (d:Nat) (v:TV) (z e:AC):Prop where
 of::out:fM js z fun y=>e=(d,.tv v)::y
theorem Yu {d:Nat} {v:TV} {z e:AC} (h:e=(d,.tv v)::z):Gj [] d v z e:=⟨h⟩
theorem df {k d:Nat} {i:ci} {v:TV} {j:EV} {z e:AC} (h:Gj i d v ((k,j)::z) e):Gj (k::i) d v z e:=⟨j,h.out⟩
theorem fa {js:ci} {v:TV} {z:AC} (h:Gj js d v z O):WO S (Gj js d v z) [] O:=⟨h⟩
structure TS (js:ci) (z:AC) (Q:AC->Prop):Prop where
 of::out:∀ (d:Nat) (v:TV) (e:AC),Gj js d v z e->∃ y,e=(d,.tv v)::y∧Q y
theorem dg {z:AC} {Q:AC->Prop} (h:Q z):TS [] z Q:=⟨fun _ _ _ e=>⟨z,e.out,h⟩⟩
theorem aR {k:Nat} {i:ci} {z:AC} {Q:AC->Prop} (h:∀ j,TS i ((k,j)::z) Q):TS (k::i) z Q:=⟨fun d v e l=>by
 obtain ⟨j,m⟩:=l.out;exact (h j).out d v e ⟨m⟩⟩
theorem na {dd:Option Nat} {op:AH} {g:Nat} {b q:Bool} (e:O.get g=.tv (.bool q)) (h:YY g b q) (i:WO S K (⟨dd,op,none⟩::os) O):WO S K (⟨dd,op,some (g,b)⟩::os) O:=rM e h.out i
theorem gF {op:AH} {g:Nat} {b q:Bool} (e:O.get g=.tv (.bool q)) (h:Uj g b q) (i:WO S K os ((d,.sk)::O)):WO S K (⟨some d,op,some (g,b)⟩::os) O:=nZ e h.out i
theorem Xf {d n:Nat} {js:ci} {v:TV} (h:WO S (Gj js d v O) (os.take n) O) (i:TS js O fun e=>WO S K (os.drop n) ((d,.tv v)::e)):WO S K os O:=
 nY n (Gj js d v) h fun e j=>by
  obtain ⟨y,rfl,l⟩:=i.out d v e j;exact l
section groups
variable {g n:Nat} {js:ci} {c:Bool} {dd gd:Option Nat} {op:AH} {x y z:AJ} {gg:Option (Nat × Bool)}
theorem jF {k:Bool->Option β} {T:ca} {j:List PR} (h:(if c=true then T else some false).bind k=some r) (_:GS g true [] os js n) (p:O.get g=.tv (.bool c)) (_:os[n]?=some ⟨some d,.pick x y z,gg⟩)
  (l:∀ v,YY g true c->c=true->T=some v->WO S (Gj js d (.bool v) O) (os.take (n+1)) O) (m:∀ v,Uj g true c->c=false->some false=some v->WO S (Gj js d (.bool v) O) (os.take (n+1)) O)
  (o:∀ v,k v=some r->TS js O fun e=>WO S K (os.drop (n+1)) ((d,.tv (.bool v))::e)) (ho:os=⟨dd,op,some (g,true)⟩::j):WO S K (⟨dd,op,some (g,true)⟩::j) O:=by
 obtain ⟨v,hv,h⟩:=bind_some h;rw [←ho];refine Xf (n:=n+1) (v:=.bool v) ?_ (o v h);rcases Bool.eq_false_or_eq_true c with i | i
 ·exact l v ⟨i⟩ i (Uc i hv)
 ·exact m v ⟨by rw [i]; rfl⟩ i (Ub i hv)
theorem jE {k:Bool->Option β} {T:ca} {j:List PR} (h:(if c=true then some true else T).bind k=some r) (_:GS g false [] os js n) (p:O.get g=.tv (.bool c)) (_:os[n]?=some ⟨some d,.pick x y z,gg⟩)
  (l:∀ v,YY g false c->c=false->T=some v->WO S (Gj js d (.bool v) O) (os.take (n+1)) O) (m:∀ v,Uj g false c->c=true->some true=some v->WO S (Gj js d (.bool v) O) (os.take (n+1)) O)
  (o:∀ v,k v=some r->TS js O fun e=>WO S K (os.drop (n+1)) ((d,.tv (.bool v))::e)) (ho:os=⟨dd,op,some (g,false)⟩::j):WO S K (⟨dd,op,some (g,false)⟩::j) O:=by
 obtain ⟨v,hv,h⟩:=bind_some h;rw [←ho];refine Xf (n:=n+1) (v:=.bool v) ?_ (o v h);rcases Bool.eq_false_or_eq_true c with i | i
 ·exact m v ⟨by rw [i]; rfl⟩ i (Uc i hv)
 ·exact l v ⟨i⟩ i (Ub i hv)
theorem jD {e:Bool} {h:List PR} (ho:os=⟨dd,op,some (g,true)⟩::h) (_:GS g true [] os js n) (m:O.get g=.tv (.bool c)) (_:os[n]?=some ⟨some d,.pick x y z,gg⟩)
  (i:YY g true c->c=true->WO S (Gj js d (.bool e) O) (os.take (n+1)) O) (j:Uj g true c->c=false->WO S (Gj js d (.bool false) O) (os.take (n+1)) O)
  (l:TS js O fun z=>WO S K (os.drop (n+1)) ((d,.tv (.bool (c&&e)))::z)):WO S K (⟨dd,op,some (g,true)⟩::h) O:=by
 rw [←ho];refine Xf (n:=n+1) (v:=.bool (c&&e)) ?_ l;cases c
 ·exact j ⟨rfl⟩ rfl
 ·exact i ⟨rfl⟩ rfl
theorem jC {e:Bool} {h:List PR} (ho:os=⟨dd,op,some (g,false)⟩::h) (_:GS g false [] os js n) (m:O.get g=.tv (.bool c)) (_:os[n]?=some ⟨some d,.pick x y z,gg⟩)
  (i:YY g false c->c=false->WO S (Gj js d (.bool e) O) (os.take (n+1)) O) (j:Uj g false c->c=true->WO S (Gj js d (.bool true) O) (os.take (n+1)) O)
  (l:TS js O fun z=>WO S K (os.drop (n+1)) ((d,.tv (.bool (c||e)))::z)):WO S K (⟨dd,op,some (g,false)⟩::h) O:=by
 rw [←ho];refine Xf (n:=n+1) (v:=.bool (c||e)) ?_ l;cases c
 ·exact i ⟨rfl⟩ rfl
 ·exact j ⟨rfl⟩ rfl
end groups
theorem jX {x:AJ} {q n i:Nat} {m:Option Nat} {es row:QQ} {e:α->TV} {l:List α} {j:Int} {a:α} {t:TV} (h:x.ev O=.lp q m (j.toNat*n+i)) (o:O.xat q m=some (n,es)) (p:es=l.map e) (s:∀ a,(e a).cells.length=n) (u:AK l j=some a) (hi:Nat.blt i n=true) (w:(e a).cells=row) (A:row[i]?=some t)
  (B:WO S K os ((d,.tv t)::O)):WO S K (⟨some d,.xld x,none⟩::os) O:=cn h o p s u rfl hi w A B
theorem fl {x:AJ} {q n:Nat} {m:Option Nat} {es row:QQ} {e:α->TV} {l:List α} {j:Int} {a:α} {t:TV} (h:x.ev O=.lp q m (j.toNat*n)) (o:O.xat q m=some (n,es)) (p:es=l.map e) (s:∀ a,(e a).cells.length=n) (u:AK l j=some a) (hi:Nat.blt 0 n=true) (w:(e a).cells=row) (A:row[0]?=some t)
  (B:WO S K os ((d,.tv t)::O)):WO S K (⟨some d,.xld x,none⟩::os) O:=cn (i:=0) h o p s u rfl hi w A B
theorem fo {γ:Type} {s:Nat} {v:AJ} {q n i:Nat} {m:Option Nat} {env':AC} {es:QQ} {e:α->TV} {g:γ->TV} {l:List α} {j:Int} {a:α} {b:γ} {f:α->γ->α} (_:HX s f) (h:(AJ.s s).ev O=.lp q m (j.toNat*n+i)) (p:O.xat q m=some (n,es)) (hv:v.ev O=.tv (g b)) (t:es=l.map e) (u:∀ a,(e a).cells.length=n) (w:AK l j=some a) (hi:Nat.blt i n=true) (A:(g b).cells=[g b])
  (B:(e (f a b)).cells=(e a).cells.set i (g b)) (o:O.xput q m n ((CU l j (f a b)).map e)=env') (C:WO S K os env'):WO S K (⟨none,.xst (.s s) v,none⟩::os) O:=co h p hv t u w rfl hi A B rfl o C
theorem fm {x v:AJ} {q n:Nat} {m:Option Nat} {env':AC} {es:QQ} {e:α->TV} {l:List α} {j:Int} {a b:α} (h:x.ev O=.lp q m (j.toNat*n)) (p:O.xat q m=some (n,es)) (hv:v.ev O=.tv (e b)) (s:es=l.map e) (t:∀ a,(e a).cells.length=n) (u:AK l j=some a) (hi:Nat.blt 0 n=true) (w:(e b).cells=[e b])
  (A:(e b).cells=(e a).cells.set 0 (e b)) (o:O.xput q m n ((CU l j b).map e)=env') (B:WO S K os env'):WO S K (⟨none,.xst x v,none⟩::os) O:=co (i:=0) h p hv s t u rfl hi w A rfl o B
end
end Go.Sf
