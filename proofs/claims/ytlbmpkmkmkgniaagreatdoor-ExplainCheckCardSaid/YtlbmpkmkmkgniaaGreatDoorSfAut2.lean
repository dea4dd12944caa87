/- The rules of single operations that take the typed text along. -/
import Derived.Test.YtlbmpkmkmkgniaaGreatDoorSfAuto
import Derived.Test.YtlbmpkmkmkgniaaGreatDoorSfLib
set_option linter.all false
namespace Go.Sf
section
variable {P:Program} {S:FuncId->QQ->CS->Prop} {K:AD->Prop} {os:List PR} {O:AD} {d:Nat} {α β:Type} {k:α->Option β} {r:β}
theorem ku {n:Nat} {x i:AL} {es:QQ} {e:α->TV} {l:List α} {ik:IntKind} {j:Int} (h:(AM l j).bind k=some r) (o:x.val O=some (.list n es)) (hi:i.val O=some (.int ik j)) (p:es=l.map e)
  (q:∀ a,AM l j=some a->k a=some r->WO S K os ((d,.tv (.pt (e a).cells))::O)):WO S K (⟨some d,.iad x i n,none⟩::os) O:=by
 obtain ⟨a,m,h⟩:=bind_some h;exact q0 o hi p m rfl (q a m h)
theorem lF {β:Type} {γ:Type} {k:List γ->Option β} {r:β} {n:Nat} {x:AL} {lo hi:Option AL} {es:QQ} {e:γ->TV} {l:List γ} {p q:IntKind} {a b:Int} (h:(slc l a b).bind k=some r) (s:x.val O=some (.list n es)) (t:es=l.map e) (i:HM O 0 lo=some (.int p a)) (j:HM O l.length hi=some (.int q b))
  (u:∀ m,slc l a b=some m->k m=some r->WO S K os ((d,.tv (.list n (m.map e)))::O)):WO S K (⟨some d,.slc n x lo hi,none⟩::os) O:=by
 obtain ⟨m,o,h⟩:=bind_some h;exact rL s t i j o (u m o h)
theorem iU {k:ByteArray->Option β} {x:AL} {lo hi:Option AL} {s:ByteArray} {l o:IntKind} {a b:Int} (h:(sslc s a b).bind k=some r) (p:x.val O=some (.str s)) (e:HM O 0 lo=some (.int l a)) (i:HM O s.size hi=some (.int o b))
  (q:∀ m,sslc s a b=some m->k m=some r->WO S K os ((d,.tv (.str m))::O)):WO S K (⟨some d,.sslc x lo hi,none⟩::os) O:=by
 obtain ⟨m,j,h⟩:=bind_some h;exact kH p e i j (q m j h)
theorem iS {k:Int->Option β} {x i:AL} {s:ByteArray} {ik:IntKind} {j:Int} (h:(sidx s j).bind k=some r) (l:x.val O=some (.str s)) (hi:i.val O=some (.int ik j))
  (m:∀ b,sidx s j=some b->k b=some r->WO S K os ((d,.tv (.int .u8 b))::O)):WO S K (⟨some d,.sidx x i,none⟩::os) O:=by
 obtain ⟨b,e,h⟩:=bind_some h;exact kE l hi e (m b e h)
theorem kZ {γ:Type} {k:List γ->Option β} {n s:Nat} {y:AL} {es i:QQ} {e:γ->TV} {l m:List γ} (h:(BV l m).bind k=some r) (o:O.get s=.ow (.list n es)) (p:y.val O=some (.list n i)) (q:es=l.map e) (t:i=m.map e)
  (u:∀ x,BV l m=some x->k x=some r->WO S K os ((d,.ow (.list n (x.map e)))::(s,.tv (.list n es))::O)):WO S K (⟨some d,.app n (.s s) y,none⟩::os) O:=by
 obtain ⟨x,j,h⟩:=bind_some h;exact eZ o p q t j rfl (u x j h)
theorem iE {γ:Type} {k:List γ->Option β} {n s:Nat} {y:AL} {es i:QQ} {e:γ->TV} {l m:List γ} {f:List γ->TV} (h:(BV l m).bind k=some r) (o:O.get s=.ow (.list n es)) (p:y.val O=some (.list n i)) (q:es=l.map e) (t:i=m.map e) (c:Fl e n f)
  (u:∀ x,BV l m=some x->k x=some r->WO S K os ((d,.ow (f x))::(s,.tv (.list n es))::O)):WO S K (⟨some d,.app n (.s s) y,none⟩::os) O:=by
 obtain ⟨x,j,h⟩:=bind_some h;have:=u x j h;rw [c.eq] at this;exact eZ o p q t j rfl this
theorem iF {γ:Type} {k:List γ->Option β} {n s:Nat} {y:AL} {es i:QQ} {e:γ->TV} {l m:List γ} (h:(BV l m).bind k=some r) (o:O.get s=.xo n es) (p:y.val O=some (.list n i)) (q:es=l.map e) (t:i=m.map e) (u:O.noRef d=true) (w:d≠s)
  (A:∀ x,BV l m=some x->k x=some r->WO S K os ((d,.xo n (x.map e))::(s,.undef)::O)):WO S K (⟨some d,.appx n s y,none⟩::os) O:=by
 obtain ⟨x,j,h⟩:=bind_some h;exact jq o p q t j rfl u w (A x j h)
theorem iG {γ:Type} {k:List γ->Option β} {n s:Nat} {i:TV} {x:AL} {es:QQ} {e:γ->TV} {z:γ} {l:List γ} {ik:IntKind} {j:Int} (h:(SZ l j z).bind k=some r) (q:O.get s=.xo n es) (t:x.val O=some (.int ik j)) (u:es=l.map e) (w:i=e z) (A:O.noRef d=true) (B:d≠s) (o:n=1) (C:i.cells=[i])
  (D:∀ m,SZ l j z=some m->k m=some r->WO S K os ((d,.xo n (m.map e))::(s,.undef)::O)):WO S K (⟨some d,.appz n s i x,none⟩::os) O:=by
 obtain ⟨m,p,h⟩:=bind_some h;exact jr q t u w p rfl A B o C (D m p h)
theorem ke {γ:Type} {k:List γ->Option β} {n s:Nat} {hi:AL} {es:QQ} {e:γ->TV} {l:List γ} {ik:IntKind} {j:Int} (h:(slc l 0 j).bind k=some r) (o:O.get s=.xo n es) (p:hi.val O=some (.int ik j)) (q:es=l.map e) (t:O.noRef d=true) (u:d≠s)
  (w:∀ m,slc l 0 j=some m->k m=some r->WO S K os ((d,.xo n (m.map e))::(s,.undef)::O)):WO S K (⟨some d,.cut n s hi,none⟩::os) O:=by
 obtain ⟨m,i,h⟩:=bind_some h;exact qr o p q i rfl t u (w m i h)
theorem kz {γ:Type} {k:List γ->Option β} {n:Nat} {zero:QQ} {x:AL} {ik:IntKind} {j:Int} {e:γ->TV} {z:γ} (h:(Jq j z).bind k=some r) (l:O.noRef d=true) (o:x.val O=some (.int ik j)) (p:(match zero with | [t]=>t | ts=>.agg ts)=e z)
  (q:∀ m,Jq j z=some m->k m=some r->WO S K os ((d,.xo n (m.map e))::O)):WO S K (⟨some d,.mkx n zero x,none⟩::os) O:=by
 obtain ⟨m,i,h⟩:=bind_some h;exact rC l o p i rfl (q m i h)
theorem lK {x i:AL} {q n:Nat} {m:Option Nat} {es:QQ} {e:α->TV} {l:List α} {ik:IntKind} {j:Int} (h:(AM l j).bind k=some r) (p:x.xlist O=some ((q,m),n,es)) (hi:i.val O=some (.int ik j)) (s:es=l.map e) (t:(x.ev O).ref=some q)
  (u:∀ a,AM l j=some a->k a=some r->WO S K os ((d,.lp q m (j.toNat*n))::O)):WO S K (⟨some d,.xia x i n,none⟩::os) O:=by
 obtain ⟨a,o,h⟩:=bind_some h;exact rT p hi s o t (u a o h)
section ints
variable {k:Int->Option β} {x y:AL} {ik:IntKind} {a b:Int}
theorem k6 (h:(quo a b).bind k=some r) (j:x.val O=some (.int ik a)) (l:y.val O=some (.int ik b)) (o:∀ q,quo a b=some q->k q=some r->WO S K os ((d,.tv (.int ik (ik.wrap q)))::O)):WO S K (⟨some d,.bin .i .quo x y,none⟩::os) O:=by
 obtain ⟨m,e,h⟩:=bind_some h;exact rI j l e (o m e h)
theorem k8 (h:(eY a b).bind k=some r) (j:x.val O=some (.int ik a)) (l:y.val O=some (.int ik b)) (o:∀ q,eY a b=some q->k q=some r->WO S K os ((d,.tv (.int ik q))::O)):WO S K (⟨some d,.bin .i .rem x y,none⟩::os) O:=by
 obtain ⟨m,e,h⟩:=bind_some h;exact rK j l e (o m e h)
theorem kc {op:BinOp} {e:IntKind} (h:(Lt ik op a b).bind k=some r) (j:x.val O=some (.int ik a)) (l:y.val O=some (.int e b)) (o:ik=e∨op=.shl∨op=.shr) (p:∀ q,Lt ik op a b=some q->k q=some r->WO S K os ((d,.tv (.int ik q))::O)):WO S K (⟨some d,.bin .w op x y,none⟩::os) O:=by
 obtain ⟨m,i,h⟩:=bind_some h;exact ql j l o i (p m i h)
end ints
theorem iR {k:ByteArray->Option β} {x y:AL} {u v:ByteArray} (h:(NG u v).bind k=some r) (i:x.val O=some (.str u)) (j:y.val O=some (.str v)) (l:∀ q,NG u v=some q->k q=some r->WO S K os ((d,.tv (.str q))::O)):WO S K (⟨some d,.bin .s .add x y,none⟩::os) O:=by
 obtain ⟨m,e,h⟩:=bind_some h;exact kC i j e (l m e h)
theorem kv {k:Unit->Option β} {x:AL} {n:Nat} {es:QQ} {e:α->TV} {l:List α} (h:(Wn l).bind k=some r) (i:x.val O=some (.list n es)) (j:es=l.map e) (m:∀ u,k u=some r->WO S K os ((d,.tv (.bool false))::O)):WO S K (⟨some d,.isn x,none⟩::os) O:=by
 obtain ⟨u,p,h⟩:=bind_some h;refine eb i j fun b o=>?_;obtain rfl:=aT p o;exact m u h
theorem eC {x:AL} {n:Nat} {e:α->TV} {a:α} (h:BY O (x.ev O)=some (e a).cells) (i:Nat.beq (e a).cells.length n=true) (j:TV.agg (e a).cells=e a) (l:WO S K os ((d,.tv (e a))::O)):WO S K (⟨some d,.lda x n,none⟩::os) O:=by
 have i:=Nat.eq_of_beq_eq_true i;exact Zh h (by rw [i]; exact Nat.ble_self_eq_true n) (by rw [List.take_of_length_le (by omega),j]) l
theorem kw {s n:Nat} {cs:List A1} {e:α->TV} {a:α} (h:O.get s=.bx cs) (j:cs.map (·.t)=(e a).cells) (i:Nat.beq (e a).cells.length n=true) (l:TV.agg (e a).cells=e a) (m:WO S K os ((d,.tv (e a))::O)):WO S K (⟨some d,.ldb s n,none⟩::os) O:=by
 have i:=Nat.eq_of_beq_eq_true i;exact ec h (by rw [j,i]; exact Nat.ble_self_eq_true n) (by rw [j,List.take_of_length_le (by omega),l]) m
theorem iV {n s:Nat} {v:AL} {cs:List A1} {t:TV} (h:O.get s=.bx cs) (hv:v.ev O=.tv t) (i:t.cells.length=n) (e:Nat.beq n cs.length=true) (j:WO S K os ((s,.bx (t.cells.map (⟨false,·⟩)))::O)):WO S K (⟨none,.stb n s v,none⟩::os) O:=by
 have e:=Nat.eq_of_beq_eq_true e;refine ee h hv i (by rw [Nat.zero_add,e]; exact Nat.ble_self_eq_true _) ?_ j;rw [List.take_zero,Nat.zero_add,e,List.drop_length,List.append_nil,List.nil_append]
theorem iO {x:AL} {n:Nat} {e:α->TV} {a:α} (h:BY O (x.ev O)=some (((e a).cells.map fun t=>(⟨false,t⟩:A1)).map (·.t))) (i:Nat.beq (e a).cells.length n=true) (j:TV.agg (e a).cells=e a) (l:WO S K os ((d,.tv (e a))::O)):WO S K (⟨some d,.lda x n,none⟩::os) O:=
 eC (by rw [h,List.map_map]; congr 1; exact List.map_id _) i j l
def Yy (n:Nat):QQ->Bool
 | []=>true
 | t::ts=>Nat.beq t.cells.length n&&Yy n ts
theorem WA {n:Nat}:∀ {ts:QQ},Yy n ts=true->∀ t∈ts,t.cells.length=n
 | [],_,_,h=>by cases h
 | t::ts,h,u,e=>by
  simp only [Yy,zzZ] at h;rcases List.mem_cons.1 e with rfl | e
  ·exact Nat.eq_of_beq_eq_true h.1
  ·exact WA h.2 u e
theorem ky {n:Nat} {parts:List AL} {ts:QQ} (h:vals O parts=some ts) (e:Yy n ts=true) (i:WO S K os ((d,.ow (.list n ts))::O)):WO S K (⟨some d,.lst n parts,none⟩::os) O:=by
 have:=i.out;refine ⟨?_⟩;simp only [wpOps,PR.wp,AJ.wp,h,BA];exact ⟨WA e,this⟩
theorem iH {zero:QQ} {parts:List (Nat × Nat × AL)} {ts:List (Nat × Nat × TV)} {cs:QQ} {e:α->TV} {a:α} (h:(some a).bind k=some r) (_:En α e) (i:Iw O parts=some ts) (j:IC zero ts=some cs) (l:TV.agg cs=e a) (m:∀ x,x=a->k x=some r->WO S K os ((d,.tv (e x))::O)):WO S K (⟨some d,.bld zero parts,none⟩::os) O:=by
 rw [Option.bind_some] at h;exact Zg i j l (m a rfl h)
theorem kx {x:AL} {n:Nat} {cs:QQ} {e:α->TV} {a:α} (h:(some a).bind k=some r) (_:En α e) (i:BY O (x.ev O)=some cs) (j:Nat.ble n cs.length=true) (l:TV.agg (cs.take n)=e a) (m:∀ x,x=a->k x=some r->WO S K os ((d,.tv (e x))::O)):WO S K (⟨some d,.lda x n,none⟩::os) O:=by
 rw [Option.bind_some] at h;exact Zh i j l (m a rfl h)
inductive Lm {α:Type} (e:α->TV):QQ->List α->Prop
 | nil:Lm e [] []
 | cons {t:TV} {ts:QQ} {a:α} {l:List α}:t=e a->Lm e ts l->Lm e (t::ts) (a::l)
theorem Lm.eq {e:α->TV} {ts:QQ} {l:List α} (h:Lm e ts l):ts=l.map e:=by
 induction h with
 | nil=>rfl
 | cons h _ i=>rw [h,i]; rfl
theorem iP {n:Nat} {parts:List AL} {ts:QQ} {e:α->TV} {l:List α} (h:vals O parts=some ts) (i:Lm e ts l) (j:∀ a,(e a).cells.length=n) (m:WO S K os ((d,.ow (.list n (l.map e)))::O)):WO S K (⟨some d,.lst n parts,none⟩::os) O:=ed h i.eq j m
theorem iQ {n:Nat} {parts:List AL} {ts:QQ} {e:α->TV} {l:List α} {f:List α->TV} (h:vals O parts=some ts) (j:Lm e ts l) (m:∀ a,(e a).cells.length=n) (c:Fl e n f) (i:WO S K os ((d,.ow (f l))::O)):WO S K (⟨some d,.lst n parts,none⟩::os) O:=by
 rw [c.eq] at i;exact ed h j.eq m i
theorem iB {e:α->TV} {n:ci} {x y:AL} {a:α} {cs:QQ} (j:x.val O=some (e a)) (l:y.val O=some (.agg cs)) [c:Z2 e] [i:Decidable (a=c.un cs)] (m:TV.agg (e a).cells=e a) (o:(e (c.un cs)).cells=cs) (p:(e a).cells.map TV.kd=n) (q:WO S K os ((d,.tv (.bool (decide (a=c.un cs))))::O)):WO S K (⟨some d,.bin (.a n) .eql x y,none⟩::os) O:=by
 obtain ⟨s,h⟩:=c.dec a (c.un cs);have:i=s:=Subsingleton.elim _ _;subst this;rw [←m] at j;rw [o] at h;exact bL j l p h q
theorem iD {e:α->TV} {n:ci} {x y:AL} {a:α} {cs:QQ} (j:x.val O=some (e a)) (l:y.val O=some (.agg cs)) [c:Z2 e] [i:Decidable (a=c.un cs)] (m:TV.agg (e a).cells=e a) (o:(e (c.un cs)).cells=cs) (p:(e a).cells.map TV.kd=n) (q:WO S K os ((d,.tv (.bool (!decide (a=c.un cs))))::O)):WO S K (⟨some d,.bin (.a n) .neq x y,none⟩::os) O:=by
 obtain ⟨s,h⟩:=c.dec a (c.un cs);have:i=s:=Subsingleton.elim _ _;subst this;rw [←m] at j;rw [o] at h;exact bM j l p h q
theorem iA {e:α->TV} {n:ci} {x y:AL} {a b:α} {i:Decidable (a=b)} (j:x.val O=some (e a)) (l:y.val O=some (e b)) (c:Z2 e) (m:TV.agg (e a).cells=e a) (o:TV.agg (e b).cells=e b) (p:(e a).cells.map TV.kd=n) (q:WO S K os ((d,.tv (.bool (decide (a=b))))::O)):WO S K (⟨some d,.bin (.a n) .eql x y,none⟩::os) O:=by
 obtain ⟨s,h⟩:=c.dec a b;have:i=s:=Subsingleton.elim _ _;subst this;rw [←m] at j;rw [←o] at l;exact bL j l p h q
theorem iC {e:α->TV} {n:ci} {x y:AL} {a b:α} {i:Decidable (a=b)} (j:x.val O=some (e a)) (l:y.val O=some (e b)) (c:Z2 e) (m:TV.agg (e a).cells=e a) (o:TV.agg (e b).cells=e b) (p:(e a).cells.map TV.kd=n) (q:WO S K os ((d,.tv (.bool (!decide (a=b))))::O)):WO S K (⟨some d,.bin (.a n) .neq x y,none⟩::os) O:=by
 obtain ⟨s,h⟩:=c.dec a b;have:i=s:=Subsingleton.elim _ _;subst this;rw [←m] at j;rw [←o] at l;exact bM j l p h q
section calls
variable {x:Option α} {f:FuncId} {ts:QQ} {R:α->CS} {args:List AL}
theorem ki {s:Nat} {cs:List A1} {row:QQ} (e:O.get s=.bx cs) (f:Fz cs row) (k:WO S K os ((s,.tv (.pt row))::O)):WO S K (⟨none,.frz s,none⟩::os) O:=qx e f.h k
theorem iI {t:α->TV} (h:x.bind k=some r) (c:Ct P x f ts R) (i:vals O args=some ts) (j:∀ a,R a=.sh (t a)) (l:∀ a,x=some a->k a=some r->WO (AT P) K os ((d,.tv (t a))::O)):WO (AT P) K (⟨some d,.call f args,none⟩::os) O:=by
 obtain ⟨a,e,h⟩:=bind_some h;have:=c.snd a e;rw [j] at this;exact bN i this (l a e h)
theorem fB {t:α->TV} (h:x.bind k=some r) (c:Ct P x f ts R) (i:vals O args=some ts) (j:∀ a,R a=.own (t a)) (l:∀ a,x=some a->k a=some r->WO (AT P) K os ((d,.ow (t a))::O)):WO (AT P) K (⟨some d,.call f args,none⟩::os) O:=by
 obtain ⟨a,e,h⟩:=bind_some h;have:=c.snd a e;rw [j] at this;exact gf i this (l a e h)
theorem fD {t:α->TV} (_:HS d) (h:x.bind k=some r) (c:Ct P x f ts R) (i:vals O args=some ts) (j:∀ a,R a=.own (t a)) (l:∀ a,x=some a->k a=some r->WO (AT P) K os ((d,.tv (t a))::O)):WO (AT P) K (⟨some d,.call f args,none⟩::os) O:=by
 obtain ⟨a,e,h⟩:=bind_some h;have:=c.snd a e;rw [j] at this;exact bN i (jK this) (l a e h)
theorem fF {n:Nat} {t:α->QQ} (h:x.bind k=some r) (c:Ct P x f ts R) (i:vals O args=some ts) (j:∀ a,R a=.xown n (t a)) (l:∀ a,x=some a->k a=some r->WO (AT P) K os ((d,.ow (.list n (t a)))::O)):WO (AT P) K (⟨some d,.call f args,none⟩::os) O:=by
 obtain ⟨a,e,h⟩:=bind_some h;have:=c.snd a e;rw [j] at this;exact gj i this (l a e h)
theorem fC {t:α->QQ} (h:x.bind k=some r) (c:Ct P x f ts R) (i:vals O args=some ts) (j:∀ a,R a=.tp (t a)) (l:∀ a,x=some a->k a=some r->WO (AT P) K os ((d,.tp (t a))::O)):WO (AT P) K (⟨some d,.call f args,none⟩::os) O:=by
 obtain ⟨a,e,h⟩:=bind_some h;have:=c.snd a e;rw [j] at this;exact gh i this (l a e h)
theorem e8 {t:α->List A1} (h:x.bind k=some r) (c:Ct P x f ts R) (i:vals O args=some ts) (j:∀ a,R a=.oag (t a)) (l:∀ a,x=some a->k a=some r->WO (AT P) K os ((d,.tv (.agg ((t a).map (·.t))))::O)):WO (AT P) K (⟨some d,.call f args,none⟩::os) O:=by
 obtain ⟨a,e,h⟩:=bind_some h;have:=c.snd a e;rw [j] at this;exact gY i this rfl (l a e h)
theorem ey {t:α->List A1} (h:x.bind k=some r) (c:Ct P x f ts R) (i:vals O args=some ts) (j:∀ a,R a=.oag (t a)) (l:∀ a,x=some a->k a=some r->WO (AT P) K os ((d,.oag (t a))::O)):WO (AT P) K (⟨some d,.callg f args,none⟩::os) O:=by
 obtain ⟨a,e,h⟩:=bind_some h;have:=c.snd a e;rw [j] at this;exact gX i this (l a e h)
theorem fG {n:Nat} {t:α->QQ} (h:x.bind k=some r) (c:Ct P x f ts R) (i:O.noRef d=true) (j:vals O args=some ts) (l:∀ a,R a=.xown n (t a)) (m:∀ a,x=some a->k a=some r->WO (AT P) K os ((d,.xo n (t a))::O)):WO (AT P) K (⟨some d,.callx f args,none⟩::os) O:=by
 obtain ⟨a,e,h⟩:=bind_some h;have:=c.snd a e;rw [l] at this;exact gk i j this (m a e h)
theorem b8 {γ:Type} {k:List γ->Option β} {x:Option (List γ)} {R:List γ->CS} {n:Nat} {e:γ->TV} (h:x.bind k=some r) (c:Ct P x f ts R) (j:O.noRef d=true) (l:vals O args=some ts) (m:∀ a,R a=.own (.list n (a.map e))) (o:∀ a,(e a).flat=true) (p:∀ a,x=some a->k a=some r->WO (AT P) K os ((d,.xo n (a.map e))::O)):WO (AT P) K (⟨some d,.callx f args,none⟩::os) O:=by
 obtain ⟨a,i,h⟩:=bind_some h;have:=c.snd a i;rw [m] at this;exact dJ j l this rfl o (p a i h)
theorem e9 {t:α->TV} (h:x.bind k=some r) (c:Ct P x f ts R) (i:lvals O args=some ts) (j:∀ a,R a=.sh (t a)) (l:∀ a,(t a).flat=true) (m:∀ a,x=some a->k a=some r->WO (AT P) K os ((d,.tv (t a))::O)):WO (AT P) K (⟨some d,.calll f args,none⟩::os) O:=by
 obtain ⟨a,e,h⟩:=bind_some h;have:=c.snd a e;rw [j] at this;exact gZ i this (l a) (m a e h)
theorem bz {t:α->QQ} (h:x.bind k=some r) (c:Ct P x f ts R) (i:lvals O args=some ts) (j:∀ a,R a=.tp (t a)) (l:∀ a,TV.flats (t a)=true) (m:∀ a,x=some a->k a=some r->WO (AT P) K os ((d,.tp (t a))::O)):WO (AT P) K (⟨some d,.calll f args,none⟩::os) O:=by
 obtain ⟨a,e,h⟩:=bind_some h;have:=c.snd a e;rw [j] at this;exact dG i this (l a) (m a e h)
theorem bw {γ:Type} {k:List γ->Option β} {x:Option (List γ)} {R:List γ->CS} {n:Nat} {e:γ->TV} (h:x.bind k=some r) (c:Ct P x f ts R) (j:lvals O args=some ts) (l:∀ a,R a=.own (.list n (a.map e))) (m:∀ a,(e a).flat=true) (o:∀ a,x=some a->k a=some r->WO (AT P) K os ((d,.ow (.list n (a.map e)))::O)):WO (AT P) K (⟨some d,.calll f args,none⟩::os) O:=by
 obtain ⟨a,i,h⟩:=bind_some h;have:=c.snd a i;rw [l] at this;exact dF j this rfl rfl m (o a i h)
theorem ew {t:α->QQ} (h:x.bind k=some r) (c:Ct P x f ts R) (i:vals O args=some ts) (j:∀ a,R a=.ext (t a)) (l:∀ a,x=some a->k a=some r->WO (AT P) K os ((d,.tp (t a))::O)):WO (AT P) K (⟨some d,.callf f args,none⟩::os) O:=by
 obtain ⟨a,e,h⟩:=bind_some h;have:=c.snd a e;rw [j] at this;exact gW i this (l a e h)
theorem et {i s:Nat} {cs:List A1} {cs':α->List A1} {us:α->QQ} {e:α->EV} (h:x.bind k=some r) (c:Ct P x f ts R) (l:(args[i]?).bind (·.place O)=some (s,0)) (m:O.get s=.bx cs) (o:O.noX s none=true) (p:d≠s) (q:OV O i args=some ts) (t:∀ a,R a=.bo cs (cs' a) i (us a)) (u:∀ a,EV.ofs (us a)=e a) (w:∀ a,x=some a->k a=some r->WO (AT P) K os ((d,e a)::(s,.bx (cs' a))::O)):WO (AT P) K (⟨some d,.callb f args i,none⟩::os) O:=by
 obtain ⟨a,j,h⟩:=bind_some h;have:=c.snd a j;rw [t] at this;exact gU l m o p q this (u a) (w a j h)
theorem fA {k:Ne->Option β} {f:FuncId} {x:AL} {q:Nat} {e:Option Nat} {es:QQ} {l:Ne} {y:Option Ne} {env':Ne->AD} (h:y.bind k=some r) (c:Ct P y f [.list 1 (l.map (TV.int .i64))] CS.turn) (j:x.xlist O=some ((q,e),1,es)) (m:es=l.map (TV.int .i64)) (hv:∀ a,O.xput q e 1 (a.map (TV.int .i64))=env' a) (o:∀ a,y=some a->k a=some r->WO (AT P) K os ((d,.tp [])::env' a)):WO (AT P) K (⟨some d,.callm f x,none⟩::os) O:=by
 obtain ⟨a,i,h⟩:=bind_some h;exact gc j m rfl (c.snd a i) rfl (hv a) (o a i h)
theorem eu {k:Ne->Option β} {f:FuncId} {x:AL} {q:Nat} {es:QQ} {l:Ne} {y:Option Ne} (h:y.bind k=some r) (c:Ct P y f [.list 1 (l.map (TV.int .i64))] CS.cut) (j:x.xlist O=some ((q,none),1,es)) (m:es=l.map (TV.int .i64)) (e:q≠d) (o:O.noRef d=true) (p:∀ a,y=some a->k a=some r->WO (AT P) K os ((d,.xo 1 (a.map (TV.int .i64)))::(q,.undef)::O)):WO (AT P) K (⟨some d,.callc f x,none⟩::os) O:=by
 obtain ⟨a,i,h⟩:=bind_some h;exact gV j m rfl e o (c.snd a i) rfl (p a i h)
section values
variable {v:AL} {caps us:QQ}
theorem fE {t:α->TV} (h:x.bind k=some r) (c:Ct P x f ts R) (hv:v.val O=some (.clo f caps)) (i:vals O args=some us) (j:us++caps=ts) (l:∀ a,R a=.sh (t a)) (m:∀ a,x=some a->k a=some r->WO (AT P) K os ((d,.tv (t a))::O)):WO (AT P) K (⟨some d,.callv v args,none⟩::os) O:=by
 obtain ⟨a,e,h⟩:=bind_some h;have:=c.snd a e;rw [l,←j] at this;exact gi hv i this (m a e h)
theorem b6 {t:α->TV} (h:x.bind k=some r) (c:Ct P x f ts R) (hv:v.val O=some (.clo f caps)) (i:vals O args=some us) (j:us++caps=ts) (l:∀ a,R a=.own (t a)) (m:∀ a,x=some a->k a=some r->WO (AT P) K os ((d,.ow (t a))::O)):WO (AT P) K (⟨some d,.callv v args,none⟩::os) O:=by
 obtain ⟨a,e,h⟩:=bind_some h;have:=c.snd a e;rw [l,←j] at this;exact dH hv i this (m a e h)
theorem b7 {t:α->QQ} (h:x.bind k=some r) (c:Ct P x f ts R) (hv:v.val O=some (.clo f caps)) (i:vals O args=some us) (j:us++caps=ts) (l:∀ a,R a=.tp (t a)) (m:∀ a,x=some a->k a=some r->WO (AT P) K os ((d,.tp (t a))::O)):WO (AT P) K (⟨some d,.callv v args,none⟩::os) O:=by
 obtain ⟨a,e,h⟩:=bind_some h;have:=c.snd a e;rw [l,←j] at this;exact dI hv i this (m a e h)
end values
end calls
inductive GS (g:Nat) (b:Bool):ci->List PR->ci->Nat->Prop
 | done {acc:ci} {os:List PR}:GS g b acc os [] 0
 | step {acc js:ci} {d n:Nat} {op:AJ} {os:List PR}:GS g b (d::acc) os js n->GS g b acc (⟨some d,op,some (g,b)⟩::os) (d::js) (n+1)
 | nest {acc js:ci} {d n g':Nat} {b':Bool} {op:AJ} {os:List PR}:acc.contains g'=true->GS g b (d::acc) os js n->GS g b acc (⟨some d,op,some (g',b')⟩::os) (d::js) (n+1)
def hU:ci->AD->(AD->Prop)->Prop
 | [],z,K=>K z
 | k::ks,z,K=>∃ j,hU ks ((k,j)::z) K
structure Gj (js:ci) (d:Nat) (v:TV) (z e:AD):Prop where
 of::out:hU js z fun y=>e=(d,.tv v)::y
theorem aO {d:Nat} {v:TV} {z e:AD} (h:e=(d,.tv v)::z):Gj [] d v z e:=⟨h⟩
theorem fb {k d:Nat} {i:ci} {v:TV} {j:EV} {z e:AD} (h:Gj i d v ((k,j)::z) e):Gj (k::i) d v z e:=⟨j,h.out⟩
theorem iM {js:ci} {v:TV} {z:AD} (h:Gj js d v z O):WO S (Gj js d v z) [] O:=⟨h⟩
structure Us (js:ci) (z:AD) (Q:AD->Prop):Prop where
 of::out:∀ (d:Nat) (v:TV) (e:AD),Gj js d v z e->∃ y,e=(d,.tv v)::y∧Q y
theorem fc {z:AD} {Q:AD->Prop} (h:Q z):Us [] z Q:=⟨fun _ _ _ e=>⟨z,e.out,h⟩⟩
theorem cR {k:Nat} {i:ci} {z:AD} {Q:AD->Prop} (h:∀ j,Us i ((k,j)::z) Q):Us (k::i) z Q:=⟨fun d v e l=>by
 obtain ⟨j,m⟩:=l.out;exact (h j).out d v e ⟨m⟩⟩
theorem pw {dd:Option Nat} {op:AJ} {g:Nat} {b q:Bool} (e:O.get g=.tv (.bool q)) (h:Z4 g b q) (i:WO S K (⟨dd,op,none⟩::os) O):WO S K (⟨dd,op,some (g,b)⟩::os) O:=te e h.out i
theorem iv {op:AJ} {g:Nat} {b q:Bool} (e:O.get g=.tv (.bool q)) (h:V6 g b q) (i:WO S K os ((d,.sk)::O)):WO S K (⟨some d,op,some (g,b)⟩::os) O:=pv e h.out i
theorem ZB {d n:Nat} {js:ci} {v:TV} (h:WO S (Gj js d v O) (os.take n) O) (i:Us js O fun e=>WO S K (os.drop n) ((d,.tv v)::e)):WO S K os O:=
 pu n (Gj js d v) h fun e j=>by
  obtain ⟨y,rfl,l⟩:=i.out d v e j;exact l
section groups
variable {g n:Nat} {js:ci} {c:Bool} {dd gd:Option Nat} {op:AJ} {x y z:AL} {gg:Option (Nat × Bool)}
theorem kt {k:Bool->Option β} {T:ca} {j:List PR} (h:(if c=true then T else some false).bind k=some r) (_:GS g true [] os js n) (p:O.get g=.tv (.bool c)) (_:os[n]?=some ⟨some d,.pick x y z,gg⟩)
  (l:∀ v,Z4 g true c->c=true->T=some v->WO S (Gj js d (.bool v) O) (os.take (n+1)) O) (m:∀ v,V6 g true c->c=false->some false=some v->WO S (Gj js d (.bool v) O) (os.take (n+1)) O)
  (o:∀ v,k v=some r->Us js O fun e=>WO S K (os.drop (n+1)) ((d,.tv (.bool v))::e)) (ho:os=⟨dd,op,some (g,true)⟩::j):WO S K (⟨dd,op,some (g,true)⟩::j) O:=by
 obtain ⟨v,hv,h⟩:=bind_some h;rw [←ho];refine ZB (n:=n+1) (v:=.bool v) ?_ (o v h);rcases Bool.eq_false_or_eq_true c with i | i
 ·exact l v ⟨i⟩ i (Vy i hv)
 ·exact m v ⟨by rw [i]; rfl⟩ i (Vx i hv)
theorem ko {k:Bool->Option β} {T:ca} {j:List PR} (h:(if c=true then some true else T).bind k=some r) (_:GS g false [] os js n) (p:O.get g=.tv (.bool c)) (_:os[n]?=some ⟨some d,.pick x y z,gg⟩)
  (l:∀ v,Z4 g false c->c=false->T=some v->WO S (Gj js d (.bool v) O) (os.take (n+1)) O) (m:∀ v,V6 g false c->c=true->some true=some v->WO S (Gj js d (.bool v) O) (os.take (n+1)) O)
  (o:∀ v,k v=some r->Us js O fun e=>WO S K (os.drop (n+1)) ((d,.tv (.bool v))::e)) (ho:os=⟨dd,op,some (g,false)⟩::j):WO S K (⟨dd,op,some (g,false)⟩::j) O:=by
 obtain ⟨v,hv,h⟩:=bind_some h;rw [←ho];refine ZB (n:=n+1) (v:=.bool v) ?_ (o v h);rcases Bool.eq_false_or_eq_true c with i | i
 ·exact m v ⟨by rw [i]; rfl⟩ i (Vy i hv)
 ·exact l v ⟨i⟩ i (Vx i hv)
theorem km {e:Bool} {h:List PR} (ho:os=⟨dd,op,some (g,true)⟩::h) (_:GS g true [] os js n) (m:O.get g=.tv (.bool c)) (_:os[n]?=some ⟨some d,.pick x y z,gg⟩)
  (i:Z4 g true c->c=true->WO S (Gj js d (.bool e) O) (os.take (n+1)) O) (j:V6 g true c->c=false->WO S (Gj js d (.bool false) O) (os.take (n+1)) O)
  (l:Us js O fun z=>WO S K (os.drop (n+1)) ((d,.tv (.bool (c&&e)))::z)):WO S K (⟨dd,op,some (g,true)⟩::h) O:=by
 rw [←ho];refine ZB (n:=n+1) (v:=.bool (c&&e)) ?_ l;cases c
 ·exact j ⟨rfl⟩ rfl
 ·exact i ⟨rfl⟩ rfl
theorem kj {e:Bool} {h:List PR} (ho:os=⟨dd,op,some (g,false)⟩::h) (_:GS g false [] os js n) (m:O.get g=.tv (.bool c)) (_:os[n]?=some ⟨some d,.pick x y z,gg⟩)
  (i:Z4 g false c->c=false->WO S (Gj js d (.bool e) O) (os.take (n+1)) O) (j:V6 g false c->c=true->WO S (Gj js d (.bool true) O) (os.take (n+1)) O)
  (l:Us js O fun z=>WO S K (os.drop (n+1)) ((d,.tv (.bool (c||e)))::z)):WO S K (⟨dd,op,some (g,false)⟩::h) O:=by
 rw [←ho];refine ZB (n:=n+1) (v:=.bool (c||e)) ?_ l;cases c
 ·exact i ⟨rfl⟩ rfl
 ·exact j ⟨rfl⟩ rfl
end groups
theorem lL {x:AL} {q n i:Nat} {m:Option Nat} {es row:QQ} {e:α->TV} {l:List α} {j:Int} {a:α} {t:TV} (h:x.ev O=.lp q m (j.toNat*n+i)) (o:O.xat q m=some (n,es)) (p:es=l.map e) (s:∀ a,(e a).cells.length=n) (u:AM l j=some a) (hi:Nat.blt i n=true) (w:(e a).cells=row) (A:row[i]?=some t)
  (B:WO S K os ((d,.tv t)::O)):WO S K (⟨some d,.xld x,none⟩::os) O:=ef h o p s u rfl hi w A B
theorem iW {x:AL} {q n:Nat} {m:Option Nat} {es row:QQ} {e:α->TV} {l:List α} {j:Int} {a:α} {t:TV} (h:x.ev O=.lp q m (j.toNat*n)) (o:O.xat q m=some (n,es)) (p:es=l.map e) (s:∀ a,(e a).cells.length=n) (u:AM l j=some a) (hi:Nat.blt 0 n=true) (w:(e a).cells=row) (A:row[0]?=some t)
  (B:WO S K os ((d,.tv t)::O)):WO S K (⟨some d,.xld x,none⟩::os) O:=ef (i:=0) h o p s u rfl hi w A B
theorem iY {γ:Type} {s:Nat} {v:AL} {q n i:Nat} {m:Option Nat} {env':AD} {es:QQ} {e:α->TV} {g:γ->TV} {l:List α} {j:Int} {a:α} {b:γ} {f:α->γ->α} (_:HX s f) (h:(AL.s s).ev O=.lp q m (j.toNat*n+i)) (p:O.xat q m=some (n,es)) (hv:v.ev O=.tv (g b)) (t:es=l.map e) (u:∀ a,(e a).cells.length=n) (w:AM l j=some a) (hi:Nat.blt i n=true) (A:(g b).cells=[g b])
  (B:(e (f a b)).cells=(e a).cells.set i (g b)) (o:O.xput q m n ((BZ l j (f a b)).map e)=env') (C:WO S K os env'):WO S K (⟨none,.xst (.s s) v,none⟩::os) O:=eg h p hv t u w rfl hi A B rfl o C
theorem iX {x v:AL} {q n:Nat} {m:Option Nat} {env':AD} {es:QQ} {e:α->TV} {l:List α} {j:Int} {a b:α} (h:x.ev O=.lp q m (j.toNat*n)) (p:O.xat q m=some (n,es)) (hv:v.ev O=.tv (e b)) (s:es=l.map e) (t:∀ a,(e a).cells.length=n) (u:AM l j=some a) (hi:Nat.blt 0 n=true) (w:(e b).cells=[e b])
  (A:(e b).cells=(e a).cells.set 0 (e b)) (o:O.xput q m n ((BZ l j b).map e)=env') (B:WO S K os env'):WO S K (⟨none,.xst x v,none⟩::os) O:=eg (i:=0) h p hv s t u rfl hi w A rfl o B
end
end Go.Sf
