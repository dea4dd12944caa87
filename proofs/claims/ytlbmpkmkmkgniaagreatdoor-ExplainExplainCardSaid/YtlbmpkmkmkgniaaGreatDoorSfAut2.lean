/- The rules of single operations that take the typed text along. -/
import Derived.Test.YtlbmpkmkmkgniaaGreatDoorSfAuto
import Derived.Test.YtlbmpkmkmkgniaaGreatDoorSfLib
set_option linter.all false
namespace Go.Sf
section
variable {P:Program} {S:FuncId->QQ->CS->Prop} {K:AD->Prop} {os:List PR} {O:AD} {d:Nat} {α β:Type} {k:α->Option β} {r:β}
variable {e:α->TV} {l:List α} {j:Int}
theorem kf {n:Nat} {x i:AL} {es:QQ} {ik:IntKind} (h:(AM l j).bind k=some r) (o:x.val O=some (.list n es)) (hi:i.val O=some (.int ik j)) (p:es=l.map e)
  (u:∀ a,AM l j=some a->k a=some r->WO S K os ((d,.tv (.pt (e a).cells))::O)):WO S K (⟨some d,.iad x i n,none⟩::os) O:=by
 obtain ⟨a,m,h⟩:=bind_some h;exact qu o hi p m rfl (u a m h)
variable {γ:Type} {ka kb:IntKind}
theorem kz {β:Type} {k:List γ->Option β} {r:β} {n:Nat} {x:AL} {lo hi:Option AL} {es:QQ} {e:γ->TV} {l:List γ} {a b:Int} (h:(slc l a b).bind k=some r) (u:x.val O=some (.list n es)) (w:es=l.map e) (i:HP O 0 lo=some (.int ka a)) (o:HP O l.length hi=some (.int kb b))
  (A:∀ m,slc l a b=some m->k m=some r->WO S K os ((d,.tv (.list n (m.map e)))::O)):WO S K (⟨some d,.slc n x lo hi,none⟩::os) O:=by
 obtain ⟨m,p,h⟩:=bind_some h;exact rF u w i o p (A m p h)
theorem iO {k:ByteArray->Option β} {x:AL} {lo hi:Option AL} {s:ByteArray} {a b:Int} (h:(sslc s a b).bind k=some r) (u:x.val O=some (.str s)) (i:HP O 0 lo=some (.int ka a)) (o:HP O s.size hi=some (.int kb b))
  (w:∀ m,sslc s a b=some m->k m=some r->WO S K os ((d,.tv (.str m))::O)):WO S K (⟨some d,.sslc x lo hi,none⟩::os) O:=by
 obtain ⟨m,p,h⟩:=bind_some h;exact kA u i o p (w m p h)
theorem iM {k:Int->Option β} {x i:AL} {s:ByteArray} {ik:IntKind} (h:(sidx s j).bind k=some r) (o:x.val O=some (.str s)) (hi:i.val O=some (.int ik j))
  (p:∀ b,sidx s j=some b->k b=some r->WO S K os ((d,.tv (.int .u8 b))::O)):WO S K (⟨some d,.sidx x i,none⟩::os) O:=by
 obtain ⟨b,m,h⟩:=bind_some h;exact j7 o hi m (p b m h)
theorem kS {k:List γ->Option β} {n s:Nat} {y:AL} {es i:QQ} {e:γ->TV} {l m:List γ} (h:(B0 l m).bind k=some r) (p:O.get s=.ow (.list n es)) (u:y.val O=some (.list n i)) (w:es=l.map e) (A:i=m.map e)
  (B:∀ x,B0 l m=some x->k x=some r->WO S K os ((d,.ow (.list n (x.map e)))::(s,.tv (.list n es))::O)):WO S K (⟨some d,.app n (.s s) y,none⟩::os) O:=by
 obtain ⟨x,o,h⟩:=bind_some h;exact eT p u w A o rfl (B x o h)
theorem hO {k:List γ->Option β} {n s:Nat} {y:AL} {es i:QQ} {e:γ->TV} {l m:List γ} {f:List γ->TV} (h:(B0 l m).bind k=some r) (p:O.get s=.ow (.list n es)) (u:y.val O=some (.list n i)) (w:es=l.map e) (A:i=m.map e) (c:Fl e n f)
  (B:∀ x,B0 l m=some x->k x=some r->WO S K os ((d,.ow (f x))::(s,.tv (.list n es))::O)):WO S K (⟨some d,.app n (.s s) y,none⟩::os) O:=by
 obtain ⟨x,o,h⟩:=bind_some h;have:=B x o h;rw [c.eq] at this;exact eT p u w A o rfl this
theorem hU {k:List γ->Option β} {n s:Nat} {y:AL} {es i:QQ} {e:γ->TV} {l m:List γ} (h:(B0 l m).bind k=some r) (p:O.get s=.xo n es) (u:y.val O=some (.list n i)) (w:es=l.map e) (A:i=m.map e) (B:O.noRef d=true) (C:d≠s)
  (D:∀ x,B0 l m=some x->k x=some r->WO S K os ((d,.xo n (x.map e))::(s,.undef)::O)):WO S K (⟨some d,.appx n s y,none⟩::os) O:=by
 obtain ⟨x,o,h⟩:=bind_some h;exact jh p u w A o rfl B C (D x o h)
theorem iA {k:List γ->Option β} {n s:Nat} {i:TV} {x:AL} {es:QQ} {e:γ->TV} {z:γ} {l:List γ} {ik:IntKind} (h:(Sx l j z).bind k=some r) (u:O.get s=.xo n es) (w:x.val O=some (.int ik j)) (A:es=l.map e) (B:i=e z) (C:O.noRef d=true) (D:d≠s) (o:n=1) (E:i.cells=[i])
  (F:∀ m,Sx l j z=some m->k m=some r->WO S K os ((d,.xo n (m.map e))::(s,.undef)::O)):WO S K (⟨some d,.appz n s i x,none⟩::os) O:=by
 obtain ⟨m,p,h⟩:=bind_some h;exact ji u w A B p rfl C D o E (F m p h)
theorem kU {k:List γ->Option β} {n s:Nat} {hi:AL} {es:QQ} {e:γ->TV} {l:List γ} {ik:IntKind} (h:(slc l 0 j).bind k=some r) (o:O.get s=.xo n es) (p:hi.val O=some (.int ik j)) (u:es=l.map e) (w:O.noRef d=true) (A:d≠s)
  (B:∀ m,slc l 0 j=some m->k m=some r->WO S K os ((d,.xo n (m.map e))::(s,.undef)::O)):WO S K (⟨some d,.cut n s hi,none⟩::os) O:=by
 obtain ⟨m,i,h⟩:=bind_some h;exact qj o p u i rfl w A (B m i h)
variable {zero:QQ}
theorem ko {k:List γ->Option β} {n:Nat} {x:AL} {ik:IntKind} {e:γ->TV} {z:γ} (h:(Jn j z).bind k=some r) (o:O.noRef d=true) (p:x.val O=some (.int ik j)) (u:(match zero with | [t]=>t | ts=>.agg ts)=e z)
  (w:∀ m,Jn j z=some m->k m=some r->WO S K os ((d,.xo n (m.map e))::O)):WO S K (⟨some d,.mkx n zero x,none⟩::os) O:=by
 obtain ⟨m,i,h⟩:=bind_some h;exact q6 o p u i rfl (w m i h)
variable {qi:Option Nat}
theorem k9 {x i:AL} {q n:Nat} {es:QQ} {ik:IntKind} (h:(AM l j).bind k=some r) (o:x.xlist O=some ((q,qi),n,es)) (hi:i.val O=some (.int ik j)) (p:es=l.map e) (u:(x.ev O).ref=some q)
  (w:∀ a,AM l j=some a->k a=some r->WO S K os ((d,.lp q qi (j.toNat*n))::O)):WO S K (⟨some d,.xia x i n,none⟩::os) O:=by
 obtain ⟨a,m,h⟩:=bind_some h;exact rN o hi p m u (w a m h)
section ints
variable {k:Int->Option β} {x y:AL} {ik:IntKind} {a b:Int}
theorem kt (h:(quo a b).bind k=some r) (p:x.val O=some (.int ik a)) (u:y.val O=some (.int ik b)) (w:∀ q,quo a b=some q->k q=some r->WO S K os ((d,.tv (.int ik (ik.wrap q)))::O)):WO S K (⟨some d,.bin .i .quo x y,none⟩::os) O:=by
 obtain ⟨m,o,h⟩:=bind_some h;exact rC p u o (w m o h)
theorem kv (h:(eR a b).bind k=some r) (p:x.val O=some (.int ik a)) (u:y.val O=some (.int ik b)) (w:∀ q,eR a b=some q->k q=some r->WO S K os ((d,.tv (.int ik q))::O)):WO S K (⟨some d,.bin .i .rem x y,none⟩::os) O:=by
 obtain ⟨m,o,h⟩:=bind_some h;exact rE p u o (w m o h)
theorem kT {op:BinOp} {i:IntKind} (h:(Lu ik op a b).bind k=some r) (p:x.val O=some (.int ik a)) (u:y.val O=some (.int i b)) (A:ik=i∨op=.shl∨op=.shr) (B:∀ q,Lu ik op a b=some q->k q=some r->WO S K os ((d,.tv (.int ik q))::O)):WO S K (⟨some d,.bin .w op x y,none⟩::os) O:=by
 obtain ⟨m,o,h⟩:=bind_some h;exact qc p u A o (B m o h)
end ints
theorem iL {k:ByteArray->Option β} {x y:AL} {u v:ByteArray} (h:(NB u v).bind k=some r) (o:x.val O=some (.str u)) (p:y.val O=some (.str v)) (w:∀ q,NB u v=some q->k q=some r->WO S K os ((d,.tv (.str q))::O)):WO S K (⟨some d,.bin .s .add x y,none⟩::os) O:=by
 obtain ⟨m,i,h⟩:=bind_some h;exact j5 o p i (w m i h)
variable {e:α->TV} {l:List α}
theorem kh {k:Unit->Option β} {x:AL} {n:Nat} {es:QQ} (h:(Wg l).bind k=some r) (i:x.val O=some (.list n es)) (m:es=l.map e) (o:∀ u,k u=some r->WO S K os ((d,.tv (.bool false))::O)):WO S K (⟨some d,.isn x,none⟩::os) O:=by
 obtain ⟨u,w,h⟩:=bind_some h;refine eU i m fun b p=>?_;obtain rfl:=aN w p;exact o u h
theorem dx {x:AL} {n:Nat} {a:α} (h:BZ O (x.ev O)=some (e a).cells) (i:Nat.beq (e a).cells.length n=true) (m:TV.agg (e a).cells=e a) (o:WO S K os ((d,.tv (e a))::O)):WO S K (⟨some d,.lda x n,none⟩::os) O:=by
 have i:=Nat.eq_of_beq_eq_true i;exact Zc h (by rw [i]; exact Nat.ble_self_eq_true n) (by rw [List.take_of_length_le (by omega),m]) o
theorem ki {s n:Nat} {cs:List At} {a:α} (h:O.get s=.bx cs) (m:cs.map (·.t)=(e a).cells) (i:Nat.beq (e a).cells.length n=true) (o:TV.agg (e a).cells=e a) (p:WO S K os ((d,.tv (e a))::O)):WO S K (⟨some d,.ldb s n,none⟩::os) O:=by
 have i:=Nat.eq_of_beq_eq_true i;exact eV h (by rw [m,i]; exact Nat.ble_self_eq_true n) (by rw [m,List.take_of_length_le (by omega),o]) p
theorem iP {n s:Nat} {v:AL} {cs:List At} {t:TV} (i:O.get s=.bx cs) (hv:v.ev O=.tv t) (m:t.cells.length=n) (h:Nat.beq n cs.length=true) (o:WO S K os ((s,.bx (t.cells.map (⟨false,·⟩)))::O)):WO S K (⟨none,.stb n s v,none⟩::os) O:=by
 have h:=Nat.eq_of_beq_eq_true h;refine eX i hv m (by rw [Nat.zero_add,h]; exact Nat.ble_self_eq_true _) ?_ o;rw [List.take_zero,Nat.zero_add,h,List.drop_length,List.append_nil,List.nil_append]
theorem iI {x:AL} {n:Nat} {a:α} (h:BZ O (x.ev O)=some (((e a).cells.map fun t=>(⟨false,t⟩:At)).map (·.t))) (i:Nat.beq (e a).cells.length n=true) (m:TV.agg (e a).cells=e a) (o:WO S K os ((d,.tv (e a))::O)):WO S K (⟨some d,.lda x n,none⟩::os) O:=
 dx (by rw [h,List.map_map]; congr 1; exact List.map_id _) i m o
def Yv (n:Nat):QQ->Bool
 | []=>true
 | t::ts=>Nat.beq t.cells.length n&&Yv n ts
theorem Vy {n:Nat}:∀ {ts:QQ},Yv n ts=true->∀ t∈ts,t.cells.length=n
 | [],_,_,h=>by cases h
 | t::ts,h,u,i=>by
  simp only [Yv,zzZ] at h;rcases List.mem_cons.1 i with rfl | i
  ·exact Nat.eq_of_beq_eq_true h.1
  ·exact Vy h.2 u i
variable {parts:List AL}
theorem km {n:Nat} {ts:QQ} (h:vals O parts=some ts) (i:Yv n ts=true) (m:WO S K os ((d,.ow (.list n ts))::O)):WO S K (⟨some d,.lst n parts,none⟩::os) O:=by
 have:=m.out;refine ⟨?_⟩;simp only [wpOps,PR.wp,AJ.wp,h,BB];exact ⟨Vy i,this⟩
variable {zero:QQ}
theorem iB {parts:List (Nat × Nat × AL)} {ts:List (Nat × Nat × TV)} {cs:QQ} {a:α} (h:(some a).bind k=some r) (_:En α e) (i:It O parts=some ts) (m:IE zero ts=some cs) (o:TV.agg cs=e a) (p:∀ x,x=a->k x=some r->WO S K os ((d,.tv (e x))::O)):WO S K (⟨some d,.bld zero parts,none⟩::os) O:=by
 rw [Option.bind_some] at h;exact Zb i m o (p a rfl h)
theorem kj {x:AL} {n:Nat} {cs:QQ} {a:α} (h:(some a).bind k=some r) (_:En α e) (i:BZ O (x.ev O)=some cs) (m:Nat.ble n cs.length=true) (o:TV.agg (cs.take n)=e a) (p:∀ x,x=a->k x=some r->WO S K os ((d,.tv (e x))::O)):WO S K (⟨some d,.lda x n,none⟩::os) O:=by
 rw [Option.bind_some] at h;exact Zc i m o (p a rfl h)
inductive Lm {α:Type} (e:α->TV):QQ->List α->Prop
 | nil:Lm e [] []
 | cons {t:TV} {ts:QQ} {a:α} {l:List α}:t=e a->Lm e ts l->Lm e (t::ts) (a::l)
theorem Lm.eq {ts:QQ} (h:Lm e ts l):ts=l.map e:=by
 induction h with
 | nil=>rfl
 | cons h _ i=>rw [h,i]; rfl
theorem iJ {n:Nat} {ts:QQ} (h:vals O parts=some ts) (i:Lm e ts l) (m:∀ a,(e a).cells.length=n) (o:WO S K os ((d,.ow (.list n (l.map e)))::O)):WO S K (⟨some d,.lst n parts,none⟩::os) O:=eW h i.eq m o
theorem iK {n:Nat} {ts:QQ} {f:List α->TV} (h:vals O parts=some ts) (m:Lm e ts l) (o:∀ a,(e a).cells.length=n) (c:Fl e n f) (i:WO S K os ((d,.ow (f l))::O)):WO S K (⟨some d,.lst n parts,none⟩::os) O:=by
 rw [c.eq] at i;exact eW h m.eq o i
theorem g7 {n:ci} {x y:AL} {a:α} {cs:QQ} (m:x.val O=some (e a)) (o:y.val O=some (.agg cs)) [c:Zx e] [i:Decidable (a=c.un cs)] (p:TV.agg (e a).cells=e a) (u:(e (c.un cs)).cells=cs) (w:(e a).cells.map TV.kd=n) (A:WO S K os ((d,.tv (.bool (decide (a=c.un cs))))::O)):WO S K (⟨some d,.bin (.a n) .eql x y,none⟩::os) O:=by
 obtain ⟨B,h⟩:=c.dec a (c.un cs);have:i=B:=Subsingleton.elim _ _;subst this;rw [←p] at m;rw [u] at h;exact bH m o w h A
theorem g9 {n:ci} {x y:AL} {a:α} {cs:QQ} (m:x.val O=some (e a)) (o:y.val O=some (.agg cs)) [c:Zx e] [i:Decidable (a=c.un cs)] (p:TV.agg (e a).cells=e a) (u:(e (c.un cs)).cells=cs) (w:(e a).cells.map TV.kd=n) (A:WO S K os ((d,.tv (.bool (!decide (a=c.un cs))))::O)):WO S K (⟨some d,.bin (.a n) .neq x y,none⟩::os) O:=by
 obtain ⟨B,h⟩:=c.dec a (c.un cs);have:i=B:=Subsingleton.elim _ _;subst this;rw [←p] at m;rw [u] at h;exact bI m o w h A
theorem g6 {n:ci} {x y:AL} {a b:α} {i:Decidable (a=b)} (m:x.val O=some (e a)) (o:y.val O=some (e b)) (c:Zx e) (p:TV.agg (e a).cells=e a) (u:TV.agg (e b).cells=e b) (w:(e a).cells.map TV.kd=n) (A:WO S K os ((d,.tv (.bool (decide (a=b))))::O)):WO S K (⟨some d,.bin (.a n) .eql x y,none⟩::os) O:=by
 obtain ⟨B,h⟩:=c.dec a b;have:i=B:=Subsingleton.elim _ _;subst this;rw [←p] at m;rw [←u] at o;exact bH m o w h A
theorem g8 {n:ci} {x y:AL} {a b:α} {i:Decidable (a=b)} (m:x.val O=some (e a)) (o:y.val O=some (e b)) (c:Zx e) (p:TV.agg (e a).cells=e a) (u:TV.agg (e b).cells=e b) (w:(e a).cells.map TV.kd=n) (A:WO S K os ((d,.tv (.bool (!decide (a=b))))::O)):WO S K (⟨some d,.bin (.a n) .neq x y,none⟩::os) O:=by
 obtain ⟨B,h⟩:=c.dec a b;have:i=B:=Subsingleton.elim _ _;subst this;rw [←p] at m;rw [←u] at o;exact bI m o w h A
section calls
variable {x:Option α} {f:FuncId} {ts:QQ} {R:α->CS} {args:List AL}
variable {s:Nat}
theorem kX {cs:List At} {row:QQ} (i:O.get s=.bx cs) (f:Fz cs row) (k:WO S K os ((s,.tv (.pt row))::O)):WO S K (⟨none,.frz s,none⟩::os) O:=qq i f.h k
variable {t:α->TV}
theorem iC (h:x.bind k=some r) (c:Ct P x f ts R) (m:vals O args=some ts) (o:∀ a,R a=.sh (t a)) (p:∀ a,x=some a->k a=some r->WO (AU P) K os ((d,.tv (t a))::O)):WO (AU P) K (⟨some d,.call f args,none⟩::os) O:=by
 obtain ⟨a,i,h⟩:=bind_some h;have:=c.snd a i;rw [o] at this;exact bJ m this (p a i h)
theorem ew (h:x.bind k=some r) (c:Ct P x f ts R) (m:vals O args=some ts) (o:∀ a,R a=.own (t a)) (p:∀ a,x=some a->k a=some r->WO (AU P) K os ((d,.ow (t a))::O)):WO (AU P) K (⟨some d,.call f args,none⟩::os) O:=by
 obtain ⟨a,i,h⟩:=bind_some h;have:=c.snd a i;rw [o] at this;exact gU m this (p a i h)
theorem e8 (_:HS d) (h:x.bind k=some r) (c:Ct P x f ts R) (m:vals O args=some ts) (o:∀ a,R a=.own (t a)) (p:∀ a,x=some a->k a=some r->WO (AU P) K os ((d,.tv (t a))::O)):WO (AU P) K (⟨some d,.call f args,none⟩::os) O:=by
 obtain ⟨a,i,h⟩:=bind_some h;have:=c.snd a i;rw [o] at this;exact bJ m (jD this) (p a i h)
theorem fA {n:Nat} {t:α->QQ} (h:x.bind k=some r) (c:Ct P x f ts R) (m:vals O args=some ts) (o:∀ a,R a=.xown n (t a)) (p:∀ a,x=some a->k a=some r->WO (AU P) K os ((d,.ow (.list n (t a)))::O)):WO (AU P) K (⟨some d,.call f args,none⟩::os) O:=by
 obtain ⟨a,i,h⟩:=bind_some h;have:=c.snd a i;rw [o] at this;exact gX m this (p a i h)
theorem ey {t:α->QQ} (h:x.bind k=some r) (c:Ct P x f ts R) (m:vals O args=some ts) (o:∀ a,R a=.tp (t a)) (p:∀ a,x=some a->k a=some r->WO (AU P) K os ((d,.tp (t a))::O)):WO (AU P) K (⟨some d,.call f args,none⟩::os) O:=by
 obtain ⟨a,i,h⟩:=bind_some h;have:=c.snd a i;rw [o] at this;exact gV m this (p a i h)
theorem eo {t:α->List At} (h:x.bind k=some r) (c:Ct P x f ts R) (m:vals O args=some ts) (o:∀ a,R a=.oag (t a)) (p:∀ a,x=some a->k a=some r->WO (AU P) K os ((d,.tv (.agg ((t a).map (·.t))))::O)):WO (AU P) K (⟨some d,.call f args,none⟩::os) O:=by
 obtain ⟨a,i,h⟩:=bind_some h;have:=c.snd a i;rw [o] at this;exact gR m this rfl (p a i h)
theorem en {t:α->List At} (h:x.bind k=some r) (c:Ct P x f ts R) (m:vals O args=some ts) (o:∀ a,R a=.oag (t a)) (p:∀ a,x=some a->k a=some r->WO (AU P) K os ((d,.oag (t a))::O)):WO (AU P) K (⟨some d,.callg f args,none⟩::os) O:=by
 obtain ⟨a,i,h⟩:=bind_some h;have:=c.snd a i;rw [o] at this;exact gQ m this (p a i h)
theorem fB {n:Nat} {t:α->QQ} (h:x.bind k=some r) (c:Ct P x f ts R) (m:O.noRef d=true) (o:vals O args=some ts) (p:∀ a,R a=.xown n (t a)) (u:∀ a,x=some a->k a=some r->WO (AU P) K os ((d,.xo n (t a))::O)):WO (AU P) K (⟨some d,.callx f args,none⟩::os) O:=by
 obtain ⟨a,i,h⟩:=bind_some h;have:=c.snd a i;rw [p] at this;exact gY m o this (u a i h)
variable {γ:Type}
theorem bw {k:List γ->Option β} {x:Option (List γ)} {R:List γ->CS} {n:Nat} {e:γ->TV} (h:x.bind k=some r) (c:Ct P x f ts R) (m:O.noRef d=true) (o:vals O args=some ts) (p:∀ a,R a=.own (.list n (a.map e))) (u:∀ a,(e a).flat=true) (w:∀ a,x=some a->k a=some r->WO (AU P) K os ((d,.xo n (a.map e))::O)):WO (AU P) K (⟨some d,.callx f args,none⟩::os) O:=by
 obtain ⟨a,i,h⟩:=bind_some h;have:=c.snd a i;rw [p] at this;exact dE m o this rfl u (w a i h)
theorem et (h:x.bind k=some r) (c:Ct P x f ts R) (m:lvals O args=some ts) (o:∀ a,R a=.sh (t a)) (p:∀ a,(t a).flat=true) (u:∀ a,x=some a->k a=some r->WO (AU P) K os ((d,.tv (t a))::O)):WO (AU P) K (⟨some d,.calll f args,none⟩::os) O:=by
 obtain ⟨a,i,h⟩:=bind_some h;have:=c.snd a i;rw [o] at this;exact gS m this (p a) (u a i h)
theorem br {t:α->QQ} (h:x.bind k=some r) (c:Ct P x f ts R) (m:lvals O args=some ts) (o:∀ a,R a=.tp (t a)) (p:∀ a,TV.flats (t a)=true) (u:∀ a,x=some a->k a=some r->WO (AU P) K os ((d,.tp (t a))::O)):WO (AU P) K (⟨some d,.calll f args,none⟩::os) O:=by
 obtain ⟨a,i,h⟩:=bind_some h;have:=c.snd a i;rw [o] at this;exact dA m this (p a) (u a i h)
theorem bq {k:List γ->Option β} {x:Option (List γ)} {R:List γ->CS} {n:Nat} {e:γ->TV} (h:x.bind k=some r) (c:Ct P x f ts R) (m:lvals O args=some ts) (o:∀ a,R a=.own (.list n (a.map e))) (p:∀ a,(e a).flat=true) (u:∀ a,x=some a->k a=some r->WO (AU P) K os ((d,.ow (.list n (a.map e)))::O)):WO (AU P) K (⟨some d,.calll f args,none⟩::os) O:=by
 obtain ⟨a,i,h⟩:=bind_some h;have:=c.snd a i;rw [o] at this;exact c8 m this rfl rfl p (u a i h)
theorem ej {t:α->QQ} (h:x.bind k=some r) (c:Ct P x f ts R) (m:vals O args=some ts) (o:∀ a,R a=.ext (t a)) (p:∀ a,x=some a->k a=some r->WO (AU P) K os ((d,.tp (t a))::O)):WO (AU P) K (⟨some d,.callf f args,none⟩::os) O:=by
 obtain ⟨a,i,h⟩:=bind_some h;have:=c.snd a i;rw [o] at this;exact gP m this (p a i h)
theorem eh {i s:Nat} {cs:List At} {cs':α->List At} {us:α->QQ} {e:α->EV} (h:x.bind k=some r) (c:Ct P x f ts R) (o:(args[i]?).bind (·.place O)=some (s,0)) (p:O.get s=.bx cs) (u:O.noX s none=true) (w:d≠s) (A:OU O i args=some ts) (B:∀ a,R a=.bo cs (cs' a) i (us a)) (C:∀ a,EV.ofs (us a)=e a) (D:∀ a,x=some a->k a=some r->WO (AU P) K os ((d,e a)::(s,.bx (cs' a))::O)):WO (AU P) K (⟨some d,.callb f args i,none⟩::os) O:=by
 obtain ⟨a,m,h⟩:=bind_some h;have:=c.snd a m;rw [B] at this;exact gN o p u w A this (C a) (D a m h)
variable {q:Nat} {qi:Option Nat}
theorem eu {k:Ne->Option β} {f:FuncId} {x:AL} {es:QQ} {l:Ne} {y:Option Ne} {env':Ne->AD} (h:y.bind k=some r) (c:Ct P y f [.list 1 (l.map (TV.int .i64))] CS.turn) (m:x.xlist O=some ((q,qi),1,es)) (o:es=l.map (TV.int .i64)) (hv:∀ a,O.xput q qi 1 (a.map (TV.int .i64))=env' a) (p:∀ a,y=some a->k a=some r->WO (AU P) K os ((d,.tp [])::env' a)):WO (AU P) K (⟨some d,.callm f x,none⟩::os) O:=by
 obtain ⟨a,i,h⟩:=bind_some h;exact gT m o rfl (c.snd a i) rfl (hv a) (p a i h)
theorem ei {k:Ne->Option β} {f:FuncId} {x:AL} {es:QQ} {l:Ne} {y:Option Ne} (h:y.bind k=some r) (c:Ct P y f [.list 1 (l.map (TV.int .i64))] CS.cut) (o:x.xlist O=some ((q,none),1,es)) (p:es=l.map (TV.int .i64)) (i:q≠d) (u:O.noRef d=true) (w:∀ a,y=some a->k a=some r->WO (AU P) K os ((d,.xo 1 (a.map (TV.int .i64)))::(q,.undef)::O)):WO (AU P) K (⟨some d,.callc f x,none⟩::os) O:=by
 obtain ⟨a,m,h⟩:=bind_some h;exact gO o p rfl i u (c.snd a m) rfl (w a m h)
section values
variable {v:AL} {caps us:QQ}
variable {t:α->TV}
theorem e9 (h:x.bind k=some r) (c:Ct P x f ts R) (hv:v.val O=some (.clo f caps)) (m:vals O args=some us) (o:us++caps=ts) (p:∀ a,R a=.sh (t a)) (u:∀ a,x=some a->k a=some r->WO (AU P) K os ((d,.tv (t a))::O)):WO (AU P) K (⟨some d,.callv v args,none⟩::os) O:=by
 obtain ⟨a,i,h⟩:=bind_some h;have:=c.snd a i;rw [p,←o] at this;exact gW hv m this (u a i h)
theorem bu (h:x.bind k=some r) (c:Ct P x f ts R) (hv:v.val O=some (.clo f caps)) (m:vals O args=some us) (o:us++caps=ts) (p:∀ a,R a=.own (t a)) (u:∀ a,x=some a->k a=some r->WO (AU P) K os ((d,.ow (t a))::O)):WO (AU P) K (⟨some d,.callv v args,none⟩::os) O:=by
 obtain ⟨a,i,h⟩:=bind_some h;have:=c.snd a i;rw [p,←o] at this;exact dB hv m this (u a i h)
theorem bv {t:α->QQ} (h:x.bind k=some r) (c:Ct P x f ts R) (hv:v.val O=some (.clo f caps)) (m:vals O args=some us) (o:us++caps=ts) (p:∀ a,R a=.tp (t a)) (u:∀ a,x=some a->k a=some r->WO (AU P) K os ((d,.tp (t a))::O)):WO (AU P) K (⟨some d,.callv v args,none⟩::os) O:=by
 obtain ⟨a,i,h⟩:=bind_some h;have:=c.snd a i;rw [p,←o] at this;exact dC hv m this (u a i h)
end values
end calls
inductive GS (g:Nat) (b:Bool):ci->List PR->ci->Nat->Prop
 | done {acc:ci} {os:List PR}:GS g b acc os [] 0
 | step {acc js:ci} {d n:Nat} {op:AJ} {os:List PR}:GS g b (d::acc) os js n->GS g b acc (⟨some d,op,some (g,b)⟩::os) (d::js) (n+1)
 | nest {acc js:ci} {d n g':Nat} {b':Bool} {op:AJ} {os:List PR}:acc.contains g'=true->GS g b (d::acc) os js n->GS g b acc (⟨some d,op,some (g',b')⟩::os) (d::js) (n+1)
def g5:ci->AD->(AD->Prop)->Prop
 | [],z,K=>K z
 | k::ks,z,K=>∃ j,g5 ks ((k,j)::z) K
structure Gj (js:ci) (d:Nat) (v:TV) (z e:AD):Prop where
 of::out:g5 js z fun y=>e=(d,.tv v)::y
theorem aI {d:Nat} {v:TV} {z e:AD} (h:e=(d,.tv v)::z):Gj [] d v z e:=⟨h⟩
variable {ks:ci}
theorem fV {k d:Nat} {v:TV} {j:EV} {z e:AD} (h:Gj ks d v ((k,j)::z) e):Gj (k::ks) d v z e:=⟨j,h.out⟩
theorem iG {js:ci} {v:TV} {z:AD} (h:Gj js d v z O):WO S (Gj js d v z) [] O:=⟨h⟩
structure Uj (js:ci) (z:AD) (Q:AD->Prop):Prop where
 of::out:∀ (d:Nat) (v:TV) (e:AD),Gj js d v z e->∃ y,e=(d,.tv v)::y∧Q y
variable {Q:AD->Prop}
theorem fW {z:AD} (h:Q z):Uj [] z Q:=⟨fun _ _ _ i=>⟨z,i.out,h⟩⟩
theorem cN {k:Nat} {z:AD} (h:∀ j,Uj ks ((k,j)::z) Q):Uj (k::ks) z Q:=⟨fun d v e i=>by
 obtain ⟨j,m⟩:=i.out;exact (h j).out d v e ⟨m⟩⟩
theorem pf {dd:Option Nat} {op:AJ} {g:Nat} {b q:Bool} (h:O.get g=.tv (.bool q)) (i:Zz g b q) (m:WO S K (⟨dd,op,none⟩::os) O):WO S K (⟨dd,op,some (g,b)⟩::os) O:=tZ h i.out m
theorem il {op:AJ} {g:Nat} {b q:Bool} (h:O.get g=.tv (.bool q)) (i:Vu g b q) (m:WO S K os ((d,.sk)::O)):WO S K (⟨some d,op,some (g,b)⟩::os) O:=pZ h i.out m
theorem Y7 {d n:Nat} {js:ci} {v:TV} (h:WO S (Gj js d v O) (os.take n) O) (i:Uj js O fun e=>WO S K (os.drop n) ((d,.tv v)::e)):WO S K os O:=
 pY n (Gj js d v) h fun e m=>by
  obtain ⟨y,rfl,o⟩:=i.out d v e m;exact o
section groups
variable {g n:Nat} {js:ci} {c:Bool} {dd gd:Option Nat} {op:AJ} {x y z:AL} {gg:Option (Nat × Bool)}
variable {T:ca} {os':List PR}
theorem ke {k:Bool->Option β} (h:(if c=true then T else some false).bind k=some r) (_:GS g true [] os js n) (u:O.get g=.tv (.bool c)) (_:os[n]?=some ⟨some d,.pick x y z,gg⟩)
  (m:∀ v,Zz g true c->c=true->T=some v->WO S (Gj js d (.bool v) O) (os.take (n+1)) O) (o:∀ v,Vu g true c->c=false->some false=some v->WO S (Gj js d (.bool v) O) (os.take (n+1)) O)
  (p:∀ v,k v=some r->Uj js O fun e=>WO S K (os.drop (n+1)) ((d,.tv (.bool v))::e)) (ho:os=⟨dd,op,some (g,true)⟩::os'):WO S K (⟨dd,op,some (g,true)⟩::os') O:=by
 obtain ⟨v,hv,h⟩:=bind_some h;rw [←ho];refine Y7 (n:=n+1) (v:=.bool v) ?_ (p v h);rcases Bool.eq_false_or_eq_true c with i | i
 ·exact m v ⟨i⟩ i (Vm i hv)
 ·exact o v ⟨by rw [i]; rfl⟩ i (Vl i hv)
theorem kc {k:Bool->Option β} (h:(if c=true then some true else T).bind k=some r) (_:GS g false [] os js n) (u:O.get g=.tv (.bool c)) (_:os[n]?=some ⟨some d,.pick x y z,gg⟩)
  (m:∀ v,Zz g false c->c=false->T=some v->WO S (Gj js d (.bool v) O) (os.take (n+1)) O) (o:∀ v,Vu g false c->c=true->some true=some v->WO S (Gj js d (.bool v) O) (os.take (n+1)) O)
  (p:∀ v,k v=some r->Uj js O fun e=>WO S K (os.drop (n+1)) ((d,.tv (.bool v))::e)) (ho:os=⟨dd,op,some (g,false)⟩::os'):WO S K (⟨dd,op,some (g,false)⟩::os') O:=by
 obtain ⟨v,hv,h⟩:=bind_some h;rw [←ho];refine Y7 (n:=n+1) (v:=.bool v) ?_ (p v h);rcases Bool.eq_false_or_eq_true c with i | i
 ·exact o v ⟨by rw [i]; rfl⟩ i (Vm i hv)
 ·exact m v ⟨i⟩ i (Vl i hv)
theorem kZ {e:Bool} (ho:os=⟨dd,op,some (g,true)⟩::os') (_:GS g true [] os js n) (o:O.get g=.tv (.bool c)) (_:os[n]?=some ⟨some d,.pick x y z,gg⟩)
  (h:Zz g true c->c=true->WO S (Gj js d (.bool e) O) (os.take (n+1)) O) (i:Vu g true c->c=false->WO S (Gj js d (.bool false) O) (os.take (n+1)) O)
  (m:Uj js O fun z=>WO S K (os.drop (n+1)) ((d,.tv (.bool (c&&e)))::z)):WO S K (⟨dd,op,some (g,true)⟩::os') O:=by
 rw [←ho];refine Y7 (n:=n+1) (v:=.bool (c&&e)) ?_ m;cases c
 ·exact i ⟨rfl⟩ rfl
 ·exact h ⟨rfl⟩ rfl
theorem kY {e:Bool} (ho:os=⟨dd,op,some (g,false)⟩::os') (_:GS g false [] os js n) (o:O.get g=.tv (.bool c)) (_:os[n]?=some ⟨some d,.pick x y z,gg⟩)
  (h:Zz g false c->c=false->WO S (Gj js d (.bool e) O) (os.take (n+1)) O) (i:Vu g false c->c=true->WO S (Gj js d (.bool true) O) (os.take (n+1)) O)
  (m:Uj js O fun z=>WO S K (os.drop (n+1)) ((d,.tv (.bool (c||e)))::z)):WO S K (⟨dd,op,some (g,false)⟩::os') O:=by
 rw [←ho];refine Y7 (n:=n+1) (v:=.bool (c||e)) ?_ m;cases c
 ·exact h ⟨rfl⟩ rfl
 ·exact i ⟨rfl⟩ rfl
end groups
variable {qi:Option Nat} {e:α->TV} {l:List α} {j:Int}
theorem lC {x:AL} {q n i:Nat} {es row:QQ} {a:α} {t:TV} (h:x.ev O=.lp q qi (j.toNat*n+i)) (m:O.xat q qi=some (n,es)) (o:es=l.map e) (p:∀ a,(e a).cells.length=n) (u:AM l j=some a) (hi:Nat.blt i n=true) (w:(e a).cells=row) (A:row[i]?=some t)
  (B:WO S K os ((d,.tv t)::O)):WO S K (⟨some d,.xld x,none⟩::os) O:=eY h m o p u rfl hi w A B
theorem iQ {x:AL} {q n:Nat} {es row:QQ} {a:α} {t:TV} (h:x.ev O=.lp q qi (j.toNat*n)) (m:O.xat q qi=some (n,es)) (o:es=l.map e) (p:∀ a,(e a).cells.length=n) (u:AM l j=some a) (hi:Nat.blt 0 n=true) (w:(e a).cells=row) (A:row[0]?=some t)
  (B:WO S K os ((d,.tv t)::O)):WO S K (⟨some d,.xld x,none⟩::os) O:=eY (i:=0) h m o p u rfl hi w A B
variable {γ:Type} {s:Nat}
theorem iS {v:AL} {q n i:Nat} {env':AD} {es:QQ} {g:γ->TV} {a:α} {b:γ} {f:α->γ->α} (_:HX s f) (h:(AL.s s).ev O=.lp q qi (j.toNat*n+i)) (o:O.xat q qi=some (n,es)) (hv:v.ev O=.tv (g b)) (p:es=l.map e) (u:∀ a,(e a).cells.length=n) (w:AM l j=some a) (hi:Nat.blt i n=true) (A:(g b).cells=[g b])
  (B:(e (f a b)).cells=(e a).cells.set i (g b)) (m:O.xput q qi n ((B1 l j (f a b)).map e)=env') (C:WO S K os env'):WO S K (⟨none,.xst (.s s) v,none⟩::os) O:=eZ h o hv p u w rfl hi A B rfl m C
theorem iR {x v:AL} {q n:Nat} {env':AD} {es:QQ} {a b:α} (h:x.ev O=.lp q qi (j.toNat*n)) (o:O.xat q qi=some (n,es)) (hv:v.ev O=.tv (e b)) (p:es=l.map e) (u:∀ a,(e a).cells.length=n) (w:AM l j=some a) (hi:Nat.blt 0 n=true) (A:(e b).cells=[e b])
  (B:(e b).cells=(e a).cells.set 0 (e b)) (m:O.xput q qi n ((B1 l j b).map e)=env') (C:WO S K os env'):WO S K (⟨none,.xst x v,none⟩::os) O:=eZ (i:=0) h o hv p u w rfl hi A B rfl m C
end
end Go.Sf
