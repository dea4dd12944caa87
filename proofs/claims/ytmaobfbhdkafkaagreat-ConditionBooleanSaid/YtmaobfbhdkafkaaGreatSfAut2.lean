/- The rules of single operations that take the typed text along. -/
import Derived.Test.YtmaobfbhdkafkaaGreatSfAuto
import Derived.Test.YtmaobfbhdkafkaaGreatSfLib
namespace Go.Sf
section
variable {P:Program} {S:FuncId->List TV->B5->Prop} {K:AC->Prop} {os:List PR} {env:AC} {d:Nat} {α β:Type} {k:α->Option β} {r:β}
theorem gz {n:Nat} {x i:AE} {es:List TV} {e:α->TV} {l:List α} {ik:IntKind} {j:Int} (h:(AH l j).bind k=some r) (hl:x.val env=some (.list n es)) (hi:i.val env=some (.int ik j)) (he:es=l.map e)
  (K':∀ a,AH l j=some a->k a=some r->WO S K os ((d,.tv (.pt (e a).cells))::env)):WO S K (⟨some d,.iad x i n,none⟩::os) env:=by
 obtain ⟨a,ha,h⟩:=bind_some h
 exact m8 hl hi he ha rfl (K' a ha h)
theorem iC {β:Type} {γ:Type} {k:List γ->Option β} {r:β} {n:Nat} {x:AE} {lo hi:Option AE} {es:List TV} {e:γ->TV} {l:List γ} {ka kb:IntKind} {a b:Int} (h:(slc l a b).bind k=some r) (hx:x.val env=some (.list n es)) (he:es=l.map e) (hlo:F1 env 0 lo=some (.int ka a)) (hhi:F1 env l.length hi=some (.int kb b))
  (K':∀ m,slc l a b=some m->k m=some r->WO S K os ((d,.tv (.list n (m.map e)))::env)):WO S K (⟨some d,.slc n x lo hi,none⟩::os) env:=by
 obtain ⟨m,hm,h⟩:=bind_some h
 exact nP hx he hlo hhi hm (K' m hm h)
theorem eT {k:ByteArray->Option β} {x:AE} {lo hi:Option AE} {s:ByteArray} {ka kb:IntKind} {a b:Int} (h:(sslc s a b).bind k=some r) (hx:x.val env=some (.str s)) (hlo:F1 env 0 lo=some (.int ka a)) (hhi:F1 env s.size hi=some (.int kb b))
  (K':∀ m,sslc s a b=some m->k m=some r->WO S K os ((d,.tv (.str m))::env)):WO S K (⟨some d,.sslc x lo hi,none⟩::os) env:=by
 obtain ⟨m,hm,h⟩:=bind_some h
 exact gO hx hlo hhi hm (K' m hm h)
theorem eQ {k:Int->Option β} {x i:AE} {s:ByteArray} {ik:IntKind} {j:Int} (h:(sidx s j).bind k=some r) (hx:x.val env=some (.str s)) (hi:i.val env=some (.int ik j))
  (K':∀ b,sidx s j=some b->k b=some r->WO S K os ((d,.tv (.int .u8 b))::env)):WO S K (⟨some d,.sidx x i,none⟩::os) env:=by
 obtain ⟨b,hb,h⟩:=bind_some h
 exact gL hx hi hb (K' b hb h)
theorem gk {γ:Type} {k:List γ->Option β} {n s:Nat} {y:AE} {es fs:List TV} {e:γ->TV} {l m:List γ} (h:(A3 l m).bind k=some r) (hx:env.get s=.ow (.list n es)) (hy:y.val env=some (.list n fs)) (he:es=l.map e) (hf:fs=m.map e)
  (K':∀ x,A3 l m=some x->k x=some r->WO S K os ((d,.ow (.list n (x.map e)))::(s,.tv (.list n es))::env)):WO S K (⟨some d,.app n (.s s) y,none⟩::os) env:=by
 obtain ⟨x,hm,h⟩:=bind_some h
 exact bZ hx hy he hf hm rfl (K' x hm h)
theorem d8 {γ:Type} {k:List γ->Option β} {n s:Nat} {y:AE} {es fs:List TV} {e:γ->TV} {l m:List γ} {f:List γ->TV} (h:(A3 l m).bind k=some r) (hx:env.get s=.ow (.list n es)) (hy:y.val env=some (.list n fs)) (he:es=l.map e) (hf:fs=m.map e) (c:Fl e n f)
  (K':∀ x,A3 l m=some x->k x=some r->WO S K os ((d,.ow (f x))::(s,.tv (.list n es))::env)):WO S K (⟨some d,.app n (.s s) y,none⟩::os) env:=by
 obtain ⟨x,hm,h⟩:=bind_some h
 have:=K' x hm h
 rw [c.eq] at this
 exact bZ hx hy he hf hm rfl this
theorem d9 {γ:Type} {k:List γ->Option β} {n s:Nat} {y:AE} {es fs:List TV} {e:γ->TV} {l m:List γ} (h:(A3 l m).bind k=some r) (hx:env.get s=.xo n es) (hy:y.val env=some (.list n fs)) (he:es=l.map e) (hf:fs=m.map e) (hn:env.noRef d=true) (hd:d≠s)
  (K':∀ x,A3 l m=some x->k x=some r->WO S K os ((d,.xo n (x.map e))::(s,.undef)::env)):WO S K (⟨some d,.appx n s y,none⟩::os) env:=by
 obtain ⟨x,hm,h⟩:=bind_some h
 exact ft hx hy he hf hm rfl hn hd (K' x hm h)
theorem eA {γ:Type} {k:List γ->Option β} {n s:Nat} {zt:TV} {x:AE} {es:List TV} {e:γ->TV} {z:γ} {l:List γ} {ik:IntKind} {j:Int} (h:(RM l j z).bind k=some r) (hs:env.get s=.xo n es) (hj:x.val env=some (.int ik j)) (he:es=l.map e) (hz:zt=e z) (hn:env.noRef d=true) (hd:d≠s) (hn1:n=1) (hc:zt.cells=[zt])
  (K':∀ m,RM l j z=some m->k m=some r->WO S K os ((d,.xo n (m.map e))::(s,.undef)::env)):WO S K (⟨some d,.appz n s zt x,none⟩::os) env:=by
 obtain ⟨m,hm,h⟩:=bind_some h
 exact fv hs hj he hz hm rfl hn hd hn1 hc (K' m hm h)
theorem gm {γ:Type} {k:List γ->Option β} {n s:Nat} {hi:AE} {es:List TV} {e:γ->TV} {l:List γ} {ik:IntKind} {j:Int} (h:(slc l 0 j).bind k=some r) (hs:env.get s=.xo n es) (hj:hi.val env=some (.int ik j)) (he:es=l.map e) (hn:env.noRef d=true) (hd:d≠s)
  (K':∀ m,slc l 0 j=some m->k m=some r->WO S K os ((d,.xo n (m.map e))::(s,.undef)::env)):WO S K (⟨some d,.cut n s hi,none⟩::os) env:=by
 obtain ⟨m,hm,h⟩:=bind_some h
 exact mt hs hj he hm rfl hn hd (K' m hm h)
theorem g7 {γ:Type} {k:List γ->Option β} {n:Nat} {zero:List TV} {x:AE} {ik:IntKind} {j:Int} {e:γ->TV} {z:γ} (h:(J8 j z).bind k=some r) (hn:env.noRef d=true) (hx:x.val env=some (.int ik j)) (hz:(match zero with | [t]=>t | ts=>.agg ts)=e z)
  (K':∀ m,J8 j z=some m->k m=some r->WO S K os ((d,.xo n (m.map e))::env)):WO S K (⟨some d,.mkx n zero x,none⟩::os) env:=by
 obtain ⟨m,hm,h⟩:=bind_some h
 exact nG hn hx hz hm rfl (K' m hm h)
theorem iG {x i:AE} {q n:Nat} {qi:Option Nat} {es:List TV} {e:α->TV} {l:List α} {ik:IntKind} {j:Int} (h:(AH l j).bind k=some r) (hx:x.xlist env=some ((q,qi),n,es)) (hi:i.val env=some (.int ik j)) (he:es=l.map e) (hr:(x.ev env).ref=some q)
  (K':∀ a,AH l j=some a->k a=some r->WO S K os ((d,.lp q qi (j.toNat*n))::env)):WO S K (⟨some d,.xia x i n,none⟩::os) env:=by
 obtain ⟨a,ha,h⟩:=bind_some h
 exact nX hx hi he ha hr (K' a ha h)
section ints
variable {k:Int->Option β} {x y:AE} {ik:IntKind} {a b:Int}
theorem g8 (h:(quo a b).bind k=some r) (hx:x.val env=some (.int ik a)) (hy:y.val env=some (.int ik b)) (K':∀ q,quo a b=some q->k q=some r->WO S K os ((d,.tv (.int ik (ik.wrap q)))::env)):WO S K (⟨some d,.bin .i .quo x y,none⟩::os) env:=by
 obtain ⟨m,hm,h⟩:=bind_some h
 exact nM hx hy hm (K' m hm h)
theorem hO (h:(DJ a b).bind k=some r) (hx:x.val env=some (.int ik a)) (hy:y.val env=some (.int ik b)) (K':∀ q,DJ a b=some q->k q=some r->WO S K os ((d,.tv (.int ik q))::env)):WO S K (⟨some d,.bin .i .rem x y,none⟩::os) env:=by
 obtain ⟨m,hm,h⟩:=bind_some h
 exact nO hx hy hm (K' m hm h)
theorem gl {op:BinOp} {ik':IntKind} (h:(Kw ik op a b).bind k=some r) (hx:x.val env=some (.int ik a)) (hy:y.val env=some (.int ik' b)) (hk:ik=ik'∨op=.shl∨op=.shr) (K':∀ q,Kw ik op a b=some q->k q=some r->WO S K os ((d,.tv (.int ik q))::env)):WO S K (⟨some d,.bin .w op x y,none⟩::os) env:=by
 obtain ⟨m,hm,h⟩:=bind_some h
 exact mn hx hy hk hm (K' m hm h)
end ints
theorem eP {k:ByteArray->Option β} {x y:AE} {u v:ByteArray} (h:(Qq u v).bind k=some r) (hx:x.val env=some (.str u)) (hy:y.val env=some (.str v)) (K':∀ q,Qq u v=some q->k q=some r->WO S K os ((d,.tv (.str q))::env)):WO S K (⟨some d,.bin .s .add x y,none⟩::os) env:=by
 obtain ⟨m,hm,h⟩:=bind_some h
 exact gJ hx hy hm (K' m hm h)
theorem g0 {k:Unit->Option β} {x:AE} {n:Nat} {es:List TV} {e:α->TV} {l:List α} (h:(Ui l).bind k=some r) (hx:x.val env=some (.list n es)) (he:es=l.map e) (K':∀ u,k u=some r->WO S K os ((d,.tv (.bool false))::env)):WO S K (⟨some d,.isn x,none⟩::os) env:=by
 obtain ⟨u,hu,h⟩:=bind_some h
 refine ba hx he fun b hb=>?_
 obtain rfl:=YQ hu hb
 exact K' u h
theorem bI {x:AE} {n:Nat} {e:α->TV} {a:α} (h:BJ env (x.ev env)=some (e a).cells) (hn:Nat.beq (e a).cells.length n=true) (ht:TV.agg (e a).cells=e a) (K':WO S K os ((d,.tv (e a))::env)):WO S K (⟨some d,.lda x n,none⟩::os) env:=by
 have hn:=Nat.eq_of_beq_eq_true hn
 exact XQ h (by rw [hn]; exact Nat.ble_self_eq_true n) (by rw [List.take_of_length_le (by omega),ht]) K'
theorem eU {n s:Nat} {v:AE} {cs:List AT} {t:TV} (hs:env.get s=.bx cs) (hv:v.ev env=.tv t) (hl:t.cells.length=n) (hb:Nat.beq n cs.length=true) (kk:WO S K os ((s,.bx (t.cells.map (⟨false,·⟩)))::env)):WO S K (⟨none,.stb n s v,none⟩::os) env:=by
 have hb:=Nat.eq_of_beq_eq_true hb
 refine bd hs hv hl (by rw [Nat.zero_add,hb]; exact Nat.ble_self_eq_true _) ?_ kk
 rw [List.take_zero,Nat.zero_add,hb,List.drop_length,List.append_nil,List.nil_append]
theorem eK {x:AE} {n:Nat} {e:α->TV} {a:α} (h:BJ env (x.ev env)=some (((e a).cells.map fun t=>(⟨false,t⟩:AT)).map (·.t))) (hn:Nat.beq (e a).cells.length n=true) (ht:TV.agg (e a).cells=e a) (K':WO S K os ((d,.tv (e a))::env)):WO S K (⟨some d,.lda x n,none⟩::os) env:=
 bI (by rw [h,List.map_map]; congr 1; exact List.map_id _) hn ht K'
def Wt (n:Nat):List TV->Bool
 | []=>true
 | t::ts=>Nat.beq t.cells.length n&&Wt n ts
theorem T9 {n:Nat}:∀ {ts:List TV},Wt n ts=true->∀ t∈ts,t.cells.length=n
 | [],_,_,h=>by cases h
 | t::ts,h,u,hu=>by
  simp only [Wt,zzZ] at h
  rcases List.mem_cons.1 hu with rfl | hu
  ·exact Nat.eq_of_beq_eq_true h.1
  ·exact T9 h.2 u hu
theorem g6 {n:Nat} {parts:List AE} {ts:List TV} (h:vals env parts=some ts) (hn:Wt n ts=true) (K':WO S K os ((d,.ow (.list n ts))::env)):WO S K (⟨some d,.lst n parts,none⟩::os) env:=by
 have:=K'.out
 refine ⟨?_⟩
 simp only [wpOps,PR.wp,AD.wp,h,A0]
 exact ⟨T9 hn,this⟩
theorem eC {zero:List TV} {parts:List (Nat × Nat × AE)} {ts:List (Nat × Nat × TV)} {cs:List TV} {e:α->TV} {a:α} (h:(some a).bind k=some r) (_:En α e) (h1:Hz env parts=some ts) (h2:G5 zero ts=some cs) (he:TV.agg cs=e a) (K':∀ x,x=a->k x=some r->WO S K os ((d,.tv (e x))::env)):WO S K (⟨some d,.bld zero parts,none⟩::os) env:=by
 rw [Option.bind_some] at h
 exact XP h1 h2 he (K' a rfl h)
theorem g5 {x:AE} {n:Nat} {cs:List TV} {e:α->TV} {a:α} (h:(some a).bind k=some r) (_:En α e) (h1:BJ env (x.ev env)=some cs) (hn:Nat.ble n cs.length=true) (he:TV.agg (cs.take n)=e a) (K':∀ x,x=a->k x=some r->WO S K os ((d,.tv (e x))::env)):WO S K (⟨some d,.lda x n,none⟩::os) env:=by
 rw [Option.bind_some] at h
 exact XQ h1 hn he (K' a rfl h)
inductive Lm {α:Type} (e:α->TV):List TV->List α->Prop
 | nil:Lm e [] []
 | cons {t:TV} {ts:List TV} {a:α} {l:List α}:t=e a->Lm e ts l->Lm e (t::ts) (a::l)
theorem Lm.eq {e:α->TV} {ts:List TV} {l:List α} (h:Lm e ts l):ts=l.map e:=by
 induction h with
 | nil=>rfl
 | cons h _ ih=>rw [h,ih]; rfl
theorem eM {n:Nat} {parts:List AE} {ts:List TV} {e:α->TV} {l:List α} (h:vals env parts=some ts) (hl:Lm e ts l) (hn:∀ a,(e a).cells.length=n) (K':WO S K os ((d,.ow (.list n (l.map e)))::env)):WO S K (⟨some d,.lst n parts,none⟩::os) env:=bc h hl.eq hn K'
theorem eO {n:Nat} {parts:List AE} {ts:List TV} {e:α->TV} {l:List α} {f:List α->TV} (h:vals env parts=some ts) (hl:Lm e ts l) (hn:∀ a,(e a).cells.length=n) (c:Fl e n f) (K':WO S K os ((d,.ow (f l))::env)):WO S K (⟨some d,.lst n parts,none⟩::os) env:=by
 rw [c.eq] at K'
 exact bc h hl.eq hn K'
theorem dx {e:α->TV} {n:List Nat} {x y:AE} {a:α} {cs:List TV} (hx:x.val env=some (e a)) (hy:y.val env=some (.agg cs)) [c:Xn e] [i:Decidable (a=c.un cs)] (ha:TV.agg (e a).cells=e a) (hb:(e (c.un cs)).cells=cs) (hn:(e a).cells.map TV.kd=n) (K':WO S K os ((d,.tv (.bool (decide (a=c.un cs))))::env)):WO S K (⟨some d,.bin (.a n) .eql x y,none⟩::os) env:=by
 obtain ⟨i',h⟩:=c.dec a (c.un cs)
 have:i=i':=Subsingleton.elim _ _
 subst this
 rw [←ha] at hx
 rw [hb] at h
 exact Yt hx hy hn h K'
theorem dz {e:α->TV} {n:List Nat} {x y:AE} {a:α} {cs:List TV} (hx:x.val env=some (e a)) (hy:y.val env=some (.agg cs)) [c:Xn e] [i:Decidable (a=c.un cs)] (ha:TV.agg (e a).cells=e a) (hb:(e (c.un cs)).cells=cs) (hn:(e a).cells.map TV.kd=n) (K':WO S K os ((d,.tv (.bool (!decide (a=c.un cs))))::env)):WO S K (⟨some d,.bin (.a n) .neq x y,none⟩::os) env:=by
 obtain ⟨i',h⟩:=c.dec a (c.un cs)
 have:i=i':=Subsingleton.elim _ _
 subst this
 rw [←ha] at hx
 rw [hb] at h
 exact Yu hx hy hn h K'
theorem dw {e:α->TV} {n:List Nat} {x y:AE} {a b:α} {i:Decidable (a=b)} (hx:x.val env=some (e a)) (hy:y.val env=some (e b)) (c:Xn e) (ha:TV.agg (e a).cells=e a) (hb:TV.agg (e b).cells=e b) (hn:(e a).cells.map TV.kd=n) (K':WO S K os ((d,.tv (.bool (decide (a=b))))::env)):WO S K (⟨some d,.bin (.a n) .eql x y,none⟩::os) env:=by
 obtain ⟨i',h⟩:=c.dec a b
 have:i=i':=Subsingleton.elim _ _
 subst this
 rw [←ha] at hx
 rw [←hb] at hy
 exact Yt hx hy hn h K'
theorem dy {e:α->TV} {n:List Nat} {x y:AE} {a b:α} {i:Decidable (a=b)} (hx:x.val env=some (e a)) (hy:y.val env=some (e b)) (c:Xn e) (ha:TV.agg (e a).cells=e a) (hb:TV.agg (e b).cells=e b) (hn:(e a).cells.map TV.kd=n) (K':WO S K os ((d,.tv (.bool (!decide (a=b))))::env)):WO S K (⟨some d,.bin (.a n) .neq x y,none⟩::os) env:=by
 obtain ⟨i',h⟩:=c.dec a b
 have:i=i':=Subsingleton.elim _ _
 subst this
 rw [←ha] at hx
 rw [←hb] at hy
 exact Yu hx hy hn h K'
section calls
variable {x:Option α} {f:FuncId} {ts:List TV} {R:α->B5} {args:List AE}
theorem eD {t:α->TV} (h:x.bind k=some r) (c:Ct P x f ts R) (ha:vals env args=some ts) (hR:∀ a,R a=.sh (t a)) (K':∀ a,x=some a->k a=some r->WO (AS P) K os ((d,.tv (t a))::env)):WO (AS P) K (⟨some d,.call f args,none⟩::os) env:=by
 obtain ⟨a,hx,h⟩:=bind_some h
 have:=c.snd a hx
 rw [hR] at this
 exact Yv ha this (K' a hx h)
theorem bz {t:α->TV} (h:x.bind k=some r) (c:Ct P x f ts R) (ha:vals env args=some ts) (hR:∀ a,R a=.own (t a)) (K':∀ a,x=some a->k a=some r->WO (AS P) K os ((d,.ow (t a))::env)):WO (AS P) K (⟨some d,.call f args,none⟩::os) env:=by
 obtain ⟨a,hx,h⟩:=bind_some h
 have:=c.snd a hx
 rw [hR] at this
 exact dT ha this (K' a hx h)
theorem b7 {t:α->TV} (_:HS d) (h:x.bind k=some r) (c:Ct P x f ts R) (ha:vals env args=some ts) (hR:∀ a,R a=.own (t a)) (K':∀ a,x=some a->k a=some r->WO (AS P) K os ((d,.tv (t a))::env)):WO (AS P) K (⟨some d,.call f args,none⟩::os) env:=by
 obtain ⟨a,hx,h⟩:=bind_some h
 have:=c.snd a hx
 rw [hR] at this
 exact Yv ha (fP this) (K' a hx h)
theorem b9 {n:Nat} {t:α->List TV} (h:x.bind k=some r) (c:Ct P x f ts R) (ha:vals env args=some ts) (hR:∀ a,R a=.xown n (t a)) (K':∀ a,x=some a->k a=some r->WO (AS P) K os ((d,.ow (.list n (t a)))::env)):WO (AS P) K (⟨some d,.call f args,none⟩::os) env:=by
 obtain ⟨a,hx,h⟩:=bind_some h
 have:=c.snd a hx
 rw [hR] at this
 exact dW ha this (K' a hx h)
theorem b6 {t:α->List TV} (h:x.bind k=some r) (c:Ct P x f ts R) (ha:vals env args=some ts) (hR:∀ a,R a=.tp (t a)) (K':∀ a,x=some a->k a=some r->WO (AS P) K os ((d,.tp (t a))::env)):WO (AS P) K (⟨some d,.call f args,none⟩::os) env:=by
 obtain ⟨a,hx,h⟩:=bind_some h
 have:=c.snd a hx
 rw [hR] at this
 exact dU ha this (K' a hx h)
theorem bu {t:α->List AT} (h:x.bind k=some r) (c:Ct P x f ts R) (ha:vals env args=some ts) (hR:∀ a,R a=.oag (t a)) (K':∀ a,x=some a->k a=some r->WO (AS P) K os ((d,.tv (.agg ((t a).map (·.t))))::env)):WO (AS P) K (⟨some d,.call f args,none⟩::os) env:=by
 obtain ⟨a,hx,h⟩:=bind_some h
 have:=c.snd a hx
 rw [hR] at this
 exact dQ ha this rfl (K' a hx h)
theorem br {t:α->List AT} (h:x.bind k=some r) (c:Ct P x f ts R) (ha:vals env args=some ts) (hR:∀ a,R a=.oag (t a)) (K':∀ a,x=some a->k a=some r->WO (AS P) K os ((d,.oag (t a))::env)):WO (AS P) K (⟨some d,.callg f args,none⟩::os) env:=by
 obtain ⟨a,hx,h⟩:=bind_some h
 have:=c.snd a hx
 rw [hR] at this
 exact dP ha this (K' a hx h)
theorem cA {n:Nat} {t:α->List TV} (h:x.bind k=some r) (c:Ct P x f ts R) (hn:env.noRef d=true) (ha:vals env args=some ts) (hR:∀ a,R a=.xown n (t a)) (K':∀ a,x=some a->k a=some r->WO (AS P) K os ((d,.xo n (t a))::env)):WO (AS P) K (⟨some d,.callx f args,none⟩::os) env:=by
 obtain ⟨a,hx,h⟩:=bind_some h
 have:=c.snd a hx
 rw [hR] at this
 exact dX hn ha this (K' a hx h)
theorem ZU {γ:Type} {k:List γ->Option β} {x:Option (List γ)} {R:List γ->B5} {n:Nat} {e:γ->TV} (h:x.bind k=some r) (c:Ct P x f ts R) (hn:env.noRef d=true) (ha:vals env args=some ts) (hR:∀ a,R a=.own (.list n (a.map e))) (hf:∀ a,(e a).flat=true) (K':∀ a,x=some a->k a=some r->WO (AS P) K os ((d,.xo n (a.map e))::env)):WO (AS P) K (⟨some d,.callx f args,none⟩::os) env:=by
 obtain ⟨a,hx,h⟩:=bind_some h
 have:=c.snd a hx
 rw [hR] at this
 exact aI hn ha this rfl hf (K' a hx h)
theorem bv {t:α->TV} (h:x.bind k=some r) (c:Ct P x f ts R) (ha:lvals env args=some ts) (hR:∀ a,R a=.sh (t a)) (hl:∀ a,(t a).flat=true) (K':∀ a,x=some a->k a=some r->WO (AS P) K os ((d,.tv (t a))::env)):WO (AS P) K (⟨some d,.calll f args,none⟩::os) env:=by
 obtain ⟨a,hx,h⟩:=bind_some h
 have:=c.snd a hx
 rw [hR] at this
 exact dR ha this (hl a) (K' a hx h)
theorem ZR {t:α->List TV} (h:x.bind k=some r) (c:Ct P x f ts R) (ha:lvals env args=some ts) (hR:∀ a,R a=.tp (t a)) (hl:∀ a,TV.flats (t a)=true) (K':∀ a,x=some a->k a=some r->WO (AS P) K os ((d,.tp (t a))::env)):WO (AS P) K (⟨some d,.calll f args,none⟩::os) env:=by
 obtain ⟨a,hx,h⟩:=bind_some h
 have:=c.snd a hx
 rw [hR] at this
 exact aF ha this (hl a) (K' a hx h)
theorem ZQ {γ:Type} {k:List γ->Option β} {x:Option (List γ)} {R:List γ->B5} {n:Nat} {e:γ->TV} (h:x.bind k=some r) (c:Ct P x f ts R) (ha:lvals env args=some ts) (hR:∀ a,R a=.own (.list n (a.map e))) (hf:∀ a,(e a).flat=true) (K':∀ a,x=some a->k a=some r->WO (AS P) K os ((d,.ow (.list n (a.map e)))::env)):WO (AS P) K (⟨some d,.calll f args,none⟩::os) env:=by
 obtain ⟨a,hx,h⟩:=bind_some h
 have:=c.snd a hx
 rw [hR] at this
 exact aE ha this rfl rfl hf (K' a hx h)
theorem bq {t:α->List TV} (h:x.bind k=some r) (c:Ct P x f ts R) (ha:vals env args=some ts) (hR:∀ a,R a=.ext (t a)) (K':∀ a,x=some a->k a=some r->WO (AS P) K os ((d,.tp (t a))::env)):WO (AS P) K (⟨some d,.callf f args,none⟩::os) env:=by
 obtain ⟨a,hx,h⟩:=bind_some h
 have:=c.snd a hx
 rw [hR] at this
 exact dO ha this (K' a hx h)
theorem bm {i s:Nat} {cs:List AT} {cs':α->List AT} {us:α->List TV} {e:α->EV} (h:x.bind k=some r) (c:Ct P x f ts R) (hp:(args[i]?).bind (·.place env)=some (s,0)) (hs:env.get s=.bx cs) (hn:env.noX s none=true) (hd:d≠s) (ha:NM env i args=some ts) (hR:∀ a,R a=.bo cs (cs' a) i (us a)) (he:∀ a,EV.ofs (us a)=e a) (K':∀ a,x=some a->k a=some r->WO (AS P) K os ((d,e a)::(s,.bx (cs' a))::env)):WO (AS P) K (⟨some d,.callb f args i,none⟩::os) env:=by
 obtain ⟨a,hx,h⟩:=bind_some h
 have:=c.snd a hx
 rw [hR] at this
 exact dM hp hs hn hd ha this (he a) (K' a hx h)
theorem bw {k:List Int->Option β} {f:FuncId} {x:AE} {q:Nat} {qi:Option Nat} {es:List TV} {l:List Int} {y:Option (List Int)} {env':List Int->AC} (h:y.bind k=some r) (c:Ct P y f [.list 1 (l.map (TV.int .i64))] B5.turn) (hx:x.xlist env=some ((q,qi),1,es)) (he:es=l.map (TV.int .i64)) (hv:∀ a,env.xput q qi 1 (a.map (TV.int .i64))=env' a) (K':∀ a,y=some a->k a=some r->WO (AS P) K os ((d,.tp [])::env' a)):WO (AS P) K (⟨some d,.callm f x,none⟩::os) env:=by
 obtain ⟨a,hy,h⟩:=bind_some h
 exact dS hx he rfl (c.snd a hy) rfl (hv a) (K' a hy h)
theorem bn {k:List Int->Option β} {f:FuncId} {x:AE} {q:Nat} {es:List TV} {l:List Int} {y:Option (List Int)} (h:y.bind k=some r) (c:Ct P y f [.list 1 (l.map (TV.int .i64))] B5.cut) (hx:x.xlist env=some ((q,none),1,es)) (he:es=l.map (TV.int .i64)) (hqd:q≠d) (hn:env.noRef d=true) (K':∀ a,y=some a->k a=some r->WO (AS P) K os ((d,.xo 1 (a.map (TV.int .i64)))::(q,.undef)::env)):WO (AS P) K (⟨some d,.callc f x,none⟩::os) env:=by
 obtain ⟨a,hy,h⟩:=bind_some h
 exact dN hx he rfl hqd hn (c.snd a hy) rfl (K' a hy h)
section values
variable {v:AE} {caps us:List TV}
theorem b8 {t:α->TV} (h:x.bind k=some r) (c:Ct P x f ts R) (hv:v.val env=some (.clo f caps)) (ha:vals env args=some us) (hu:us++caps=ts) (hR:∀ a,R a=.sh (t a)) (K':∀ a,x=some a->k a=some r->WO (AS P) K os ((d,.tv (t a))::env)):WO (AS P) K (⟨some d,.callv v args,none⟩::os) env:=by
 obtain ⟨a,hx,h⟩:=bind_some h
 have:=c.snd a hx
 rw [hR,←hu] at this
 exact dV hv ha this (K' a hx h)
theorem ZS {t:α->TV} (h:x.bind k=some r) (c:Ct P x f ts R) (hv:v.val env=some (.clo f caps)) (ha:vals env args=some us) (hu:us++caps=ts) (hR:∀ a,R a=.own (t a)) (K':∀ a,x=some a->k a=some r->WO (AS P) K os ((d,.ow (t a))::env)):WO (AS P) K (⟨some d,.callv v args,none⟩::os) env:=by
 obtain ⟨a,hx,h⟩:=bind_some h
 have:=c.snd a hx
 rw [hR,←hu] at this
 exact aG hv ha this (K' a hx h)
theorem ZT {t:α->List TV} (h:x.bind k=some r) (c:Ct P x f ts R) (hv:v.val env=some (.clo f caps)) (ha:vals env args=some us) (hu:us++caps=ts) (hR:∀ a,R a=.tp (t a)) (K':∀ a,x=some a->k a=some r->WO (AS P) K os ((d,.tp (t a))::env)):WO (AS P) K (⟨some d,.callv v args,none⟩::os) env:=by
 obtain ⟨a,hx,h⟩:=bind_some h
 have:=c.snd a hx
 rw [hR,←hu] at this
 exact aH hv ha this (K' a hx h)
end values
end calls
inductive GS (g:Nat) (b:Bool):List Nat->List PR->List Nat->Nat->Prop
 | done {acc:List Nat} {os:List PR}:GS g b acc os [] 0
 | step {acc js:List Nat} {d n:Nat} {op:AD} {os:List PR}:GS g b (d::acc) os js n->GS g b acc (⟨some d,op,some (g,b)⟩::os) (d::js) (n+1)
 | nest {acc js:List Nat} {d n g':Nat} {b':Bool} {op:AD} {os:List PR}:acc.contains g'=true->GS g b (d::acc) os js n->GS g b acc (⟨some d,op,some (g',b')⟩::os) (d::js) (n+1)
def du:List Nat->AC->(AC->Prop)->Prop
 | [],z,K=>K z
 | k::ks,z,K=>∃ j,du ks ((k,j)::z) K
structure Gj (js:List Nat) (d:Nat) (v:TV) (z e:AC):Prop where
 of::out:du js z fun y=>e=(d,.tv v)::y
theorem YM {d:Nat} {v:TV} {z e:AC} (h:e=(d,.tv v)::z):Gj [] d v z e:=⟨h⟩
theorem cd {k d:Nat} {ks:List Nat} {v:TV} {j:EV} {z e:AC} (h:Gj ks d v ((k,j)::z) e):Gj (k::ks) d v z e:=⟨j,h.out⟩
theorem eH {js:List Nat} {v:TV} {z:AC} (h:Gj js d v z env):WO S (Gj js d v z) [] env:=⟨h⟩
structure Sx (js:List Nat) (z:AC) (Q:AC->Prop):Prop where
 of::out:∀ (d:Nat) (v:TV) (e:AC),Gj js d v z e->∃ y,e=(d,.tv v)::y∧Q y
theorem ce {z:AC} {Q:AC->Prop} (h:Q z):Sx [] z Q:=⟨fun _ _ _ he=>⟨z,he.out,h⟩⟩
theorem Zg {k:Nat} {ks:List Nat} {z:AC} {Q:AC->Prop} (h:∀ j,Sx ks ((k,j)::z) Q):Sx (k::ks) z Q:=⟨fun d v e he=>by
 obtain ⟨j,hj⟩:=he.out
 exact (h j).out d v e ⟨hj⟩⟩
theorem l6 {dd:Option Nat} {op:AD} {g:Nat} {b q:Bool} (hg:env.get g=.tv (.bool q)) (hq:Xt g b q) (kk:WO S K (⟨dd,op,none⟩::os) env):WO S K (⟨dd,op,some (g,b)⟩::os) env:=po hg hq.out kk
theorem fA {op:AD} {g:Nat} {b q:Bool} (hg:env.get g=.tv (.bool q)) (hq:T5 g b q) (kk:WO S K os ((d,.sk)::env)):WO S K (⟨some d,op,some (g,b)⟩::os) env:=l5 hg hq.out kk
theorem Wz {d n:Nat} {js:List Nat} {v:TV} (h1:WO S (Gj js d v env) (os.take n) env) (h3:Sx js env fun e=>WO S K (os.drop n) ((d,.tv v)::e)):WO S K os env:=
 l4 n (Gj js d v) h1 fun e he=>by
  obtain ⟨y,rfl,hy⟩:=h3.out d v e he
  exact hy
section groups
variable {g n:Nat} {js:List Nat} {c:Bool} {dd gd:Option Nat} {op:AD} {x y z:AE} {gg:Option (Nat × Bool)}
theorem gx {k:Bool->Option β} {T:Option Bool} {os':List PR} (h:(if c=true then T else some false).bind k=some r) (_:GS g true [] os js n) (hc:env.get g=.tv (.bool c)) (_:os[n]?=some ⟨some d,.pick x y z,gg⟩)
  (h1:∀ v,Xt g true c->c=true->T=some v->WO S (Gj js d (.bool v) env) (os.take (n+1)) env) (h2:∀ v,T5 g true c->c=false->some false=some v->WO S (Gj js d (.bool v) env) (os.take (n+1)) env)
  (h3:∀ v,k v=some r->Sx js env fun e=>WO S K (os.drop (n+1)) ((d,.tv (.bool v))::e)) (ho:os=⟨dd,op,some (g,true)⟩::os'):WO S K (⟨dd,op,some (g,true)⟩::os') env:=by
 obtain ⟨v,hv,h⟩:=bind_some h
 rw [←ho]
 refine Wz (n:=n+1) (v:=.bool v) ?_ (h3 v h)
 rcases Bool.eq_false_or_eq_true c with hq | hq
 ·exact h1 v ⟨hq⟩ hq (Tt hq hv)
 ·exact h2 v ⟨by rw [hq]; rfl⟩ hq (Ts hq hv)
theorem gw {k:Bool->Option β} {T:Option Bool} {os':List PR} (h:(if c=true then some true else T).bind k=some r) (_:GS g false [] os js n) (hc:env.get g=.tv (.bool c)) (_:os[n]?=some ⟨some d,.pick x y z,gg⟩)
  (h1:∀ v,Xt g false c->c=false->T=some v->WO S (Gj js d (.bool v) env) (os.take (n+1)) env) (h2:∀ v,T5 g false c->c=true->some true=some v->WO S (Gj js d (.bool v) env) (os.take (n+1)) env)
  (h3:∀ v,k v=some r->Sx js env fun e=>WO S K (os.drop (n+1)) ((d,.tv (.bool v))::e)) (ho:os=⟨dd,op,some (g,false)⟩::os'):WO S K (⟨dd,op,some (g,false)⟩::os') env:=by
 obtain ⟨v,hv,h⟩:=bind_some h
 rw [←ho]
 refine Wz (n:=n+1) (v:=.bool v) ?_ (h3 v h)
 rcases Bool.eq_false_or_eq_true c with hq | hq
 ·exact h2 v ⟨by rw [hq]; rfl⟩ hq (Tt hq hv)
 ·exact h1 v ⟨hq⟩ hq (Ts hq hv)
theorem gv {e:Bool} {os':List PR} (ho:os=⟨dd,op,some (g,true)⟩::os') (_:GS g true [] os js n) (hc:env.get g=.tv (.bool c)) (_:os[n]?=some ⟨some d,.pick x y z,gg⟩)
  (h1:Xt g true c->c=true->WO S (Gj js d (.bool e) env) (os.take (n+1)) env) (h2:T5 g true c->c=false->WO S (Gj js d (.bool false) env) (os.take (n+1)) env)
  (h3:Sx js env fun z=>WO S K (os.drop (n+1)) ((d,.tv (.bool (c&&e)))::z)):WO S K (⟨dd,op,some (g,true)⟩::os') env:=by
 rw [←ho]
 refine Wz (n:=n+1) (v:=.bool (c&&e)) ?_ h3
 cases c
 ·exact h2 ⟨rfl⟩ rfl
 ·exact h1 ⟨rfl⟩ rfl
theorem gu {e:Bool} {os':List PR} (ho:os=⟨dd,op,some (g,false)⟩::os') (_:GS g false [] os js n) (hc:env.get g=.tv (.bool c)) (_:os[n]?=some ⟨some d,.pick x y z,gg⟩)
  (h1:Xt g false c->c=false->WO S (Gj js d (.bool e) env) (os.take (n+1)) env) (h2:T5 g false c->c=true->WO S (Gj js d (.bool true) env) (os.take (n+1)) env)
  (h3:Sx js env fun z=>WO S K (os.drop (n+1)) ((d,.tv (.bool (c||e)))::z)):WO S K (⟨dd,op,some (g,false)⟩::os') env:=by
 rw [←ho]
 refine Wz (n:=n+1) (v:=.bool (c||e)) ?_ h3
 cases c
 ·exact h1 ⟨rfl⟩ rfl
 ·exact h2 ⟨rfl⟩ rfl
end groups
theorem iH {x:AE} {q n i:Nat} {qi:Option Nat} {es row:List TV} {e:α->TV} {l:List α} {j:Int} {a:α} {t:TV} (h:x.ev env=.lp q qi (j.toNat*n+i)) (hq:env.xat q qi=some (n,es)) (he:es=l.map e) (hl:∀ a,(e a).cells.length=n) (ha:AH l j=some a) (hi:Nat.blt i n=true) (hr:(e a).cells=row) (ht:row[i]?=some t)
  (kk:WO S K os ((d,.tv t)::env)):WO S K (⟨some d,.xld x,none⟩::os) env:=be h hq he hl ha rfl hi hr ht kk
theorem eV {x:AE} {q n:Nat} {qi:Option Nat} {es row:List TV} {e:α->TV} {l:List α} {j:Int} {a:α} {t:TV} (h:x.ev env=.lp q qi (j.toNat*n)) (hq:env.xat q qi=some (n,es)) (he:es=l.map e) (hl:∀ a,(e a).cells.length=n) (ha:AH l j=some a) (hi:Nat.blt 0 n=true) (hr:(e a).cells=row) (ht:row[0]?=some t)
  (kk:WO S K os ((d,.tv t)::env)):WO S K (⟨some d,.xld x,none⟩::os) env:=be (i:=0) h hq he hl ha rfl hi hr ht kk
theorem eX {γ:Type} {s:Nat} {v:AE} {q n i:Nat} {qi:Option Nat} {env':AC} {es:List TV} {e:α->TV} {g:γ->TV} {l:List α} {j:Int} {a:α} {b:γ} {f:α->γ->α} (_:HX s f) (h:(AE.s s).ev env=.lp q qi (j.toNat*n+i)) (hq:env.xat q qi=some (n,es)) (hv:v.ev env=.tv (g b)) (he:es=l.map e) (hl:∀ a,(e a).cells.length=n) (ha:AH l j=some a) (hi:Nat.blt i n=true) (ht:(g b).cells=[g b])
  (hb:(e (f a b)).cells=(e a).cells.set i (g b)) (hv':env.xput q qi n ((CP l j (f a b)).map e)=env') (kk:WO S K os env'):WO S K (⟨none,.xst (.s s) v,none⟩::os) env:=bf h hq hv he hl ha rfl hi ht hb rfl hv' kk
theorem eW {x v:AE} {q n:Nat} {qi:Option Nat} {env':AC} {es:List TV} {e:α->TV} {l:List α} {j:Int} {a b:α} (h:x.ev env=.lp q qi (j.toNat*n)) (hq:env.xat q qi=some (n,es)) (hv:v.ev env=.tv (e b)) (he:es=l.map e) (hl:∀ a,(e a).cells.length=n) (ha:AH l j=some a) (hi:Nat.blt 0 n=true) (ht:(e b).cells=[e b])
  (hb:(e b).cells=(e a).cells.set 0 (e b)) (hv':env.xput q qi n ((CP l j b).map e)=env') (kk:WO S K os env'):WO S K (⟨none,.xst x v,none⟩::os) env:=bf (i:=0) h hq hv he hl ha rfl hi ht hb rfl hv' kk
end
end Go.Sf
