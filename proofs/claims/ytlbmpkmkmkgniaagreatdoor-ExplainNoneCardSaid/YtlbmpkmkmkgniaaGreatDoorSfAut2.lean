/- The rules of single operations that take the typed text along. -/
import Derived.Test.YtlbmpkmkmkgniaaGreatDoorSfAuto
import Derived.Test.YtlbmpkmkmkgniaaGreatDoorSfLib
namespace Go.Sf
section
variable {P:Program} {S:FuncId->List TV->CH->Prop} {K:AC->Prop} {os:List PR} {env:AC} {d:Nat} {α β:Type} {k:α->Option β} {r:β}
theorem gI {n:Nat} {x i:AJ} {es:List TV} {e:α->TV} {l:List α} {ik:IntKind} {j:Int} (h:(AL l j).bind k=some r) (hl:x.val env=some (.list n es)) (hi:i.val env=some (.int ik j)) (he:es=l.map e)
  (K':∀ a,AL l j=some a->k a=some r->WO S K os ((d,.tv (.pt (e a).cells))::env)):WO S K (⟨some d,.iad x i n,none⟩::os) env:=by
 obtain ⟨a,ha,h⟩:=bind_some h
 exact mf hl hi he ha rfl (K' a ha h)
theorem gU {β:Type} {γ:Type} {k:List γ->Option β} {r:β} {n:Nat} {x:AJ} {lo hi:Option AJ} {es:List TV} {e:γ->TV} {l:List γ} {ka kb:IntKind} {a b:Int} (h:(slc l a b).bind k=some r) (hx:x.val env=some (.list n es)) (he:es=l.map e) (hlo:GH env 0 lo=some (.int ka a)) (hhi:GH env l.length hi=some (.int kb b))
  (K':∀ m,slc l a b=some m->k m=some r->WO S K os ((d,.tv (.list n (m.map e)))::env)):WO S K (⟨some d,.slc n x lo hi,none⟩::os) env:=by
 obtain ⟨m,hm,h⟩:=bind_some h
 exact m8 hx he hlo hhi hm (K' m hm h)
theorem dj {k:ByteArray->Option β} {x:AJ} {lo hi:Option AJ} {s:ByteArray} {ka kb:IntKind} {a b:Int} (h:(sslc s a b).bind k=some r) (hx:x.val env=some (.str s)) (hlo:GH env 0 lo=some (.int ka a)) (hhi:GH env s.size hi=some (.int kb b))
  (K':∀ m,sslc s a b=some m->k m=some r->WO S K os ((d,.tv (.str m))::env)):WO S K (⟨some d,.sslc x lo hi,none⟩::os) env:=by
 obtain ⟨m,hm,h⟩:=bind_some h
 exact fb hx hlo hhi hm (K' m hm h)
theorem dh {k:Int->Option β} {x i:AJ} {s:ByteArray} {ik:IntKind} {j:Int} (h:(sidx s j).bind k=some r) (hx:x.val env=some (.str s)) (hi:i.val env=some (.int ik j))
  (K':∀ b,sidx s j=some b->k b=some r->WO S K os ((d,.tv (.int .u8 b))::env)):WO S K (⟨some d,.sidx x i,none⟩::os) env:=by
 obtain ⟨b,hb,h⟩:=bind_some h
 exact fY hx hi hb (K' b hb h)
theorem fz {γ:Type} {k:List γ->Option β} {n s:Nat} {y:AJ} {es fs:List TV} {e:γ->TV} {l m:List γ} (h:(CX l m).bind k=some r) (hx:env.get s=.ow (.list n es)) (hy:y.val env=some (.list n fs)) (he:es=l.map e) (hf:fs=m.map e)
  (K':∀ x,CX l m=some x->k x=some r->WO S K os ((d,.ow (.list n (x.map e)))::(s,.tv (.list n es))::env)):WO S K (⟨some d,.app n (.s s) y,none⟩::os) env:=by
 obtain ⟨x,hm,h⟩:=bind_some h
 exact ax hx hy he hf hm rfl (K' x hm h)
theorem dS {γ:Type} {k:List γ->Option β} {n s:Nat} {y:AJ} {es fs:List TV} {e:γ->TV} {l m:List γ} {f:List γ->TV} (h:(CX l m).bind k=some r) (hx:env.get s=.ow (.list n es)) (hy:y.val env=some (.list n fs)) (he:es=l.map e) (hf:fs=m.map e) (c:Fl e n f)
  (K':∀ x,CX l m=some x->k x=some r->WO S K os ((d,.ow (f x))::(s,.tv (.list n es))::env)):WO S K (⟨some d,.app n (.s s) y,none⟩::os) env:=by
 obtain ⟨x,hm,h⟩:=bind_some h
 have:=K' x hm h
 rw [c.eq] at this
 exact ax hx hy he hf hm rfl this
theorem dT {γ:Type} {k:List γ->Option β} {n s:Nat} {y:AJ} {es fs:List TV} {e:γ->TV} {l m:List γ} (h:(CX l m).bind k=some r) (hx:env.get s=.xo n es) (hy:y.val env=some (.list n fs)) (he:es=l.map e) (hf:fs=m.map e) (hn:env.noRef d=true) (hd:d≠s)
  (K':∀ x,CX l m=some x->k x=some r->WO S K os ((d,.xo n (x.map e))::(s,.undef)::env)):WO S K (⟨some d,.appx n s y,none⟩::os) env:=by
 obtain ⟨x,hm,h⟩:=bind_some h
 exact fG hx hy he hf hm rfl hn hd (K' x hm h)
theorem dU {γ:Type} {k:List γ->Option β} {n s:Nat} {zt:TV} {x:AJ} {es:List TV} {e:γ->TV} {z:γ} {l:List γ} {ik:IntKind} {j:Int} (h:(QM l j z).bind k=some r) (hs:env.get s=.xo n es) (hj:x.val env=some (.int ik j)) (he:es=l.map e) (hz:zt=e z) (hn:env.noRef d=true) (hd:d≠s) (hn1:n=1) (hc:zt.cells=[zt])
  (K':∀ m,QM l j z=some m->k m=some r->WO S K os ((d,.xo n (m.map e))::(s,.undef)::env)):WO S K (⟨some d,.appz n s zt x,none⟩::os) env:=by
 obtain ⟨m,hm,h⟩:=bind_some h
 exact fH hs hj he hz hm rfl hn hd hn1 hc (K' m hm h)
theorem gA {γ:Type} {k:List γ->Option β} {n s:Nat} {hi:AJ} {es:List TV} {e:γ->TV} {l:List γ} {ik:IntKind} {j:Int} (h:(slc l 0 j).bind k=some r) (hs:env.get s=.xo n es) (hj:hi.val env=some (.int ik j)) (he:es=l.map e) (hn:env.noRef d=true) (hd:d≠s)
  (K':∀ m,slc l 0 j=some m->k m=some r->WO S K os ((d,.xo n (m.map e))::(s,.undef)::env)):WO S K (⟨some d,.cut n s hi,none⟩::os) env:=by
 obtain ⟨m,hm,h⟩:=bind_some h
 exact mX hs hj he hm rfl hn hd (K' m hm h)
theorem gN {γ:Type} {k:List γ->Option β} {n:Nat} {zero:List TV} {x:AJ} {ik:IntKind} {j:Int} {e:γ->TV} {z:γ} (h:(KN j z).bind k=some r) (hn:env.noRef d=true) (hx:x.val env=some (.int ik j)) (hz:(match zero with | [t]=>t | ts=>.agg ts)=e z)
  (K':∀ m,KN j z=some m->k m=some r->WO S K os ((d,.xo n (m.map e))::env)):WO S K (⟨some d,.mkx n zero x,none⟩::os) env:=by
 obtain ⟨m,hm,h⟩:=bind_some h
 exact ms hn hx hz hm rfl (K' m hm h)
theorem gY {x i:AJ} {q n:Nat} {qi:Option Nat} {es:List TV} {e:α->TV} {l:List α} {ik:IntKind} {j:Int} (h:(AL l j).bind k=some r) (hx:x.xlist env=some ((q,qi),n,es)) (hi:i.val env=some (.int ik j)) (he:es=l.map e) (hr:(x.ev env).ref=some q)
  (K':∀ a,AL l j=some a->k a=some r->WO S K os ((d,.lp q qi (j.toNat*n))::env)):WO S K (⟨some d,.xia x i n,none⟩::os) env:=by
 obtain ⟨a,ha,h⟩:=bind_some h
 exact nG hx hi he ha hr (K' a ha h)
section ints
variable {k:Int->Option β} {x y:AJ} {ik:IntKind} {a b:Int}
theorem gO (h:(quo a b).bind k=some r) (hx:x.val env=some (.int ik a)) (hy:y.val env=some (.int ik b)) (K':∀ q,quo a b=some q->k q=some r->WO S K os ((d,.tv (.int ik (ik.wrap q)))::env)):WO S K (⟨some d,.bin .i .quo x y,none⟩::os) env:=by
 obtain ⟨m,hm,h⟩:=bind_some h
 exact m5 hx hy hm (K' m hm h)
theorem gQ (h:(aw a b).bind k=some r) (hx:x.val env=some (.int ik a)) (hy:y.val env=some (.int ik b)) (K':∀ q,aw a b=some q->k q=some r->WO S K os ((d,.tv (.int ik q))::env)):WO S K (⟨some d,.bin .i .rem x y,none⟩::os) env:=by
 obtain ⟨m,hm,h⟩:=bind_some h
 exact m7 hx hy hm (K' m hm h)
theorem f0 {op:BinOp} {ik':IntKind} (h:(KW ik op a b).bind k=some r) (hx:x.val env=some (.int ik a)) (hy:y.val env=some (.int ik' b)) (hk:ik=ik'∨op=.shl∨op=.shr) (K':∀ q,KW ik op a b=some q->k q=some r->WO S K os ((d,.tv (.int ik q))::env)):WO S K (⟨some d,.bin .w op x y,none⟩::os) env:=by
 obtain ⟨m,hm,h⟩:=bind_some h
 exact mT hx hy hk hm (K' m hm h)
end ints
theorem dg {k:ByteArray->Option β} {x y:AJ} {u v:ByteArray} (h:(Lb u v).bind k=some r) (hx:x.val env=some (.str u)) (hy:y.val env=some (.str v)) (K':∀ q,Lb u v=some q->k q=some r->WO S K os ((d,.tv (.str q))::env)):WO S K (⟨some d,.bin .s .add x y,none⟩::os) env:=by
 obtain ⟨m,hm,h⟩:=bind_some h
 exact fW hx hy hm (K' m hm h)
theorem gJ {k:Unit->Option β} {x:AJ} {n:Nat} {es:List TV} {e:α->TV} {l:List α} (h:(UU l).bind k=some r) (hx:x.val env=some (.list n es)) (he:es=l.map e) (K':∀ u,k u=some r->WO S K os ((d,.tv (.bool false))::env)):WO S K (⟨some d,.isn x,none⟩::os) env:=by
 obtain ⟨u,hu,h⟩:=bind_some h
 refine ay hx he fun b hb=>?_
 obtain rfl:=Xx hu hb
 exact K' u h
theorem aV {x:AJ} {n:Nat} {e:α->TV} {a:α} (h:BO env (x.ev env)=some (e a).cells) (hn:Nat.beq (e a).cells.length n=true) (ht:TV.agg (e a).cells=e a) (K':WO S K os ((d,.tv (e a))::env)):WO S K (⟨some d,.lda x n,none⟩::os) env:=by
 have hn:=Nat.eq_of_beq_eq_true hn
 exact XB h (by rw [hn]; exact Nat.ble_self_eq_true n) (by rw [List.take_of_length_le (by omega),ht]) K'
theorem gK {s n:Nat} {cs:List AU} {e:α->TV} {a:α} (h:env.get s=.bx cs) (hc:cs.map (·.t)=(e a).cells) (hn:Nat.beq (e a).cells.length n=true) (ht:TV.agg (e a).cells=e a) (K':WO S K os ((d,.tv (e a))::env)):WO S K (⟨some d,.ldb s n,none⟩::os) env:=by
 have hn:=Nat.eq_of_beq_eq_true hn
 exact a8 h (by rw [hc,hn]; exact Nat.ble_self_eq_true n) (by rw [hc,List.take_of_length_le (by omega),ht]) K'
theorem dk {n s:Nat} {v:AJ} {cs:List AU} {t:TV} (hs:env.get s=.bx cs) (hv:v.ev env=.tv t) (hl:t.cells.length=n) (hb:Nat.beq n cs.length=true) (kk:WO S K os ((s,.bx (t.cells.map (⟨false,·⟩)))::env)):WO S K (⟨none,.stb n s v,none⟩::os) env:=by
 have hb:=Nat.eq_of_beq_eq_true hb
 refine bB hs hv hl (by rw [Nat.zero_add,hb]; exact Nat.ble_self_eq_true _) ?_ kk
 rw [List.take_zero,Nat.zero_add,hb,List.drop_length,List.append_nil,List.nil_append]
theorem dc {x:AJ} {n:Nat} {e:α->TV} {a:α} (h:BO env (x.ev env)=some (((e a).cells.map fun t=>(⟨false,t⟩:AU)).map (·.t))) (hn:Nat.beq (e a).cells.length n=true) (ht:TV.agg (e a).cells=e a) (K':WO S K os ((d,.tv (e a))::env)):WO S K (⟨some d,.lda x n,none⟩::os) env:=
 aV (by rw [h,List.map_map]; congr 1; exact List.map_id _) hn ht K'
def WU (n:Nat):List TV->Bool
 | []=>true
 | t::ts=>Nat.beq t.cells.length n&&WU n ts
theorem Ts {n:Nat}:∀ {ts:List TV},WU n ts=true->∀ t∈ts,t.cells.length=n
 | [],_,_,h=>by cases h
 | t::ts,h,u,hu=>by
  simp only [WU,zzZ] at h
  rcases List.mem_cons.1 hu with rfl | hu
  ·exact Nat.eq_of_beq_eq_true h.1
  ·exact Ts h.2 u hu
theorem gM {n:Nat} {parts:List AJ} {ts:List TV} (h:vals env parts=some ts) (hn:WU n ts=true) (K':WO S K os ((d,.ow (.list n ts))::env)):WO S K (⟨some d,.lst n parts,none⟩::os) env:=by
 have:=K'.out
 refine ⟨?_⟩
 simp only [wpOps,PR.wp,AH.wp,h,A6]
 exact ⟨Ts hn,this⟩
theorem dV {zero:List TV} {parts:List (Nat × Nat × AJ)} {ts:List (Nat × Nat × TV)} {cs:List TV} {e:α->TV} {a:α} (h:(some a).bind k=some r) (_:En α e) (h1:Hy env parts=some ts) (h2:HL zero ts=some cs) (he:TV.agg cs=e a) (K':∀ x,x=a->k x=some r->WO S K os ((d,.tv (e x))::env)):WO S K (⟨some d,.bld zero parts,none⟩::os) env:=by
 rw [Option.bind_some] at h
 exact XA h1 h2 he (K' a rfl h)
theorem gL {x:AJ} {n:Nat} {cs:List TV} {e:α->TV} {a:α} (h:(some a).bind k=some r) (_:En α e) (h1:BO env (x.ev env)=some cs) (hn:Nat.ble n cs.length=true) (he:TV.agg (cs.take n)=e a) (K':∀ x,x=a->k x=some r->WO S K os ((d,.tv (e x))::env)):WO S K (⟨some d,.lda x n,none⟩::os) env:=by
 rw [Option.bind_some] at h
 exact XB h1 hn he (K' a rfl h)
inductive Lm {α:Type} (e:α->TV):List TV->List α->Prop
 | nil:Lm e [] []
 | cons {t:TV} {ts:List TV} {a:α} {l:List α}:t=e a->Lm e ts l->Lm e (t::ts) (a::l)
theorem Lm.eq {e:α->TV} {ts:List TV} {l:List α} (h:Lm e ts l):ts=l.map e:=by
 induction h with
 | nil=>rfl
 | cons h _ ih=>rw [h,ih]; rfl
theorem de {n:Nat} {parts:List AJ} {ts:List TV} {e:α->TV} {l:List α} (h:vals env parts=some ts) (hl:Lm e ts l) (hn:∀ a,(e a).cells.length=n) (K':WO S K os ((d,.ow (.list n (l.map e)))::env)):WO S K (⟨some d,.lst n parts,none⟩::os) env:=bA h hl.eq hn K'
theorem df {n:Nat} {parts:List AJ} {ts:List TV} {e:α->TV} {l:List α} {f:List α->TV} (h:vals env parts=some ts) (hl:Lm e ts l) (hn:∀ a,(e a).cells.length=n) (c:Fl e n f) (K':WO S K os ((d,.ow (f l))::env)):WO S K (⟨some d,.lst n parts,none⟩::os) env:=by
 rw [c.eq] at K'
 exact bA h hl.eq hn K'
theorem dP {e:α->TV} {n:List Nat} {x y:AJ} {a:α} {cs:List TV} (hx:x.val env=some (e a)) (hy:y.val env=some (.agg cs)) [c:XX e] [i:Decidable (a=c.un cs)] (ha:TV.agg (e a).cells=e a) (hb:(e (c.un cs)).cells=cs) (hn:(e a).cells.map TV.kd=n) (K':WO S K os ((d,.tv (.bool (decide (a=c.un cs))))::env)):WO S K (⟨some d,.bin (.a n) .eql x y,none⟩::os) env:=by
 obtain ⟨i',h⟩:=c.dec a (c.un cs)
 have:i=i':=Subsingleton.elim _ _
 subst this
 rw [←ha] at hx
 rw [hb] at h
 exact YR hx hy hn h K'
theorem dR {e:α->TV} {n:List Nat} {x y:AJ} {a:α} {cs:List TV} (hx:x.val env=some (e a)) (hy:y.val env=some (.agg cs)) [c:XX e] [i:Decidable (a=c.un cs)] (ha:TV.agg (e a).cells=e a) (hb:(e (c.un cs)).cells=cs) (hn:(e a).cells.map TV.kd=n) (K':WO S K os ((d,.tv (.bool (!decide (a=c.un cs))))::env)):WO S K (⟨some d,.bin (.a n) .neq x y,none⟩::os) env:=by
 obtain ⟨i',h⟩:=c.dec a (c.un cs)
 have:i=i':=Subsingleton.elim _ _
 subst this
 rw [←ha] at hx
 rw [hb] at h
 exact YS hx hy hn h K'
theorem dO {e:α->TV} {n:List Nat} {x y:AJ} {a b:α} {i:Decidable (a=b)} (hx:x.val env=some (e a)) (hy:y.val env=some (e b)) (c:XX e) (ha:TV.agg (e a).cells=e a) (hb:TV.agg (e b).cells=e b) (hn:(e a).cells.map TV.kd=n) (K':WO S K os ((d,.tv (.bool (decide (a=b))))::env)):WO S K (⟨some d,.bin (.a n) .eql x y,none⟩::os) env:=by
 obtain ⟨i',h⟩:=c.dec a b
 have:i=i':=Subsingleton.elim _ _
 subst this
 rw [←ha] at hx
 rw [←hb] at hy
 exact YR hx hy hn h K'
theorem dQ {e:α->TV} {n:List Nat} {x y:AJ} {a b:α} {i:Decidable (a=b)} (hx:x.val env=some (e a)) (hy:y.val env=some (e b)) (c:XX e) (ha:TV.agg (e a).cells=e a) (hb:TV.agg (e b).cells=e b) (hn:(e a).cells.map TV.kd=n) (K':WO S K os ((d,.tv (.bool (!decide (a=b))))::env)):WO S K (⟨some d,.bin (.a n) .neq x y,none⟩::os) env:=by
 obtain ⟨i',h⟩:=c.dec a b
 have:i=i':=Subsingleton.elim _ _
 subst this
 rw [←ha] at hx
 rw [←hb] at hy
 exact YS hx hy hn h K'
section calls
variable {x:Option α} {f:FuncId} {ts:List TV} {R:α->CH} {args:List AJ}
theorem gD {s:Nat} {cs:List AU} {row:List TV} (hs:env.get s=.bx cs) (f:Fz cs row) (k:WO S K os ((s,.tv (.pt row))::env)):WO S K (⟨none,.frz s,none⟩::os) env:=mc hs f.h k
theorem dW {t:α->TV} (h:x.bind k=some r) (c:Ct P x f ts R) (ha:vals env args=some ts) (hR:∀ a,R a=.sh (t a)) (K':∀ a,x=some a->k a=some r->WO (AR P) K os ((d,.tv (t a))::env)):WO (AR P) K (⟨some d,.call f args,none⟩::os) env:=by
 obtain ⟨a,hx,h⟩:=bind_some h
 have:=c.snd a hx
 rw [hR] at this
 exact YT ha this (K' a hx h)
theorem bR {t:α->TV} (h:x.bind k=some r) (c:Ct P x f ts R) (ha:vals env args=some ts) (hR:∀ a,R a=.own (t a)) (K':∀ a,x=some a->k a=some r->WO (AR P) K os ((d,.ow (t a))::env)):WO (AR P) K (⟨some d,.call f args,none⟩::os) env:=by
 obtain ⟨a,hx,h⟩:=bind_some h
 have:=c.snd a hx
 rw [hR] at this
 exact cu ha this (K' a hx h)
theorem bT {t:α->TV} (_:HS d) (h:x.bind k=some r) (c:Ct P x f ts R) (ha:vals env args=some ts) (hR:∀ a,R a=.own (t a)) (K':∀ a,x=some a->k a=some r->WO (AR P) K os ((d,.tv (t a))::env)):WO (AR P) K (⟨some d,.call f args,none⟩::os) env:=by
 obtain ⟨a,hx,h⟩:=bind_some h
 have:=c.snd a hx
 rw [hR] at this
 exact YT ha (eZ this) (K' a hx h)
theorem bV {n:Nat} {t:α->List TV} (h:x.bind k=some r) (c:Ct P x f ts R) (ha:vals env args=some ts) (hR:∀ a,R a=.xown n (t a)) (K':∀ a,x=some a->k a=some r->WO (AR P) K os ((d,.ow (.list n (t a)))::env)):WO (AR P) K (⟨some d,.call f args,none⟩::os) env:=by
 obtain ⟨a,hx,h⟩:=bind_some h
 have:=c.snd a hx
 rw [hR] at this
 exact cx ha this (K' a hx h)
theorem bS {t:α->List TV} (h:x.bind k=some r) (c:Ct P x f ts R) (ha:vals env args=some ts) (hR:∀ a,R a=.tp (t a)) (K':∀ a,x=some a->k a=some r->WO (AR P) K os ((d,.tp (t a))::env)):WO (AR P) K (⟨some d,.call f args,none⟩::os) env:=by
 obtain ⟨a,hx,h⟩:=bind_some h
 have:=c.snd a hx
 rw [hR] at this
 exact cv ha this (K' a hx h)
theorem bO {t:α->List AU} (h:x.bind k=some r) (c:Ct P x f ts R) (ha:vals env args=some ts) (hR:∀ a,R a=.oag (t a)) (K':∀ a,x=some a->k a=some r->WO (AR P) K os ((d,.tv (.agg ((t a).map (·.t))))::env)):WO (AR P) K (⟨some d,.call f args,none⟩::os) env:=by
 obtain ⟨a,hx,h⟩:=bind_some h
 have:=c.snd a hx
 rw [hR] at this
 exact cq ha this rfl (K' a hx h)
theorem bN {t:α->List AU} (h:x.bind k=some r) (c:Ct P x f ts R) (ha:vals env args=some ts) (hR:∀ a,R a=.oag (t a)) (K':∀ a,x=some a->k a=some r->WO (AR P) K os ((d,.oag (t a))::env)):WO (AR P) K (⟨some d,.callg f args,none⟩::os) env:=by
 obtain ⟨a,hx,h⟩:=bind_some h
 have:=c.snd a hx
 rw [hR] at this
 exact cp ha this (K' a hx h)
theorem bW {n:Nat} {t:α->List TV} (h:x.bind k=some r) (c:Ct P x f ts R) (hn:env.noRef d=true) (ha:vals env args=some ts) (hR:∀ a,R a=.xown n (t a)) (K':∀ a,x=some a->k a=some r->WO (AR P) K os ((d,.xo n (t a))::env)):WO (AR P) K (⟨some d,.callx f args,none⟩::os) env:=by
 obtain ⟨a,hx,h⟩:=bind_some h
 have:=c.snd a hx
 rw [hR] at this
 exact cy hn ha this (K' a hx h)
theorem Y3 {γ:Type} {k:List γ->Option β} {x:Option (List γ)} {R:List γ->CH} {n:Nat} {e:γ->TV} (h:x.bind k=some r) (c:Ct P x f ts R) (hn:env.noRef d=true) (ha:vals env args=some ts) (hR:∀ a,R a=.own (.list n (a.map e))) (hf:∀ a,(e a).flat=true) (K':∀ a,x=some a->k a=some r->WO (AR P) K os ((d,.xo n (a.map e))::env)):WO (AR P) K (⟨some d,.callx f args,none⟩::os) env:=by
 obtain ⟨a,hx,h⟩:=bind_some h
 have:=c.snd a hx
 rw [hR] at this
 exact Zs hn ha this rfl hf (K' a hx h)
theorem bP {t:α->TV} (h:x.bind k=some r) (c:Ct P x f ts R) (ha:lvals env args=some ts) (hR:∀ a,R a=.sh (t a)) (hl:∀ a,(t a).flat=true) (K':∀ a,x=some a->k a=some r->WO (AR P) K os ((d,.tv (t a))::env)):WO (AR P) K (⟨some d,.calll f args,none⟩::os) env:=by
 obtain ⟨a,hx,h⟩:=bind_some h
 have:=c.snd a hx
 rw [hR] at this
 exact cr ha this (hl a) (K' a hx h)
theorem Y0 {t:α->List TV} (h:x.bind k=some r) (c:Ct P x f ts R) (ha:lvals env args=some ts) (hR:∀ a,R a=.tp (t a)) (hl:∀ a,TV.flats (t a)=true) (K':∀ a,x=some a->k a=some r->WO (AR P) K os ((d,.tp (t a))::env)):WO (AR P) K (⟨some d,.calll f args,none⟩::os) env:=by
 obtain ⟨a,hx,h⟩:=bind_some h
 have:=c.snd a hx
 rw [hR] at this
 exact Zp ha this (hl a) (K' a hx h)
theorem Yz {γ:Type} {k:List γ->Option β} {x:Option (List γ)} {R:List γ->CH} {n:Nat} {e:γ->TV} (h:x.bind k=some r) (c:Ct P x f ts R) (ha:lvals env args=some ts) (hR:∀ a,R a=.own (.list n (a.map e))) (hf:∀ a,(e a).flat=true) (K':∀ a,x=some a->k a=some r->WO (AR P) K os ((d,.ow (.list n (a.map e)))::env)):WO (AR P) K (⟨some d,.calll f args,none⟩::os) env:=by
 obtain ⟨a,hx,h⟩:=bind_some h
 have:=c.snd a hx
 rw [hR] at this
 exact Zo ha this rfl rfl hf (K' a hx h)
theorem bM {t:α->List TV} (h:x.bind k=some r) (c:Ct P x f ts R) (ha:vals env args=some ts) (hR:∀ a,R a=.ext (t a)) (K':∀ a,x=some a->k a=some r->WO (AR P) K os ((d,.tp (t a))::env)):WO (AR P) K (⟨some d,.callf f args,none⟩::os) env:=by
 obtain ⟨a,hx,h⟩:=bind_some h
 have:=c.snd a hx
 rw [hR] at this
 exact co ha this (K' a hx h)
theorem bK {i s:Nat} {cs:List AU} {cs':α->List AU} {us:α->List TV} {e:α->EV} (h:x.bind k=some r) (c:Ct P x f ts R) (hp:(args[i]?).bind (·.place env)=some (s,0)) (hs:env.get s=.bx cs) (hn:env.noX s none=true) (hd:d≠s) (ha:Mj env i args=some ts) (hR:∀ a,R a=.bo cs (cs' a) i (us a)) (he:∀ a,EV.ofs (us a)=e a) (K':∀ a,x=some a->k a=some r->WO (AR P) K os ((d,e a)::(s,.bx (cs' a))::env)):WO (AR P) K (⟨some d,.callb f args i,none⟩::os) env:=by
 obtain ⟨a,hx,h⟩:=bind_some h
 have:=c.snd a hx
 rw [hR] at this
 exact cm hp hs hn hd ha this (he a) (K' a hx h)
theorem bQ {k:List Int->Option β} {f:FuncId} {x:AJ} {q:Nat} {qi:Option Nat} {es:List TV} {l:List Int} {y:Option (List Int)} {env':List Int->AC} (h:y.bind k=some r) (c:Ct P y f [.list 1 (l.map (TV.int .i64))] CH.turn) (hx:x.xlist env=some ((q,qi),1,es)) (he:es=l.map (TV.int .i64)) (hv:∀ a,env.xput q qi 1 (a.map (TV.int .i64))=env' a) (K':∀ a,y=some a->k a=some r->WO (AR P) K os ((d,.tp [])::env' a)):WO (AR P) K (⟨some d,.callm f x,none⟩::os) env:=by
 obtain ⟨a,hy,h⟩:=bind_some h
 exact ct hx he rfl (c.snd a hy) rfl (hv a) (K' a hy h)
theorem bL {k:List Int->Option β} {f:FuncId} {x:AJ} {q:Nat} {es:List TV} {l:List Int} {y:Option (List Int)} (h:y.bind k=some r) (c:Ct P y f [.list 1 (l.map (TV.int .i64))] CH.cut) (hx:x.xlist env=some ((q,none),1,es)) (he:es=l.map (TV.int .i64)) (hqd:q≠d) (hn:env.noRef d=true) (K':∀ a,y=some a->k a=some r->WO (AR P) K os ((d,.xo 1 (a.map (TV.int .i64)))::(q,.undef)::env)):WO (AR P) K (⟨some d,.callc f x,none⟩::os) env:=by
 obtain ⟨a,hy,h⟩:=bind_some h
 exact cn hx he rfl hqd hn (c.snd a hy) rfl (K' a hy h)
section values
variable {v:AJ} {caps us:List TV}
theorem bU {t:α->TV} (h:x.bind k=some r) (c:Ct P x f ts R) (hv:v.val env=some (.clo f caps)) (ha:vals env args=some us) (hu:us++caps=ts) (hR:∀ a,R a=.sh (t a)) (K':∀ a,x=some a->k a=some r->WO (AR P) K os ((d,.tv (t a))::env)):WO (AR P) K (⟨some d,.callv v args,none⟩::os) env:=by
 obtain ⟨a,hx,h⟩:=bind_some h
 have:=c.snd a hx
 rw [hR,←hu] at this
 exact cw hv ha this (K' a hx h)
theorem Y1 {t:α->TV} (h:x.bind k=some r) (c:Ct P x f ts R) (hv:v.val env=some (.clo f caps)) (ha:vals env args=some us) (hu:us++caps=ts) (hR:∀ a,R a=.own (t a)) (K':∀ a,x=some a->k a=some r->WO (AR P) K os ((d,.ow (t a))::env)):WO (AR P) K (⟨some d,.callv v args,none⟩::os) env:=by
 obtain ⟨a,hx,h⟩:=bind_some h
 have:=c.snd a hx
 rw [hR,←hu] at this
 exact Zq hv ha this (K' a hx h)
theorem Y2 {t:α->List TV} (h:x.bind k=some r) (c:Ct P x f ts R) (hv:v.val env=some (.clo f caps)) (ha:vals env args=some us) (hu:us++caps=ts) (hR:∀ a,R a=.tp (t a)) (K':∀ a,x=some a->k a=some r->WO (AR P) K os ((d,.tp (t a))::env)):WO (AR P) K (⟨some d,.callv v args,none⟩::os) env:=by
 obtain ⟨a,hx,h⟩:=bind_some h
 have:=c.snd a hx
 rw [hR,←hu] at this
 exact Zr hv ha this (K' a hx h)
end values
end calls
inductive GS (g:Nat) (b:Bool):List Nat->List PR->List Nat->Nat->Prop
 | done {acc:List Nat} {os:List PR}:GS g b acc os [] 0
 | step {acc js:List Nat} {d n:Nat} {op:AH} {os:List PR}:GS g b (d::acc) os js n->GS g b acc (⟨some d,op,some (g,b)⟩::os) (d::js) (n+1)
 | nest {acc js:List Nat} {d n g':Nat} {b':Bool} {op:AH} {os:List PR}:acc.contains g'=true->GS g b (d::acc) os js n->GS g b acc (⟨some d,op,some (g',b')⟩::os) (d::js) (n+1)
def dN:List Nat->AC->(AC->Prop)->Prop
 | [],z,K=>K z
 | k::ks,z,K=>∃ j,dN ks ((k,j)::z) K
structure Gj (js:List Nat) (d:Nat) (v:TV) (z e:AC):Prop where
 of::out:dN js z fun y=>e=(d,.tv v)::y
theorem Xs {d:Nat} {v:TV} {z e:AC} (h:e=(d,.tv v)::z):Gj [] d v z e:=⟨h⟩
theorem b6 {k d:Nat} {ks:List Nat} {v:TV} {j:EV} {z e:AC} (h:Gj ks d v ((k,j)::z) e):Gj (k::ks) d v z e:=⟨j,h.out⟩
theorem da {js:List Nat} {v:TV} {z:AC} (h:Gj js d v z env):WO S (Gj js d v z) [] env:=⟨h⟩
structure Sb (js:List Nat) (z:AC) (Q:AC->Prop):Prop where
 of::out:∀ (d:Nat) (v:TV) (e:AC),Gj js d v z e->∃ y,e=(d,.tv v)::y∧Q y
theorem b7 {z:AC} {Q:AC->Prop} (h:Q z):Sb [] z Q:=⟨fun _ _ _ he=>⟨z,he.out,h⟩⟩
theorem ZH {k:Nat} {ks:List Nat} {z:AC} {Q:AC->Prop} (h:∀ j,Sb ks ((k,j)::z) Q):Sb (k::ks) z Q:=⟨fun d v e he=>by
 obtain ⟨j,hj⟩:=he.out
 exact (h j).out d v e ⟨hj⟩⟩
theorem lc {dd:Option Nat} {op:AH} {g:Nat} {b q:Bool} (hg:env.get g=.tv (.bool q)) (hq:XZ g b q) (kk:WO S K (⟨dd,op,none⟩::os) env):WO S K (⟨dd,op,some (g,b)⟩::os) env:=o3 hg hq.out kk
theorem eG {op:AH} {g:Nat} {b q:Bool} (hg:env.get g=.tv (.bool q)) (hq:Tp g b q) (kk:WO S K os ((d,.sk)::env)):WO S K (⟨some d,op,some (g,b)⟩::os) env:=lb hg hq.out kk
theorem Wf {d n:Nat} {js:List Nat} {v:TV} (h1:WO S (Gj js d v env) (os.take n) env) (h3:Sb js env fun e=>WO S K (os.drop n) ((d,.tv v)::e)):WO S K os env:=
 lZ n (Gj js d v) h1 fun e he=>by
  obtain ⟨y,rfl,hy⟩:=h3.out d v e he
  exact hy
section groups
variable {g n:Nat} {js:List Nat} {c:Bool} {dd gd:Option Nat} {op:AH} {x y z:AJ} {gg:Option (Nat × Bool)}
theorem gH {k:Bool->Option β} {T:Option Bool} {os':List PR} (h:(if c=true then T else some false).bind k=some r) (_:GS g true [] os js n) (hc:env.get g=.tv (.bool c)) (_:os[n]?=some ⟨some d,.pick x y z,gg⟩)
  (h1:∀ v,XZ g true c->c=true->T=some v->WO S (Gj js d (.bool v) env) (os.take (n+1)) env) (h2:∀ v,Tp g true c->c=false->some false=some v->WO S (Gj js d (.bool v) env) (os.take (n+1)) env)
  (h3:∀ v,k v=some r->Sb js env fun e=>WO S K (os.drop (n+1)) ((d,.tv (.bool v))::e)) (ho:os=⟨dd,op,some (g,true)⟩::os'):WO S K (⟨dd,op,some (g,true)⟩::os') env:=by
 obtain ⟨v,hv,h⟩:=bind_some h
 rw [←ho]
 refine Wf (n:=n+1) (v:=.bool v) ?_ (h3 v h)
 rcases Bool.eq_false_or_eq_true c with hq | hq
 ·exact h1 v ⟨hq⟩ hq (Ti hq hv)
 ·exact h2 v ⟨by rw [hq]; rfl⟩ hq (Th hq hv)
theorem gG {k:Bool->Option β} {T:Option Bool} {os':List PR} (h:(if c=true then some true else T).bind k=some r) (_:GS g false [] os js n) (hc:env.get g=.tv (.bool c)) (_:os[n]?=some ⟨some d,.pick x y z,gg⟩)
  (h1:∀ v,XZ g false c->c=false->T=some v->WO S (Gj js d (.bool v) env) (os.take (n+1)) env) (h2:∀ v,Tp g false c->c=true->some true=some v->WO S (Gj js d (.bool v) env) (os.take (n+1)) env)
  (h3:∀ v,k v=some r->Sb js env fun e=>WO S K (os.drop (n+1)) ((d,.tv (.bool v))::e)) (ho:os=⟨dd,op,some (g,false)⟩::os'):WO S K (⟨dd,op,some (g,false)⟩::os') env:=by
 obtain ⟨v,hv,h⟩:=bind_some h
 rw [←ho]
 refine Wf (n:=n+1) (v:=.bool v) ?_ (h3 v h)
 rcases Bool.eq_false_or_eq_true c with hq | hq
 ·exact h2 v ⟨by rw [hq]; rfl⟩ hq (Ti hq hv)
 ·exact h1 v ⟨hq⟩ hq (Th hq hv)
theorem gF {e:Bool} {os':List PR} (ho:os=⟨dd,op,some (g,true)⟩::os') (_:GS g true [] os js n) (hc:env.get g=.tv (.bool c)) (_:os[n]?=some ⟨some d,.pick x y z,gg⟩)
  (h1:XZ g true c->c=true->WO S (Gj js d (.bool e) env) (os.take (n+1)) env) (h2:Tp g true c->c=false->WO S (Gj js d (.bool false) env) (os.take (n+1)) env)
  (h3:Sb js env fun z=>WO S K (os.drop (n+1)) ((d,.tv (.bool (c&&e)))::z)):WO S K (⟨dd,op,some (g,true)⟩::os') env:=by
 rw [←ho]
 refine Wf (n:=n+1) (v:=.bool (c&&e)) ?_ h3
 cases c
 ·exact h2 ⟨rfl⟩ rfl
 ·exact h1 ⟨rfl⟩ rfl
theorem gE {e:Bool} {os':List PR} (ho:os=⟨dd,op,some (g,false)⟩::os') (_:GS g false [] os js n) (hc:env.get g=.tv (.bool c)) (_:os[n]?=some ⟨some d,.pick x y z,gg⟩)
  (h1:XZ g false c->c=false->WO S (Gj js d (.bool e) env) (os.take (n+1)) env) (h2:Tp g false c->c=true->WO S (Gj js d (.bool true) env) (os.take (n+1)) env)
  (h3:Sb js env fun z=>WO S K (os.drop (n+1)) ((d,.tv (.bool (c||e)))::z)):WO S K (⟨dd,op,some (g,false)⟩::os') env:=by
 rw [←ho]
 refine Wf (n:=n+1) (v:=.bool (c||e)) ?_ h3
 cases c
 ·exact h1 ⟨rfl⟩ rfl
 ·exact h2 ⟨rfl⟩ rfl
end groups
theorem gZ {x:AJ} {q n i:Nat} {qi:Option Nat} {es row:List TV} {e:α->TV} {l:List α} {j:Int} {a:α} {t:TV} (h:x.ev env=.lp q qi (j.toNat*n+i)) (hq:env.xat q qi=some (n,es)) (he:es=l.map e) (hl:∀ a,(e a).cells.length=n) (ha:AL l j=some a) (hi:Nat.blt i n=true) (hr:(e a).cells=row) (ht:row[i]?=some t)
  (kk:WO S K os ((d,.tv t)::env)):WO S K (⟨some d,.xld x,none⟩::os) env:=bC h hq he hl ha rfl hi hr ht kk
theorem dl {x:AJ} {q n:Nat} {qi:Option Nat} {es row:List TV} {e:α->TV} {l:List α} {j:Int} {a:α} {t:TV} (h:x.ev env=.lp q qi (j.toNat*n)) (hq:env.xat q qi=some (n,es)) (he:es=l.map e) (hl:∀ a,(e a).cells.length=n) (ha:AL l j=some a) (hi:Nat.blt 0 n=true) (hr:(e a).cells=row) (ht:row[0]?=some t)
  (kk:WO S K os ((d,.tv t)::env)):WO S K (⟨some d,.xld x,none⟩::os) env:=bC (i:=0) h hq he hl ha rfl hi hr ht kk
theorem dn {γ:Type} {s:Nat} {v:AJ} {q n i:Nat} {qi:Option Nat} {env':AC} {es:List TV} {e:α->TV} {g:γ->TV} {l:List α} {j:Int} {a:α} {b:γ} {f:α->γ->α} (_:HX s f) (h:(AJ.s s).ev env=.lp q qi (j.toNat*n+i)) (hq:env.xat q qi=some (n,es)) (hv:v.ev env=.tv (g b)) (he:es=l.map e) (hl:∀ a,(e a).cells.length=n) (ha:AL l j=some a) (hi:Nat.blt i n=true) (ht:(g b).cells=[g b])
  (hb:(e (f a b)).cells=(e a).cells.set i (g b)) (hv':env.xput q qi n ((CB l j (f a b)).map e)=env') (kk:WO S K os env'):WO S K (⟨none,.xst (.s s) v,none⟩::os) env:=bE h hq hv he hl ha rfl hi ht hb rfl hv' kk
theorem dm {x v:AJ} {q n:Nat} {qi:Option Nat} {env':AC} {es:List TV} {e:α->TV} {l:List α} {j:Int} {a b:α} (h:x.ev env=.lp q qi (j.toNat*n)) (hq:env.xat q qi=some (n,es)) (hv:v.ev env=.tv (e b)) (he:es=l.map e) (hl:∀ a,(e a).cells.length=n) (ha:AL l j=some a) (hi:Nat.blt 0 n=true) (ht:(e b).cells=[e b])
  (hb:(e b).cells=(e a).cells.set 0 (e b)) (hv':env.xput q qi n ((CB l j b).map e)=env') (kk:WO S K os env'):WO S K (⟨none,.xst x v,none⟩::os) env:=bE (i:=0) h hq hv he hl ha rfl hi ht hb rfl hv' kk
end
end Go.Sf
