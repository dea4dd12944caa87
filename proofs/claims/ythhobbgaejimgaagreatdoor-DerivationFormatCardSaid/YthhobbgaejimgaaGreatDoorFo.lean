/- derivation.Format: a strings.Builder is written. -/
import Derived.Test.YthhobbgaejimgaaGreatDoorFns
import Derived.Test.YthhobbgaejimgaaGreatDoorTw
import Derived.Test.YthhobbgaejimgaaGreatDoorSfLib
import Derived.Shelf.Strings.Builder1
import Derived.BigCall
import Derived.BigGuard
import Derived.BigQuiet
import Derived.Deep.QuietTactic
set_option linter.all false
set_option maxRecDepth 100000
set_option maxHeartbeats 4000000
namespace Go.Sf
section
open Go.RowKit Go.Shelf Go.Proofs
theorem Ul(B b:Nat)(bs:List Value)(w:World)(h:Lib.IsBuilder 81 5 B b bs w):
  Calls Tryz.prog 64 #[.pointer (some ⟨b,0,none⟩)] w fun e w'=>e=.returned (.tuple #[])/\Lib.BuilderAt 81 5 B b (.pointer (some ⟨b,0,none⟩)) bs w'/\Below B w w':=by
 obtain ⟨j,hj,hjs⟩:=Option.map_eq_some_iff.1 (show(Tryz.prog.info? 81).map (·.size)=some 2 by kernel_rfl);rcases h with h|h
 .have h0:=h.cell0;have hs:=h.shape;have hf:=h.frozen0;have c1:=Lib.run_to_unsafe (P:=Tryz.prog) (src:=78) (dst:=165) w ⟨b,0,none⟩ (by kernel_rfl) (by kernel_rfl) hj (by rw[hjs];decide) hs (Nat.zero_lt_succ 1);have c2:=Lib.run_from_unsafe (P:=Tryz.prog) (src:=165) (dst:=78) w ⟨b,0,none⟩ (by kernel_rfl) (by kernel_rfl) hj hs (by kernel_rfl);have c3:(callFunc 96 #[.pointer (some ⟨b,0,none⟩)]).run Tryz.prog w=.ok (.value (.pointer (some ⟨b,0,none⟩))) w:=by
   rw [run_callFunc_extern Tryz.func96 (by kernel_rfl) (by kernel_rfl) (by kernel_rfl) (e:=Extern.AbiNoEscape.same) (by kernel_rfl),Lib.run_noEscape];rfl
  go_enter Tryz.func64,Tryz.ntmps64
  go_wp2
  go_end0
  exact ⟨rfl,h.used _,(Below.refl B w).setCell (p:=⟨b,0,none⟩) h.1 _⟩
 .have h0:=h.cell0;have c4:=Lib.run_neq_ptr_same (tp:=78) (te:=81) (j:=j) (P:=Tryz.prog) w ⟨b,0,none⟩ (by kernel_rfl) hj
  go_enter Tryz.func64,Tryz.ntmps64
  go_wp2
  go_end0
  exact ⟨rfl,h,Below.refl B _⟩
theorem TI(B b:Nat)(bs:List Value)(s:ByteArray)(w:World)(h:Lib.IsBuilder 81 5 B b bs w)(hlen:bs.length+s.size<=140737488355328)(hBw:B<=w.heap.size):
  Calls Tryz.prog 24 #[.pointer (some ⟨b,0,none⟩),.string s] w fun e w'=>e=.returned (.tuple #[.int .i64 s.size,.nilIface])/\Lib.BuilderAt 81 5 B b (.pointer (some ⟨b,0,none⟩)) (bs++Lib.strCells s) w'/\Below B w w':=by
 obtain ⟨i0,hi,hz0,hz1,hz2⟩:=info_parts (show(Tryz.prog.info? 5).map (fun i=>(i.zero,i.size,i.bytes))=some (some (.int .u8 0),1,1)by kernel_rfl)
 go_enter Tryz.func24,Tryz.ntmps24
 go_wp2_with (go_at_call 64;refine(Ul B b bs _ h).mono ?_)
 rintro e w1 ⟨rfl,h1,hb1⟩;obtain⟨hB,v,hbk,hown,hne⟩:=h1;have c0:w1.cell? ⟨b,0,none⟩=some (.pointer (some ⟨b,0,none⟩)):=Lib.cell_of_heap hbk 0;have c1:w1.cell? ⟨b,1,none⟩=some v:=Lib.cell_of_heap hbk 1;have hs1:=hb1.size
 go_wp2_with (at_builtin;refine Lib.wpList_append_own_string _ rfl _ _ 79 9 rfl B 5 i0 (by kernel_rfl) (by kernel_rfl) hi hz0 hz1 hz2 _ _ _ rfl hown s rfl (by unfold maxLen;omega) (by omega) (by omega) ?_)
 intro v' w2 hown' hgrow _;have hlt:b<w1.heap.size:=(Array.getElem?_eq_some_iff.1 hbk).1;have hb2:w2.heap[b]?=some (.cells #[.pointer (some ⟨b,0,none⟩),v] 81 (0,0)):=(hgrow.block b hlt (fun e=>hne e.symm)).trans hbk;have d0:w2.cell? ⟨b,0,none⟩=some (.pointer (some ⟨b,0,none⟩)):=Lib.cell_of_heap hb2 0;have d1:w2.cell? ⟨b,1,none⟩=some v:=Lib.cell_of_heap hb2 1;have f1:w2.frozen? ⟨b,1,none⟩=false:=Lib.frozen_of_heap hb2 1;obtain⟨ao,n',cap,rfl⟩:∃ao n' cap,v'=.slice ao n' cap:=by
  rcases hown'.2 with⟨hv,_⟩|⟨g,cap,cur,hv,_⟩
  .exact⟨_,_,_,hv⟩
  .exact⟨_,_,_,hv⟩
 go_wp2
 go_ret2
 refine ⟨rfl,Lib.BuilderAt.put hB hb2 (bs':=bs++Lib.strCells s) (by simpa[Lib.strCells_length]using hown') (by decide),?_⟩;exact(hb1.grown hgrow (by omega) (fun k hk=>(hown.lt k hk).1)).setCell (p:=⟨b,1,none⟩) hB _
end
end Go.Sf
namespace Go.Sf.Sc
open Go Go.Sf Go.Proofs.Tryz
open Go.RowKit (Below)
open Go.Proofs
theorem X8{T e:TypeId}{b:Nat}{bs:List Value}{B:Nat}{W W':World}(h:Go.Lib.IsBuilder T e B b bs W)(hk:∀k,k<W.heap.size->W'.heap[k]?=W.heap[k]?):Go.Lib.IsBuilder T e B b bs W':=by
 have key:∀p,Go.Lib.BuilderAt T e B b p bs W->Go.Lib.BuilderAt T e B b p bs W':=by
  rintro p ⟨hB,v,hb,ho,hn⟩;refine⟨hB,v,(hk b (Array.getElem?_eq_some_iff.1 hb).1).trans hb,⟨ho.1,?_⟩,hn⟩;rcases ho.2 with h1|⟨g,cap,cur,h1,h2,h3,h4⟩
  .exact .inl h1
  .exact .inr ⟨g,cap,cur,h1,h2,(hk g (Array.getElem?_eq_some_iff.1 h3).1).trans h3,h4⟩
 exact h.imp (key _) (key _)
theorem Mp{w:World}{F:Nat->Nat->Prop}{l:Fp}{v:Value}(h:AS w F (eL 1 eI l) v):∃a cap,v=.slice a l.length cap:=by
 simp only[eL,AS,fd]at h;obtain⟨a,cap,rfl,_⟩:=h;exact⟨a,cap,rfl⟩
theorem Py{w:World}{F:Nat->Nat->Prop}{b:Nat}:∀(ms:List BW)(o:Nat),D3 w F 4 (ms.map Dp) b o->∀(j:Nat)(m:BW),ms[j]?=some m ->
  ∃a1 n1 a2 n2 a3 n3,w.cell? ⟨b,o+j*4,none⟩=some (.int .i64 m.ns)/\w.cell? ⟨b,o+j*4+1,none⟩=some (.slice a1 m.kx.gt.fq.length n1)/\w.cell? ⟨b,o+j*4+2,none⟩=some (.slice a2 m.kx.gt.jj.length n2)/\w.cell? ⟨b,o+j*4+3,none⟩=some (.slice a3 m.kx.qy.length n3)/\
   AS w F (eL 1 eI m.kx.gt.fq) (.slice a1 m.kx.gt.fq.length n1)/\AS w F (eL 1 eI m.kx.gt.jj) (.slice a2 m.kx.gt.jj.length n2)/\AS w F (eL 1 eI m.kx.qy) (.slice a3 m.kx.qy.length n3)
 |[],_,_,j,m,hj=>by simp at hj|z::zs,o,h,0,m,hj=>by
  simp only[List.getElem?_cons_zero,rC]at hj;subst hj;simp only[List.map_cons,D3,Dp,Ed,CF]at h;obtain⟨⟨⟨v0,f0,_,_,r0⟩,⟨v1,f1,_,_,r1⟩,⟨v2,f2,_,_,r2⟩,⟨v3,f3,_,_,r3⟩,_⟩,_⟩:=h;simp only[eI,AS]at r0;subst r0;obtain⟨a1,n1,rfl⟩:=Mp r1;obtain⟨a2,n2,rfl⟩:=Mp r2;obtain⟨a3,n3,rfl⟩:=Mp r3;exact⟨a1,n1,a2,n2,a3,n3,f0,f1,f2,f3,r1,r2,r3⟩
 |z::zs,o,h,j+1,m,hj=>by
  simp only[List.map_cons,D3]at h;have:=Py zs (o+4) h.2.2 j m (by simpa using hj);have e:o+4+j*4=o+(j+1)*4:=by omega
  rwa [e]at this
theorem K9{f:FuncId}{ts:Fq}{b:Bool}(h:AH Go.Proofs.Tryz.prog f ts (.sh (eB b)))(hw:TV.rI ts)(w:World)(ht:IU w)(vs:Array Value)(hr:AI w (fun _ _=>False) ts vs.toList):Calls Go.Proofs.Tryz.prog f vs w fun e w'=>e=.returned (.bool b)/\Below w.heap.size w w':=by
 obtain ⟨_,h2⟩:=h.vk rfl hw;refine(h2 _ w vs hr ht).2.mono ?_;rintro e w' ⟨v,rfl,h3,h4⟩;simp only[CJ,eB,AS]at h4;exact⟨by rw[h4],h3⟩
theorem Rj{f:FuncId}{ts:Fq}{b:ByteArray}(h:AH Go.Proofs.Tryz.prog f ts (.sh (eS b)))(hw:TV.rI ts)(w:World)(ht:IU w)(vs:Array Value)(hr:AI w (fun _ _=>False) ts vs.toList):Calls Go.Proofs.Tryz.prog f vs w fun e w'=>e=.returned (.string b)/\Below w.heap.size w w':=by
 obtain ⟨_,h2⟩:=h.vk rfl hw;refine(h2 _ w vs hr ht).2.mono ?_;rintro e w' ⟨v,rfl,h3,h4⟩;simp only[CJ,eS,AS]at h4;exact⟨by rw[h4],h3⟩
theorem Dm{w W:World}(ht:IU w)(hb:Below w.heap.size w W):IU W:=ht.pr fun b h=>hb.block b (Nat.lt_of_lt_of_le h ht.lt)
theorem IL{w W:World}{F:Nat->Nat->Prop}(hb:Below w.heap.size w W){t:TV}{v:Value}(h:AS w F t v):AS W (fun _ _=>False) t v:=
 BP (fun b o _ hc _=>⟨(hb.cell (p:=⟨b,o,none⟩) (World.block_lt_of_cell? w ⟨b,o,none⟩ hc)).trans hc,id⟩) _ _ h
theorem Sr{W:World}{t:TV}{v:Value}{lo:Int}(h:AS W (fun _ _=>False) t v):AI W (fun _ _=>False) [t,eI lo] [v,.int .i64 lo]:=by
 simp only[AI,eI];exact⟨_,_,rfl,h,_,_,rfl,by simp only[AS],rfl⟩
theorem Sp{W:World}{t:TV}{v:Value}(h:AS W (fun _ _=>False) t v):AI W (fun _ _=>False) [t] [v]:=by
 simp only[AI];exact⟨_,_,rfl,h,rfl⟩
theorem dn{α:Type}{c:Prop}[Decidable c]{a b:α}(h:(if c then some a else none)=some b):c/\a=b:=by
 split at h
 .rename_i hc;exact⟨hc,Option.some.inj h⟩
 .cases h
theorem WQ{m:BW}{o:ByteArray}(h:HE m=some o):o.size<=10000/\
  ∃s t u v,strconv_Itoa m.ns=some s/\BL m.kx.gt.fq=some t/\BL m.kx.gt.jj=some u/\BL m.kx.qy=some v/\o=((((((((⟨#[109,111,118,101,32]⟩:ByteArray)++s)++(⟨#[32]⟩:ByteArray))++t)++(⟨#[32]⟩:ByteArray))++u)++(⟨#[32]⟩:ByteArray))++v)++(⟨#[32,59,10]⟩:ByteArray):=by
 unfold HE at h;obtain⟨s,h4,h⟩:=bind_some h;obtain⟨t,h5,h⟩:=bind_some h;obtain⟨u,h6,h⟩:=bind_some h;obtain⟨v,h7,h⟩:=bind_some h;obtain⟨h8,h9⟩:=dn h;exact⟨h9▸h8,s,t,u,v,h4,h5,h6,h7,h9.symm⟩
theorem R9{σ ρ:Type}(L:Fp)(c:Int->Bool)(g:Int->ρ)(st:σ)(f:Int->σ->Option (B2 σ ρ))(hf:∀(i:Nat)(x:Int),L[i]?=some x->f i st=some (if c x=true then .ret (g i)else .next st)):
  ∀(n i:Nat),i+n=L.length->∃o,rX f n i st=some o/\((∃j:Nat,i<=j/\o=.inr (g j))/\(L.drop i).any c=true\/o=.inl st/\(L.drop i).any c=false)
 |0,i,h=>⟨_,rfl,.inr ⟨rfl,by rw[List.drop_of_length_le (by omega)];rfl⟩⟩|n+1,i,h=>by
  have hi:i<L.length:=by omega
  rw [rX,hf i _ (List.getElem?_eq_getElem hi),List.drop_eq_getElem_cons hi,List.any_cons];cases hc:c L[i]with
  |true=>exact⟨_,rfl,.inl ⟨⟨i,ca _,rfl⟩,rfl⟩⟩|false=>
   obtain ⟨o,h1,h2⟩:=R9 L c g st f hf n (i+1) (by omega);refine⟨o,by simpa using h1,?_⟩;rcases h2 with⟨⟨j,h3,h4⟩,h5⟩|h5
   .exact .inl ⟨⟨j,by omega,h4⟩,by simpa using h5⟩
   .exact .inr ⟨h5.1,by simpa using h5.2⟩
theorem RZ[Ev](l:Fp)(low:Int):Ck l low=some (Ef l low):=by
 have key:=R9 (ρ:=Int) l (fun n=>decide (n<low)||decide (999999999<n)) (fun i=>i) () (fun(i0:Int)(_:Unit)=>(idx l i0).bind fun x14=>(Cs x14 low).bind fun x16=>if x16=true then some (.ret i0)else some (.next ())) (fun i x hx=>by
  have:idx l i=some x:=by simp[idx,hx]
  rw [this];simp only[Option.bind_some,Cs];split<;>rfl) l.length 0 (by omega)
 obtain ⟨o,h1,h2⟩:=key;unfold Ck Aq CQ;have e:rb (ρ:=Int) (fun(i0:Int)(_:Unit)=>(idx l i0).bind fun x14=>(Cs x14 low).bind fun x16=>if x16=true then some (.ret i0)else some (.next ())) 0 (l.length:Int) ()=some o:=by
  unfold rb;simpa using h1
 rw [e];unfold Ef;rcases h2 with⟨⟨j,h3,rfl⟩,h5⟩|⟨rfl,h5⟩
 .rw[List.drop_zero]at h5;rw[h5];simp[o4]
 .rw[List.drop_zero]at h5;rw[h5];simp[o4]
theorem Az{B:Nat}{w W W':World}(h:Below B w W)(hB:B<=W.heap.size)(k:Below W.heap.size W W'):Below B w W':=
 h.trans ⟨k.os,k.tape,k.output,k.size,fun j hj=>k.block j (Nat.lt_of_lt_of_le hj hB)⟩
theorem Vo(x:Int)(h:-999999999<=x/\x<100):(eI x).WF:=by
 simp only[eI,TV.WF,show IntKind.min .i64=-9223372036854775808 from rfl,show IntKind.max .i64=9223372036854775807 from rfl];omega
theorem Su(W:World)(x lo:Int)(b:Nat)(hb:b=W.heap.size):AI (W.alloc (.cells #[.int .i64 x] 3)) (fun _ _=>False) [eL 1 eI [x],eI lo] [.slice (some ⟨b,0,none⟩) 1 1,.int .i64 lo]:=by
 subst hb;have h:(W.alloc (.cells #[.int .i64 x] 3)).cell? ⟨W.heap.size,0,none⟩=some (.int .i64 x):=Go.Lib.cell_of_heap (heap_alloc_new W _) 0;simp only[AI,eL,eI,AS,List.map_cons,List.map_nil,D3,Ed,TV.cells];refine⟨_,_,rfl,⟨_,1,rfl,by simp,by simp,?_⟩,_,_,rfl,rfl,rfl⟩;rintro ad e;cases e;exact⟨.inr rfl,⟨_,h,id,rfl,rfl⟩,rfl,trivial⟩
theorem b6{d:AL}(hw:TV.rI [BF d]){m:BW}(hm:m∈d.po):(eI m.ns).WF/\(eL 1 eI m.kx.gt.fq).WF/\(eL 1 eI m.kx.gt.jj).WF/\(eL 1 eI m.kx.qy).WF:=by
 have h1:TV.rI (d.po.map Dp):=by
  simp only[BF,TV.rI,TV.WF,eL]at hw;exact hw.1.2.2.2.1.2
 have h2:=BA.1 h1 _ (List.mem_map_of_mem hm);simp only[Dp,TV.WF,TV.rI]at h2;exact⟨h2.1,h2.2.1,h2.2.2.1,h2.2.2.2.1⟩
theorem X7{T e:TypeId}{b:Nat}{bs:List Value}{B B':Nat}{W:World}(hB:B'<=B)(h:Go.Lib.IsBuilder T e B b bs W):Go.Lib.IsBuilder T e B' b bs W:=by
 have key:∀p,Go.Lib.BuilderAt T e B b p bs W->Go.Lib.BuilderAt T e B' b p bs W:=by
  rintro p ⟨h1,v,hb,ho,hn⟩;refine⟨Nat.le_trans hB h1,v,hb,⟨ho.1,?_⟩,hn⟩;rcases ho.2 with h1|⟨g,cap,cur,h1,h2,h3,h4⟩
  .exact .inl h1
  .exact .inr ⟨g,cap,cur,h1,Nat.le_trans hB h2,h3,h4⟩
 exact h.imp (key _) (key _)
theorem bA(l:List UInt8):DZ [] l=some (l,0):=rfl
theorem SV(m:BW)(r:List BW)(l:List UInt8):DZ (m::r) l=if B1 m=0 then(HE m).bind fun o=>DZ r (l++o.data.toList)else some ([],B1 m):=rfl
theorem UB:∀(ms:List BW)(l:List UInt8)(p:List UInt8×Int),DZ ms l=some p->p.1.length<=l.length+10000*ms.length/\(p.2=0\/p.2=3\/p.2=6)
 |[],l,p,h=>by
  cases h;exact⟨by simp,.inl rfl⟩
 |m::r,l,p,h=>by
  rw [SV]at h;split at h
  .obtain⟨o,h1,h2⟩:=bind_some h;obtain⟨h3,h4⟩:=UB r _ p h2;have:=(WQ h1).1;have e:o.data.toList.length=o.size:=(Go.Lib.size_eq o).symm;rw[ci]at h3;rw[ez];exact⟨by omega,h4⟩
  .cases h;refine⟨by simp,?_⟩;unfold B1 at *
   grind
theorem Tr{d:AL}{w:World}{F:Nat->Nat->Prop}{vs:Array Value}(h:AI w F [BF d] vs.toList):∃n e vl am cap,vs=#[.agg #[n,e,vl,.slice am d.po.length cap]]/\
  ∀(i:Nat)(m:BW),d.po[i]?=some m->∃bm om,am=some ⟨bm,om,none⟩/\∃a1 n1 a2 n2 a3 n3,w.cell? ⟨bm,om+i*4,none⟩=some (.int .i64 m.ns)/\w.cell? ⟨bm,om+i*4+1,none⟩=some (.slice a1 m.kx.gt.fq.length n1)/\w.cell? ⟨bm,om+i*4+2,none⟩=some (.slice a2 m.kx.gt.jj.length n2)/\w.cell? ⟨bm,om+i*4+3,none⟩=some (.slice a3 m.kx.qy.length n3)/\
   AS w F (eL 1 eI m.kx.gt.fq) (.slice a1 m.kx.gt.fq.length n1)/\AS w F (eL 1 eI m.kx.gt.jj) (.slice a2 m.kx.gt.jj.length n2)/\AS w F (eL 1 eI m.kx.qy) (.slice a3 m.kx.qy.length n3):=by
 simp only[AI,BF]at h;obtain⟨v,r,h1,h0,rfl⟩:=h;rw[AS]at h0;obtain⟨us,rfl,h0,_⟩:=h0;simp only[AI]at h0;obtain⟨n,r1,h2,_,e,r2,rfl,_,vl,r3,rfl,_,mv,r4,rfl,hmv,rfl⟩:=h0;simp only[eL,AS,fd]at hmv;obtain⟨a,cap,rfl,h3,h4,h5⟩:=hmv;refine⟨n,e,vl,a,cap,?_,fun i m hm=>?_⟩
 .have h8:us=#[n,e,vl,.slice a d.po.length cap]:=by
   rw [<-Array.toList_inj,h2]
  subst h8;rw[<-Array.toList_inj,h1]
 .have hne:d.po.map Dp≠[]:=fun e=>by
   rw [List.map_eq_nil_iff.1 e]at hm;simp at hm
  cases a with
  |none=>exact absurd (h4 rfl) hne|some ad=>
   obtain ⟨h6,h7⟩:=h5 ad rfl;obtain⟨bm,om,sp⟩:=ad;have:sp=none:=h6.resolve_left hne;subst this;exact⟨bm,om,rfl,Py _ _ h7 i m hm⟩
theorem dN[Ev](s81:∀l low b,Ck l low=some b->AH Go.Proofs.Tryz.prog 23 [eL 1 eI l,eI low] (.sh (eB b)))(s83:∀i s,strconv_Itoa i=some s->AH Go.Proofs.Tryz.prog 25 [eI i] (.sh (eS s)))
  (s84:∀l s,BL l=some s->AH Go.Proofs.Tryz.prog 26 [eL 1 eI l] (.sh (eS s)))(d:AL)(p:List UInt8×Int)(hl:d.po.length<=30)(htx:DZ d.po []=some p):AH Go.Proofs.Tryz.prog 7 [BF d] (.tp [eS ⟨p.1.toArray⟩,eI p.2]):=by
 refine AH.vg (fun hw=>⟨by kernel_rfl,fun F0 w vs hrep ht=>?_⟩) rfl;obtain⟨n,e,vl,am,cap,rfl,hmv⟩:=Tr hrep;obtain⟨hz1,hz2⟩:=UB _ _ _ htx;refine⟨⟨?_,Vo p.2 (by omega),trivial⟩,?_⟩
 .show p.1.toArray.size<=Dy;unfold Dy;simp only[List.size_toArray];simp only[List.length_nil]at hz1;omega
 go_enter Go.Proofs.Tryz.func7,Go.Proofs.Tryz.ntmps7
 have hstart:Go.Lib.IsBuilder 81 5 w.heap.size (w.heap.size+1) (Go.Lib.byteCells []) ((w.alloc (.cells #[n,e,vl,.slice am d.po.length cap] 31)).alloc (.cells #[.pointer none,.slice none 0 0] 81)):=by
  have:=Go.Lib.fresh_isBuilder 81 5 (w.alloc (.cells #[n,e,vl,.slice am d.po.length cap] 31));have hs:(w.alloc (.cells #[n,e,vl,.slice am d.po.length cap] 31)).heap.size=w.heap.size+1:=Array.size_push _;rw[hs]at this;exact X7 (Nat.le_succ _) this
 have hb0:Below w.heap.size w ((w.alloc (.cells #[n,e,vl,.slice am d.po.length cap] 31)).alloc (.cells #[.pointer none,.slice none 0 0] 81)):=((Below.refl _ w).alloc (ca _) _).alloc (by rw[show(w.alloc _).heap.size=_ from Array.size_push _];omega) _
 go_wp2
 go_loopw [17] (fun vm wr=>∃(i:Nat)(l:List UInt8),vm=.int .i64 i/\i<=d.po.length/\DZ (d.po.drop i) l=some p/\l.length<=10000*i/\Go.Lib.IsBuilder 81 5 w.heap.size (w.heap.size+1) (Go.Lib.byteCells l) wr/\Below w.heap.size w wr)
  (fun vm _=>match vm with|.int _ x=>d.po.length-x.toNat|_=>0)
 case atStart=>
  refine ⟨0,[],rfl,Nat.zero_le _,htx,ca _,?_,?_⟩
  .exact hstart
  .exact hb0
 case round=>
  obtain ⟨i,l,rfl,hi,hml,hll,hib,hbel⟩:=hrel;by_cases hlt:i<d.po.length
  .obtain⟨m,hm⟩:∃m,d.po[i]?=some m:=⟨_,List.getElem?_eq_getElem hlt⟩;obtain⟨bm,om,rfl,a1,n1,a2,n2,a3,n3,f0,f1,f2,f3,r1,r2,r3⟩:=hmv i m hm;have hdr:d.po.drop i=m::d.po.drop (i+1):=by
    rw [List.drop_eq_getElem_cons hlt];congr 1;rw[List.getElem?_eq_getElem hlt]at hm;exact Option.some.inj hm
   rw [hdr,SV]at hml;obtain⟨wf0,wf1,wf2,wf3⟩:=b6 hw (List.mem_of_getElem? hm);have hbm:bm<w.heap.size:=World.block_lt_of_cell? w ⟨bm,_,none⟩ f0;replace f0:=(hbel.cell (p:=⟨bm,_,none⟩) hbm).trans f0;replace f1:=(hbel.cell (p:=⟨bm,_,none⟩) hbm).trans f1;replace f2:=(hbel.cell (p:=⟨bm,_,none⟩) hbm).trans f2;replace f3:=(hbel.cell (p:=⟨bm,_,none⟩) hbm).trans f3;have w0:(eI 0).WF:=Vo 0 (by omega);have w9:(eI (-999999999)).WF:=Vo _ (by omega)
   go_wp2
   go_quiet (fail)
   obtain ⟨W1,hW1⟩:∃W:World,W=(wr.alloc (.cells #[.int .i64 m.ns,.slice a1 m.kx.gt.fq.length n1,.slice a2 m.kx.gt.jj.length n2,.slice a3 m.kx.qy.length n3] 77)).drewN nq:=⟨_,rfl⟩;rw[<-hW1];have hb1:Below wr.heap.size wr W1:=by
    rw [hW1];exact((Below.refl _ wr).alloc (ca _) _).trans ⟨rfl,rfl,rfl,ca _,fun _ _=>rfl⟩
   have hz1:W1.heap.size=wr.heap.size+1:=by
    rw [hW1];exact Array.size_push _
   have g0:W1.cell? ⟨wr.heap.size,0,none⟩=some (.int .i64 m.ns):=by
    rw [hW1];exact Go.Lib.cell_of_heap (w:=(wr.alloc _).drewN nq) (heap_alloc_new wr _) 0
   clear hW1;have hbw:=Az hbel hbel.size hb1;have bad3:(40<m.kx.gt.fq.length\/80<m.kx.gt.jj.length\/12<m.kx.qy.length)->p=([],3):=fun h=>by
    have he:B1 m=3:=az h;rw[he,bk (by decide)]at hml;exact(Option.some.inj hml).symm
   by_cases hA:40<m.kx.gt.fq.length
   .have h3:=bad3 (.inl hA)
    go_wp2
    go_ret2
    refine ⟨_,rfl,hbw,?_⟩
    try rw[h3]
    simp only[CJ,eS,eI];exact⟨_,rfl,_,_,rfl,rfl,_,_,rfl,rfl,rfl⟩
   by_cases hB:80<m.kx.gt.jj.length
   .have h3:=bad3 (.inr (.inl hB))
    go_wp2
    go_ret2
    refine ⟨_,rfl,hbw,?_⟩
    try rw[h3]
    simp only[CJ,eS,eI];exact⟨_,rfl,_,_,rfl,rfl,_,_,rfl,rfl,rfl⟩
   by_cases hC:12<m.kx.qy.length
   .have h3:=bad3 (.inr (.inr hC))
    go_wp2
    go_ret2
    refine ⟨_,rfl,hbw,?_⟩
    try rw[h3]
    simp only[CJ,eS,eI];exact⟨_,rfl,_,_,rfl,rfl,_,_,rfl,rfl,rfl⟩
   have hABC:¬(40<m.kx.gt.fq.length\/80<m.kx.gt.jj.length\/12<m.kx.qy.length):=by omega
   have bad6:(Ef [m.ns] 0=true\/Ef m.kx.gt.fq 0=true\/Ef m.kx.gt.jj 0=true\/Ef m.kx.qy (-999999999)=true)->p=([],6):=fun h=>by
    have he:B1 m=6:=by unfold B1;rw[bk hABC,az h]
    rw [he,bk (by decide)]at hml;exact(Option.some.inj hml).symm
   have o0:=RZ [m.ns] 0;have o1:=RZ m.kx.gt.fq 0;have o2:=RZ m.kx.gt.jj 0;have o3:=RZ m.kx.qy (-999999999);have wfr:(eL 1 eI [m.ns]).WF:=⟨by simp[Dy],wf0,trivial⟩;have rep2:∀{W:World},Below w.heap.size w W->AI W (fun _ _=>False) [eL 1 eI m.kx.gt.fq,eI 0] [.slice a1 m.kx.gt.fq.length n1,.int .i64 0]:=fun hb=>Sr (IL hb r1);have rep3:∀{W:World},Below w.heap.size w W->AI W (fun _ _=>False) [eL 1 eI m.kx.gt.jj,eI 0] [.slice a2 m.kx.gt.jj.length n2,.int .i64 0]:=fun hb=>Sr (IL hb r2);have rep4:∀{W:World},Below w.heap.size w W->AI W (fun _ _=>False) [eL 1 eI m.kx.qy,eI (-999999999)] [.slice a3 m.kx.qy.length n3,.int .i64 (-999999999)]:=fun hb=>Sr (IL hb r3);have hbA:=Az hbw hbw.size (show Below W1.heap.size W1 (W1.alloc (.cells #[.int .i64 m.ns] 3))from(Below.refl _ W1).alloc (ca _) _);cases c0:Ef [m.ns] 0 with
   |true=>
    have h6:=bad6 (.inl c0);rw[c0]at o0
    go_wp2_with (go_at_call 23;refine(K9 (s81 _ _ _ o0) ⟨wfr,w0,trivial⟩ _ (Dm ht hbA) _ (Su _ _ _ _ hz1.symm)).mono ?_)
    rintro e W2 ⟨rfl,k⟩
    go_wp2
    go_ret2
    refine ⟨_,rfl,Az hbA hbA.size k,?_⟩
    try rw[h6]
    simp only[CJ,eS,eI];exact⟨_,rfl,_,_,rfl,rfl,_,_,rfl,rfl,rfl⟩
   |false=>
    rw [c0]at o0
    go_wp2_with (go_at_call 23;refine(K9 (s81 _ _ _ o0) ⟨wfr,w0,trivial⟩ _ (Dm ht hbA) _ (Su _ _ _ _ hz1.symm)).mono ?_)
    rintro e W2 ⟨rfl,k⟩;cases c1:Ef m.kx.gt.fq 0 with
    |true=>
     have h6:=bad6 (.inr (.inl c1));rw[c1]at o1
     go_wp2_with (go_at_call 23;refine(K9 (s81 _ _ _ o1) ⟨wf1,w0,trivial⟩ _ (Dm ht (Az hbA hbA.size k)) _ (rep2 (Az hbA hbA.size k))).mono ?_)
     rintro e W ⟨rfl,x⟩;replace k:=Az k k.size x
     go_wp2
     go_ret2
     refine ⟨_,rfl,Az hbA hbA.size k,?_⟩
     try rw[h6]
     simp only[CJ,eS,eI];exact⟨_,rfl,_,_,rfl,rfl,_,_,rfl,rfl,rfl⟩
    |false=>
     rw [c1]at o1
     go_wp2_with (go_at_call 23;refine(K9 (s81 _ _ _ o1) ⟨wf1,w0,trivial⟩ _ (Dm ht (Az hbA hbA.size k)) _ (rep2 (Az hbA hbA.size k))).mono ?_)
     rintro e W ⟨rfl,x⟩;replace k:=Az k k.size x;cases c2:Ef m.kx.gt.jj 0 with
     |true=>
      have h6:=bad6 (.inr (.inr (.inl c2)));rw[c2]at o2
      go_wp2_with (go_at_call 23;refine(K9 (s81 _ _ _ o2) ⟨wf2,w0,trivial⟩ _ (Dm ht (Az hbA hbA.size k)) _ (rep3 (Az hbA hbA.size k))).mono ?_)
      rintro e W ⟨rfl,x⟩;replace k:=Az k k.size x
      go_wp2
      go_ret2
      refine ⟨_,rfl,Az hbA hbA.size k,?_⟩
      try rw[h6]
      simp only[CJ,eS,eI];exact⟨_,rfl,_,_,rfl,rfl,_,_,rfl,rfl,rfl⟩
     |false=>
      rw [c2]at o2
      go_wp2_with (go_at_call 23;refine(K9 (s81 _ _ _ o2) ⟨wf2,w0,trivial⟩ _ (Dm ht (Az hbA hbA.size k)) _ (rep3 (Az hbA hbA.size k))).mono ?_)
      rintro e W ⟨rfl,x⟩;replace k:=Az k k.size x;cases c3:Ef m.kx.qy (-999999999)with
      |true=>
       have h6:=bad6 (.inr (.inr (.inr c3)));rw[c3]at o3
       go_wp2_with (go_at_call 23;refine(K9 (s81 _ _ _ o3) ⟨wf3,w9,trivial⟩ _ (Dm ht (Az hbA hbA.size k)) _ (rep4 (Az hbA hbA.size k))).mono ?_)
       rintro e W ⟨rfl,x⟩;replace k:=Az k k.size x
       go_wp2
       go_ret2
       refine ⟨_,rfl,Az hbA hbA.size k,?_⟩
       try rw[h6]
       simp only[CJ,eS,eI];exact⟨_,rfl,_,_,rfl,rfl,_,_,rfl,rfl,rfl⟩
      |false=>
       rw [c3]at o3
       go_wp2_with (go_at_call 23;refine(K9 (s81 _ _ _ o3) ⟨wf3,w9,trivial⟩ _ (Dm ht (Az hbA hbA.size k)) _ (rep4 (Az hbA hbA.size k))).mono ?_)
       rintro e W ⟨rfl,x⟩;replace k:=Az k k.size x;have he:B1 m=0:=by unfold B1;rw[bk hABC,bk (by rw[c0,c1,c2,c3];decide)]
       rw [he,az rfl]at hml;obtain⟨o,ho,hml⟩:=bind_some hml;obtain⟨hos,s,t,u,v,hs,htt,hu,hv,rfl⟩:=WQ ho;have kA:Below W1.heap.size W1 (W1.alloc (.cells #[.int .i64 m.ns] 3)):=(Below.refl _ W1).alloc (ca _) _;replace k:=Az kA kA.size k;have g5:=(k.cell (p:=⟨wr.heap.size,0,none⟩) (by show wr.heap.size<W1.heap.size;omega)).trans g0;have hos':=hos;simp only[ByteArray.size_append]at hos';have q0:=fun W=>run_string_add_sum (P:=Go.Proofs.Tryz.prog) W (⟨#[109,111,118,101,32]⟩:ByteArray) s (by omega);have q1:=fun W=>run_string_add_sum (P:=Go.Proofs.Tryz.prog) W ((⟨#[109,111,118,101,32]⟩:ByteArray)++s) (⟨#[32]⟩:ByteArray) (by simp only[ByteArray.size_append];omega);have q2:=fun W=>run_string_add_sum (P:=Go.Proofs.Tryz.prog) W (((⟨#[109,111,118,101,32]⟩:ByteArray)++s)++(⟨#[32]⟩:ByteArray)) t (by simp only[ByteArray.size_append];omega);have q3:=fun W=>run_string_add_sum (P:=Go.Proofs.Tryz.prog) W ((((⟨#[109,111,118,101,32]⟩:ByteArray)++s)++(⟨#[32]⟩:ByteArray))++t) (⟨#[32]⟩:ByteArray) (by simp only[ByteArray.size_append];omega);have q4:=fun W=>run_string_add_sum (P:=Go.Proofs.Tryz.prog) W (((((⟨#[109,111,118,101,32]⟩:ByteArray)++s)++(⟨#[32]⟩:ByteArray))++t)++(⟨#[32]⟩:ByteArray)) u (by simp only[ByteArray.size_append];omega);have q5:=fun W=>run_string_add_sum (P:=Go.Proofs.Tryz.prog) W ((((((⟨#[109,111,118,101,32]⟩:ByteArray)++s)++(⟨#[32]⟩:ByteArray))++t)++(⟨#[32]⟩:ByteArray))++u) (⟨#[32]⟩:ByteArray) (by simp only[ByteArray.size_append];omega);have q6:=fun W=>run_string_add_sum (P:=Go.Proofs.Tryz.prog) W (((((((⟨#[109,111,118,101,32]⟩:ByteArray)++s)++(⟨#[32]⟩:ByteArray))++t)++(⟨#[32]⟩:ByteArray))++u)++(⟨#[32]⟩:ByteArray)) v (by simp only[ByteArray.size_append];omega);have q7:=fun W=>run_string_add_sum (P:=Go.Proofs.Tryz.prog) W ((((((((⟨#[109,111,118,101,32]⟩:ByteArray)++s)++(⟨#[32]⟩:ByteArray))++t)++(⟨#[32]⟩:ByteArray))++u)++(⟨#[32]⟩:ByteArray))++v) (⟨#[32,59,10]⟩:ByteArray) (by simp only[ByteArray.size_append];omega)
       go_wp2_with (go_at_call 25;refine(Rj (s83 _ _ hs) ⟨wf0,trivial⟩ _ (Dm ht (Az hbw hbw.size k)) _ ⟨_,_,rfl,rfl,rfl⟩).mono ?_)
       rintro e W ⟨rfl,x⟩;replace k:=Az k k.size x
       go_wp2_with (go_at_call 26;refine(Rj (s84 _ _ htt) ⟨wf1,trivial⟩ _ (Dm ht (Az hbw hbw.size k)) _ (Sp (IL (Az hbw hbw.size k) r1))).mono ?_)
       rintro e W ⟨rfl,x⟩;replace k:=Az k k.size x
       go_wp2_with (go_at_call 26;refine(Rj (s84 _ _ hu) ⟨wf2,trivial⟩ _ (Dm ht (Az hbw hbw.size k)) _ (Sp (IL (Az hbw hbw.size k) r2))).mono ?_)
       rintro e W ⟨rfl,x⟩;replace k:=Az k k.size x
       go_wp2_with (go_at_call 26;refine(Rj (s84 _ _ hv) ⟨wf3,trivial⟩ _ (Dm ht (Az hbw hbw.size k)) _ (Sp (IL (Az hbw hbw.size k) r3))).mono ?_)
       rintro e W ⟨rfl,x⟩;replace k:=Az k k.size x;have k9':=Az hb1 hb1.size k;have hib9:=X8 hib k9'.block;have hbel9:=Az hbel hbel.size k9'
       go_wp2_with (go_at_call 24;refine(TI w.heap.size (w.heap.size+1) _ _ _ hib9 (by rw[Go.Lib.byteCells_length];omega) hbel9.size).mono ?_)
       rintro e W10 ⟨rfl,h10,k10⟩;rw[Go.Lib.strCells_eq,<-Go.Lib.byteCells_append]at h10;have hbel10:=hbel9.trans k10
       go_wp2
       go_roundw
       case rel=>exact⟨i+1,_,by rw[Int.natCast_add];rfl,hlt,hml,by rw[ci,show(_:List UInt8).length=_ from(Go.Lib.size_eq _).symm];omega,.inr h10,hbel10⟩
       case measure=>
        show d.po.length-((i:Int)+1).toNat<d.po.length-(i:Int).toNat
        omega
  .have hmn:i=d.po.length:=by omega
   subst hmn;rw[List.drop_length,bA]at hml;have hp:p=(l,0):=(Option.some.inj hml).symm;subst hp
   go_wp2_with (go_at_call 27;refine(Go.Proofs.Tryz.Builder_String_any w.heap.size (w.heap.size+1) l _ hib hbel.size).mono ?_)
   rintro e W4 rfl b4
   go_wp2
   go_ret2
   refine ⟨_,rfl,hbel.trans b4,?_⟩;simp only[CJ,eS,eI];exact⟨_,rfl,_,_,rfl,rfl,_,_,rfl,rfl,rfl⟩
theorem SG[Ev](s81:∀l low b,Ck l low=some b->AH Go.Proofs.Tryz.prog 23 [eL 1 eI l,eI low] (.sh (eB b)))(s83:∀i s,strconv_Itoa i=some s->AH Go.Proofs.Tryz.prog 25 [eI i] (.sh (eS s)))
  (s84:∀l s,BL l=some s->AH Go.Proofs.Tryz.prog 26 [eL 1 eI l] (.sh (eS s)))(d:AL)(r:ByteArray×Int)(h:C1 d=some r):AH Go.Proofs.Tryz.prog 7 [BF d] (.tp [eS r.1,eI r.2]):=by
 unfold C1 at h;split at h
 .rename_i hc;cases hx:DZ d.po []with
  |none=>rw[hx]at h;cases h
  |some p=>rw[hx]at h;cases h;exact dN s81 s83 s84 d p hc hx
 .rename_i hc;cases h;refine AH.vg (fun hw=>⟨by kernel_rfl,fun F0 w vs hrep ht=>?_⟩) rfl;obtain⟨n,e,vl,am,cap,rfl,_⟩:=Tr hrep;refine⟨⟨Nat.zero_le _,Vo 3 (by omega),trivial⟩,?_⟩
  go_enter Go.Proofs.Tryz.func7,Go.Proofs.Tryz.ntmps7
  have hb:=(Below.refl w.heap.size w).alloc (ca _) (.cells #[n,e,vl,.slice am d.po.length cap] 31)
  go_wp2
  go_ret2
  refine ⟨_,rfl,hb,?_⟩;simp only[CJ,eS,eI];exact⟨_,rfl,_,_,rfl,rfl,_,_,rfl,rfl,rfl⟩
end Go.Sf.Sc
