/- derivation.Format, for moves without elements: a strings.Builder is written. -/
import Derived.Test.YthgbaecihlidaaaGreatDoorFns
import Derived.Test.YthgbaecihlidaaaGreatDoorTw
import Derived.Test.YthgbaecihlidaaaGreatDoorSfLib
import Derived.Shelf.Strings.Builder1
import Derived.BigCall
import Derived.BigGuard
import Derived.BigQuiet
import Derived.Deep.QuietTactic
set_option linter.all false
set_option maxRecDepth 100000
set_option maxHeartbeats 4000000
namespace Go.Sf
section
open Go.RowKit Go.Shelf Go.Proofs
theorem bV(B b:Nat)(bs:List Value)(w:World)(h:Lib.IsBuilder 125 5 B b bs w):
  Calls Tryz.prog 74 #[.pointer (some ⟨b,0,none⟩)] w fun e w'=>e=.returned (.tuple #[])/\Lib.BuilderAt 125 5 B b (.pointer (some ⟨b,0,none⟩)) bs w'/\Below B w w':=by
 obtain ⟨j,hj,hjs⟩:=Option.map_eq_some_iff.1 (show(Tryz.prog.info? 125).map (·.size)=some 2 by kernel_rfl);rcases h with h|h
 .have h0:=h.cell0;have hs:=h.shape;have hf:=h.frozen0;have c1:=Lib.run_to_unsafe (P:=Tryz.prog) (src:=123) (dst:=215) w ⟨b,0,none⟩ (by kernel_rfl) (by kernel_rfl) hj (by rw[hjs];decide) hs (Nat.zero_lt_succ 1);have c2:=Lib.run_from_unsafe (P:=Tryz.prog) (src:=215) (dst:=123) w ⟨b,0,none⟩ (by kernel_rfl) (by kernel_rfl) hj hs (by kernel_rfl);have c3:(callFunc 118 #[.pointer (some ⟨b,0,none⟩)]).run Tryz.prog w=.ok (.value (.pointer (some ⟨b,0,none⟩))) w:=by
   rw [run_callFunc_extern Tryz.func118 (by kernel_rfl) (by kernel_rfl) (by kernel_rfl) (e:=Extern.AbiNoEscape.same) (by kernel_rfl),Lib.run_noEscape];rfl
  go_enter Tryz.func74,Tryz.ntmps74
  go_wp2
  go_end0
  exact ⟨rfl,h.used _,(Below.refl B w).setCell (p:=⟨b,0,none⟩) h.1 _⟩
 .have h0:=h.cell0;have c4:=Lib.run_neq_ptr_same (tp:=123) (te:=125) (j:=j) (P:=Tryz.prog) w ⟨b,0,none⟩ (by kernel_rfl) hj
  go_enter Tryz.func74,Tryz.ntmps74
  go_wp2
  go_end0
  exact ⟨rfl,h,Below.refl B _⟩
theorem ZL(B b:Nat)(bs:List Value)(s:ByteArray)(w:World)(h:Lib.IsBuilder 125 5 B b bs w)(hlen:bs.length+s.size<=140737488355328)(hBw:B<=w.heap.size):
  Calls Tryz.prog 40 #[.pointer (some ⟨b,0,none⟩),.string s] w fun e w'=>e=.returned (.tuple #[.int .i64 s.size,.nilIface])/\Lib.BuilderAt 125 5 B b (.pointer (some ⟨b,0,none⟩)) (bs++Lib.strCells s) w'/\Below B w w':=by
 obtain ⟨i0,hi,hz0,hz1,hz2⟩:=info_parts (show(Tryz.prog.info? 5).map (fun i=>(i.zero,i.size,i.bytes))=some (some (.int .u8 0),1,1)by kernel_rfl)
 go_enter Tryz.func40,Tryz.ntmps40
 go_wp2_with (go_at_call 74;refine(bV B b bs _ h).mono ?_)
 rintro e w1 ⟨rfl,h1,hb1⟩;obtain⟨hB,v,hbk,hown,hne⟩:=h1;have c0:w1.cell? ⟨b,0,none⟩=some (.pointer (some ⟨b,0,none⟩)):=Lib.cell_of_heap hbk 0;have c1:w1.cell? ⟨b,1,none⟩=some v:=Lib.cell_of_heap hbk 1;have hs1:=hb1.size
 go_wp2_with (at_builtin;refine Lib.wpList_append_own_string _ rfl _ _ 86 9 rfl B 5 i0 (by kernel_rfl) (by kernel_rfl) hi hz0 hz1 hz2 _ _ _ rfl hown s rfl (by unfold maxLen;omega) (by omega) (by omega) ?_)
 intro v' w2 hown' hgrow _;have hlt:b<w1.heap.size:=(Array.getElem?_eq_some_iff.1 hbk).1;have hb2:w2.heap[b]?=some (.cells #[.pointer (some ⟨b,0,none⟩),v] 125 (0,0)):=(hgrow.block b hlt (fun e=>hne e.symm)).trans hbk;have d0:w2.cell? ⟨b,0,none⟩=some (.pointer (some ⟨b,0,none⟩)):=Lib.cell_of_heap hb2 0;have d1:w2.cell? ⟨b,1,none⟩=some v:=Lib.cell_of_heap hb2 1;have f1:w2.frozen? ⟨b,1,none⟩=false:=Lib.frozen_of_heap hb2 1;obtain⟨ao,n',cap,rfl⟩:∃ao n' cap,v'=.slice ao n' cap:=by
  rcases hown'.2 with⟨hv,_⟩|⟨g,cap,cur,hv,_⟩
  .exact⟨_,_,_,hv⟩
  .exact⟨_,_,_,hv⟩
 go_wp2
 go_ret2
 refine ⟨rfl,Lib.BuilderAt.put hB hb2 (bs':=bs++Lib.strCells s) (by simpa[Lib.strCells_length]using hown') (by decide),?_⟩;exact(hb1.grown hgrow (by omega) (fun k hk=>(hown.lt k hk).1)).setCell (p:=⟨b,1,none⟩) hB _
end
end Go.Sf
namespace Go.Sf.Sc
open Go Go.Sf Go.Proofs.Tryz
open Go.RowKit (Below)
open Go.Proofs
theorem iO{T e:TypeId}{b:Nat}{bs:List Value}{B:Nat}{W W':World}(h:Go.Lib.IsBuilder T e B b bs W)(hk:∀k,k<W.heap.size->W'.heap[k]?=W.heap[k]?):Go.Lib.IsBuilder T e B b bs W':=by
 have key:∀p,Go.Lib.BuilderAt T e B b p bs W->Go.Lib.BuilderAt T e B b p bs W':=by
  rintro p ⟨hB,v,hb,ho,hn⟩;refine⟨hB,v,(hk b (Array.getElem?_eq_some_iff.1 hb).1).trans hb,⟨ho.1,?_⟩,hn⟩;rcases ho.2 with h1|⟨g,cap,cur,h1,h2,h3,h4⟩
  .exact .inl h1
  .exact .inr ⟨g,cap,cur,h1,h2,(hk g (Array.getElem?_eq_some_iff.1 h3).1).trans h3,h4⟩
 exact h.imp (key _) (key _)
theorem Uu{w:World}{F:Nat->Nat->Prop}{b:Nat}:∀(ms:List By)(o:Nat),Ef w F 4 (ms.map HU) b o->∀(j:Nat)(m:By),ms[j]?=some m->m.pr.eb.d5=[]/\m.pr.eb.d7=[]/\m.pr.fq=[] ->
  ∃a1 n1 a2 n2 a3 n3,w.cell? ⟨b,o+j*4,none⟩=some (.int .i64 m.hO)/\w.cell? ⟨b,o+j*4+1,none⟩=some (.slice a1 0 n1)/\w.cell? ⟨b,o+j*4+2,none⟩=some (.slice a2 0 n2)/\w.cell? ⟨b,o+j*4+3,none⟩=some (.slice a3 0 n3)
 |[],_,_,j,m,hj,_=>by simp at hj|z::zs,o,h,0,m,hj,⟨e1,e2,e3⟩=>by
  simp only[List.getElem?_cons_zero,wi]at hj;subst hj;simp only[List.map_cons,Ef,HU,GU,Cu,e1,e2,e3,eL,List.map_nil,AX,List.length_nil]at h;obtain⟨⟨⟨v0,f0,_,_,rfl⟩,⟨v1,f1,_,_,a1,n1,rfl,_⟩,⟨v2,f2,_,_,a2,n2,rfl,_⟩,⟨v3,f3,_,_,a3,n3,rfl,_⟩,_⟩,_⟩:=h;exact⟨a1,n1,a2,n2,a3,n3,f0,f1,f2,f3⟩
 |z::zs,o,h,j+1,m,hj,he=>by
  simp only[List.map_cons,Ef]at h;have:=Uu zs (o+4) h.2.2 j m (by simpa using hj) he;have e:o+4+j*4=o+(j+1)*4:=by omega
  rwa [e]at this
theorem lU{f:FuncId}{ts:Fq}{b:Bool}(h:AO Go.Proofs.Tryz.prog f ts (.sh (eB b)))(hw:TV.tn ts)(w:World)(vs:Array Value)(hr:AL w (fun _ _=>False) ts vs.toList):Calls Go.Proofs.Tryz.prog f vs w fun e w'=>e=.returned (.bool b)/\Below w.heap.size w w':=by
 obtain ⟨_,h2⟩:=h.to0 rfl hw;refine(h2 _ w vs hr True.intro).2.mono ?_;rintro e w' ⟨v,rfl,h3,h4⟩;simp only[FP,eB,AX]at h4;exact⟨by rw[h4],h3⟩
theorem lV{f:FuncId}{ts:Fq}{b:ByteArray}(h:AO Go.Proofs.Tryz.prog f ts (.sh (eS b)))(hw:TV.tn ts)(w:World)(vs:Array Value)(hr:AL w (fun _ _=>False) ts vs.toList):Calls Go.Proofs.Tryz.prog f vs w fun e w'=>e=.returned (.string b)/\Below w.heap.size w w':=by
 obtain ⟨_,h2⟩:=h.to0 rfl hw;refine(h2 _ w vs hr True.intro).2.mono ?_;rintro e w' ⟨v,rfl,h3,h4⟩;simp only[FP,eS,AX]at h4;exact⟨by rw[h4],h3⟩
theorem aF(f:Option (List UInt8)->By->Option (List UInt8))(hf:∀m,f none m=none):∀r:List By,r.foldl f none=none
 |[]=>rfl|m::r=>by rw[List.foldl_cons,hf];exact aF f hf r
theorem S9:∀(ms:List By)(a L:List UInt8),DZ ms a=some L->∀(i:Nat)(m:By),ms[i]?=some m->∃l o,DZ (ms.take i) a=some l/\Nz m=some o/\DZ (ms.take (i+1)) a=some (l++o.data.toList)
 |[],_,_,_,i,m,hm=>by simp at hm|z::zs,a,L,h,i,m,hm=>by
  unfold DZ at h;rw[List.foldl_cons]at h;cases ho:Nz z with
  |none=>
   rw [ho]at h;exact absurd (h.symm.trans (aF _ (fun _=>rfl) zs)) (by simp)
  |some o=>
   rw [ho]at h;cases i with
   |zero=>
    simp only[List.getElem?_cons_zero,wi]at hm;subst hm;exact⟨a,o,rfl,ho,by simp[DZ,ho]⟩
   |succ i=>
    obtain ⟨l,o',h1,h2,h3⟩:=S9 zs (a++o.data.toList) L h i m (by simpa using hm);refine⟨l,o',?_,h2,?_⟩
    .simpa[DZ,ho]using h1
    .simpa[DZ,ho]using h3
theorem pH{α:Type}{c:Prop}[Decidable c]{a b:α}(h:(if c then some a else none)=some b):c/\a=b:=by
 split at h
 .rename_i hc;exact⟨hc,Option.some.inj h⟩
 .cases h
theorem YK{m:By}{o:ByteArray}(h:Nz m=some o):(m.pr.eb.d5=[]/\m.pr.eb.d7=[]/\m.pr.fq=[])/\o.size<=1000/\
  ∃s t,strconv_Itoa m.hO=some s/\Dj []=some t/\o=((((((((⟨#[109,111,118,101,32]⟩:ByteArray)++s)++(⟨#[32]⟩:ByteArray))++t)++(⟨#[32]⟩:ByteArray))++t)++(⟨#[32]⟩:ByteArray))++t)++(⟨#[32,59,10]⟩:ByteArray):=by
 unfold Nz at h;split at h
 .rename_i he;obtain⟨s,h4,h⟩:=bind_some h;obtain⟨t,h5,h⟩:=bind_some h;obtain⟨h6,h7⟩:=pH h;exact⟨he,h7▸h6,s,t,h4,h5,h7.symm⟩
 .cases h
theorem Za[Ev](low:Int):Ci [] low=some false:=by
 simp [Ci,Ay,Ck,kq,Aaa,fl]
theorem Zb[Ev](x:Int)(h:0<=x/\x<100):Ci [x] 0=some false:=by
 have h1:¬x<0:=by omega
 have h2:¬999999999<x:=by omega
 simp [Ci,Ay,Ck,kq,Aaa,fl,idx,GX,h1,h2]
theorem jQ(W:World)(F:Nat->Nat->Prop)(hF:∀b o,¬F b o)(x lo:Int)(b:Nat)(hb:b=W.heap.size):AL (W.alloc (.cells #[.int .i64 x] 3)) F [eL 1 eI [x],eI lo] [.slice (some ⟨b,0,none⟩) 1 1,.int .i64 lo]:=by
 subst hb;have h:(W.alloc (.cells #[.int .i64 x] 3)).cell? ⟨W.heap.size,0,none⟩=some (.int .i64 x):=Go.Lib.cell_of_heap (heap_alloc_new W _) 0;simp only[AL,eL,eI,AX,List.map_cons,List.map_nil,Ef,GU,TV.cells];refine⟨_,_,rfl,⟨_,1,rfl,by simp,by simp,?_⟩,_,_,rfl,rfl,rfl⟩;rintro ad e;cases e;exact⟨.inr rfl,⟨_,h,hF _ _,rfl,rfl⟩,rfl,trivial⟩
theorem nG(W:World)(F:Nat->Nat->Prop)(lo:Int)(a:Option Addr)(n:Nat):AL W F [eL 1 eI [],eI lo] [.slice a 0 n,.int .i64 lo]:=by
 simp only[AL,eL,eI,AX,List.map_nil,Ef];exact⟨_,_,rfl,⟨a,n,rfl,by simp,by simp,fun ad _=>⟨.inl trivial,trivial⟩⟩,_,_,rfl,rfl,rfl⟩
theorem jN(W:World)(F:Nat->Nat->Prop)(a:Option Addr)(n:Nat):AL W F [eL 1 eI []] [.slice a 0 n]:=by
 simp only[AL,eL,AX,List.map_nil,Ef];exact⟨_,_,rfl,⟨a,n,rfl,by simp,by simp,fun ad _=>⟨.inl trivial,trivial⟩⟩,rfl⟩
theorem M3{B:Nat}{w W W':World}(h:Below B w W)(hB:B<=W.heap.size)(k:Below W.heap.size W W'):Below B w W':=
 h.trans ⟨k.os,k.tape,k.output,k.size,fun j hj=>k.block j (Nat.lt_of_lt_of_le hj hB)⟩
theorem ZD(x:Int)(h:-999999999<=x/\x<100):(eI x).WF:=by
 simp only[eI,TV.WF,show IntKind.min .i64=-9223372036854775808 from rfl,show IntKind.max .i64=9223372036854775807 from rfl];omega
theorem nY(x:Int)(h:0<=x/\x<100):TV.tn [eL 1 eI [x],eI 0]:=
 ⟨⟨by simp[Gb],ZD x (by omega),trivial⟩,ZD 0 (by omega),trivial⟩
theorem qj(x:Int)(h:x=0\/x=-999999999):TV.tn [eL 1 eI [],eI x]:=
 ⟨⟨by simp,trivial⟩,ZD x (by omega),trivial⟩
theorem sP(ms:List By)(hn:ms≠[]){L:List UInt8}(h:DZ ms []=some L):L≠[]:=by
 have hlt:ms.length-1<ms.length:=by
  have:ms.length≠0:=fun e=>hn (List.eq_nil_of_length_eq_zero e);omega
 obtain ⟨l,o,h1,h2,h3⟩:=S9 ms [] L h (ms.length-1) _ (List.getElem?_eq_getElem hlt);rw[Nat.sub_add_cancel (by omega),List.take_length,h]at h3;obtain⟨_,_,s,t,_,_,rfl⟩:=YK h2;cases h3;intro e;have:=congrArg List.length e;simp[ByteArray.data_append]at this
theorem iN{T e:TypeId}{b:Nat}{bs:List Value}{B B':Nat}{W:World}(hB:B'<=B)(h:Go.Lib.IsBuilder T e B b bs W):Go.Lib.IsBuilder T e B' b bs W:=by
 have key:∀p,Go.Lib.BuilderAt T e B b p bs W->Go.Lib.BuilderAt T e B' b p bs W:=by
  rintro p ⟨h1,v,hb,ho,hn⟩;refine⟨Nat.le_trans hB h1,v,hb,⟨ho.1,?_⟩,hn⟩;rcases ho.2 with h1|⟨g,cap,cur,h1,h2,h3,h4⟩
  .exact .inl h1
  .exact .inr ⟨g,cap,cur,h1,Nat.le_trans hB h2,h3,h4⟩
 exact h.imp (key _) (key _)
theorem mQ(ms:List By)(L:List UInt8)(h:DZ ms []=some L)(hl:ms.length<=30):L.length<=30000:=by
 have key:∀i,i<=ms.length->∃l,DZ (ms.take i) []=some l/\l.length<=1000*i:=by
  intro i
  induction i with
  |zero=>exact fun _=>⟨[],rfl,Nat.zero_le _⟩|succ i ih=>
   intro hi;obtain⟨l,o,h1,h2,h3⟩:=S9 ms [] L h i _ (List.getElem?_eq_getElem (show i<ms.length by omega));obtain⟨l',h4,h5⟩:=ih (by omega);cases h1.symm.trans h4;have:=(YK h2).2.1;refine⟨_,h3,?_⟩;rw[cE];have e:o.data.toList.length=o.size:=(Go.Lib.size_eq o).symm;omega
 obtain ⟨l,h1,h2⟩:=key ms.length (bk _);rw[List.take_length,h]at h1;cases h1;omega
theorem lu{d:AP}{w:World}{F:Nat->Nat->Prop}{vs:Array Value}(hne:d.j4≠[])(h:AL w F [DG d] vs.toList):∃n e vl bm om cap,vs=#[.agg #[n,e,vl,.slice (some ⟨bm,om,none⟩) d.j4.length cap]]/\Ef w F 4 (d.j4.map HU) bm om:=by
 simp only[AL,DG,eL,AX]at h;obtain⟨v,r,h1,⟨us,rfl,⟨n,r1,h2,_,e,r2,rfl,_,vl,r3,rfl,_,mv,r4,rfl,⟨a,cap,rfl,h3,h4,h5⟩,rfl⟩,_⟩,rfl⟩:=h;have hm:d.j4.map HU≠[]:=fun e=>hne (List.map_eq_nil_iff.1 e);cases a with
 |none=>exact absurd (h4 rfl) hm|some ad=>
  obtain ⟨h6,h7⟩:=h5 ad rfl;obtain⟨bm,om,sp⟩:=ad;have:sp=none:=h6.resolve_left hm;subst this;refine⟨n,e,vl,bm,om,cap,?_,h7⟩;have h8:us=#[n,e,vl,.slice (some ⟨bm,om,none⟩) d.j4.length cap]:=by
   rw [<-Array.toList_inj,h2,d3]
  subst h8;rw[<-Array.toList_inj,h1]
theorem oh[Ev](s81:∀l low b,Ci l low=some b->AO Go.Proofs.Tryz.prog 39 [eL 1 eI l,eI low] (.sh (eB b)))(s83:∀i s,strconv_Itoa i=some s->AO Go.Proofs.Tryz.prog 41 [eI i] (.sh (eS s)))
  (s84:∀l s,Dj l=some s->AO Go.Proofs.Tryz.prog 42 [eL 1 eI l] (.sh (eS s)))(d:AP)(L:List UInt8)(hl:d.j4.length<=30)(hne:d.j4≠[])(htx:DZ d.j4 []=some L):AO Go.Proofs.Tryz.prog 16 [DG d] (.tp [eS ⟨L.toArray⟩,eI 0]):=by
 refine AO.of0 (fun hw=>⟨by kernel_rfl,fun F0 w vs hrep _=>?_⟩) rfl;obtain⟨n,e,vl,bm,om,cap,rfl,hmv⟩:=lu hne hrep;refine⟨?_,?_⟩
 .have:=mQ _ _ htx hl;refine⟨?_,ZD 0 (by omega),trivial⟩;show L.toArray.size<=Gb;unfold Gb;simp only[List.size_toArray];omega
 go_enter Go.Proofs.Tryz.func16,Go.Proofs.Tryz.ntmps16
 have hstart:Go.Lib.IsBuilder 125 5 w.heap.size (w.heap.size+1) (Go.Lib.byteCells []) ((w.alloc (.cells #[n,e,vl,.slice (some ⟨bm,om,none⟩) d.j4.length cap] 49)).alloc (.cells #[.pointer none,.slice none 0 0] 125)):=by
  have:=Go.Lib.fresh_isBuilder 125 5 (w.alloc (.cells #[n,e,vl,.slice (some ⟨bm,om,none⟩) d.j4.length cap] 49));have hs:(w.alloc (.cells #[n,e,vl,.slice (some ⟨bm,om,none⟩) d.j4.length cap] 49)).heap.size=w.heap.size+1:=Array.size_push _;rw[hs]at this;exact iN (Nat.le_succ _) this
 have hb0:Below w.heap.size w ((w.alloc (.cells #[n,e,vl,.slice (some ⟨bm,om,none⟩) d.j4.length cap] 49)).alloc (.cells #[.pointer none,.slice none 0 0] 125)):=((Below.refl _ w).alloc (bk _) _).alloc (by rw[show(w.alloc _).heap.size=_ from Array.size_push _];omega) _
 go_wp2
 go_loopw [17] (fun vm wr=>∃(i:Nat)(l:List UInt8),vm=.int .i64 i/\i<=d.j4.length/\DZ (d.j4.take i) []=some l/\l.length<=1000*i/\Go.Lib.IsBuilder 125 5 w.heap.size (w.heap.size+1) (Go.Lib.byteCells l) wr/\Below w.heap.size w wr)
  (fun vm _=>match vm with|.int _ x=>d.j4.length-x.toNat|_=>0)
 case atStart=>
  refine ⟨0,[],rfl,Nat.zero_le _,rfl,bk _,?_,?_⟩
  .exact hstart
  .exact hb0
 case round=>
  obtain ⟨i,l,rfl,hi,hml,hll,hib,hbel⟩:=hrel;by_cases hlt:i<d.j4.length
  .obtain⟨m,hm⟩:∃m,d.j4[i]?=some m:=⟨_,List.getElem?_eq_getElem hlt⟩;obtain⟨l',o,hl1,ho,hl2⟩:=S9 _ _ _ htx i m hm;have:l'=l:=by simpa[hml]using hl1.symm
   subst this;obtain⟨he,hos,s,t,hs,ht,rfl⟩:=YK ho;obtain⟨a1,n1,a2,n2,a3,n3,f0,f1,f2,f3⟩:=Uu _ _ hmv i m hm he;have hbm:bm<w.heap.size:=World.block_lt_of_cell? w ⟨bm,_,none⟩ f0;replace f0:=(hbel.cell (p:=⟨bm,_,none⟩) hbm).trans f0;replace f1:=(hbel.cell (p:=⟨bm,_,none⟩) hbm).trans f1;replace f2:=(hbel.cell (p:=⟨bm,_,none⟩) hbm).trans f2;replace f3:=(hbel.cell (p:=⟨bm,_,none⟩) hbm).trans f3
   go_wp2
   go_quiet (fail)
   obtain ⟨W1,hW1⟩:∃W:World,W=(wr.alloc (.cells #[.int .i64 m.hO,.slice a1 0 n1,.slice a2 0 n2,.slice a3 0 n3] 62)).drewN nq:=⟨_,rfl⟩;rw[<-hW1];have hb1:Below wr.heap.size wr W1:=by
    rw [hW1];exact((Below.refl _ wr).alloc (bk _) _).trans ⟨rfl,rfl,rfl,bk _,fun _ _=>rfl⟩
   have hz1:W1.heap.size=wr.heap.size+1:=by
    rw [hW1];exact Array.size_push _
   have g0:W1.cell? ⟨wr.heap.size,0,none⟩=some (.int .i64 m.hO):=by
    rw [hW1];exact Go.Lib.cell_of_heap (w:=(wr.alloc _).drewN nq) (heap_alloc_new wr _) 0
   clear hW1;have hr:0<=m.hO/\m.hO<100:=by
    unfold strconv_Itoa at hs;split at hs
    .assumption
    .cases hs
   have hw1:=nY _ hr;have hw2:=qj;have hw3:TV.tn [eI m.hO]:=⟨ZD _ (by omega),trivial⟩;have hw4:TV.tn [eL 1 eI []]:=⟨(hw2 0 (.inl rfl)).1,trivial⟩
   go_wp2_with (go_at_call 39;refine(lU (s81 _ _ _ (Zb _ hr)) hw1 _ _ (jQ _ _ (fun _ _=>id) _ _ _ hz1.symm)).mono ?_)
   rintro e W2 ⟨rfl,k⟩;replace k:=M3 ((Below.refl _ W1).alloc (bk _) _) (by rw[show(W1.alloc _).heap.size=_ from Array.size_push _];omega) k
   iterate 3
    go_wp2_with (go_at_call 39;refine(lU (s81 _ _ _ (Za _)) (hw2 _ (by omega)) _ _ (nG _ _ _ _ _)).mono ?_)
    rintro e W ⟨rfl,x⟩;replace k:=M3 k k.size x
   have g5:=(k.cell (p:=⟨wr.heap.size,0,none⟩) (by show wr.heap.size<W1.heap.size;omega)).trans g0;have hos':=hos;simp only[ByteArray.size_append]at hos';have q0:=fun W=>run_string_add_sum (P:=Go.Proofs.Tryz.prog) W (⟨#[109,111,118,101,32]⟩:ByteArray) s (by omega);have q1:=fun W=>run_string_add_sum (P:=Go.Proofs.Tryz.prog) W ((⟨#[109,111,118,101,32]⟩:ByteArray)++s) (⟨#[32]⟩:ByteArray) (by simp only[ByteArray.size_append];omega);have q2:=fun W=>run_string_add_sum (P:=Go.Proofs.Tryz.prog) W (((⟨#[109,111,118,101,32]⟩:ByteArray)++s)++(⟨#[32]⟩:ByteArray)) t (by simp only[ByteArray.size_append];omega);have q3:=fun W=>run_string_add_sum (P:=Go.Proofs.Tryz.prog) W ((((⟨#[109,111,118,101,32]⟩:ByteArray)++s)++(⟨#[32]⟩:ByteArray))++t) (⟨#[32]⟩:ByteArray) (by simp only[ByteArray.size_append];omega);have q4:=fun W=>run_string_add_sum (P:=Go.Proofs.Tryz.prog) W (((((⟨#[109,111,118,101,32]⟩:ByteArray)++s)++(⟨#[32]⟩:ByteArray))++t)++(⟨#[32]⟩:ByteArray)) t (by simp only[ByteArray.size_append];omega);have q5:=fun W=>run_string_add_sum (P:=Go.Proofs.Tryz.prog) W ((((((⟨#[109,111,118,101,32]⟩:ByteArray)++s)++(⟨#[32]⟩:ByteArray))++t)++(⟨#[32]⟩:ByteArray))++t) (⟨#[32]⟩:ByteArray) (by simp only[ByteArray.size_append];omega);have q6:=fun W=>run_string_add_sum (P:=Go.Proofs.Tryz.prog) W (((((((⟨#[109,111,118,101,32]⟩:ByteArray)++s)++(⟨#[32]⟩:ByteArray))++t)++(⟨#[32]⟩:ByteArray))++t)++(⟨#[32]⟩:ByteArray)) t (by simp only[ByteArray.size_append];omega);have q7:=fun W=>run_string_add_sum (P:=Go.Proofs.Tryz.prog) W ((((((((⟨#[109,111,118,101,32]⟩:ByteArray)++s)++(⟨#[32]⟩:ByteArray))++t)++(⟨#[32]⟩:ByteArray))++t)++(⟨#[32]⟩:ByteArray))++t) (⟨#[32,59,10]⟩:ByteArray) (by simp only[ByteArray.size_append];omega)
   go_wp2_with (go_at_call 41;refine(lV (s83 _ _ hs) hw3 _ _ ⟨_,_,rfl,rfl,rfl⟩).mono ?_)
   rintro e W ⟨rfl,x⟩;replace k:=M3 k k.size x
   iterate 3
    go_wp2_with (go_at_call 42;refine(lV (s84 _ _ ht) hw4 _ _ (jN _ _ _ _)).mono ?_)
    rintro e W ⟨rfl,x⟩;replace k:=M3 k k.size x
   have k9':=M3 hb1 hb1.size k;have hib9:=iO hib k9'.block;have hbel9:=M3 hbel hbel.size k9'
   go_wp2_with (go_at_call 40;refine(ZL w.heap.size (w.heap.size+1) _ _ _ hib9 (by rw[Go.Lib.byteCells_length];omega) hbel9.size).mono ?_)
   rintro e W10 ⟨rfl,h10,k10⟩;rw[Go.Lib.strCells_eq,<-Go.Lib.byteCells_append]at h10;have hbel10:=hbel9.trans k10
   go_wp2
   go_roundw
   case rel=>exact⟨i+1,_,by rw[Int.natCast_add];rfl,hlt,hl2,by rw[cE,show(_:List UInt8).length=_ from(Go.Lib.size_eq _).symm];omega,.inr h10,hbel10⟩
   case measure=>
    show d.j4.length-((i:Int)+1).toNat<d.j4.length-(i:Int).toNat
    omega
  .have hmn:i=d.j4.length:=by omega
   subst hmn;have hlL:l=L:=by simpa[List.take_length,htx]using hml.symm
   subst hlL
   go_wp2_with (go_at_call 43;refine(Go.Proofs.Tryz.Builder_String w.heap.size (w.heap.size+1) l _ hib (sP d.j4 hne htx)).mono ?_)
   rintro e W4 ⟨rfl,b4⟩
   go_wp2
   go_ret2
   refine ⟨_,rfl,hbel.trans b4,?_⟩;simp only[FP,eS,eI];exact⟨_,rfl,_,_,rfl,rfl,_,_,rfl,rfl,rfl⟩
theorem X6[Ev](s81:∀l low b,Ci l low=some b->AO Go.Proofs.Tryz.prog 39 [eL 1 eI l,eI low] (.sh (eB b)))(s83:∀i s,strconv_Itoa i=some s->AO Go.Proofs.Tryz.prog 41 [eI i] (.sh (eS s)))
  (s84:∀l s,Dj l=some s->AO Go.Proofs.Tryz.prog 42 [eL 1 eI l] (.sh (eS s)))(d:AP)(r:ByteArray×Int)(h:H6 d=some r):AO Go.Proofs.Tryz.prog 16 [DG d] (.tp [eS r.1,eI r.2]):=by
 unfold H6 at h;split at h
 .rename_i hc;cases hx:DZ d.j4 []with
  |none=>rw[hx]at h;cases h
  |some L=>rw[hx]at h;cases h;exact oh s81 s83 s84 d L hc.1 hc.2 hx
 .cases h
end Go.Sf.Sc
