/- Plain lemmas: what the functions of the program and of the reference compute. -/
import Derived.Test.YthhobbgaejimgaaGreatDoorP124
set_option linter.all false
set_option maxRecDepth 100000
namespace Go.Sf.Sc
open Go Go.Sf
def Hl:Fp->List (Int×List UInt8)
 |[]=>[]|n::l=>(if n<0 then[(4,[45]),(2,CR (-n))]else[(2,CR n)])++Hl l
def Ix(l:List (Int×List UInt8)):List UInt8:=l.flatMap fun x=>x.2++[32]
def Nt(m:BW):List (Int×List UInt8):=[(1,[109,111,118,101]),(2,CR m.ns),(4,[40])]++Hl m.kx.gt.fq++[(4,[41]),(4,[40])]++Hl m.kx.gt.jj++[(4,[41]),(4,[40])]++Hl m.kx.qy++[(4,[41])]
theorem Zk:∀l:Fp,II l++[32]=32::Ix (Hl l)
 |[]=>rfl|n::l=>by
  rw [II,ff,Zk l,Hl];split<;>simp[Ix]
theorem g7(m:BW)(r:List UInt8):Hv m++r=Ix (Nt m)++([59]++10::r):=by
 have a:∀(l:Fp)(t:List UInt8),II l++32::t=32::(Ix (Hl l)++t):=fun l t=>by
  have:=congrArg (·++t) (Zk l);simpa using this
 unfold Hv Nt Ix;simp only[List.flatMap_append,List.flatMap_cons,List.flatMap_nil];have e:∀l,(Hl l).flatMap (fun x=>x.2++[32])=Ix (Hl l):=fun _=>rfl;simp only[e,ff,List.cons_append,List.nil_append,List.append_nil,a]
theorem S8{l:Fp}(h:PM l):∀x∈Hl l,Tk x.1 x.2:=by
 induction l with
 |nil=>simp[Hl]|cons n l d=>
  intro x b;have e:=h n (by simp);rw[Hl]at b;rcases List.mem_append.1 b with a|a
  .split at a
   .simp only[List.mem_cons,List.not_mem_nil,or_false]at a;rcases a with rfl|rfl
    .exact KL (by simp)
    .exact S9 ⟨by omega,by omega⟩
   .simp only[List.mem_cons,List.not_mem_nil,or_false]at a;subst a;exact S9 ⟨by omega,by omega⟩
  .exact d (fun y c=>h y (by simp[c])) x a
theorem fE{m:BW}(h:H0 m):∀x∈Nt m,Tk x.1 x.2:=by
 have a:=S8 (FT h.qz);have b:=S8 (FT h.rg);have c:=S8 h.vars;intro x d;unfold Nt at d;simp only[List.mem_append,List.mem_cons,List.not_mem_nil,or_false]at d;rcases d with(((((d|d)|d)|d)|d)|d)|d
 .rcases d with rfl|rfl|rfl
  .exact bq
  .exact S9 h.rule
  .exact KL (by simp)
 .exact a x d
 .rcases d with rfl|rfl<;>exact KL (by simp)
 .exact b x d
 .rcases d with rfl|rfl<;>exact KL (by simp)
 .exact c x d
 .subst d;exact KL (by simp)
def F4(qo:Int)(l:List (Int×List UInt8)):List AY:=l.map fun x=>⟨x.1,Ao x.2,qo⟩
def NC:Int->List BW->List AY
 |_,[]=>[]|qo,m::r=>F4 qo (Nt m++[(4,[59])])++NC (qo+1) r
section
variable{L:List UInt8}
theorem Qp(b:(Ao L).size<=20000):∀(l:List (Int×List UInt8))(a:Nat)(out:List AY)(qo:Int)(T:List AY)(r:List UInt8),-1<=qo/\qo<=20001->out.length<=4000->(∀x∈l,Tk x.1 x.2)->L.drop a=Ix l++r ->
  (out.length+l.length<=4000->LC L (a+(Ix l).length) (out++F4 qo l) qo T)->LC L a out qo T
 |[],a,out,qo,T,r,_,ho,_,_,h=>by simpa[Ix,F4]using h (by simpa using ho)|x::l,a,out,qo,T,r,c,ho,i,d,h=>by
  have e:Ix (x::l)=x.2++[32]++Ix l:=by simp[Ix]
  rw [e]at d h;refine T1 b c ho (i x (by simp)) (.inl rfl) (r:=Ix l++r) (by simpa using d) fun f=>?_;have g:L.drop (a+x.2.length)=32::(Ix l++r):=by
   rw [<-List.drop_drop,d];simp
  refine WC b c (by simpa using f) g ?_;refine Qp b l _ _ qo T r c (by simpa using f) (fun y j=>i y (by simp[j])) (by
   rw [<-List.drop_drop,g];simp) fun k=>?_
  have:=h (by simp at k|-;omega);have m:a+x.2.length+1+(Ix l).length=a+(x.2++[32]++Ix l).length:=by simp;omega
  rw [m];simpa[F4]using this
theorem Qq(d:(Ao L).size<=20000):∀(c:List BW)(a:Nat)(out:List AY)(qo:Int),0<=qo->qo+c.length<=20001->out.length<=4000->(∀m∈c,H0 m)->L.drop a=c.flatMap Hv->LC L a out qo (out++NC qo c)
 |[],a,out,qo,o,l1,ho,_,e=>by
  rw [NC,List.append_nil];by_cases l:a=L.length
  .exact aZ d (by simp at l1;omega) ho l
  .have f:L.length<=a:=by
    have:=congrArg List.length e;simp at this;omega
   have n:F9 KZ (AV (Ao L) a,out,qo) (.inl (AV (Ao L) a,out,qo)):=by
    refine .brk ?_;have:AV (Ao L) a=Ao []:=by rw[Lp,Int.toNat_natCast,List.drop_of_length_le f]
    rw [this];rfl
   exact ⟨_,n,.inr ⟨_,_,rfl⟩⟩
 |m::c,a,out,qo,o,l1,ho,i,e=>by
  rw [List.flatMap_cons,g7]at e;simp only[ez]at l1;refine Qp d (Nt m) a out qo _ _ (by omega) ho (fE (i m (by simp))) e fun j=>?_;have g:L.drop (a+(Ix (Nt m)).length)=[59]++10::c.flatMap Hv:=by
   rw [<-List.drop_drop,e];simp
  refine T1 d (by omega) (by simpa[F4]using j) (KL (b:=59) (by simp)) (.inr rfl) g fun h=>?_;refine Xw d (r:=c.flatMap Hv) (by omega) (by simp at h|-;omega) (by
   rw [<-List.drop_drop,g];rfl) ?_
  have:=Qq d c (a+(Ix (Nt m)).length+1+1) (out++F4 qo (Nt m)++[⟨4,Ao [59],qo⟩]) (qo+1) (by omega) (by omega) (by simp at h|-;omega) (fun x k=>i x (by simp[k])) (by
   rw [<-List.drop_drop,<-List.drop_drop,g];rfl)
  rw [NC];simpa[F4]using this
theorem XP(c:(Ao L).size<=20000){a:List BW}(d:L=a.flatMap Hv)(n:a.length<=30)(e:∀m∈a,H0 m){v:List AY×Int×Int}(h:Co (Ao L)=some v)(hv:v.2.2=0):v.1=NC 1 a:=by
 obtain ⟨o,b,k⟩:=Qq c a 0 [] 1 (by omega) (by omega) (by simp) e (by simpa using d);have hf:AV (Ao L) 0=Ao L:=by rw[Lp];rfl
 have i:¬(20000:Int)<(Ao L).size:=by omega
 have j:Co (Ao L)=o4 (E5 KZ (Ao L,[],1)) (fun f=>some (f.2.1,0,0)) (fun g=>some g):=by
  unfold Co;rw[bk (by simpa using i)];rfl
 rw [show((0:Nat):Int)=0 from rfl,hf]at b;rw[j,b.eq]at h;rcases k with⟨u,rfl,l⟩|⟨s,p,rfl⟩
 .cases h;exact absurd hv l
 .cases h;rfl
end
end Go.Sf.Sc
