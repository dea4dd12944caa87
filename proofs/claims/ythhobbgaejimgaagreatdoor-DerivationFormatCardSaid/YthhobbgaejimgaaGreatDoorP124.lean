/- Plain lemmas: what the functions of the program and of the reference compute. -/
import Derived.Test.YthhobbgaejimgaaGreatDoorP123
set_option linter.all false
set_option maxRecDepth 100000
namespace Go.Sf.Sc
open Go Go.Sf
theorem Lp(L:List UInt8)(a:Int):AV (Ao L) a=Ao (L.drop a.toNat):=by
 apply ByteArray.ext;unfold AV;rw[ByteArray.data_extract];apply Array.toList_inj.1;have:((Ao L).size:Int).toNat=L.length:=by rw[Ci];rfl
 rw [this];simp only[Ao,Array.toList_extract,List.extract_eq_take_drop];exact List.take_of_length_le (by simp)
theorem JG(L:List UInt8)(i:Int):bt (Ao L) i=((L.getD i.toNat 0).toNat:Int):=by simp[bt,Ao]
variable{d:List UInt8}{c:UInt8}{r:List UInt8}
theorem UK{p:Int->Bool}(h:∀x∈d,p (x.toNat:Int)=true)(i:p (c.toNat:Int)=false):Bx p (Ao (d++c::r))=d.length:=by
 obtain ⟨a0,a1,j,g⟩:=IP p (Ao (d++c::r));rw[Ci]at a1 g;simp only[ci,ez]at a1 g;have k:¬Bx p (Ao (d++c::r))<d.length:=by
  intro e;have b:=g (by omega);have f:(Bx p (Ao (d++c::r))).toNat<d.length:=by omega
  rw [JG,List.getD_eq_getElem?_getD,List.getElem?_append_left f,List.getElem?_eq_getElem f,Option.getD_some]at b;rw[h _ (List.getElem_mem f)]at b;cases b
 have l:¬(d.length:Int)<Bx p (Ao (d++c::r)):=by
  intro e;have b:=j d.length (by omega) e;rw[JG,Int.toNat_natCast,List.getD_eq_getElem?_getD,List.getElem?_append_right (ca _),Nat.sub_self,List.getElem?_cons_zero,Option.getD_some,i]at b;cases b
 omega
structure Tk(k:Int)(d:List UInt8):Prop where
 ne:d≠[]
 nx:∀(c:UInt8)(r:List UInt8),c=32\/c=10->FU (Ao (d++c::r))=(k,(d.length:Int),0)
 k3:k≠3
 first:∀x,d.head?=some x->x≠10/\x≠32/\x≠9/\x≠13/\x≠35
theorem bq:Tk 1 [109,111,118,101]:=by
 refine ⟨by simp,fun c r b=>?_,by decide,fun x e=>by cases e;decide⟩;have h:Bx G5 (Ao ([109,111,118,101]++c::r))=4:=UK (by decide) (by rcases b with rfl|rfl<;>rfl);unfold FU;rw[az (show Cu (bt (Ao ([109,111,118,101]++c::r)) 0)=true from rfl),h];rfl
theorem R3(n:Nat):∀x∈Go.Lib.decDigits n,rq (x.toNat:Int)=true/\Cu (x.toNat:Int)=false:=by
 have one:∀j:Nat,j<10->rq ((UInt8.ofNat (48+j)).toNat:Int)=true/\Cu ((UInt8.ofNat (48+j)).toNat:Int)=false:=by
  intro j i;have e:j=0\/j=1\/j=2\/j=3\/j=4\/j=5\/j=6\/j=7\/j=8\/j=9:=by omega
  rcases e with rfl|rfl|rfl|rfl|rfl|rfl|rfl|rfl|rfl|rfl<;>exact⟨rfl,rfl⟩
 induction n using Nat.strongRecOn with
 |ind n g=>
  intro x b;by_cases h:n<10
  .rw[I1 h]at b;rw[List.mem_singleton.1 b];exact one n h
  .rw[Md (by omega)]at b;rcases List.mem_append.1 b with f|f
   .exact g (n / 10) (by omega) x f
   .rw[List.mem_singleton.1 f];exact one _ (by omega)
theorem S9{n:Int}(h:Nm n):Tk 2 (CR n):=by
 obtain ⟨l1,l2⟩:=Er h;have hd:=R3 n.toNat
 have f:CR n≠[]:=fun e=>by rw[e]at l1;simp at l1
 refine ⟨f,fun c r i=>?_,by decide,fun x b=>?_⟩
 .have j:Bx rq (Ao (CR n++c::r))=(CR n).length:=UK (fun x b=>(hd x b).1) (by rcases i with rfl|rfl<;>rfl);obtain⟨x,l,e⟩:∃x l,CR n=x::l:=by
   cases k:CR n with
   |nil=>exact absurd k f|cons x l=>exact⟨x,l,rfl⟩
  have b:=hd x (by rw[show Go.Lib.decDigits n.toNat=CR n from rfl,e];simp);have m:bt (Ao (CR n++c::r)) 0=(x.toNat:Int):=by
   rw [JG,e];rfl
  unfold FU;rw[m,bk (by rw[b.2];decide),az b.1,j,bk (by omega)]
 .have g:=hd x (List.mem_of_mem_head? b);refine⟨?_,?_,?_,?_,?_⟩<;>rintro rfl<;>exact absurd g.1 (by decide)
theorem KL{b:UInt8}(h:b=40\/b=41\/b=45\/b=59):Tk 4 [b]:=by
 refine ⟨by simp,fun c r f=>?_,by decide,fun x g=>?_⟩
 .have e:(Ao ([b]++c::r)).extract (0:Int).toNat (2:Int).toNat=Ao [b,c]:=by
   apply ByteArray.ext;rw[ByteArray.data_extract];apply Array.toList_inj.1;simp[Ao]
  have i:bt (Ao ([b]++c::r)) 0=(b.toNat:Int):=by rw[JG];rfl
  have j:H3 (Ao ([b]++c::r))=false:=by
   unfold H3;rw[e];rcases h with rfl|rfl|rfl|rfl<;>rcases f with rfl|rfl<;>simp[Ao]
  unfold FU;rw[j,i];rcases h with rfl|rfl|rfl|rfl<;>rfl
 .cases g;rcases h with rfl|rfl|rfl|rfl<;>decide
def LC(L:List UInt8)(a:Nat)(out:List AY)(qo:Int)(T:List AY):Prop:=
 ∃o,F9 KZ (AV (Ao L) a,out,qo) o/\((∃v,o=.inr v/\v.2.2≠0)\/∃s l',o=.inl (s,T,l'))
section
variable{L:List UInt8}{a:Nat}{out:List AY}{qo:Int}{T:List AY}
theorem aZ(e:(Ao L).size<=20000)(f:-1<=qo/\qo<=20001)(ho:out.length<=4000)(g:a=L.length):LC L a out qo out:=by
 have b:=Sg e (a:=a) (by omega) (by rw[Ci];omega) f ho;unfold Ki at b;rw[az (by rw[Ci];omega)]at b;exact⟨_,.brk b,.inr ⟨_,_,rfl⟩⟩
variable{r:List UInt8}
theorem WC(f:(Ao L).size<=20000)(g:-1<=qo/\qo<=20001)(ho:out.length<=4000)(e:L.drop a=32::r)(h:LC L (a+1) out qo T):LC L a out qo T:=by
 obtain ⟨o,k,l⟩:=h;have i:a<L.length:=by
  have:=congrArg List.length e;simp at this;omega
 have b:=Sg f (a:=a) (by omega) (by rw[Ci];omega) g ho;have j:bt (AV (Ao L) a) 0=32:=by
  rw [Lp,JG,Int.toNat_natCast,e];rfl
 unfold Ki at b;rw[j,bk (by rw[Ci];omega),bk (by decide),az (by decide)]at b;exact⟨o,.next b k,l⟩
theorem Xw(f:(Ao L).size<=20000)(g:-1<=qo/\qo<=20001)(ho:out.length<=4000)(e:L.drop a=10::r)(h:LC L (a+1) out (qo+1) T):LC L a out qo T:=by
 obtain ⟨o,k,l⟩:=h;have i:a<L.length:=by
  have:=congrArg List.length e;simp at this;omega
 have b:=Sg f (a:=a) (by omega) (by rw[Ci];omega) g ho;have j:bt (AV (Ao L) a) 0=10:=by
  rw [Lp,JG,Int.toNat_natCast,e];rfl
 unfold Ki at b;rw[j,bk (by rw[Ci];omega),az (by decide)]at b;exact⟨o,.next b k,l⟩
variable{d:List UInt8}{c:UInt8}
theorem T1(p:(Ao L).size<=20000)(q:-1<=qo/\qo<=20001)(ho:out.length<=4000){k:Int}(f:Tk k d)(s:c=32\/c=10)(g:L.drop a=d++c::r)(h:out.length+1<=4000->LC L (a+d.length) (out++[⟨k,Ao d,qo⟩]) qo T):LC L a out qo T:=by
 have t:a<L.length:=by
  have:=congrArg List.length g;simp at this;omega
 have b:=Sg p (a:=a) (by omega) (by rw[Ci];omega) q ho;have hf:AV (Ao L) a=Ao (d++c::r):=by rw[Lp,Int.toNat_natCast,g]
 have j:=f.nx c r s;obtain⟨x,l,e⟩:∃x l,d=x::l:=by
  cases u:d with
  |nil=>exact absurd u f.ne|cons x l=>exact⟨x,l,rfl⟩
 obtain ⟨E,F,G,H,I⟩:=f.first x (by rw[e];rfl)
 have v:bt (Ao (d++c::r)) 0=(x.toNat:Int):=by rw[JG,e];rfl
 have ne:∀y:UInt8,x≠y->(x.toNat:Int)≠(y.toNat:Int):=fun y h i=>h (UInt8.toNat_inj.1 (by omega));have w:=ne 10 E;have z:=ne 32 F;have A:=ne 9 G;have B:=ne 13 H;have C:=ne 35 I;have D:NE (Ao (d++c::r))=Ao d:=by
  unfold NE;rw[j,bk f.k3];apply ByteArray.ext;rw[ByteArray.data_extract];apply Array.toList_inj.1;simp[Ao]
 unfold Ki at b;simp only at b;rw[hf,v,bk (by rw[Ci];omega),bk (show¬((x.toNat:Int)=10)from w),bk (show¬((x.toNat:Int)=32\/(x.toNat:Int)=9\/(x.toNat:Int)=13)from fun h=>h.elim z fun h=>h.elim A B),bk (show¬((x.toNat:Int)=35)from C),j,bk (by simp)]at b;by_cases m:(out.length:Int)=4000
 .rw[az m]at b;exact⟨_,by rw[hf];exact .ret b,.inl ⟨_,rfl,by simp⟩⟩
 .rw[bk m,D]at b;obtain⟨o,n,i⟩:=h (by omega);rw[Int.natCast_add]at n;refine⟨o,?_,i⟩;rw[hf];exact .next b n
end
end Go.Sf.Sc
