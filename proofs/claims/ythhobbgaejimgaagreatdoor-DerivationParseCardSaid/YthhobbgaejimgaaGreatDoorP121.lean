/- Plain lemmas: what the functions of the program and of the reference compute. -/
import Derived.Test.YthhobbgaejimgaaGreatDoorP120
import Derived.Test.YthhobbgaejimgaaGreatDoorP96
set_option linter.all false
set_option maxRecDepth 100000
namespace Go.Sf.Sc
open Go Go.Sf
variable{r:AE}
theorem aQ(h:CM r 4 (⟨#[41]⟩:ByteArray)=true):CM r 2 (⟨#[]⟩:ByteArray)=false/\CM r 4 (⟨#[45]⟩:ByteArray)=false:=by
 unfold CM at *;have a:((⟨#[41]⟩:ByteArray)==(⟨#[]⟩:ByteArray))=false:=by decide
 have b:((⟨#[45]⟩:ByteArray)==(⟨#[]⟩:ByteArray))=false:=by decide
 have c:((⟨#[41]⟩:ByteArray)==(⟨#[45]⟩:ByteArray))=false:=by decide
 simp only[a,b,Bool.false_or,q8,sc,beq_iff_eq]at h|-;obtain⟨⟨f,g⟩,d,e⟩:=h;refine⟨by simp[d],?_⟩;rw[e,c];simp
theorem Nb(h:RI r)(qn:Int)(sg:Bool):∃o I g,A0 r qn sg=some (o,g)/\BE (DG r) qn sg=some (I,DG g)/\RI g/\g.l=r.l/\r.at'<=g.at'/\(g.err=0->r.err=0/\o=I):=by
 have key:∀(m:Nat)(r:AE)(out:D1),RI r->(if r.err=0 then(r.l.length:Int)-r.at'+1 else 0)<=m->(out.length:Int)<=r.at'+(if r.err=0 then 0 else 1) ->
   ∃rp op f b,Fk (ZJ qn sg) (r,out) (.inl (rp,op))/\Fk (ZM qn sg) (DG r,out) (.inl (DG f,b))/\RI rp/\RI f/\rp.l=r.l/\r.at'<=rp.at'/\(Ci rp 4 (⟨#[41]⟩:ByteArray)).2=(Ci f 4 (⟨#[41]⟩:ByteArray)).2/\((Ci rp 4 (⟨#[41]⟩:ByteArray)).2.err=0->r.err=0/\op=b):=by
  intro m
  induction m with
  |zero=>
   intro r out h x ho;have:=h.uv;have:=h.few;have he:¬r.err=0:=fun e=>by rw[QQ e]at x;omega
   rw [a6 he]at ho;have c:=Xp (qn:=qn) (sg:=sg) h (out:=out) (by omega);have a:=dm (qn:=qn) (sg:=sg) h (out:=out) (by omega);simp only[he,decide_false,Bool.false_and,Bool.false_eq_true,if_false]at c a;refine⟨r,out,r,out,.brk c,.brk a,h,h,rfl,Int.le_refl _,rfl,fun e=>?_⟩;exact absurd ((DP h 4 (⟨#[41]⟩:ByteArray)).2.2.2.2.1 e).1 he
  |succ m V=>
   intro r out h x ho;have:=h.uv;have:=h.few;have c:=Xp (qn:=qn) (sg:=sg) h (out:=out) (by split at ho<;>omega);have a:=dm (qn:=qn) (sg:=sg) h (out:=out) (by split at ho<;>omega);by_cases he:r.err=0
   .rw[QQ he]at x ho;simp only[he,decide_true,Bool.true_and]at c a;obtain⟨p,A,N,K,L⟩:=gu (qn:=qn) (sg:=sg) h out;cases n:CM r 4 (⟨#[41]⟩:ByteArray)with
    |true=>
     obtain ⟨O,P⟩:=aQ n;have M:tB sg r=false:=by unfold tB;rw[P];simp
     rw [n]at c;rw[O,M]at a;refine⟨r,out,r,out,.brk c,.brk a,h,h,rfl,Int.le_refl _,rfl,fun e=>⟨he,rfl⟩⟩
    |false=>
     rw [n]at c;simp only[Bool.not_false,if_true]at c;cases i:(CM r 2 (⟨#[]⟩:ByteArray)||tB sg r)with
     |true=>
      rw [i]at a;simp only[if_true]at a;obtain⟨rp,op,f,b,B,C,q,D,E,Q,F,G⟩:=V (JK qn sg r out).1 (JK qn sg r out).2 p (by
       split
       .rename_i e;have:=L e;rw[A];omega
       .omega) (by
       rw [K];split
       .rename_i e;have:=L e;omega
       .omega)
      exact ⟨rp,op,f,b,.next c B,.next a C,q,D,E.trans A,by omega,F,fun e=>⟨he,(G e).2⟩⟩
     |false=>
      rw [i]at a;simp only[Bool.false_eq_true,if_false]at a;simp only[Bool.or_eq_false_iff]at i;have d:(JK qn sg r out).1=EO r 2:=by
       unfold JK QG;simp only[i.2,Bool.false_eq_true,if_false,i.1,Bool.false_and];unfold Ci;rw[i.1];rfl
      have y:(EO r 2).err=2:=by unfold EO;rw[QQ he]
      have z:¬(JK qn sg r out).1.err=0:=by rw[d,y];decide
      have k:=Xp (qn:=qn) (sg:=sg) p (out:=(JK qn sg r out).2) (by rw[K];omega);simp only[z,decide_false,Bool.false_and,Bool.false_eq_true,if_false]at k;have J:=(DP p 4 (⟨#[41]⟩:ByteArray)).2.2.2.2.2 z;refine⟨_,_,r,out,.next c (.brk k),.brk a,p,h,A,N,?_,fun e=>?_⟩
      .rw[J,d];unfold Ci;rw[n];rfl
      .rw[J]at e;exact absurd e z
   .rw[a6 he]at ho;simp only[he,decide_false,Bool.false_and,Bool.false_eq_true,if_false]at c a;refine⟨r,out,r,out,.brk c,.brk a,h,h,rfl,Int.le_refl _,rfl,fun e=>?_⟩;exact absurd ((DP h 4 (⟨#[41]⟩:ByteArray)).2.2.2.2.1 e).1 he
 obtain ⟨H,W,R,X,S,Y⟩:=DP h 4 (⟨#[40]⟩:ByteArray);have:=H.uv;have:=H.uk;obtain⟨rp,op,f,b,B,C,q,D,E,Q,F,G⟩:=key ((Ci r 4 (⟨#[40]⟩:ByteArray)).2.l.length+1) (Ci r 4 (⟨#[40]⟩:ByteArray)).2 [] H (by split<;>omega) (by split<;>simp<;>omega);obtain⟨T,Z,U,u4,u5,u6⟩:=DP q 4 (⟨#[41]⟩:ByteArray);refine⟨op,b,(Ci rp 4 (⟨#[41]⟩:ByteArray)).2,?_,?_,T,(U.trans E).trans R,by omega,fun e=>?_⟩
 .have d:A0 r qn sg=(Al r 4 (⟨#[40]⟩:ByteArray)).bind fun s=>hV (Dy (ZJ qn sg) (s.2,[])) (fun j=>(Al j.1 4 (⟨#[41]⟩:ByteArray)).bind fun t=>some (j.2,t.2)) (fun u=>some u):=rfl;rw[d,N6 h,bs,B.eq];show(Al rp 4 (⟨#[41]⟩:ByteArray)).bind _=_;rw[N6 q,bs]
 .have d:BE (DG r) qn sg=(AW (DG r) 4 (⟨#[40]⟩:ByteArray)).bind fun v=>hV (Dy (ZM qn sg) (v.2,[])) (fun j=>(AW j.1 4 (⟨#[41]⟩:ByteArray)).bind fun w=>some (j.2,w.2)) (fun u=>some u):=rfl;rw[d,Iw h,bs,C.eq];show(AW (DG f) 4 (⟨#[41]⟩:ByteArray)).bind _=_;rw[Iw D,bs,F]
 .obtain⟨d,y⟩:=G e;exact⟨(S d).1,y⟩
end Go.Sf.Sc
