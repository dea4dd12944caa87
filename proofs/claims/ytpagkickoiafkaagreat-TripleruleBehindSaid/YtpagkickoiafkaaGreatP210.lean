/- Plain lemmas: what the functions of the program and of the reference compute. -/
import Derived.Test.YtpagkickoiafkaaGreatP209
set_option linter.all false
set_option maxRecDepth 100000
namespace Go.Sf.Sc
open Go Go.Sf
theorem mR{t:AC}(hf:Ay t){r:ec}(fr:EK r)(c:DM r.c9<=40)(h:AH):∃l,Mf t r h 3=some l/\∀st∈l,∃m,IL t r h m/\Bh t r h m=(CA t r h m,0)/\st=CA t r h m:=by
 have d:=rl (t:=t) (r:=r) (h:=h);unfold Mf;rw[wB hf fr c,bs];refine UO (λ(n:Nat)(s:List Au×Int)=>(0<=s.2/\s.2+(n:Int)=3)/\(s.1.length:Int)<=s.2/\∀st∈s.1,∃m,IL t r h m/\Bh t r h m=(CA t r h m,0)/\st=CA t r h m) (λs=>∀st∈s.1,∃m,IL t r h m/\Bh t r h m=(CA t r h m,0)/\st=CA t r h m) 3 ⟨V,V,V⟩ (λn s⟨a1,a2,b⟩=>?_) (λs⟨a1,a2,b⟩=>?_) (λs a2=>⟨s.1,rfl,a2⟩)
 .by_cases hi:s.2<(WV t r h).1.length/\s.2<3
  .obtain⟨k,e⟩:=Oe hf fr c (ur (AG a1.1 hi.1));rw[QQ k!,AD a1.1 hi.1,bs,dM hf fr c,e,bs,AU a!,bs,Ar U U];refine .inl ⟨_,rfl,⟨q?,q?⟩,an,λst a=>?_⟩;rcases List.mem_append.1 a with a|a
   .exact b st a
   .exact⟨_,k,e,List.mem_singleton.1 a⟩
  .rw[aE k!];exact .inr ⟨_,rfl,b⟩
 .rw[aE an];exact⟨_,rfl,b⟩
theorem iq{d:Ee}(h:(Hh d).WF):VZ d:=by
 have c:TV.k7 [_,_]:=h;refine⟨λx b=>?_,λx b=>?_⟩
 .have a:TV.k7 [_,_]:=Q0 c.1 x b;exact⟨K7 a.1,K7 a.2.1⟩
 .have a:TV.k7 [_,_,_]:=Q0 c.2.1 x b;exact⟨K7 a.1,K7 a.2.1,K7 a.2.2.1⟩
theorem Sl(d:GO)(x:Ee)(w:(GU d).WF)(y:(Hh x).WF):GJ d x=some true:=by
 obtain ⟨b,A⟩:∃b,PD d=some b:=⟨_,rfl⟩;unfold GJ;rw[xk,bs,aE a_,A,bs,bs];by_cases f:((!b||decide (4<(x.bq.length:Int)))||decide (6<(x.ca.length:Int)))=true
 .rw[QQ f];rfl
 rw [aE f];simp only[Bool.or_eq_true,ml,not_or,Bool.not_eq_true']at f;obtain⟨L,R,e,G,B,C,D,E,_⟩:=mA (iu w);obtain⟨h,F,H,κ,η,hv⟩:=Z4 (iq y) U U;have hh:=jJ H hv;have z2:∀{α β:Type},([]:List α).length<=1000/\([]:List β).length<=1000:=⟨Nat.zero_le _,Nat.zero_le _⟩;have p:(Bm L.bq.length).length<=1000/\(Bm L.ca.length).length<=1000:=by rw[CM,CM];omega
 have z:(CE (B4 L R ⟨Bm L.bq.length,Bm L.ca.length⟩)).Sm:=tT (r:=B4 L R ⟨Bm L.bq.length,Bm L.ca.length⟩) (show(1:Nat)<=1000 by decide) (show L.bq.length<=1000/\L.ca.length<=1000 by omega) z2 (show R.bq.length<=1000/\R.ca.length<=1000 by omega) z2 p p qe;have fr:EK (B4 L R ⟨Bm L.bq.length,Bm L.ca.length⟩):=Wd G (show((⟨#[114]⟩:ByteArray).size:Int)<=60 by decide);have q:=RW (Yt G);obtain⟨I,J,_⟩:=sO Dq (r6 Dq) z h;obtain⟨l,el,K⟩:=mR Dq fr q h;rw[bi,bs,e,bs,F,bs];dsimp only;rw[J,bs];cases I with
 |false=>rfl|true=>
 rw [aE a_,el,bs,BT (λ_=>false) false λi n o _=>?_]
 .rw[show gp (λ_=>false) 0 (l.length:Int)=false from BY.2 λi _ _=>rfl];rfl
 obtain ⟨m0,k,e0,j⟩:=K _ (AG n o);obtain⟨a,c,es,a1,a2,M,N,⟨O,P⟩,⟨Q,S⟩,θ,m,u,mm,v⟩:=pY G B C D E hh U U k e0;have s:=R8 Dq hh;have g:=R8 Dq θ;rw[AD n o,bs,j,om Dq (st:=CA BL (B4 L R ⟨Bm L.bq.length,Bm L.ca.length⟩) h m0) fr q,es,bs];dsimp only;rw[aE V,a1,Vy s s,bs,bs,aE V,a2,Vy g g,bs,bs,aE V,dH Dq O P g,M,bs,bs,aE a_,dH Dq Q S (R8 Dq m),N,bs,bs,aE a_];by_cases t:7<((CA BL (B4 L R ⟨Bm L.bq.length,Bm L.ca.length⟩) h m0).fq.ci.bq.length:Int)
 .rw[QQ (by simpa using t)];rfl
 .obtain⟨m',ε⟩:=v7 Dq m u (fg m) (fg u) (by have:=v.d6;omega) v;rw[aE (by simpa using t),ε,bs];rfl
end Go.Sf.Sc
