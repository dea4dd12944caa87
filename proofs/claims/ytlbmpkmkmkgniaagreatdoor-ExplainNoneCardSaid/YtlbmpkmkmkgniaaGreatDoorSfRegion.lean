/- One operation against the checker, and regions in the text's order. -/
import Derived.Test.YtlbmpkmkmkgniaaGreatDoorSfZ
namespace Go.Sf
open Go.RowKit (Below)
def Operand.isTmp (n:Nat):Operand->Bool
 | .tmp m=>m==n
 | _=>false
theorem Operand.isTmp_eq {n:Nat} {x:Operand} (h:Operand.isTmp n x=true):x=.tmp n:=by
 cases x <;> simp [Operand.isTmp] at h
 rw [h]
def Rg:Operand->Bool
 | .const v=>KX v
 | _=>false
theorem Ng {x:Operand} (h:Rg x=true):∃ v,x=.const v∧KX v=true:=by
 cases x <;> simp [Rg] at h
 exact ⟨_,rfl,h⟩
def Pz (P:Program) (str:Bool) (c:Call) (x:AJ):Bool:=
 match c.callee,c.args.toList,c.argTypes.toList with
 | .builtin .len,[y],[t]=>AP y x&&(match P.underlying t with | some (.slice _)=>!str | some .string=>str | _=>false)
 | _,_,_=>false
def Tj (P:Program) (n:Nat) (c:Call) (x y:AJ):Bool:=
 match c.callee,c.args.toList,c.argTypes.toList,x with
 | .builtin .append,[p,q],[t,t'],.s s=>Operand.isTmp s p&&AP q y&&t==t'&&(match P.underlying t with
  | some (.slice e)=>(match P.info? e with
   | some i=>(match i.zero with | some z=>i.size==n&&decide (i.bytes<=4096)&&z.cells.size==n&&decide (0<n) | none=>false)
   | none=>false)
  | _=>false)
 | _,_,_,_=>false
def eY (mx:Bool) (c:Call) (x y:AJ):Bool:=
 match c.callee,c.args.toList with
 | .builtin .max,[p,q]=>mx&&AP p x&&AP q y
 | .builtin .min,[p,q]=>!mx&&AP p x&&AP q y
 | _,_=>false
def Oj (P:Program) (o:Op):AH->Bool
 | .mv x=>match o with | .move y | .assign y=>AP y x | _=>false
 | .tk s=>match o with | .move y | .assign y=>Operand.isTmp s y | _=>false
 | .nilo _=>match o with | .move y | .assign y=>Rg y | _=>false
 | .fad x k=>match o with | .fieldAddr t y f=>AP y x&&ND P t f==some k | .move y | .assign y | .nilCheck y=>k==0&&AP y x | _=>false
 | .bad s k=>match o with | .indexAddr t y j=>Operand.isTmp s y&&Wp P t j k | .fieldAddr t y f=>Operand.isTmp s y&&ND P t f==some k | .move y | .assign y | .nilCheck y=>k==0&&Operand.isTmp s y | _=>false
 | .iad x i n=>match o with | .indexAddr t y j=>AP y x&&AP j i&&KB P t==some n | _=>false
 | .aad x i n k=>match o with | .indexAddr t y j=>AP y x&&AP j i&&(match P.underlying t with | some (.array k' e)=>k'==k&&EU P e==some n | _=>false) | _=>false
 | .ld x=>match o with | .load t y=>AP y x&&DH P t==some false | _=>false
 | .lda x n=>match o with | .load t y=>AP y x&&DH P t==some true&&EU P t==some n | _=>false
 | .ldb s n=>match o with | .load t y=>AP y (.s s)&&DH P t==some true&&EU P t==some n | _=>false
 | .ldt x=>match o with | .load t y=>AP y x&&DH P t==some false | _=>false
 | .bin k op x y=>match o with | .binOp op' t p q _=>op'==op&&Of P k t&&AP p x&&AP q y | _=>false
 | .not x=>match o with | .unOp op _ y=>op==.not&&AP y x | _=>false
 | .neg x=>match o with | .unOp op _ y=>op==.neg&&AP y x | _=>false
 | .pick c x y=>match o with | .pick c' p q=>AP c' c&&AP p x&&AP q y | _=>false
 | .len x=>match o with | .call c=>Pz P false c x | _=>false
 | .slen x=>match o with | .call c=>Pz P true c x | _=>false
 | .slc n x lo hi=>match o with | .slice t y l h mx=>mx.isNone&&AP y x&&LU l lo&&LU h hi&&KB P t==some n | _=>false
 | .sslc x lo hi=>match o with | .slice t y l h mx=>mx.isNone&&AP y x&&LU l lo&&LU h hi&&(match P.underlying t with | some .string=>true | _=>false) | _=>false
 | .bld z ps=>match o with | .build t qs=>Wq P t z qs.toList ps | _=>false
 | .lst n ys=>match o with
  | .buildSlice t len ps=>(match P.underlying t with
   | some (.slice e)=>(match P.info? e with
    | some i=>(match i.zero with
     | some z=>i.size==n&&decide (0<n)&&z.cells.toList.all Value.oneCell'&&decide (0<z.cells.size)&&len==ps.size&&decide (len*n<=2 ^ 24)&&Oi 0 ps.toList ys
     | none=>false)
    | none=>false)
   | _=>false)
  | _=>false
 | .app n x y=>match o with | .call c=>Tj P n c x y | _=>false
 | .call f ys=>match o with | .call c=>(match c.callee with | .value (.func g)=>g==f&&C5 c.args.toList ys | _=>false) | _=>false
 | .callv x ys=>match o with | .call c=>(match c.callee with | .value g=>AP g x&&C5 c.args.toList ys | _=>false) | _=>false
 | .clo f cs=>match o with | .makeFunc (.func g) first xs=>g==f&&first.size==0&&C5 xs.toList cs | _=>false
 | .ext x i=>match o,x with | .extract y j,.s s=>Operand.isTmp s y&&j==i | _,_=>false
 | .cvt k x=>match o with | .convert s t y=>AP y x&&(match P.underlying s,P.underlying t with | some (.int _),some (.int k')=>k'==k | _,_=>false) | _=>false
 | .sidx x i=>match o with | .index t y j=>AP y x&&AP j i&&(match P.underlying t with | some .string=>true | _=>false) | _=>false
 | .boxs x=>match o with | .box _ y=>AP y x | _=>false
 | .boxo x=>match o with | .box _ y=>AP y x | _=>false
 | .mm mx x y=>match o with | .call c=>eY mx c x y | _=>false
 | .alc cs=>match o with | .alloc t=>(match P.info? t with | some i=>(match i.zero with | some z=>L0 cs z.cells.toList | none=>false) | none=>false) | _=>false
 | .st n x v=>match o with | .store t y u=>AP y x&&AP u v&&EU P t==some n | _=>false
 | .stb n s v=>match o with | .store t y u=>Operand.isTmp s y&&AP u v&&EU P t==some n | _=>false
 | .frz _=>false
 | .fldv x k n agg=>match o with | .field t y f=>AP y x&&Wr P t f k n agg | _=>false
 | .xal s=>match o with | .move y | .assign y=>Operand.isTmp s y | _=>false
 | .xlen x=>match o with | .call c=>Pz P false c x | _=>false
 | .xia x i n=>match o with | .indexAddr t y j=>AP y x&&AP j i&&KB P t==some n | _=>false
 | .xfa x k=>match o with | .fieldAddr t y f=>AP y x&&ND P t f==some k | _=>false
 | .xld x=>match o with | .load t y=>AP y x&&DH P t==some false | _=>false
 | .xst x v=>match o with | .store t y u=>AP y x&&AP u v&&EU P t==some 1 | _=>false
 | .rel s=>match o with | .move y | .assign y=>Operand.isTmp s y | _=>false
 | .nilx _=>match o with | .move y | .assign y=>Rg y | _=>false
 | .tkx s=>match o with | .move y | .assign y=>Operand.isTmp s y | _=>false
 | .appx n s y=>match o with | .call c=>Tj P n c (.s s) y | _=>false
 | .callx f ys=>match o with | .call c=>(match c.callee with | .value (.func g)=>g==f&&C5 c.args.toList ys | _=>false) | _=>false
 | .mkx n zero x=>match o with | .makeSlice t y z=>AP y x&&AP z x&&Za P t n zero | _=>false
 | .callm f x=>match o with | .call c=>(match c.callee,c.args.toList with | .value (.func g),[y]=>g==f&&AP y x | _,_=>false) | _=>false
 | .callc f x=>match o with | .call c=>(match c.callee,c.args.toList with | .value (.func g),[y]=>g==f&&AP y x | _,_=>false) | _=>false
 | .lstz n=>match o with | .buildSlice t len ps=>len==0&&ps.isEmpty&&UW P t n | _=>false
 | .bldg gs=>match o with | .build t ps=>UV P t ps.toList gs | _=>false
 | .stx n s q=>match o with | .store t y u=>AP y (.s s)&&AP u (.s q)&&EU P t==some n | _=>false
 | .callg f ys=>match o with | .call c=>(match c.callee with | .value (.func g)=>g==f&&C5 c.args.toList ys | _=>false) | _=>false
 | .isn x=>match o with | .binOp op t y z _=>op==.eql&&AP y x&&Pw z&&Ws P t | _=>false
 | .lac x=>match o with | .load t y=>AP y x&&DH P t==some false | _=>false
 | .ctk x=>match o with | .load t y=>AP y x&&DH P t==some false | _=>false
 | .cpt x q=>match o with | .store t y u=>AP y x&&AP u (.s q)&&EU P t==some 1 | _=>false
 | .cut n s hi=>match o with | .slice t y l (some h) mx=>mx.isNone&&l.isNone&&Operand.isTmp s y&&AP h hi&&KB P t==some n | _=>false
 | .calll f ys=>match o with | .call c=>(match c.callee with | .value (.func g)=>g==f&&C5 c.args.toList ys | _=>false) | _=>false
 | .boxp _ x=>match o with | .box _ y=>AP y x | _=>false
 | .callf f ys=>match o with | .call c=>(match c.callee with | .value (.func g)=>g==f&&C5 c.args.toList ys | _=>false) | _=>false
 | .appz n s z x=>match o with | .call c=>X4 P n s z x c | _=>false
 | .callb f ys _=>match o with | .call c=>(match c.callee with | .value (.func g)=>g==f&&C5 c.args.toList ys | _=>false) | _=>false
def K4:AH->Bool
 | .st ..=>true
 | .stb ..=>true
 | .xst ..=>true
 | .stx ..=>true
 | .cpt ..=>true
 | _=>false
section
variable {P:Program} {F0:Nat->Nat->Prop} {w0:W0} {env:AC} {a:Act} {w:World} {G:DE} {d:Nat} {o:Oper} {K:EV->AC->Prop}
theorem BS.wp (h:BS P F0 w0 a w o d K) (hdst:o.dst=some d) {next:Act->World->Prop} {Q:Exit->Act->World->Prop} (hn:∀ e env' a' w',K e env'->O1 a d a'->C2 F0 w0 ((d,e)::env') a' w'->next a' w'):o.wp P a w next Q:=by
 obtain ⟨v,w',hrun,e,env',hK,hI⟩:=h
 unfold Oper.wp
 rw [hrun,Oper.upon_value,hdst]
 exact hn e env' _ w' hK ⟨_,rfl⟩ hI
theorem HD {α:Type} {a:Array α} {x:α} (h:a.toList=[x]):a=#[x]:=by
 cases a; simp_all
theorem Hq {α:Type} {a:Array α} {x y:α} (h:a.toList=[x,y]):a=#[x,y]:=by
 cases a; simp_all
theorem ET {c:Call} {ca:Callee} {as:Array Operand} {ts:Array TypeId} (h1:c.callee=ca) (h2:c.args=as) (h3:c.argTypes=ts):c={ callee:=ca,args:=as,argTypes:=ts }:=by
 cases c; simp_all
theorem Zb (hI:AT F0 w0 env a w G) (hd:d<a.tmps.size) (hdst:o.dst=some d) {p:AH} (hok:Oj P o.op p=true) (hst:K4 p=false) (h:p.wp (AR P) env (some d) K)
  {next:Act->World->Prop} {Q:Exit->Act->World->Prop} (hn:∀ e env' a' w',K e env'->O1 a d a'->C2 F0 w0 ((d,e)::env') a' w'->next a' w'):o.wp P a w next Q:=by
 cases p <;> simp only [Oj] at hok
 case mv x=>
  split at hok
  ·rename_i y e; exact (WA hI hd (.inl e) hok h).wp hdst hn
  ·rename_i y e; exact (WA hI hd (.inr e) hok h).wp hdst hn
  ·cases hok
 case tk s=>
  split at hok
  ·rename_i y e; rw [Operand.isTmp_eq hok] at e; exact (WC hI hd (.inl e) h).wp hdst hn
  ·rename_i y e; rw [Operand.isTmp_eq hok] at e; exact (WC hI hd (.inr e) h).wp hdst hn
  ·cases hok
 case nilo n=>
  split at hok
  ·rename_i y e; exact (TP hI hd (.inl e) (Ng hok) h).wp hdst hn
  ·rename_i y e; exact (TP hI hd (.inr e) (Ng hok) h).wp hdst hn
  ·cases hok
 case fad x k=>
  split at hok
  ·rename_i t y f e
   simp only [zzZ,beq_iff_eq] at hok
   exact (Ov hI hd (Vo e hok.2) hok.1 h).wp hdst hn
  ·rename_i y e
   simp only [zzZ,beq_iff_eq] at hok
   obtain ⟨rfl,hok⟩:=hok
   exact (Ov hI hd (Mz (.inl e)) hok h).wp hdst hn
  ·rename_i y e
   simp only [zzZ,beq_iff_eq] at hok
   obtain ⟨rfl,hok⟩:=hok
   exact (Ov hI hd (Mz (.inr (.inl e))) hok h).wp hdst hn
  ·rename_i y e
   simp only [zzZ,beq_iff_eq] at hok
   obtain ⟨rfl,hok⟩:=hok
   exact (Ov hI hd (Mz (.inr (.inr e))) hok h).wp hdst hn
  ·cases hok
 case bad s k=>
  split at hok
  ·rename_i t y j e
   simp only [zzZ] at hok
   rw [Operand.isTmp_eq hok.1] at e
   exact (NO hI hd (bX e hok.2) h).wp hdst hn
  ·rename_i t y f e
   simp only [zzZ,beq_iff_eq] at hok
   rw [Operand.isTmp_eq hok.1] at e
   exact (NO hI hd (Vo e hok.2) h).wp hdst hn
  ·rename_i y e
   simp only [zzZ,beq_iff_eq] at hok
   obtain ⟨rfl,hok⟩:=hok
   rw [Operand.isTmp_eq hok] at e
   exact (NO hI hd (Mz (.inl e)) h).wp hdst hn
  ·rename_i y e
   simp only [zzZ,beq_iff_eq] at hok
   obtain ⟨rfl,hok⟩:=hok
   rw [Operand.isTmp_eq hok] at e
   exact (NO hI hd (Mz (.inr (.inl e))) h).wp hdst hn
  ·rename_i y e
   simp only [zzZ,beq_iff_eq] at hok
   obtain ⟨rfl,hok⟩:=hok
   rw [Operand.isTmp_eq hok] at e
   exact (NO hI hd (Mz (.inr (.inr e))) h).wp hdst hn
  ·cases hok
 case iad x i n=>
  split at hok
  ·rename_i t y j e
   simp only [zzZ,beq_iff_eq] at hok
   exact (Z8 hI hd e hok.1.1 hok.1.2 hok.2 h).wp hdst hn
  ·cases hok
 case aad x i n k=>
  split at hok
  ·rename_i t y j e
   simp only [zzZ] at hok
   obtain ⟨⟨h1,h2⟩,h3⟩:=hok
   split at h3
   ·rename_i k' el hu
    simp only [zzZ,beq_iff_eq] at h3
    obtain ⟨rfl,h4⟩:=h3
    exact (Zx hI hd e h1 h2 hu h4 h).wp hdst hn
   ·cases h3
  ·cases hok
 case ld x=>
  split at hok
  ·rename_i t y e
   simp only [zzZ,beq_iff_eq] at hok
   exact (dE hI hd e hok.1 hok.2 h).wp hdst hn
  ·cases hok
 case lda x n=>
  split at hok
  ·rename_i t y e
   simp only [zzZ,beq_iff_eq] at hok
   exact (Uy hI hd e hok.1.1 hok.1.2 hok.2 h).wp hdst hn
  ·cases hok
 case ldb s n=>
  split at hok
  ·rename_i t y e
   simp only [zzZ,beq_iff_eq] at hok
   refine (Uy (S:=AR P) hI hd e hok.1.1 hok.1.2 hok.2 (y:=.s s) ?_).wp hdst hn
   simp only [AH.wp] at h ⊢
   split at h
   ·rename_i cs hc
    simp only [AJ.ev,hc,BO,A6]
    exact h
   ·exact h.elim
  ·cases hok
 case ldt x=>
  split at hok
  ·rename_i t y e
   simp only [zzZ,beq_iff_eq] at hok
   exact (aB hI hd e hok.1 hok.2 h).wp hdst hn
  ·cases hok
 case bin k op x y=>
  split at hok
  ·rename_i op' t p q t' e
   simp only [zzZ,beq_iff_eq] at hok
   obtain ⟨⟨⟨rfl,h1⟩,h2⟩,h3⟩:=hok
   exact (Z0 hI hd e h1 h2 h3 h).wp hdst hn
  ·cases hok
 case not x=>
  split at hok
  ·rename_i op t y e
   simp only [zzZ,beq_iff_eq] at hok
   obtain ⟨rfl,h1⟩:=hok
   exact (aG hI hd e h1 h).wp hdst hn
  ·cases hok
 case neg x=>
  split at hok
  ·rename_i op t y e
   simp only [zzZ,beq_iff_eq] at hok
   obtain ⟨rfl,h1⟩:=hok
   exact (aF hI hd e h1 h).wp hdst hn
  ·cases hok
 case pick c x y=>
  split at hok
  ·rename_i c' p q e
   simp only [zzZ] at hok
   exact (Yj hI hd e hok.1.1 hok.1.2 hok.2 h).wp hdst hn
  ·cases hok
 case len x=>
  split at hok
  ·rename_i c e
   unfold Pz at hok
   split at hok
   ·rename_i y t h1 h2 h3
    simp only [zzZ] at hok
    obtain ⟨h4,h5⟩:=hok
    split at h5
    ·rename_i el hu
     rw [ET h1 (HD h2) (HD h3)] at e
     exact (aC hI hd e h4 hu h).wp hdst hn
    ·cases h5
    ·cases h5
   ·cases hok
  ·cases hok
 case slen x=>
  split at hok
  ·rename_i c e
   unfold Pz at hok
   split at hok
   ·rename_i y t h1 h2 h3
    simp only [zzZ] at hok
    obtain ⟨h4,h5⟩:=hok
    split at h5
    ·cases h5
    ·rename_i hu
     rw [ET h1 (HD h2) (HD h3)] at e
     exact (Yl hI hd e h4 hu h).wp hdst hn
    ·cases h5
   ·cases hok
  ·cases hok
 case slc n x lo hi=>
  split at hok
  ·rename_i t y l hh mx e
   simp only [zzZ,beq_iff_eq,Option.isNone_iff_eq_none] at hok
   obtain ⟨⟨⟨⟨rfl,h1⟩,h2⟩,h3⟩,h4⟩:=hok
   exact (aH hI hd e h1 h2 h3 h4 h).wp hdst hn
  ·cases hok
 case sslc x lo hi=>
  split at hok
  ·rename_i t y l hh mx e
   simp only [zzZ,Option.isNone_iff_eq_none] at hok
   obtain ⟨⟨⟨⟨rfl,h1⟩,h2⟩,h3⟩,h4⟩:=hok
   split at h4
   ·rename_i hu; exact (Ym hI hd e h1 h2 h3 hu h).wp hdst hn
   ·cases h4
  ·cases hok
 case bld z ps=>
  split at hok
  ·rename_i t qs e; exact (Z1 hI hd e hok h).wp hdst hn
  ·cases hok
 case lst n ys=>
  split at hok
  ·rename_i t len ps e
   split at hok
   ·rename_i el hu
    split at hok
    ·rename_i i hi
     split at hok
     ·rename_i z hz
      simp only [zzZ,beq_iff_eq,zzX] at hok
      obtain ⟨⟨⟨⟨⟨⟨h1,h2⟩,h3⟩,h4⟩,h5⟩,h6⟩,h7⟩:=hok
      exact (aD hI hd e hu hi hz h1 h2 h3 h4 h5 h6 h7 h).wp hdst hn
     ·cases hok
    ·cases hok
   ·cases hok
  ·cases hok
 case app n x y=>
  split at hok
  ·rename_i c e
   unfold Tj at hok
   split at hok
   ·rename_i p q t t' s h1 h2 h3
    simp only [zzZ,beq_iff_eq] at hok
    obtain ⟨⟨⟨h4,h5⟩,rfl⟩,h6⟩:=hok
    split at h6
    ·rename_i el hu
     split at h6
     ·rename_i i hi
      split at h6
      ·rename_i z hz
       simp only [zzZ,beq_iff_eq,zzX] at h6
       obtain ⟨⟨⟨h7,h8⟩,h9⟩,h10⟩:=h6
       rw [ET h1 (Hq h2) (Hq h3),Operand.isTmp_eq h4] at e
       exact (Zz hI hd e hu hi hz h7 h8 h9 h10 h5 h).wp hdst hn
      ·cases h6
     ·cases h6
    ·cases h6
   ·cases hok
  ·cases hok
 case call f ys=>
  split at hok
  ·rename_i c e
   split at hok
   ·rename_i g hc
    simp only [zzZ,beq_iff_eq] at hok
    obtain ⟨rfl,h1⟩:=hok
    rw [ET hc rfl rfl] at e
    exact Yg hI hd hdst e h1 h hn
   ·cases hok
  ·cases hok
 case callv x ys=>
  split at hok
  ·rename_i c e
   split at hok
   ·rename_i g hc
    simp only [zzZ] at hok
    rw [ET hc rfl rfl] at e
    exact XO hI hd hdst e hok.1 hok.2 h hn
   ·cases hok
  ·cases hok
 case clo f cs=>
  split at hok
  ·rename_i g first xs e
   simp only [zzZ,beq_iff_eq] at hok
   obtain ⟨⟨rfl,h1⟩,h2⟩:=hok
   rw [Array.eq_empty_of_size_eq_zero h1] at e
   exact (Z2 hI hd e h2 h).wp hdst hn
  ·cases hok
 case ext x i=>
  split at hok
  ·rename_i y j s e
   simp only [zzZ,beq_iff_eq] at hok
   obtain ⟨h1,rfl⟩:=hok
   rw [Operand.isTmp_eq h1] at e
   exact (Z7 hI hd e h).wp hdst hn
  ·cases hok
 case cvt k x=>
  split at hok
  ·rename_i s t y e
   simp only [zzZ] at hok
   obtain ⟨h1,h2⟩:=hok
   split at h2
   ·rename_i k1 k2 hs ht
    simp only [beq_iff_eq] at h2
    subst h2
    exact (Z6 hI hd e hs ht h1 h).wp hdst hn
   ·cases h2
  ·cases hok
 case sidx x i=>
  split at hok
  ·rename_i t y j e
   simp only [zzZ] at hok
   obtain ⟨⟨h1,h2⟩,h3⟩:=hok
   split at h3
   ·rename_i hu; exact (Yk hI hd e h1 h2 hu h).wp hdst hn
   ·cases h3
  ·cases hok
 case boxs x=>
  split at hok
  ·rename_i t y e; exact (Yf hI hd e hok h).wp hdst hn
  ·cases hok
 case boxo x=>
  split at hok
  ·rename_i t y e; exact (Yd hI hd e hok h).wp hdst hn
  ·cases hok
 case mm mx x y=>
  split at hok
  ·rename_i c e
   unfold eY at hok
   split at hok
   ·rename_i p q h1 h2
    simp only [zzZ] at hok
    obtain ⟨⟨rfl,h3⟩,h4⟩:=hok
    rw [ET h1 (Hq h2) rfl] at e
    exact (V9 (mx:=true) hI hd e h3 h4 h).wp hdst hn
   ·rename_i p q h1 h2
    simp only [zzZ,Bool.not_eq_true'] at hok
    obtain ⟨⟨rfl,h3⟩,h4⟩:=hok
    rw [ET h1 (Hq h2) rfl] at e
    exact (V9 (mx:=false) hI hd e h3 h4 h).wp hdst hn
   ·cases hok
  ·cases hok
 case alc cs=>
  split at hok
  ·rename_i t e
   split at hok
   ·rename_i i hi
    split at hok
    ·rename_i z hz; exact (Zy hI hd e hi hz hok h).wp hdst hn
    ·cases hok
   ·cases hok
  ·cases hok
 case st n x v=>cases hst
 case stb n s v=>cases hst
 case frz s=>cases hok
 case fldv x k n agg=>
  split at hok
  ·rename_i t y f e
   simp only [zzZ] at hok
   exact (Yh hI hd e hok.1 hok.2 h).wp hdst hn
  ·cases hok
 case xal s=>
  split at hok
  ·rename_i y e; rw [Operand.isTmp_eq hok] at e; exact (U1 hI hd (.inl e) h).wp hdst hn
  ·rename_i y e; rw [Operand.isTmp_eq hok] at e; exact (U1 hI hd (.inr e) h).wp hdst hn
  ·cases hok
 case rel s=>
  split at hok
  ·rename_i y e; rw [Operand.isTmp_eq hok] at e; exact (Uz hI hd (.inl e) h).wp hdst hn
  ·rename_i y e; rw [Operand.isTmp_eq hok] at e; exact (Uz hI hd (.inr e) h).wp hdst hn
  ·cases hok
 case tkx s=>
  split at hok
  ·rename_i y e; rw [Operand.isTmp_eq hok] at e; exact (U0 hI hd (.inl e) h).wp hdst hn
  ·rename_i y e; rw [Operand.isTmp_eq hok] at e; exact (U0 hI hd (.inr e) h).wp hdst hn
  ·cases hok
 case nilx n=>
  split at hok
  ·rename_i y e; exact (TQ hI hd (.inl e) (Ng hok) h).wp hdst hn
  ·rename_i y e; exact (TQ hI hd (.inr e) (Ng hok) h).wp hdst hn
  ·cases hok
 case xlen x=>
  split at hok
  ·rename_i c e
   unfold Pz at hok
   split at hok
   ·rename_i y t h1 h2 h3
    simp only [zzZ] at hok
    obtain ⟨h4,h5⟩:=hok
    split at h5
    ·rename_i el hu
     rw [ET h1 (HD h2) (HD h3)] at e
     exact (Yn hI hd e h4 hu h).wp hdst hn
    ·cases h5
    ·cases h5
   ·cases hok
  ·cases hok
 case xia x i n=>
  split at hok
  ·rename_i t y j e
   simp only [zzZ,beq_iff_eq] at hok
   exact (aK hI hd e hok.1.1 hok.1.2 hok.2 h).wp hdst hn
  ·cases hok
 case xfa x k=>
  split at hok
  ·rename_i t y f e
   simp only [zzZ,beq_iff_eq] at hok
   exact (aJ hI hd e hok.1 hok.2 h).wp hdst hn
  ·cases hok
 case xld x=>
  split at hok
  ·rename_i t y e
   simp only [zzZ,beq_iff_eq] at hok
   exact (aL hI hd e hok.1 hok.2 h).wp hdst hn
  ·cases hok
 case xst x v=>cases hst
 case appx n s y=>
  split at hok
  ·rename_i c e
   unfold Tj at hok
   split at hok
   ·rename_i p q t t' s' h1 h2 h3 h0
    simp only [AJ.s.injEq] at h0
    subst h0
    simp only [zzZ,beq_iff_eq] at hok
    obtain ⟨⟨⟨h4,h5⟩,rfl⟩,h6⟩:=hok
    split at h6
    ·rename_i el hu
     split at h6
     ·rename_i i hi
      split at h6
      ·rename_i z hz
       simp only [zzZ,beq_iff_eq,zzX] at h6
       obtain ⟨⟨⟨h7,h8⟩,h9⟩,h10⟩:=h6
       rw [ET h1 (Hq h2) (Hq h3),Operand.isTmp_eq h4] at e
       exact (Ya hI hd e hu hi hz h7 h8 h9 h10 h5 h).wp hdst hn
      ·cases h6
     ·cases h6
    ·cases h6
   ·cases hok
  ·cases hok
 case callx f ys=>
  split at hok
  ·rename_i c e
   split at hok
   ·rename_i g hc
    simp only [zzZ,beq_iff_eq] at hok
    obtain ⟨rfl,h1⟩:=hok
    rw [ET hc rfl rfl] at e
    exact XP hI hd hdst e h1 h hn
   ·cases hok
  ·cases hok
 case mkx n zero x=>
  split at hok
  ·rename_i t y z e
   simp only [zzZ] at hok
   exact (dF hI hd e hok.1.1 hok.1.2 hok.2 h).wp hdst hn
  ·cases hok
 case callm f x=>
  split at hok
  ·rename_i c e
   split at hok
   ·rename_i g y hc ha
    simp only [zzZ,beq_iff_eq] at hok
    obtain ⟨rfl,h1⟩:=hok
    rw [ET hc (HD ha) rfl] at e
    exact XN hI hd hdst e h1 h hn
   ·cases hok
  ·cases hok
 case callc f x=>
  split at hok
  ·rename_i c e
   split at hok
   ·rename_i g y hc ha
    simp only [zzZ,beq_iff_eq] at hok
    obtain ⟨rfl,h1⟩:=hok
    rw [ET hc (HD ha) rfl] at e
    exact XJ hI hd hdst e h1 h hn
   ·cases hok
  ·cases hok
 case lstz n=>
  split at hok
  ·rename_i t len ps e
   simp only [zzZ,beq_iff_eq,Array.isEmpty_iff] at hok
   obtain ⟨⟨rfl,rfl⟩,h1⟩:=hok
   exact (Yi hI hd e h1 h).wp hdst hn
  ·cases hok
 case bldg gs=>
  split at hok
  ·rename_i t ps e; exact (Yc hI hd e hok h).wp hdst hn
  ·cases hok
 case stx n s q=>cases hst
 case cpt x q=>cases hst
 case lac x=>
  split at hok
  ·rename_i t y e
   simp only [zzZ,beq_iff_eq] at hok
   exact (aA hI hd e hok.1 hok.2 h).wp hdst hn
  ·cases hok
 case ctk x=>
  split at hok
  ·rename_i t y e
   simp only [zzZ,beq_iff_eq] at hok
   exact (Z4 hI hd e hok.1 hok.2 h).wp hdst hn
  ·cases hok
 case cut n s hi=>
  split at hok
  ·rename_i t y l hh mx e
   simp only [zzZ,beq_iff_eq,Option.isNone_iff_eq_none] at hok
   obtain ⟨⟨⟨⟨rfl,rfl⟩,h1⟩,h2⟩,h3⟩:=hok
   rw [Operand.isTmp_eq h1] at e
   exact (Z5 hI hd e h2 h3 h).wp hdst hn
  ·cases hok
 case calll f ys=>
  split at hok
  ·rename_i c e
   split at hok
   ·rename_i g hc
    simp only [zzZ,beq_iff_eq] at hok
    obtain ⟨rfl,h1⟩:=hok
    rw [ET hc rfl rfl] at e
    exact XM hI hd hdst e h1 h hn
   ·cases hok
  ·cases hok
 case callb f ys i=>
  split at hok
  ·rename_i c e
   split at hok
   ·rename_i g hc
    simp only [zzZ,beq_iff_eq] at hok
    obtain ⟨rfl,h1⟩:=hok
    rw [ET hc rfl rfl] at e
    exact XI hI hd hdst e h1 h hn
   ·cases hok
  ·cases hok
 case callf f ys=>
  split at hok
  ·rename_i c e
   split at hok
   ·rename_i g hc
    simp only [zzZ,beq_iff_eq] at hok
    obtain ⟨rfl,h1⟩:=hok
    rw [ET hc rfl rfl] at e
    exact (XK hI hd e h1 h).wp hdst hn
   ·cases hok
  ·cases hok
 case appz n s z x=>
  split at hok
  ·rename_i c e
   unfold X4 at hok
   split at hok
   ·rename_i p q t t' h1 h2 h3
    simp only [zzZ] at hok
    obtain ⟨⟨h4,h5⟩,h6⟩:=hok
    split at h6
    ·rename_i el kn hu hu'
     split at h6
     ·rename_i i hi
      split at h6
      ·rename_i zz hz
       split at h6
       ·rename_i z0 hz0
        simp only [zzZ,beq_iff_eq,zzX] at h6
        obtain ⟨⟨⟨⟨rfl,h7⟩,h8⟩,h9⟩,h10⟩:=h6
        rw [ET h1 (Hq h2) (Hq h3),Operand.isTmp_eq' h4] at e
        exact (Yb hI hd e hu hu' hi hz h7 h8 (HD hz0) h9 h10 h5 h).wp hdst hn
       ·cases h6
      ·cases h6
     ·cases h6
    ·cases h6
   ·cases hok
  ·cases hok
 case boxp ps x=>
  split at hok
  ·rename_i t y e; exact (Ye hI hd e hok h).wp hdst hn
  ·cases hok
 case callg f ys=>
  split at hok
  ·rename_i c e
   split at hok
   ·rename_i g hc
    simp only [zzZ,beq_iff_eq] at hok
    obtain ⟨rfl,h1⟩:=hok
    rw [ET hc rfl rfl] at e
    exact XL hI hd hdst e h1 h hn
   ·cases hok
  ·cases hok
 case isn x=>
  split at hok
  ·rename_i op t y z t' e
   simp only [zzZ,beq_iff_eq] at hok
   obtain ⟨⟨⟨rfl,h1⟩,h2⟩,h3⟩:=hok
   exact (Z9 hI hd e h1 h2 h3 h).wp hdst hn
  ·cases hok
end
end Go.Sf
