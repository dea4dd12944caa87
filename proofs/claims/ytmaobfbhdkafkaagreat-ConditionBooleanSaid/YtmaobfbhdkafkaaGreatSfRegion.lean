/- One operation against the checker, and regions in the text's order. -/
import Derived.Test.YtmaobfbhdkafkaaGreatSfZ
namespace Go.Sf
open Go.RowKit (Below)
def Operand.isTmp (n:Nat):Operand->Bool
 | .tmp m=>m==n
 | _=>false
theorem Operand.isTmp_eq {n:Nat} {x:Operand} (h:Operand.isTmp n x=true):x=.tmp n:=by
 cases x <;> simp [Operand.isTmp] at h
 rw [h]
def R9:Operand->Bool
 | .const v=>Kx v
 | _=>false
theorem N6 {x:Operand} (h:R9 x=true):∃ v,x=.const v∧Kx v=true:=by
 cases x <;> simp [R9] at h
 exact ⟨_,rfl,h⟩
def Q1 (P:Program) (str:Bool) (c:Call) (x:AE):Bool:=
 match c.callee,c.args.toList,c.argTypes.toList with
 | .builtin .len,[y],[t]=>AK y x&&(match P.underlying t with | some (.slice _)=>!str | some .string=>str | _=>false)
 | _,_,_=>false
def Tu (P:Program) (n:Nat) (c:Call) (x y:AE):Bool:=
 match c.callee,c.args.toList,c.argTypes.toList,x with
 | .builtin .append,[p,q],[t,t'],.s s=>Operand.isTmp s p&&AK q y&&t==t'&&(match P.underlying t with
  | some (.slice e)=>(match P.info? e with
   | some i=>(match i.zero with | some z=>i.size==n&&decide (i.bytes<=4096)&&z.cells.size==n&&decide (0<n) | none=>false)
   | none=>false)
  | _=>false)
 | _,_,_,_=>false
def fO (mx:Bool) (c:Call) (x y:AE):Bool:=
 match c.callee,c.args.toList with
 | .builtin .max,[p,q]=>mx&&AK p x&&AK q y
 | .builtin .min,[p,q]=>!mx&&AK p x&&AK q y
 | _,_=>false
def Pm (P:Program) (o:Op):AD->Bool
 | .mv x=>match o with | .move y | .assign y=>AK y x | _=>false
 | .tk s=>match o with | .move y | .assign y=>Operand.isTmp s y | _=>false
 | .nilo _=>match o with | .move y | .assign y=>R9 y | _=>false
 | .fad x k=>match o with | .fieldAddr t y f=>AK y x&&Ni P t f==some k | .move y | .assign y | .nilCheck y=>k==0&&AK y x | _=>false
 | .bad s k=>match o with | .indexAddr t y j=>Operand.isTmp s y&&W9 P t j k | .fieldAddr t y f=>Operand.isTmp s y&&Ni P t f==some k | .move y | .assign y | .nilCheck y=>k==0&&Operand.isTmp s y | _=>false
 | .iad x i n=>match o with | .indexAddr t y j=>AK y x&&AK j i&&KV P t==some n | _=>false
 | .aad x i n k=>match o with | .indexAddr t y j=>AK y x&&AK j i&&(match P.underlying t with | some (.array k' e)=>k'==k&&EO P e==some n | _=>false) | _=>false
 | .ld x=>match o with | .load t y=>AK y x&&C9 P t==some false | _=>false
 | .lda x n=>match o with | .load t y=>AK y x&&C9 P t==some true&&EO P t==some n | _=>false
 | .ldt x=>match o with | .load t y=>AK y x&&C9 P t==some false | _=>false
 | .bin k op x y=>match o with | .binOp op' t p q _=>op'==op&&Ph P k t&&AK p x&&AK q y | _=>false
 | .not x=>match o with | .unOp op _ y=>op==.not&&AK y x | _=>false
 | .neg x=>match o with | .unOp op _ y=>op==.neg&&AK y x | _=>false
 | .pick c x y=>match o with | .pick c' p q=>AK c' c&&AK p x&&AK q y | _=>false
 | .len x=>match o with | .call c=>Q1 P false c x | _=>false
 | .slen x=>match o with | .call c=>Q1 P true c x | _=>false
 | .slc n x lo hi=>match o with | .slice t y l h mx=>mx.isNone&&AK y x&&Lu l lo&&Lu h hi&&KV P t==some n | _=>false
 | .sslc x lo hi=>match o with | .slice t y l h mx=>mx.isNone&&AK y x&&Lu l lo&&Lu h hi&&(match P.underlying t with | some .string=>true | _=>false) | _=>false
 | .bld z ps=>match o with | .build t qs=>XA P t z qs.toList ps | _=>false
 | .lst n ys=>match o with
  | .buildSlice t len ps=>(match P.underlying t with
   | some (.slice e)=>(match P.info? e with
    | some i=>(match i.zero with
     | some z=>i.size==n&&decide (0<n)&&z.cells.toList.all Value.oneCell'&&decide (0<z.cells.size)&&len==ps.size&&decide (len*n<=2 ^ 24)&&Pl 0 ps.toList ys
     | none=>false)
    | none=>false)
   | _=>false)
  | _=>false
 | .app n x y=>match o with | .call c=>Tu P n c x y | _=>false
 | .call f ys=>match o with | .call c=>(match c.callee with | .value (.func g)=>g==f&&CW c.args.toList ys | _=>false) | _=>false
 | .callv x ys=>match o with | .call c=>(match c.callee with | .value g=>AK g x&&CW c.args.toList ys | _=>false) | _=>false
 | .clo f cs=>match o with | .makeFunc (.func g) first xs=>g==f&&first.size==0&&CW xs.toList cs | _=>false
 | .ext x i=>match o,x with | .extract y j,.s s=>Operand.isTmp s y&&j==i | _,_=>false
 | .cvt k x=>match o with | .convert s t y=>AK y x&&(match P.underlying s,P.underlying t with | some (.int _),some (.int k')=>k'==k | _,_=>false) | _=>false
 | .sidx x i=>match o with | .index t y j=>AK y x&&AK j i&&(match P.underlying t with | some .string=>true | _=>false) | _=>false
 | .boxs x=>match o with | .box _ y=>AK y x | _=>false
 | .boxo x=>match o with | .box _ y=>AK y x | _=>false
 | .mm mx x y=>match o with | .call c=>fO mx c x y | _=>false
 | .alc cs=>match o with | .alloc t=>(match P.info? t with | some i=>(match i.zero with | some z=>MT cs z.cells.toList | none=>false) | none=>false) | _=>false
 | .st n x v=>match o with | .store t y u=>AK y x&&AK u v&&EO P t==some n | _=>false
 | .stb n s v=>match o with | .store t y u=>Operand.isTmp s y&&AK u v&&EO P t==some n | _=>false
 | .frz _=>false
 | .fldv x k n agg=>match o with | .field t y f=>AK y x&&XB P t f k n agg | _=>false
 | .xal s=>match o with | .move y | .assign y=>Operand.isTmp s y | _=>false
 | .xlen x=>match o with | .call c=>Q1 P false c x | _=>false
 | .xia x i n=>match o with | .indexAddr t y j=>AK y x&&AK j i&&KV P t==some n | _=>false
 | .xfa x k=>match o with | .fieldAddr t y f=>AK y x&&Ni P t f==some k | _=>false
 | .xld x=>match o with | .load t y=>AK y x&&C9 P t==some false | _=>false
 | .xst x v=>match o with | .store t y u=>AK y x&&AK u v&&EO P t==some 1 | _=>false
 | .rel s=>match o with | .move y | .assign y=>Operand.isTmp s y | _=>false
 | .nilx _=>match o with | .move y | .assign y=>R9 y | _=>false
 | .tkx s=>match o with | .move y | .assign y=>Operand.isTmp s y | _=>false
 | .appx n s y=>match o with | .call c=>Tu P n c (.s s) y | _=>false
 | .callx f ys=>match o with | .call c=>(match c.callee with | .value (.func g)=>g==f&&CW c.args.toList ys | _=>false) | _=>false
 | .mkx n zero x=>match o with | .makeSlice t y z=>AK y x&&AK z x&&Zs P t n zero | _=>false
 | .callm f x=>match o with | .call c=>(match c.callee,c.args.toList with | .value (.func g),[y]=>g==f&&AK y x | _,_=>false) | _=>false
 | .callc f x=>match o with | .call c=>(match c.callee,c.args.toList with | .value (.func g),[y]=>g==f&&AK y x | _,_=>false) | _=>false
 | .lstz n=>match o with | .buildSlice t len ps=>len==0&&ps.isEmpty&&Ul P t n | _=>false
 | .bldg gs=>match o with | .build t ps=>Uk P t ps.toList gs | _=>false
 | .stx n s q=>match o with | .store t y u=>AK y (.s s)&&AK u (.s q)&&EO P t==some n | _=>false
 | .callg f ys=>match o with | .call c=>(match c.callee with | .value (.func g)=>g==f&&CW c.args.toList ys | _=>false) | _=>false
 | .isn x=>match o with | .binOp op t y z _=>op==.eql&&AK y x&&Qy z&&XC P t | _=>false
 | .lac x=>match o with | .load t y=>AK y x&&C9 P t==some false | _=>false
 | .ctk x=>match o with | .load t y=>AK y x&&C9 P t==some false | _=>false
 | .cpt x q=>match o with | .store t y u=>AK y x&&AK u (.s q)&&EO P t==some 1 | _=>false
 | .cut n s hi=>match o with | .slice t y l (some h) mx=>mx.isNone&&l.isNone&&Operand.isTmp s y&&AK h hi&&KV P t==some n | _=>false
 | .calll f ys=>match o with | .call c=>(match c.callee with | .value (.func g)=>g==f&&CW c.args.toList ys | _=>false) | _=>false
 | .boxp _ x=>match o with | .box _ y=>AK y x | _=>false
 | .callf f ys=>match o with | .call c=>(match c.callee with | .value (.func g)=>g==f&&CW c.args.toList ys | _=>false) | _=>false
 | .appz n s z x=>match o with | .call c=>YW P n s z x c | _=>false
 | .callb f ys _=>match o with | .call c=>(match c.callee with | .value (.func g)=>g==f&&CW c.args.toList ys | _=>false) | _=>false
def LR:AD->Bool
 | .st ..=>true
 | .stb ..=>true
 | .xst ..=>true
 | .stx ..=>true
 | .cpt ..=>true
 | _=>false
section
variable {P:Program} {F0:Nat->Nat->Prop} {w0:W0} {env:AC} {a:Act} {w:World} {G:C0} {d:Nat} {o:Oper} {K:EV->AC->Prop}
theorem BG.wp (h:BG P F0 w0 a w o d K) (hdst:o.dst=some d) {next:Act->World->Prop} {Q:Exit->Act->World->Prop} (hn:∀ e env' a' w',K e env'->P4 a d a'->CU F0 w0 ((d,e)::env') a' w'->next a' w'):o.wp P a w next Q:=by
 obtain ⟨v,w',hrun,e,env',hK,hI⟩:=h
 unfold Oper.wp
 rw [hrun,Oper.upon_value,hdst]
 exact hn e env' _ w' hK ⟨_,rfl⟩ hI
theorem G1 {α:Type} {a:Array α} {x:α} (h:a.toList=[x]):a=#[x]:=by
 cases a; simp_all
theorem Hv {α:Type} {a:Array α} {x y:α} (h:a.toList=[x,y]):a=#[x,y]:=by
 cases a; simp_all
theorem ED {c:Call} {ca:Callee} {as:Array Operand} {ts:Array TypeId} (h1:c.callee=ca) (h2:c.args=as) (h3:c.argTypes=ts):c={ callee:=ca,args:=as,argTypes:=ts }:=by
 cases c; simp_all
theorem Zt (hI:AQ F0 w0 env a w G) (hd:d<a.tmps.size) (hdst:o.dst=some d) {p:AD} (hok:Pm P o.op p=true) (hst:LR p=false) (h:p.wp (AS P) env (some d) K)
  {next:Act->World->Prop} {Q:Exit->Act->World->Prop} (hn:∀ e env' a' w',K e env'->P4 a d a'->CU F0 w0 ((d,e)::env') a' w'->next a' w'):o.wp P a w next Q:=by
 cases p <;> simp only [Pm] at hok
 case mv x=>
  split at hok
  ·rename_i y e; exact (Wa hI hd (.inl e) hok h).wp hdst hn
  ·rename_i y e; exact (Wa hI hd (.inr e) hok h).wp hdst hn
  ·cases hok
 case tk s=>
  split at hok
  ·rename_i y e; rw [Operand.isTmp_eq hok] at e; exact (Wc hI hd (.inl e) h).wp hdst hn
  ·rename_i y e; rw [Operand.isTmp_eq hok] at e; exact (Wc hI hd (.inr e) h).wp hdst hn
  ·cases hok
 case nilo n=>
  split at hok
  ·rename_i y e; exact (Td hI hd (.inl e) (N6 hok) h).wp hdst hn
  ·rename_i y e; exact (Td hI hd (.inr e) (N6 hok) h).wp hdst hn
  ·cases hok
 case fad x k=>
  split at hok
  ·rename_i t y f e
   simp only [zzZ,beq_iff_eq] at hok
   exact (P1 hI hd (V3 e hok.2) hok.1 h).wp hdst hn
  ·rename_i y e
   simp only [zzZ,beq_iff_eq] at hok
   obtain ⟨rfl,hok⟩:=hok
   exact (P1 hI hd (NZ (.inl e)) hok h).wp hdst hn
  ·rename_i y e
   simp only [zzZ,beq_iff_eq] at hok
   obtain ⟨rfl,hok⟩:=hok
   exact (P1 hI hd (NZ (.inr (.inl e))) hok h).wp hdst hn
  ·rename_i y e
   simp only [zzZ,beq_iff_eq] at hok
   obtain ⟨rfl,hok⟩:=hok
   exact (P1 hI hd (NZ (.inr (.inr e))) hok h).wp hdst hn
  ·cases hok
 case bad s k=>
  split at hok
  ·rename_i t y j e
   simp only [zzZ] at hok
   rw [Operand.isTmp_eq hok.1] at e
   exact (Ns hI hd (cD e hok.2) h).wp hdst hn
  ·rename_i t y f e
   simp only [zzZ,beq_iff_eq] at hok
   rw [Operand.isTmp_eq hok.1] at e
   exact (Ns hI hd (V3 e hok.2) h).wp hdst hn
  ·rename_i y e
   simp only [zzZ,beq_iff_eq] at hok
   obtain ⟨rfl,hok⟩:=hok
   rw [Operand.isTmp_eq hok] at e
   exact (Ns hI hd (NZ (.inl e)) h).wp hdst hn
  ·rename_i y e
   simp only [zzZ,beq_iff_eq] at hok
   obtain ⟨rfl,hok⟩:=hok
   rw [Operand.isTmp_eq hok] at e
   exact (Ns hI hd (NZ (.inr (.inl e))) h).wp hdst hn
  ·rename_i y e
   simp only [zzZ,beq_iff_eq] at hok
   obtain ⟨rfl,hok⟩:=hok
   rw [Operand.isTmp_eq hok] at e
   exact (Ns hI hd (NZ (.inr (.inr e))) h).wp hdst hn
  ·cases hok
 case iad x i n=>
  split at hok
  ·rename_i t y j e
   simp only [zzZ,beq_iff_eq] at hok
   exact (ac hI hd e hok.1.1 hok.1.2 hok.2 h).wp hdst hn
  ·cases hok
 case aad x i n k=>
  split at hok
  ·rename_i t y j e
   simp only [zzZ] at hok
   obtain ⟨⟨h1,h2⟩,h3⟩:=hok
   split at h3
   ·rename_i k' el hu
    simp only [zzZ,beq_iff_eq] at h3
    obtain ⟨rfl,h4⟩:=h3
    exact (aQ hI hd e h1 h2 hu h4 h).wp hdst hn
   ·cases h3
  ·cases hok
 case ld x=>
  split at hok
  ·rename_i t y e
   simp only [zzZ,beq_iff_eq] at hok
   exact (dg hI hd e hok.1 hok.2 h).wp hdst hn
  ·cases hok
 case lda x n=>
  split at hok
  ·rename_i t y e
   simp only [zzZ,beq_iff_eq] at hok
   exact (ag hI hd e hok.1.1 hok.1.2 hok.2 h).wp hdst hn
  ·cases hok
 case ldt x=>
  split at hok
  ·rename_i t y e
   simp only [zzZ,beq_iff_eq] at hok
   exact (ah hI hd e hok.1 hok.2 h).wp hdst hn
  ·cases hok
 case bin k op x y=>
  split at hok
  ·rename_i op' t p q t' e
   simp only [zzZ,beq_iff_eq] at hok
   obtain ⟨⟨⟨rfl,h1⟩,h2⟩,h3⟩:=hok
   exact (aT hI hd e h1 h2 h3 h).wp hdst hn
  ·cases hok
 case not x=>
  split at hok
  ·rename_i op t y e
   simp only [zzZ,beq_iff_eq] at hok
   obtain ⟨rfl,h1⟩:=hok
   exact (am hI hd e h1 h).wp hdst hn
  ·cases hok
 case neg x=>
  split at hok
  ·rename_i op t y e
   simp only [zzZ,beq_iff_eq] at hok
   obtain ⟨rfl,h1⟩:=hok
   exact (al hI hd e h1 h).wp hdst hn
  ·cases hok
 case pick c x y=>
  split at hok
  ·rename_i c' p q e
   simp only [zzZ] at hok
   exact (ZA hI hd e hok.1.1 hok.1.2 hok.2 h).wp hdst hn
  ·cases hok
 case len x=>
  split at hok
  ·rename_i c e
   unfold Q1 at hok
   split at hok
   ·rename_i y t h1 h2 h3
    simp only [zzZ] at hok
    obtain ⟨h4,h5⟩:=hok
    split at h5
    ·rename_i el hu
     rw [ED h1 (G1 h2) (G1 h3)] at e
     exact (ai hI hd e h4 hu h).wp hdst hn
    ·cases h5
    ·cases h5
   ·cases hok
  ·cases hok
 case slen x=>
  split at hok
  ·rename_i c e
   unfold Q1 at hok
   split at hok
   ·rename_i y t h1 h2 h3
    simp only [zzZ] at hok
    obtain ⟨h4,h5⟩:=hok
    split at h5
    ·cases h5
    ·rename_i hu
     rw [ED h1 (G1 h2) (G1 h3)] at e
     exact (ZC hI hd e h4 hu h).wp hdst hn
    ·cases h5
   ·cases hok
  ·cases hok
 case slc n x lo hi=>
  split at hok
  ·rename_i t y l hh mx e
   simp only [zzZ,beq_iff_eq,Option.isNone_iff_eq_none] at hok
   obtain ⟨⟨⟨⟨rfl,h1⟩,h2⟩,h3⟩,h4⟩:=hok
   exact (ap hI hd e h1 h2 h3 h4 h).wp hdst hn
  ·cases hok
 case sslc x lo hi=>
  split at hok
  ·rename_i t y l hh mx e
   simp only [zzZ,Option.isNone_iff_eq_none] at hok
   obtain ⟨⟨⟨⟨rfl,h1⟩,h2⟩,h3⟩,h4⟩:=hok
   split at h4
   ·rename_i hu; exact (ZD hI hd e h1 h2 h3 hu h).wp hdst hn
   ·cases h4
  ·cases hok
 case bld z ps=>
  split at hok
  ·rename_i t qs e; exact (aU hI hd e hok h).wp hdst hn
  ·cases hok
 case lst n ys=>
  split at hok
  ·rename_i t len ps e
   split at hok
   ·rename_i el hu
    split at hok
    ·rename_i i hi
     split at hok
     ·rename_i z hz
      simp only [zzZ,beq_iff_eq,zzX] at hok
      obtain ⟨⟨⟨⟨⟨⟨h1,h2⟩,h3⟩,h4⟩,h5⟩,h6⟩,h7⟩:=hok
      exact (aj hI hd e hu hi hz h1 h2 h3 h4 h5 h6 h7 h).wp hdst hn
     ·cases hok
    ·cases hok
   ·cases hok
  ·cases hok
 case app n x y=>
  split at hok
  ·rename_i c e
   unfold Tu at hok
   split at hok
   ·rename_i p q t t' s h1 h2 h3
    simp only [zzZ,beq_iff_eq] at hok
    obtain ⟨⟨⟨h4,h5⟩,rfl⟩,h6⟩:=hok
    split at h6
    ·rename_i el hu
     split at h6
     ·rename_i i hi
      split at h6
      ·rename_i z hz
       simp only [zzZ,beq_iff_eq,zzX] at h6
       obtain ⟨⟨⟨h7,h8⟩,h9⟩,h10⟩:=h6
       rw [ED h1 (Hv h2) (Hv h3),Operand.isTmp_eq h4] at e
       exact (aS hI hd e hu hi hz h7 h8 h9 h10 h5 h).wp hdst hn
      ·cases h6
     ·cases h6
    ·cases h6
   ·cases hok
  ·cases hok
 case call f ys=>
  split at hok
  ·rename_i c e
   split at hok
   ·rename_i g hc
    simp only [zzZ,beq_iff_eq] at hok
    obtain ⟨rfl,h1⟩:=hok
    rw [ED hc rfl rfl] at e
    exact Y7 hI hd hdst e h1 h hn
   ·cases hok
  ·cases hok
 case callv x ys=>
  split at hok
  ·rename_i c e
   split at hok
   ·rename_i g hc
    simp only [zzZ] at hok
    rw [ED hc rfl rfl] at e
    exact Xd hI hd hdst e hok.1 hok.2 h hn
   ·cases hok
  ·cases hok
 case clo f cs=>
  split at hok
  ·rename_i g first xs e
   simp only [zzZ,beq_iff_eq] at hok
   obtain ⟨⟨rfl,h1⟩,h2⟩:=hok
   rw [Array.eq_empty_of_size_eq_zero h1] at e
   exact (aV hI hd e h2 h).wp hdst hn
  ·cases hok
 case ext x i=>
  split at hok
  ·rename_i y j s e
   simp only [zzZ,beq_iff_eq] at hok
   obtain ⟨h1,rfl⟩:=hok
   rw [Operand.isTmp_eq h1] at e
   exact (aa hI hd e h).wp hdst hn
  ·cases hok
 case cvt k x=>
  split at hok
  ·rename_i s t y e
   simp only [zzZ] at hok
   obtain ⟨h1,h2⟩:=hok
   split at h2
   ·rename_i k1 k2 hs ht
    simp only [beq_iff_eq] at h2
    subst h2
    exact (aZ hI hd e hs ht h1 h).wp hdst hn
   ·cases h2
  ·cases hok
 case sidx x i=>
  split at hok
  ·rename_i t y j e
   simp only [zzZ] at hok
   obtain ⟨⟨h1,h2⟩,h3⟩:=hok
   split at h3
   ·rename_i hu; exact (ZB hI hd e h1 h2 hu h).wp hdst hn
   ·cases h3
  ·cases hok
 case boxs x=>
  split at hok
  ·rename_i t y e; exact (Y6 hI hd e hok h).wp hdst hn
  ·cases hok
 case boxo x=>
  split at hok
  ·rename_i t y e; exact (Y4 hI hd e hok h).wp hdst hn
  ·cases hok
 case mm mx x y=>
  split at hok
  ·rename_i c e
   unfold fO at hok
   split at hok
   ·rename_i p q h1 h2
    simp only [zzZ] at hok
    obtain ⟨⟨rfl,h3⟩,h4⟩:=hok
    rw [ED h1 (Hv h2) rfl] at e
    exact (WZ (mx:=true) hI hd e h3 h4 h).wp hdst hn
   ·rename_i p q h1 h2
    simp only [zzZ,Bool.not_eq_true'] at hok
    obtain ⟨⟨rfl,h3⟩,h4⟩:=hok
    rw [ED h1 (Hv h2) rfl] at e
    exact (WZ (mx:=false) hI hd e h3 h4 h).wp hdst hn
   ·cases hok
  ·cases hok
 case alc cs=>
  split at hok
  ·rename_i t e
   split at hok
   ·rename_i i hi
    split at hok
    ·rename_i z hz; exact (aR hI hd e hi hz hok h).wp hdst hn
    ·cases hok
   ·cases hok
  ·cases hok
 case st n x v=>cases hst
 case stb n s v=>cases hst
 case frz s=>cases hok
 case fldv x k n agg=>
  split at hok
  ·rename_i t y f e
   simp only [zzZ] at hok
   exact (Y8 hI hd e hok.1 hok.2 h).wp hdst hn
  ·cases hok
 case xal s=>
  split at hok
  ·rename_i y e; rw [Operand.isTmp_eq hok] at e; exact (VK hI hd (.inl e) h).wp hdst hn
  ·rename_i y e; rw [Operand.isTmp_eq hok] at e; exact (VK hI hd (.inr e) h).wp hdst hn
  ·cases hok
 case rel s=>
  split at hok
  ·rename_i y e; rw [Operand.isTmp_eq hok] at e; exact (VH hI hd (.inl e) h).wp hdst hn
  ·rename_i y e; rw [Operand.isTmp_eq hok] at e; exact (VH hI hd (.inr e) h).wp hdst hn
  ·cases hok
 case tkx s=>
  split at hok
  ·rename_i y e; rw [Operand.isTmp_eq hok] at e; exact (VJ hI hd (.inl e) h).wp hdst hn
  ·rename_i y e; rw [Operand.isTmp_eq hok] at e; exact (VJ hI hd (.inr e) h).wp hdst hn
  ·cases hok
 case nilx n=>
  split at hok
  ·rename_i y e; exact (Te hI hd (.inl e) (N6 hok) h).wp hdst hn
  ·rename_i y e; exact (Te hI hd (.inr e) (N6 hok) h).wp hdst hn
  ·cases hok
 case xlen x=>
  split at hok
  ·rename_i c e
   unfold Q1 at hok
   split at hok
   ·rename_i y t h1 h2 h3
    simp only [zzZ] at hok
    obtain ⟨h4,h5⟩:=hok
    split at h5
    ·rename_i el hu
     rw [ED h1 (G1 h2) (G1 h3)] at e
     exact (ZE hI hd e h4 hu h).wp hdst hn
    ·cases h5
    ·cases h5
   ·cases hok
  ·cases hok
 case xia x i n=>
  split at hok
  ·rename_i t y j e
   simp only [zzZ,beq_iff_eq] at hok
   exact (av hI hd e hok.1.1 hok.1.2 hok.2 h).wp hdst hn
  ·cases hok
 case xfa x k=>
  split at hok
  ·rename_i t y f e
   simp only [zzZ,beq_iff_eq] at hok
   exact (ar hI hd e hok.1 hok.2 h).wp hdst hn
  ·cases hok
 case xld x=>
  split at hok
  ·rename_i t y e
   simp only [zzZ,beq_iff_eq] at hok
   exact (aw hI hd e hok.1 hok.2 h).wp hdst hn
  ·cases hok
 case xst x v=>cases hst
 case appx n s y=>
  split at hok
  ·rename_i c e
   unfold Tu at hok
   split at hok
   ·rename_i p q t t' s' h1 h2 h3 h0
    simp only [AE.s.injEq] at h0
    subst h0
    simp only [zzZ,beq_iff_eq] at hok
    obtain ⟨⟨⟨h4,h5⟩,rfl⟩,h6⟩:=hok
    split at h6
    ·rename_i el hu
     split at h6
     ·rename_i i hi
      split at h6
      ·rename_i z hz
       simp only [zzZ,beq_iff_eq,zzX] at h6
       obtain ⟨⟨⟨h7,h8⟩,h9⟩,h10⟩:=h6
       rw [ED h1 (Hv h2) (Hv h3),Operand.isTmp_eq h4] at e
       exact (Y1 hI hd e hu hi hz h7 h8 h9 h10 h5 h).wp hdst hn
      ·cases h6
     ·cases h6
    ·cases h6
   ·cases hok
  ·cases hok
 case callx f ys=>
  split at hok
  ·rename_i c e
   split at hok
   ·rename_i g hc
    simp only [zzZ,beq_iff_eq] at hok
    obtain ⟨rfl,h1⟩:=hok
    rw [ED hc rfl rfl] at e
    exact Xe hI hd hdst e h1 h hn
   ·cases hok
  ·cases hok
 case mkx n zero x=>
  split at hok
  ·rename_i t y z e
   simp only [zzZ] at hok
   exact (dh hI hd e hok.1.1 hok.1.2 hok.2 h).wp hdst hn
  ·cases hok
 case callm f x=>
  split at hok
  ·rename_i c e
   split at hok
   ·rename_i g y hc ha
    simp only [zzZ,beq_iff_eq] at hok
    obtain ⟨rfl,h1⟩:=hok
    rw [ED hc (G1 ha) rfl] at e
    exact Xc hI hd hdst e h1 h hn
   ·cases hok
  ·cases hok
 case callc f x=>
  split at hok
  ·rename_i c e
   split at hok
   ·rename_i g y hc ha
    simp only [zzZ,beq_iff_eq] at hok
    obtain ⟨rfl,h1⟩:=hok
    rw [ED hc (G1 ha) rfl] at e
    exact XY hI hd hdst e h1 h hn
   ·cases hok
  ·cases hok
 case lstz n=>
  split at hok
  ·rename_i t len ps e
   simp only [zzZ,beq_iff_eq,Array.isEmpty_iff] at hok
   obtain ⟨⟨rfl,rfl⟩,h1⟩:=hok
   exact (Y9 hI hd e h1 h).wp hdst hn
  ·cases hok
 case bldg gs=>
  split at hok
  ·rename_i t ps e; exact (Y3 hI hd e hok h).wp hdst hn
  ·cases hok
 case stx n s q=>cases hst
 case cpt x q=>cases hst
 case lac x=>
  split at hok
  ·rename_i t y e
   simp only [zzZ,beq_iff_eq] at hok
   exact (af hI hd e hok.1 hok.2 h).wp hdst hn
  ·cases hok
 case ctk x=>
  split at hok
  ·rename_i t y e
   simp only [zzZ,beq_iff_eq] at hok
   exact (aX hI hd e hok.1 hok.2 h).wp hdst hn
  ·cases hok
 case cut n s hi=>
  split at hok
  ·rename_i t y l hh mx e
   simp only [zzZ,beq_iff_eq,Option.isNone_iff_eq_none] at hok
   obtain ⟨⟨⟨⟨rfl,rfl⟩,h1⟩,h2⟩,h3⟩:=hok
   rw [Operand.isTmp_eq h1] at e
   exact (aY hI hd e h2 h3 h).wp hdst hn
  ·cases hok
 case calll f ys=>
  split at hok
  ·rename_i c e
   split at hok
   ·rename_i g hc
    simp only [zzZ,beq_iff_eq] at hok
    obtain ⟨rfl,h1⟩:=hok
    rw [ED hc rfl rfl] at e
    exact Xb hI hd hdst e h1 h hn
   ·cases hok
  ·cases hok
 case callb f ys i=>
  split at hok
  ·rename_i c e
   split at hok
   ·rename_i g hc
    simp only [zzZ,beq_iff_eq] at hok
    obtain ⟨rfl,h1⟩:=hok
    rw [ED hc rfl rfl] at e
    exact XX hI hd hdst e h1 h hn
   ·cases hok
  ·cases hok
 case callf f ys=>
  split at hok
  ·rename_i c e
   split at hok
   ·rename_i g hc
    simp only [zzZ,beq_iff_eq] at hok
    obtain ⟨rfl,h1⟩:=hok
    rw [ED hc rfl rfl] at e
    exact (XZ hI hd e h1 h).wp hdst hn
   ·cases hok
  ·cases hok
 case appz n s z x=>
  split at hok
  ·rename_i c e
   unfold YW at hok
   split at hok
   ·rename_i p q t t' h1 h2 h3
    simp only [zzZ] at hok
    obtain ⟨⟨h4,h5⟩,h6⟩:=hok
    split at h6
    ·rename_i el kn hu hu'
     split at h6
     ·rename_i i hi
      split at h6
      ·rename_i zz hz
       split at h6
       ·rename_i z0 hz0
        simp only [zzZ,beq_iff_eq,zzX] at h6
        obtain ⟨⟨⟨⟨rfl,h7⟩,h8⟩,h9⟩,h10⟩:=h6
        rw [ED h1 (Hv h2) (Hv h3),Operand.isTmp_eq' h4] at e
        exact (Y2 hI hd e hu hu' hi hz h7 h8 (G1 hz0) h9 h10 h5 h).wp hdst hn
       ·cases h6
      ·cases h6
     ·cases h6
    ·cases h6
   ·cases hok
  ·cases hok
 case boxp ps x=>
  split at hok
  ·rename_i t y e; exact (Y5 hI hd e hok h).wp hdst hn
  ·cases hok
 case callg f ys=>
  split at hok
  ·rename_i c e
   split at hok
   ·rename_i g hc
    simp only [zzZ,beq_iff_eq] at hok
    obtain ⟨rfl,h1⟩:=hok
    rw [ED hc rfl rfl] at e
    exact Xa hI hd hdst e h1 h hn
   ·cases hok
  ·cases hok
 case isn x=>
  split at hok
  ·rename_i op t y z t' e
   simp only [zzZ,beq_iff_eq] at hok
   obtain ⟨⟨⟨rfl,h1⟩,h2⟩,h3⟩:=hok
   exact (ae hI hd e h1 h2 h3 h).wp hdst hn
  ·cases hok
end
end Go.Sf
