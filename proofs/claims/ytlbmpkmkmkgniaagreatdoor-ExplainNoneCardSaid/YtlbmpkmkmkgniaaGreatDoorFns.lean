/- The functions of the program as Lean functions. -/
import Derived.Test.YtlbmpkmkmkgniaaGreatDoorTypes
import Derived.Test.YtlbmpkmkmkgniaaGreatDoorSfText
set_option maxRecDepth 100000
namespace Go.Sf.Sc
open Go Go.Sf
noncomputable section
def slices_Equal_int (s1_0:List Int) (s2_1:List Int):Option Bool:=
 if (!decide ((s1_0.length:Int)=(s2_1.length:Int)))=true then
 some false
 else
 thenR (forR (ρ:=Bool) (fun (i0:Int) (_:Unit)=>
 (AL s1_0 i0).bind fun x18=>
 (AL s2_1 i0).bind fun x22=>
 if (!decide (x18=x22))=true then
 some (.ret false)
 else
 some (.next ())) 0 (s1_0.length:Int) ()) (fun _=>
 some true) (fun v0=>some v0)
def J8 (c:Int):Option Bool:=
 some (((decide (97<=c))&&(decide (c<=122)))||((decide (65<=c))&&(decide (c<=90))))
def Hr [Ev] (s_0:ByteArray) (ok:Int->Option Bool):Option Int:=
 thenR (JB (ρ:=Int) (fun (s0:Int)=>
 (if (decide (s0<(s_0.size:Int)))=true then ((sidx s_0 s0).bind fun x14=>
 (ok x14).bind fun x15=>
 some (x15)) else some false).bind fun x16=>
 if x16=true then
 some (.next (A8 (s0+1)))
 else
 some (.brk s0)) 0) (fun s0=>
 some s0) (fun v0=>some v0)
def Jh (c:Int):Option Bool:=
 some ((decide (48<=c))&&(decide (c<=57)))
def Lh (c:Int):Option Bool:=
 (J8 c).bind fun x4=>
 (if x4=true then some true else ((Jh c).bind fun x7=>
 some (x7))).bind fun x8=>
 some (x8||(decide (c=95)))
def KI (c:Int):Option Bool:=
 some (((decide (32<=c))&&(decide (c<=126)))&&(!decide (c=34)))
def HT [Ev] (s_0:ByteArray):Option (Int × Int):=
 (sslc s_0 1 s_0.size).bind fun x6=>
 (Hr x6 KI).bind fun x7=>
 (if (decide ((A8 (1+x7))=(s_0.size:Int)))=true then some true else ((sidx s_0 (A8 (1+x7))).bind fun x17=>
 some (!decide (x17=34)))).bind fun x19=>
 if x19=true then
 some (0,2)
 else
 if (decide (60<x7))=true then
 some (0,3)
 else
 some (A8 (x7+2),0)
def slices_Index_string (s_0:List ByteArray) (v_1:ByteArray):Option Int:=
 thenR (forR (ρ:=Int) (fun (i0:Int) (_:Unit)=>
 (AL s_0 i0).bind fun x14=>
 if (v_1==x14)=true then
 some (.ret i0)
 else
 some (.next ())) 0 (s_0.length:Int) ()) (fun _=>
 some (-1)) (fun v0=>some v0)
def slices_Contains_string (s_0:List ByteArray) (v_1:ByteArray):Option Bool:=
 (slices_Index_string s_0 v_1).bind fun x7=>
 some (decide (0<=x7))
def Lg (s_0:ByteArray):Option Bool:=
 (if (decide (2<=(s_0.size:Int)))=true then ((sslc s_0 0 2).bind fun x9=>
 (slices_Contains_string [(⟨#[45,62]⟩:ByteArray),(⟨#[60,61]⟩:ByteArray),(⟨#[62,61]⟩:ByteArray),(⟨#[61,61]⟩:ByteArray),(⟨#[33,61]⟩:ByteArray)] x9).bind fun x10=>
 some (x10)) else some false).bind fun x11=>
 some x11
def strings_IndexByte (s:ByteArray) (c:Int):Option Int:=some (Go.Lib.indexByte s.data.toList c.toNat.toUInt8)
def Ib [Ev] (s_0:ByteArray):Option (Int × Int × Int):=
 (sidx s_0 0).bind fun x11=>
 (J8 x11).bind fun x14=>
 if x14=true then
 (Hr s_0 Lh).bind fun x16=>
 if (decide (20<x16))=true then
 some (0,0,3)
 else
 some (1,x16,0)
 else
 (Jh x11).bind fun x22=>
 if x22=true then
 (Hr s_0 Jh).bind fun x24=>
 if (decide (9<x24))=true then
 some (0,0,3)
 else
 some (2,x24,0)
 else
 if (decide (x11=34))=true then
 (HT s_0).bind fun x33=>
 some (3,x33.1,x33.2)
 else
 (Lg s_0).bind fun x40=>
 if x40=true then
 some (4,2,0)
 else
 (strings_IndexByte (⟨#[123,125,40,41,91,93,44,59,58,61,43,45,42,60,62,33,38,124,46,63]⟩:ByteArray) x11).bind fun x43=>
 if (decide (0<=x43))=true then
 some (4,1,0)
 else
 some (0,0,2)
def Il [Ev] (t:FT):Option (ByteArray × Bool):=
 (if (decide (t.Kind=3))=true then
 (Lb (⟨#[34]⟩:ByteArray) t.Text).bind fun x14=>
 (Lb x14 (⟨#[34]⟩:ByteArray)).bind fun x15=>
 some x15
 else
 some t.Text).bind fun w1=>
 if (w1==(⟨#[]⟩:ByteArray))=true then
 some ((⟨#[]⟩:ByteArray),false)
 else
 (Ib w1).bind fun x20=>
 some (w1,((decide (x20.2.2=0))&&(decide (x20.1=t.Kind)))&&(decide (x20.2.1=(w1.size:Int))))
def EZ [Ev] (s_0:ByteArray):Option Bool:=
 (Il (FT.mk 1 s_0 0)).bind fun x8=>
 some x8.2
def D3 [Ev] (s_0:List CL) (f:CL->Option Bool):Option Int:=
 thenR (forR (ρ:=Int) (fun (i0:Int) (_:Unit)=>
 (AL s_0 i0).bind fun x14=>
 (f x14).bind fun x16=>
 if x16=true then
 some (.ret i0)
 else
 some (.next ())) 0 (s_0.length:Int) ()) (fun _=>
 some (-1)) (fun v0=>some v0)
def CW [Ev] (s_0:List CL) (f:CL->Option Bool):Option Bool:=
 (D3 s_0 f).bind fun x7=>
 some (decide (0<=x7))
def Lj (m:CL) (c0:CL):Option Bool:=
 some (m.Name==c0.Name)
def D9 [Ev]:Nat->AD->Int->Option (List Attr)
 | 0,_,_=>none
 | n+1,t,a=>
  (AL t.Nodes a).bind fun x10=>
  (if (decide (0<=x10.Parent))=true then
  (D9 n t x10.Parent).bind fun x17=>
  some x17
  else
  some []).bind fun w1=>
  (AL t.Nodes a).bind fun x22=>
  (CX w1 x22.Attrs).bind fun x25=>
  some x25
def Ji [Ev] (t:AD) (a:Int):Option (List Attr):=Hn fun n=>D9 n t a
def EN [Ev] (s_0:List Attr) (f:Attr->Option Bool):Option Int:=
 thenR (forR (ρ:=Int) (fun (i0:Int) (_:Unit)=>
 (AL s_0 i0).bind fun x14=>
 (f x14).bind fun x16=>
 if x16=true then
 some (.ret i0)
 else
 some (.next ())) 0 (s_0.length:Int) ()) (fun _=>
 some (-1)) (fun v0=>some v0)
def DQ [Ev] (s_0:List Attr) (f:Attr->Option Bool):Option Bool:=
 (EN s_0 f).bind fun x7=>
 some (decide (0<=x7))
def Iv (y:Attr) (c0:Attr):Option Bool:=
 some (y.Name==c0.Name)
def Ht [Ev] (l:List ByteArray):Option Int:=
 if (decide (20<(l.length:Int)))=true then
 some 3
 else
 thenR (forR (ρ:=Int) (fun (i0:Int) (_:Unit)=>
 (AL l i0).bind fun x13=>
 (EZ x13).bind fun x17=>
 if (!x17)=true then
 some (.ret 2)
 else
 (slc l 0 i0).bind fun x22=>
 (slices_Contains_string x22 x13).bind fun x24=>
 if x24=true then
 some (.ret 5)
 else
 some (.next ())) 0 (l.length:Int) ()) (fun _=>
 some 0) (fun v0=>some v0)
def FK [Ev] (x_0:Attr) (before:List Attr):Option Int:=
 (EZ x_0.Name).bind fun x10=>
 if (!x10)=true then
 some 2
 else
 (DQ before (fun y0=>Iv y0 x_0)).bind fun x15=>
 if x15=true then
 some 5
 else
 (Ht x_0.Names).bind fun x18=>
 if (!decide (x18=0))=true then
 some x18
 else
 (if (decide (0<(x_0.Names.length:Int)))=true then
 some ((decide (x_0.Low=0))&&(decide (x_0.High=(A8 ((x_0.Names.length:Int) - 1)))))
 else
 some (((decide ((-1000000)<=x_0.Low))&&(decide (x_0.Low<=x_0.High)))&&(decide (x_0.High<=1000000)))).bind fun w1=>
 if (!w1)=true then
 some 6
 else
 some 0
def If [Ev] (t:AD) (i_1:Int):Option Int:=
 (AL t.Nodes i_1).bind fun x12=>
 (EZ x12.Name).bind fun x17=>
 if (!x17)=true then
 some 2
 else
 (slc t.Nodes 0 i_1).bind fun x23=>
 (CW x23 (fun y0=>Lj y0 x12)).bind fun x25=>
 if x25=true then
 some 5
 else
 if ((decide (x12.Parent<(-1)))||(decide (i_1<=x12.Parent)))=true then
 some 6
 else
 if (decide (4<(x12.Attrs.length:Int)))=true then
 some 3
 else
 (Ji t i_1).bind fun x43=>
 if (decide (8<(x43.length:Int)))=true then
 some 3
 else
 thenR (forR (ρ:=Int) (fun (i1:Int) (_:Unit)=>
 (AL x43 i1).bind fun x61=>
 (slc x43 0 i1).bind fun x65=>
 (FK x61 x65).bind fun x66=>
 if (!decide (x66=0))=true then
 some (.ret x66)
 else
 some (.next ())) (A8 ((x43.length:Int) - (x12.Attrs.length:Int))) (x43.length:Int) ()) (fun _=>
 some 0) (fun v1=>some v1)
def J9 (n:Int) (c0:AD):Option Bool:=
 some ((decide (0<=n))&&(decide (n<(c0.Nodes.length:Int))))
def D2 [Ev] (s_0:List CZ) (f:CZ->Option Bool):Option Int:=
 thenR (forR (ρ:=Int) (fun (i0:Int) (_:Unit)=>
 (AL s_0 i0).bind fun x14=>
 (f x14).bind fun x16=>
 if x16=true then
 some (.ret i0)
 else
 some (.next ())) 0 (s_0.length:Int) ()) (fun _=>
 some (-1)) (fun v0=>some v0)
def CU [Ev] (s_0:List CZ) (f:CZ->Option Bool):Option Bool:=
 (D2 s_0 f).bind fun x7=>
 some (decide (0<=x7))
def Li (y:CZ) (c0:CZ):Option Bool:=
 some (y.Name==c0.Name)
def Ja (low:Int) (high:Int):Option Bool:=
 some (((decide (0<=low))&&(decide (low<=40)))&&((decide (high=(-1)))||((decide (low<=high))&&(decide (high<=40)))))
def Ie [Ev] (t:AD) (i_1:Int):Option Int:=
 (AL t.Edges i_1).bind fun x10=>
 (EZ x10.Name).bind fun x16=>
 if (!x16)=true then
 some 2
 else
 (slc t.Edges 0 i_1).bind fun x22=>
 (CU x22 (fun y0=>Li y0 x10)).bind fun x24=>
 if x24=true then
 some 5
 else
 (J9 x10.From t).bind fun x29=>
 (if (!x29)=true then some true else ((J9 x10.To t).bind fun x35=>
 some (!x35))).bind fun x37=>
 (if x37=true then
 some x37
 else
 (Ja x10.OutLow x10.OutHigh).bind fun x42=>
 (if (!x42)=true then some true else ((Ja x10.InLow x10.InHigh).bind fun x49=>
 some (!x49))).bind fun x51=>
 some x51).bind fun w1=>
 if w1=true then
 some 6
 else
 some 0
def FS [Ev] (t:AD):Option (ByteArray × Int):=
 if (decide ((t.Nodes.length:Int)=0))=true then
 some ((⟨#[]⟩:ByteArray),7)
 else
 if ((decide (12<(t.Nodes.length:Int)))||(decide (20<(t.Edges.length:Int))))=true then
 some ((⟨#[]⟩:ByteArray),3)
 else
 thenR (forR (ρ:=(ByteArray × Int)) (fun (i1:Int) (_:Unit)=>
 (AL t.Nodes i1).bind fun x32=>
 (If t i1).bind fun x36=>
 if (!decide (x36=0))=true then
 some (.ret (x32.Name,x36))
 else
 some (.next ())) 0 (t.Nodes.length:Int) ()) (fun _=>
 thenR (forR (ρ:=(ByteArray × Int)) (fun (i3:Int) (_:Unit)=>
 (AL t.Edges i3).bind fun x49=>
 (Ie t i3).bind fun x53=>
 if (!decide (x53=0))=true then
 some (.ret (x49.Name,x53))
 else
 some (.next ())) 0 (t.Edges.length:Int) ()) (fun _=>
 some ((⟨#[]⟩:ByteArray),0)) (fun v3=>some v3)) (fun v1=>some v1)
def E5 [Ev] (s_0:List Int) (f:Int->Option Bool):Option Int:=
 thenR (forR (ρ:=Int) (fun (i0:Int) (_:Unit)=>
 (AL s_0 i0).bind fun x14=>
 (f x14).bind fun x16=>
 if x16=true then
 some (.ret i0)
 else
 some (.next ())) 0 (s_0.length:Int) ()) (fun _=>
 some (-1)) (fun v0=>some v0)
def BU [Ev] (s_0:List Int) (f:Int->Option Bool):Option Bool:=
 (E5 s_0 f).bind fun x7=>
 some (decide (0<=x7))
def H4 (n:Int) (most:Int):Option Bool:=
 some ((decide (0<=n))&&(decide (n<=most)))
def Kn (t:Int):Option Bool:=
 (H4 t 99).bind fun x4=>
 some (!x4)
def EO [Ev] (s_0:List DS) (f:DS->Option Bool):Option Int:=
 thenR (forR (ρ:=Int) (fun (i0:Int) (_:Unit)=>
 (AL s_0 i0).bind fun x14=>
 (f x14).bind fun x16=>
 if x16=true then
 some (.ret i0)
 else
 some (.next ())) 0 (s_0.length:Int) ()) (fun _=>
 some (-1)) (fun v0=>some v0)
def B7 [Ev] (s_0:List DS) (f:DS->Option Bool):Option Bool:=
 (EO s_0 f).bind fun x7=>
 some (decide (0<=x7))
def LR (e:DS) (nodes:Int):Option Bool:=
 (H4 e.Type' 99).bind fun x7=>
 (if x7=true then ((H4 e.From (A8 (nodes - 1))).bind fun x13=>
 some (x13)) else some false).bind fun x14=>
 (if x14=true then ((H4 e.To (A8 (nodes - 1))).bind fun x20=>
 some (x20)) else some false).bind fun x21=>
 some x21
def Ko (e:DS) (c0:Graph):Option Bool:=
 (LR e (c0.Nodes.length:Int)).bind fun x8=>
 some (!x8)
def EE [Ev] (g:Graph):Option Int:=
 if ((decide (40<(g.Nodes.length:Int)))||(decide (80<(g.Edges.length:Int))))=true then
 some 3
 else
 (BU g.Nodes Kn).bind fun x15=>
 if x15=true then
 some 6
 else
 (B7 g.Edges (fun y0=>Ko y0 g)).bind fun x19=>
 if x19=true then
 some 6
 else
 some 0
def Kt (a:Int) (c0:AD):Option Bool:=
 some ((decide (a<0))||(decide ((c0.Nodes.length:Int)<=a)))
def GF [Ev] (t:AD) (l:List Int):Option Int:=
 (FS t).bind fun x9=>
 if (!decide (x9.2=0))=true then
 some x9.2
 else
 (BU l (fun y0=>Kt y0 t)).bind fun x17=>
 if x17=true then
 some 6
 else
 some 0
def slices_Clone_string (s_0:List ByteArray):Option (List ByteArray):=
 CX [] s_0
def HE [Ev] (t:AD) (a:Int):Option (List Attr × Int):=
 (GF t [a]).bind fun x12=>
 if (!decide (x12=0))=true then
 some ([],x12)
 else
 (Ji t a).bind fun x18=>
 (forA (fun (i0:Int) (s0:List Attr)=>
 (AL s0 i0).bind fun x28=>
 (slices_Clone_string x28.Names).bind fun x31=>
 (AL s0 i0).bind fun x32=>
 some (CB s0 i0 (Attr.mk x32.Name x32.Low x32.High x31))) 0 (x18.length:Int) x18).bind fun s0=>
 some (s0,0)
def I8 [Ev] (t:AD) (kind:Int) (DD:List Int):Option Int:=
 if (decide ((t.Nodes.length:Int)<=kind))=true then
 some 6
 else
 (AL t.Nodes kind).bind fun x19=>
 if x19.Abstract=true then
 some 13
 else
 (HE t kind).bind fun x25=>
 if (!decide ((DD.length:Int)=(x25.1.length:Int)))=true then
 some 20
 else
 thenR (forR (ρ:=Int) (fun (i0:Int) (_:Unit)=>
 (AL x25.1 i0).bind fun x38=>
 (AL DD i0).bind fun x42=>
 (if (decide (x42<x38.Low))=true then some true else ((AL DD i0).bind fun x50=>
 some (decide (x38.High<x50)))).bind fun x55=>
 if x55=true then
 some (.ret 6)
 else
 some (.next ())) 0 (x25.1.length:Int) ()) (fun _=>
 some 0) (fun v0=>some v0)
def slices_Index_int (s_0:List Int) (v_1:Int):Option Int:=
 thenR (forR (ρ:=Int) (fun (i0:Int) (_:Unit)=>
 (AL s_0 i0).bind fun x14=>
 if (decide (v_1=x14))=true then
 some (.ret i0)
 else
 some (.next ())) 0 (s_0.length:Int) ()) (fun _=>
 some (-1)) (fun v0=>some v0)
def slices_Contains_int (s_0:List Int) (v_1:Int):Option Bool:=
 (slices_Index_int s_0 v_1).bind fun x7=>
 some (decide (0<=x7))
def slices_Reverse_int (l:List Int):Option (List Int):=if l.length<=B9 then some l.reverse else none
def JQ [Ev] (t:AD) (a:Int):Option (List Int):=
 thenR (JB (ρ:=(List Int)) (fun (s0:Int × List Int)=>
 if (decide (0<=s0.1))=true then
 (CX s0.2 [s0.1]).bind fun x17=>
 (AL t.Nodes s0.1).bind fun x11=>
 some (.next (x11.Parent,x17))
 else
 some (.brk (s0.1,s0.2))) (a,[])) (fun s0=>
 (slices_Reverse_int s0.2).bind fun x19=>
 some x19) (fun v0=>some v0)
def Im [Ev] (t:AD) (a:Int) (b:Int):Option Bool:=
 (JQ t a).bind fun x9=>
 (slices_Contains_int x9 b).bind fun x11=>
 some x11
def Ic [Ev] (t:AD) (edge:Int) (from':Int) (to':Int):Option Bool:=
 (GF t [from',to']).bind fun x13=>
 if (((!decide (x13=0))||(decide (edge<0)))||(decide ((t.Edges.length:Int)<=edge)))=true then
 some false
 else
 (AL t.Edges edge).bind fun x31=>
 (Im t from' x31.From).bind fun x34=>
 (if x34=true then ((AL t.Edges edge).bind fun x41=>
 (Im t to' x41.To).bind fun x44=>
 some (x44)) else some false).bind fun x45=>
 some x45
def G6 [Ev] (t:AD) (h_1:A2):Option (Int × Int):=
 (FS t).bind fun x16=>
 if (!decide (x16.2=0))=true then
 some ((-1),x16.2)
 else
 (EE h_1.Graph).bind fun x24=>
 if (!decide (x24=0))=true then
 some ((-1),x24)
 else
 if (!decide ((h_1.Values.length:Int)=(h_1.Graph.Nodes.length:Int)))=true then
 some ((-1),20)
 else
 thenR (forR (ρ:=(Int × Int)) (fun (i0:Int) (_:Unit)=>
 (AL h_1.Graph.Nodes i0).bind fun x43=>
 (AL h_1.Values i0).bind fun x50=>
 (I8 t x43 x50).bind fun x52=>
 if (!decide (x52=0))=true then
 some (.ret (i0,x52))
 else
 some (.next ())) 0 (h_1.Graph.Nodes.length:Int) ()) (fun _=>
 thenR (forR (ρ:=(Int × Int)) (fun (i2:Int) (_:Unit)=>
 (AL h_1.Graph.Edges i2).bind fun x65=>
 if (decide ((t.Edges.length:Int)<=x65.Type'))=true then
 some (.ret (i2,6))
 else
 (AL h_1.Graph.Nodes x65.From).bind fun x82=>
 (AL h_1.Graph.Nodes x65.To).bind fun x89=>
 (Ic t x65.Type' x82 x89).bind fun x91=>
 if (!x91)=true then
 some (.ret (i2,13))
 else
 some (.next ())) 0 (h_1.Graph.Edges.length:Int) ()) (fun _=>
 some ((-1),0)) (fun v2=>some v2)) (fun v0=>some v0)
def Hg (n:Int) (c0:AD):Option Bool:=
 some (decide ((c0.Nodes.length:Int)<=n))
def Hh (x_0:DS) (c0:AD):Option Bool:=
 some (decide ((c0.Edges.length:Int)<=x_0.Type'))
def DM (n:Int) (low:Int) (high:Int):Option Bool:=
 some ((decide (low<=n))&&(decide (n<=high)))
def F5 [Ev] (t:AD) (p:Pattern) (s_2:D8):Option (Attr × Bool):=
 (DM s_2.Node 0 (A8 ((p.Graph.Nodes.length:Int) - 1))).bind fun x17=>
 if (!x17)=true then
 some (Attr.mk (⟨#[]⟩:ByteArray) 0 0 [],false)
 else
 (AL p.Graph.Nodes s_2.Node).bind fun x27=>
 (HE t x27).bind fun x29=>
 (DM s_2.Attr 0 (A8 ((x29.1.length:Int) - 1))).bind fun x37=>
 if (!x37)=true then
 some (Attr.mk (⟨#[]⟩:ByteArray) 0 0 [],false)
 else
 (AL x29.1 s_2.Attr).bind fun x43=>
 some (x43,true)
def IN (n:Int) (t:Term):Option Bool:=
 some ((((decide ((-1)<=t.Var))&&(decide (t.Var<n)))&&(decide ((-1000000)<=t.Add)))&&(decide (t.Add<=1000000)))
def Iz (n:Int) (x_1:Test):Option Int:=
 if ((!decide (x_1.Kind=1))&&(!decide (x_1.Kind=2)))=true then
 some 1
 else
 (IN n x_1.Left).bind fun x18=>
 (if (!x18)=true then some true else ((IN n x_1.Right).bind fun x24=>
 some (!x24))).bind fun x26=>
 if x26=true then
 some 6
 else
 some 0
def H2 (n:Int) (l:List Test):Option Int:=
 if ((decide (n<0))||(decide (12<n)))=true then
 some 6
 else
 if (decide (40<(l.length:Int)))=true then
 some 3
 else
 thenR (forR (ρ:=Int) (fun (i0:Int) (_:Unit)=>
 (AL l i0).bind fun x21=>
 (Iz n x21).bind fun x25=>
 if (!decide (x25=0))=true then
 some (.ret x25)
 else
 some (.next ())) 0 (l.length:Int) ()) (fun _=>
 some 0) (fun v0=>some v0)
def It (s_0:List Bool) (v_1:Bool):Option Int:=
 thenR (forR (ρ:=Int) (fun (i0:Int) (_:Unit)=>
 (AL s_0 i0).bind fun x14=>
 if (v_1==x14)=true then
 some (.ret i0)
 else
 some (.next ())) 0 (s_0.length:Int) ()) (fun _=>
 some (-1)) (fun v0=>some v0)
def GP (s_0:List Bool) (v_1:Bool):Option Bool:=
 (It s_0 v_1).bind fun x7=>
 some (decide (0<=x7))
def EA [Ev] (t:AD) (p:Pattern):Option Int:=
 (FS t).bind fun x16=>
 if (!decide (x16.2=0))=true then
 some x16.2
 else
 (EE p.Graph).bind fun x24=>
 if (!decide (x24=0))=true then
 some x24
 else
 (BU p.Graph.Nodes (fun y0=>Hg y0 t)).bind fun x32=>
 (if x32=true then some true else ((B7 p.Graph.Edges (fun y0=>Hh y0 t)).bind fun x38=>
 some (x38))).bind fun x39=>
 if x39=true then
 some 13
 else
 (DM p.Vars 0 12).bind fun x42=>
 if (!x42)=true then
 some 6
 else
 if ((decide (10<(p.Slots.length:Int)))||(decide (10<(p.Tests.length:Int))))=true then
 some 3
 else
 (KN p.Vars false).bind fun x56=>
 thenR (forR (ρ:=Int) (fun (i0:Int) (s0:List Bool)=>
 (AL p.Slots i0).bind fun x62=>
 (F5 t p x62).bind fun x68=>
 (if (!x68.2)=true then some true else ((DM x62.Term.Var (-1) (A8 (p.Vars - 1))).bind fun x80=>
 some (!x80))).bind fun x82=>
 (if x82=true then some true else ((DM x62.Term.Add (-1000000) 1000000).bind fun x87=>
 some (!x87))).bind fun x89=>
 if x89=true then
 some (.ret 6)
 else
 if (decide (0<=x62.Term.Var))=true then
 (AL s0 x62.Term.Var).bind fun x98=>
 some (.next (CB s0 x62.Term.Var true))
 else
 some (.next s0)) 0 (p.Slots.length:Int) x56) (fun s0=>
 (H2 p.Vars p.Tests).bind fun x104=>
 if (!decide (x104=0))=true then
 some x104
 else
 (GP s0 false).bind fun x109=>
 if x109=true then
 some 9
 else
 some 0) (fun v0=>some v0)
def DX [Ev] (s_0:List AA) (f:AA->Option Bool):Option Int:=
 thenR (forR (ρ:=Int) (fun (i0:Int) (_:Unit)=>
 (AL s_0 i0).bind fun x14=>
 (f x14).bind fun x16=>
 if x16=true then
 some (.ret i0)
 else
 some (.next ())) 0 (s_0.length:Int) ()) (fun _=>
 some (-1)) (fun v0=>some v0)
def BV [Ev] (s_0:List AA) (f:AA->Option Bool):Option Bool:=
 (DX s_0 f).bind fun x7=>
 some (decide (0<=x7))
def F6 (c:AA):Option Bool:=
 some ((decide ((A8 ((A8 ((A8 ((A8 ((A8 ((c.Map.Nodes.length:Int)+(c.Map.Edges.length:Int)))+(c.Pattern.Graph.Nodes.length:Int)))+(c.Pattern.Graph.Edges.length:Int)))+(c.Pattern.Slots.length:Int)))+(c.Pattern.Tests.length:Int)))=0))&&(decide (c.Pattern.Vars=0)))
mutual
def BW [Ev]:Nat->AA->Option Bool
 | 0,_=>none
 | n+1,c=>
  (if (decide (c.Kind=1))=true then
  (if (decide ((c.Kids.length:Int)=0))=true then ((F6 c).bind fun x16=>
  some (x16)) else some false).bind fun x17=>
  some x17
  else
  if (decide (c.Kind=2))=true then
  (if (decide ((c.Kids.length:Int)=1))=true then ((F6 c).bind fun x24=>
  some (x24)) else some false).bind fun x25=>
  some x25
  else
  if (decide (c.Kind=3))=true then
  if (decide (c.Kind=3))=true then
  (if (decide (1<=(c.Kids.length:Int)))=true then ((F6 c).bind fun x33=>
  some (x33)) else some false).bind fun x34=>
  some x34
  else
  if (decide (c.Kind=5))=true then
  some (decide ((c.Kids.length:Int)=1))
  else
  some false
  else
  if (decide (c.Kind=4))=true then
  (if (decide (1<=(c.Kids.length:Int)))=true then ((F6 c).bind fun x33=>
  some (x33)) else some false).bind fun x34=>
  some x34
  else
  if (decide (c.Kind=5))=true then
  some (decide ((c.Kids.length:Int)=1))
  else
  some false).bind fun w1=>
  (if w1=true then ((BV c.Kids (B6 n)).bind fun x43=>
  some (!x43)) else some false).bind fun x45=>
  some x45
def B6 [Ev]:Nat->AA->Option Bool
 | 0,_=>none
 | n+1,k=>
  (BW n k).bind fun x4=>
  some (!x4)
end
def GK [Ev] (c:AA):Option Bool:=Hn fun n=>BW n c
def N0 [Ev] (k:AA):Option Bool:=Hn fun n=>B6 n k
def C0 [Ev]:Nat->AA->Option (Int × Int)
 | 0,_=>none
 | n+1,c=>
  (forA (fun (i0:Int) (s0:Int × Int)=>
  (AL c.Kids i0).bind fun x15=>
  (C0 n x15).bind fun x19=>
  some (A8 (s0.1+x19.1),max s0.2 x19.2)) 0 (c.Kids.length:Int) (1,0)).bind fun s0=>
  (if (decide (c.Kind=5))=true then
  some (A8 (s0.2+1))
  else
  some s0.2).bind fun w1=>
  some (s0.1,w1)
def Hi [Ev] (c:AA):Option (Int × Int):=Hn fun n=>C0 n c
def FG [Ev] (c:AA):Option Int:=
 (GK c).bind fun x6=>
 if (!x6)=true then
 some 1
 else
 (Hi c).bind fun x10=>
 if ((decide (12<x10.1))||(decide (3<x10.2)))=true then
 some 3
 else
 some 0
def EP [Ev] (s_0:List D8) (f:D8->Option Bool):Option Int:=
 thenR (forR (ρ:=Int) (fun (i0:Int) (_:Unit)=>
 (AL s_0 i0).bind fun x14=>
 (f x14).bind fun x16=>
 if x16=true then
 some (.ret i0)
 else
 some (.next ())) 0 (s_0.length:Int) ()) (fun _=>
 some (-1)) (fun v0=>some v0)
def DR [Ev] (s_0:List D8) (f:D8->Option Bool):Option Bool:=
 (EP s_0 f).bind fun x7=>
 some (decide (0<=x7))
def IB (s_0:D8) (c0:Int):Option Bool:=
 some (decide (s_0.Term.Var=c0))
def EH [Ev] (t:AD) (q:Pattern) (outer:Int):Option Int:=
 (EA t q).bind fun x11=>
 if (!decide (x11=9))=true then
 some x11
 else
 thenR (JB (ρ:=Int) (fun (s0:Int)=>
 if (decide (s0<q.Vars))=true then
 (DR q.Slots (fun y0=>IB y0 s0)).bind fun x25=>
 if (!x25)=true then
 some (.ret x11)
 else
 some (.next (A8 (s0+1)))
 else
 some (.brk s0)) outer) (fun s0=>
 some 0) (fun v0=>some v0)
def E1 [Ev] (a:Graph) (b:Graph) (m:Morphism):Option Int:=
 (EE a).bind fun x16=>
 if (!decide (x16=0))=true then
 some x16
 else
 (EE b).bind fun x21=>
 if (!decide (x21=0))=true then
 some x21
 else
 if ((!decide ((m.Nodes.length:Int)=(a.Nodes.length:Int)))||(!decide ((m.Edges.length:Int)=(a.Edges.length:Int))))=true then
 some 20
 else
 thenR (forR (ρ:=Int) (fun (i0:Int) (_:Unit)=>
 (AL m.Nodes i0).bind fun x47=>
 if ((decide (x47<0))||(decide ((b.Nodes.length:Int)<=x47)))=true then
 some (.ret 6)
 else
 (AL b.Nodes x47).bind fun x61=>
 (AL a.Nodes i0).bind fun x66=>
 if (!decide (x61=x66))=true then
 some (.ret 13)
 else
 some (.next ())) 0 (m.Nodes.length:Int) ()) (fun _=>
 thenR (forR (ρ:=Int) (fun (i2:Int) (_:Unit)=>
 (AL m.Edges i2).bind fun x76=>
 if ((decide (x76<0))||(decide ((b.Edges.length:Int)<=x76)))=true then
 some (.ret 6)
 else
 (AL a.Edges i2).bind fun x90=>
 (AL b.Edges x76).bind fun x95=>
 if (!decide (x90.Type'=x95.Type'))=true then
 some (.ret 13)
 else
 (AL m.Nodes x90.From).bind fun x106=>
 (if (!decide (x106=x95.From))=true then some true else ((AL m.Nodes x90.To).bind fun x116=>
 some (!decide (x116=x95.To)))).bind fun x121=>
 if x121=true then
 some (.ret 11)
 else
 some (.next ())) 0 (m.Edges.length:Int) ()) (fun _=>
 some 0) (fun v2=>some v2)) (fun v0=>some v0)
def slices_Clone_int (s_0:List Int):Option (List Int):=
 CX [] s_0
def slices_Sort_int (l:List Int):Option (List Int):=if l.length<=B9 then some (Nh l) else none
def slices_Compact_int (l:List Int):Option (List Int):=if l.length<=B9 then some (Go.Lib.compact l) else none
def HZ (l:List Int):Option Int:=
 (slices_Clone_int l).bind fun x5=>
 (slices_Sort_int x5).bind fun x7=>
 (slices_Compact_int x7).bind fun x9=>
 some (x9.length:Int)
def EC [Ev] (a:Graph) (b:Graph) (m:Morphism):Option Bool:=
 (E1 a b m).bind fun x10=>
 (if (decide (x10=0))=true then ((HZ m.Nodes).bind fun x15=>
 some (decide (x15=(m.Nodes.length:Int)))) else some false).bind fun x20=>
 (if x20=true then ((HZ m.Edges).bind fun x24=>
 some (decide (x24=(m.Edges.length:Int)))) else some false).bind fun x29=>
 some x29
def CP [Ev]:Nat->AD->Pattern->AA->Option Int
 | 0,_,_,_=>none
 | n+1,t,p,c=>
  if (decide (c.Kind=5))=true then
  if (decide (c.Pattern.Vars<p.Vars))=true then
  some 20
  else
  (EH t c.Pattern p.Vars).bind fun x27=>
  if (!decide (x27=0))=true then
  some x27
  else
  (E1 p.Graph c.Pattern.Graph c.Map).bind fun x37=>
  if (!decide (x37=0))=true then
  some x37
  else
  (EC p.Graph c.Pattern.Graph c.Map).bind fun x47=>
  if (!x47)=true then
  some 1
  else
  thenR (forR (ρ:=Int) (fun (i0:Int) (_:Unit)=>
  (AL c.Kids i0).bind fun x55=>
  (CP n t c.Pattern x55).bind fun x60=>
  if (!decide (x60=0))=true then
  some (.ret x60)
  else
  some (.next ())) 0 (c.Kids.length:Int) ()) (fun _=>
  some 0) (fun v0=>some v0)
  else
  thenR (forR (ρ:=Int) (fun (i0:Int) (_:Unit)=>
  (AL c.Kids i0).bind fun x55=>
  (CP n t p x55).bind fun x60=>
  if (!decide (x60=0))=true then
  some (.ret x60)
  else
  some (.next ())) 0 (c.Kids.length:Int) ()) (fun _=>
  some 0) (fun v0=>some v0)
def JJ [Ev] (t:AD) (p:Pattern) (c:AA):Option Int:=Hn fun n=>CP n t p c
def EB [Ev] (t:AD) (p:Pattern) (c:AA):Option Int:=
 (EA t p).bind fun x11=>
 if (!decide (x11=0))=true then
 some x11
 else
 (FG c).bind fun x16=>
 if (!decide (x16=0))=true then
 some x16
 else
 (JJ t p c).bind fun x23=>
 some x23
def Jm (n:Int) (c0:AD):Option Bool:=
 some (decide ((c0.Nodes.length:Int)<=n))
def Jn (x_0:DS) (c0:AD):Option Bool:=
 some (decide ((c0.Edges.length:Int)<=x_0.Type'))
def FY [Ev] (t:AD) (g:Graph):Option Bool:=
 (BU g.Nodes (fun y0=>Jm y0 t)).bind fun x8=>
 (if (!x8)=true then ((B7 g.Edges (fun y0=>Jn y0 t)).bind fun x14=>
 some (!x14)) else some false).bind fun x16=>
 some x16
def GO [Ev] (t:AD) (p:Graph) (g:Graph):Option Int:=
 (FS t).bind fun x14=>
 if (!decide (x14.2=0))=true then
 some x14.2
 else
 thenR (forR (ρ:=Int) (fun (i0:Int) (_:Unit)=>
 (AL [p,g] i0).bind fun x26=>
 (EE x26).bind fun x29=>
 if (!decide (x29=0))=true then
 some (.ret x29)
 else
 some (.next ())) 0 ([p,g].length:Int) ()) (fun _=>
 (FY t p).bind fun x36=>
 (if (!x36)=true then some true else ((FY t g).bind fun x41=>
 some (!x41))).bind fun x43=>
 if x43=true then
 some 13
 else
 some 0) (fun v0=>some v0)
def Hs [Ev] (t:AD) (a:Int):Option (List Int × Int):=
 (GF t [a]).bind fun x12=>
 if (!decide (x12=0))=true then
 some ([],x12)
 else
 (forA (fun (i0:Int) (s0:List Int)=>
 (Im t i0 a).bind fun x25=>
 if x25=true then
 (CX s0 [i0]).bind fun x29=>
 some x29
 else
 some s0) 0 (t.Nodes.length:Int) []).bind fun s0=>
 some (s0,0)
def GN [Ev] (t:AD):Option (List (List Bool)):=
 (forA (fun (i0:Int) (s0:List (List Bool))=>
 (KN (t.Nodes.length:Int) false).bind fun x19=>
 (Hs t i0).bind fun x23=>
 (forA (fun (i2:Int) (s2:List Bool)=>
 (AL x23.1 i2).bind fun x30=>
 (AL s2 x30).bind fun x34=>
 some (CB s2 x30 true)) 0 (x23.1.length:Int) x19).bind fun s2=>
 (CX s0 [s2]).bind fun x39=>
 some x39) 0 (t.Nodes.length:Int) []).bind fun s0=>
 some s0
def HQ [Ev] (t:AD) (p:Graph) (g:Graph) (m:Morphism):Option Int:=
 if ((!decide ((m.Nodes.length:Int)=(p.Nodes.length:Int)))||(!decide ((m.Edges.length:Int)=(p.Edges.length:Int))))=true then
 some 20
 else
 (GN t).bind fun x33=>
 thenR (forR (ρ:=Int) (fun (i0:Int) (_:Unit)=>
 (AL m.Nodes i0).bind fun x40=>
 if ((decide (x40<0))||(decide ((g.Nodes.length:Int)<=x40)))=true then
 some (.ret 6)
 else
 (AL p.Nodes i0).bind fun x55=>
 (AL x33 x55).bind fun x57=>
 (AL g.Nodes x40).bind fun x62=>
 (AL x57 x62).bind fun x64=>
 if (!x64)=true then
 some (.ret 13)
 else
 some (.next ())) 0 (m.Nodes.length:Int) ()) (fun _=>
 thenR (forR (ρ:=Int) (fun (i2:Int) (_:Unit)=>
 (AL m.Edges i2).bind fun x74=>
 if ((decide (x74<0))||(decide ((g.Edges.length:Int)<=x74)))=true then
 some (.ret 6)
 else
 (AL p.Edges i2).bind fun x88=>
 (AL g.Edges x74).bind fun x93=>
 if (!decide (x88.Type'=x93.Type'))=true then
 some (.ret 13)
 else
 (AL m.Nodes x88.From).bind fun x104=>
 (if (!decide (x104=x93.From))=true then some true else ((AL m.Nodes x88.To).bind fun x114=>
 some (!decide (x114=x93.To)))).bind fun x119=>
 if x119=true then
 some (.ret 11)
 else
 some (.next ())) 0 (m.Edges.length:Int) ()) (fun _=>
 some 0) (fun v2=>some v2)) (fun v0=>some v0)
def H9 (l:List Int):Option Bool:=if l.length<=4096 then some (dupB l) else none
def GM [Ev] (t:AD) (p:Graph) (g:Graph) (m:Morphism) (injective:Bool):Option Int:=
 (GO t p g).bind fun x16=>
 if (!decide (x16=0))=true then
 some x16
 else
 (HQ t p g m).bind fun x24=>
 if (!decide (x24=0))=true then
 some x24
 else
 (if injective=true then ((H9 m.Nodes).bind fun x32=>
 (if x32=true then some true else ((H9 m.Edges).bind fun x36=>
 some (x36))).bind fun x37=>
 some (x37)) else some false).bind fun x38=>
 if x38=true then
 some 5
 else
 some 0
def FB [Ev] (t:AD) (p:Pattern) (h_2:A2):Option Int:=
 (EA t p).bind fun x12=>
 if (!decide (x12=0))=true then
 some x12
 else
 (G6 t h_2).bind fun x19=>
 some x19.2
def IT (a b c:Int):Option (Int × Int):=if (0<=a∧a<18446744073709551616)∧(0<=b∧b<18446744073709551616)∧0<=c∧c<=1 then some ((a+b+c) % 18446744073709551616,(a+b+c) / 18446744073709551616) else none
def HV (a:Int) (b:Int):Option (Int × Int):=
 (IT (IntKind.u64.wrap a) (IntKind.u64.wrap b) 0).bind fun x13=>
 (KW .i64 .shr a 63).bind fun x17=>
 (KW .i64 .shr b 63).bind fun x19=>
 some (A8 ((A8 (x17+x19))+(A8 x13.2)),x13.1)
def F7 (t:Term) (c0:List Int):Option (Int × Int × Bool):=
 if (decide (t.Var=(-1)))=true then
 (HV 0 t.Add).bind fun x17=>
 some (x17.1,x17.2,true)
 else
 if ((decide (t.Var<0))||(decide ((c0.length:Int)<=t.Var)))=true then
 some (0,0,false)
 else
 (AL c0 t.Var).bind fun x37=>
 (HV x37 t.Add).bind fun x41=>
 some (x41.1,x41.2,true)
def LJ (vals:List Int):Option Int:=
 thenR (forR (ρ:=Int) (fun (i0:Int) (_:Unit)=>
 (AL vals i0).bind fun x10=>
 if (!decide (x10=0))=true then
 some (.ret x10)
 else
 some (.next ())) 0 (vals.length:Int) ()) (fun _=>
 some 0) (fun v0=>some v0)
def cmp_isNaN_int (x_0:Int):Option Bool:=
 some (!decide (x_0=x_0))
def cmp_Compare_int (x_0:Int) (y:Int):Option Int:=
 (cmp_isNaN_int x_0).bind fun x8=>
 (cmp_isNaN_int y).bind fun x10=>
 if x8=true then
 if x10=true then
 some 0
 else
 some (-1)
 else
 if x10=true then
 some 1
 else
 if (decide (x_0<y))=true then
 some (-1)
 else
 if (decide (y<x_0))=true then
 some 1
 else
 some 0
def JI (x_0:Int):Option Bool:=
 some (!decide (x_0=x_0))
def IM (x_0:Int) (y:Int):Option Int:=
 (JI x_0).bind fun x8=>
 (JI y).bind fun x10=>
 if x8=true then
 if x10=true then
 some 0
 else
 some (-1)
 else
 if x10=true then
 some 1
 else
 if (decide (x_0<y))=true then
 some (-1)
 else
 if (decide (y<x_0))=true then
 some 1
 else
 some 0
def F2 (x_0:Test) (DD:List Int):Option Bool:=
 (F7 x_0.Left DD).bind fun x18=>
 (F7 x_0.Right DD).bind fun x26=>
 if ((!x18.2.2)||(!x26.2.2))=true then
 some false
 else
 (cmp_Compare_int x18.1 x26.1).bind fun x38=>
 (IM x18.2.1 x26.2.1).bind fun x41=>
 (LJ [x38,x41]).bind fun x43=>
 some (((decide (x_0.Kind=1))&&(decide (x43<=0)))||((decide (x_0.Kind=2))&&(decide (x43=0))))
def FC (x_0:Term) (DD:List Int):Option Int:=
 if (decide (x_0.Var<0))=true then
 some x_0.Add
 else
 (AL DD x_0.Var).bind fun x13=>
 some (A8 (x13+x_0.Add))
def IJ (p:Pattern) (h_1:A2) (m:Morphism):Option (List Int × Int):=
 (KN p.Vars 0).bind fun x18=>
 (KN p.Vars false).bind fun x21=>
 thenR (forR (ρ:=(List Int × Int)) (fun (i0:Int) (s0:List Int × List Bool)=>
 (AL p.Slots i0).bind fun x27=>
 (AL m.Nodes x27.Node).bind fun x35=>
 (AL h_1.Values x35).bind fun x37=>
 (AL x37 x27.Attr).bind fun x41=>
 (if (decide (0<=x27.Term.Var))=true then ((AL s0.2 x27.Term.Var).bind fun x51=>
 some (!x51)) else some false).bind fun x54=>
 if x54=true then
 (AL s0.1 x27.Term.Var).bind fun x64=>
 (AL s0.2 x27.Term.Var).bind fun x65=>
 (FC x27.Term (CB s0.1 x27.Term.Var (A8 (x41 - x27.Term.Add)))).bind fun x69=>
 if (!decide (x69=x41))=true then
 some (.ret ([],11))
 else
 some (.next (CB s0.1 x27.Term.Var (A8 (x41 - x27.Term.Add)),CB s0.2 x27.Term.Var true))
 else
 (FC x27.Term s0.1).bind fun x69=>
 if (!decide (x69=x41))=true then
 some (.ret ([],11))
 else
 some (.next (s0.1,s0.2))) 0 (p.Slots.length:Int) (x18,x21)) (fun s0=>
 thenR (forR (ρ:=(List Int × Int)) (fun (i2:Int) (_:Unit)=>
 (AL p.Tests i2).bind fun x78=>
 (F2 x78 s0.1).bind fun x82=>
 if (!x82)=true then
 some (.ret ([],16))
 else
 some (.next ())) 0 (p.Tests.length:Int) ()) (fun _=>
 some (s0.1,0)) (fun v2=>some v2)) (fun v0=>some v0)
def FA [Ev] (t:AD) (p:Pattern) (h_2:A2) (m:Morphism):Option (List Int × Int):=
 (FB t p h_2).bind fun x15=>
 if (!decide (x15=0))=true then
 some ([],x15)
 else
 (GM t p.Graph h_2.Graph m false).bind fun x25=>
 if (!decide (x25=0))=true then
 some ([],x25)
 else
 (IJ p h_2 m).bind fun x32=>
 some (x32.1,x32.2)
def FE [Ev] (t:AD) (p:Pattern) (c:AA) (h_3:A2) (m:AG) (injective:Bool):Option Int:=
 (EB t p c).bind fun x22=>
 if (!decide (x22=0))=true then
 some x22
 else
 (G6 t h_3).bind fun x29=>
 if (!decide (x29.2=0))=true then
 some x29.2
 else
 (GM t p.Graph h_3.Graph m.Morphism injective).bind fun x43=>
 if (!decide (x43=0))=true then
 some x43
 else
 (FA t p h_3 m.Morphism).bind fun x53=>
 if (!decide (x53.2=0))=true then
 some x53.2
 else
 (slices_Equal_int x53.1 m.Vars).bind fun x62=>
 if (!x62)=true then
 some 11
 else
 some 0
def Kr (k:Int) (c0:Int):Option Bool:=
 some ((decide (k<(-1)))||(decide (c0<=k)))
def HC [Ev] (l:List Int) (n:Int):Option Int:=
 (BU l (fun y0=>Kr y0 n)).bind fun x7=>
 if x7=true then
 some 6
 else
 some 0
def H8 (l:List Int) (i_1:Int):Option Int:=
 (UU l).bind fun x6=>
 (AL l i_1).bind fun x9=>
 some x9
def EM (f:AK) (i_1:Int) (k:Int):Option Bool:=
 (AL f.p.Edges i_1).bind fun x15=>
 (H8 f.partial_.Edges i_1).bind fun x23=>
 if ((decide (0<=x23))&&(!decide (x23=k)))=true then
 some false
 else
 (AL f.g.Edges k).bind fun x37=>
 (AL f.nodes x15.From).bind fun x47=>
 (AL f.nodes x15.To).bind fun x55=>
 some (decide (x37=(DS.mk x15.Type' x47 x55)))
def CT (f:AK):Option Bool:=
 thenR (forR (ρ:=Bool) (fun (i0:Int) (_:Unit)=>
 (AL f.p.Edges i0).bind fun x23=>
 if (!decide ((max x23.From x23.To)=(A8 ((f.nodes.length:Int) - 1))))=true then
 some (.next ())
 else
 thenR (forR (ρ:=Bool) (fun (i2:Int) (s2:Bool)=>
 (EM f i0 i2).bind fun x44=>
 if x44=true then
 some (.brk true)
 else
 some (.next s2)) 0 (f.g.Edges.length:Int) false) (fun s2=>
 if (!s2)=true then
 some (.ret false)
 else
 some (.next ())) (fun v2=>some (.ret v2))) 0 (f.p.Edges.length:Int) ()) (fun _=>
 some true) (fun v0=>some v0)
def A9 [Ev]:Nat->AK->Option AK
 | 0,_=>none
 | n+1,f=>
  (if (decide ((f.out.length:Int)=f.most))=true then
  some f
  else
  if (decide ((f.nodes.length:Int)<(f.p.Nodes.length:Int)))=true then
  (forA (fun (i1:Int) (s1:AK)=>
  (AL f.g.Nodes i1).bind fun x66=>
  (H8 s1.partial_.Nodes (f.nodes.length:Int)).bind fun x74=>
  (if ((decide (0<=x74))&&(!decide (x74=i1)))=true then some true else ((AL s1.p.Nodes (f.nodes.length:Int)).bind fun x93=>
  (AL s1.is x93).bind fun x95=>
  (AL x95 x66).bind fun x98=>
  some (!x98))).bind fun x101=>
  (if x101=true then some true else ((if s1.injective=true then ((slices_Contains_int s1.nodes i1).bind fun x113=>
  some (x113)) else some false).bind fun x114=>
  some (x114))).bind fun x115=>
  if x115=true then
  some s1
  else
  (CX s1.nodes [i1]).bind fun x123=>
  (CT (AK.mk s1.p s1.g s1.is s1.partial_ s1.injective s1.most x123 s1.edges s1.out)).bind fun x127=>
  if x127=true then
  (A9 n (AK.mk s1.p s1.g s1.is s1.partial_ s1.injective s1.most x123 s1.edges s1.out)).bind fun x129=>
  (slc x129.nodes 0 (f.nodes.length:Int)).bind fun x136=>
  some (AK.mk x129.p x129.g x129.is x129.partial_ x129.injective x129.most x136 x129.edges x129.out)
  else
  (slc x123 0 (f.nodes.length:Int)).bind fun x136=>
  some (AK.mk s1.p s1.g s1.is s1.partial_ s1.injective s1.most x136 s1.edges s1.out)) 0 (f.g.Nodes.length:Int) f).bind fun s1=>
  some s1
  else
  if (decide ((f.edges.length:Int)<(f.p.Edges.length:Int)))=true then
  (forA (fun (i3:Int) (s3:AK)=>
  (EM s3 (f.edges.length:Int) i3).bind fun x170=>
  (if (!x170)=true then some true else ((if s3.injective=true then ((slices_Contains_int s3.edges i3).bind fun x183=>
  some (x183)) else some false).bind fun x184=>
  some (x184))).bind fun x185=>
  if x185=true then
  some s3
  else
  (CX s3.edges [i3]).bind fun x193=>
  (A9 n (AK.mk s3.p s3.g s3.is s3.partial_ s3.injective s3.most s3.nodes x193 s3.out)).bind fun x197=>
  (slc x197.edges 0 (f.edges.length:Int)).bind fun x204=>
  some (AK.mk x197.p x197.g x197.is x197.partial_ x197.injective x197.most x197.nodes x204 x197.out)) 0 (f.g.Edges.length:Int) f).bind fun s3=>
  some s3
  else
  (slices_Clone_int f.nodes).bind fun x17=>
  (slices_Clone_int f.edges).bind fun x22=>
  (CX f.out [Morphism.mk x17 x22]).bind fun x25=>
  some (AK.mk f.p f.g f.is f.partial_ f.injective f.most f.nodes f.edges x25)).bind fun w1=>
  some w1
def F4 [Ev] (f:AK):Option AK:=Hn fun n=>A9 n f
def HP [Ev] (t:AD) (p:Graph) (g:Graph) (partial_:Morphism) (injective:Bool) (most:Int):Option (List Morphism):=
 (GN t).bind fun x17=>
 (F4 (AK.mk p g x17 partial_ injective most [] [] [])).bind fun x24=>
 some x24.out
def JP [Ev] (t:AD) (p:Graph) (g:Graph) (partial_:Morphism) (injective:Bool):Option (List Morphism × Int):=
 (HP t p g partial_ injective 5001).bind fun x18=>
 if (decide (5000<(x18.length:Int)))=true then
 some ([],3)
 else
 some (x18,0)
def FX [Ev] (t:AD) (p:Graph) (g:Graph) (partial_:Morphism) (injective:Bool):Option (List Morphism × Int):=
 (GO t p g).bind fun x18=>
 if (!decide (x18=0))=true then
 some ([],x18)
 else
 if ((!decide ((partial_.Nodes.length:Int)=(p.Nodes.length:Int)))||(!decide ((partial_.Edges.length:Int)=(p.Edges.length:Int))))=true then
 some ([],20)
 else
 (HC partial_.Nodes (g.Nodes.length:Int)).bind fun x43=>
 if (!decide (x43=0))=true then
 some ([],x43)
 else
 (HC partial_.Edges (g.Edges.length:Int)).bind fun x52=>
 if (!decide (x52=0))=true then
 some ([],x52)
 else
 (JP t p g partial_ injective).bind fun x61=>
 some (x61.1,x61.2)
def D5 (l:List Int) (n:Int):Option (List Int):=if l.length=1∧0<=n∧n<=4096 then some (List.replicate n.toNat (l.headD 0)) else none
def G1 (n:Int) (AB:List Int) (images:List Int):Option (List Int):=
 (D5 [(-1)] n).bind fun x12=>
 (forA (fun (i0:Int) (s0:List Int)=>
 (AL AB i0).bind fun x18=>
 (AL images i0).bind fun x24=>
 (AL s0 x18).bind fun x26=>
 some (CB s0 x18 x24)) 0 (AB.length:Int) x12).bind fun s0=>
 some s0
def G0 (x_0:Term) (DD:List Int):Option (Int × Int):=
 (DM x_0.Var (-1) (A8 ((DD.length:Int) - 1))).bind fun x11=>
 if (!x11)=true then
 some (0,6)
 else
 (FC x_0 DD).bind fun x15=>
 some (x15,0)
def ES (s_0:A3) (q:Pattern) (m:Morphism) (given:List Int):Option (List Int × Bool):=
 (slices_Clone_int given).bind fun x22=>
 (QM x22 (A8 (q.Vars - (given.length:Int))) 0).bind fun x28=>
 (KN q.Vars false).bind fun x31=>
 (forA (fun (i0:Int) (s0:List Bool)=>
 (AL s0 i0).bind fun x39=>
 some (CB s0 i0 true)) 0 (given.length:Int) x31).bind fun s0=>
 thenR (forR (ρ:=(List Int × Bool)) (fun (i2:Int) (s2:List Int × List Bool)=>
 (AL q.Slots i2).bind fun x46=>
 (AL m.Nodes x46.Node).bind fun x55=>
 (AL s_0.h.Values x55).bind fun x57=>
 (AL x57 x46.Attr).bind fun x61=>
 (if (decide (0<=x46.Term.Var))=true then ((AL s2.2 x46.Term.Var).bind fun x71=>
 some (!x71)) else some false).bind fun x74=>
 if x74=true then
 (AL s2.1 x46.Term.Var).bind fun x84=>
 (AL s2.2 x46.Term.Var).bind fun x85=>
 (G0 x46.Term (CB s2.1 x46.Term.Var (A8 (x61 - x46.Term.Add)))).bind fun x90=>
 if ((!decide (x90.2=0))||(!decide (x90.1=x61)))=true then
 some (.ret ([],false))
 else
 some (.next (CB s2.1 x46.Term.Var (A8 (x61 - x46.Term.Add)),CB s2.2 x46.Term.Var true))
 else
 (G0 x46.Term s2.1).bind fun x90=>
 if ((!decide (x90.2=0))||(!decide (x90.1=x61)))=true then
 some (.ret ([],false))
 else
 some (.next (s2.1,s2.2))) 0 (q.Slots.length:Int) (x28,s0)) (fun s2=>
 thenR (forR (ρ:=(List Int × Bool)) (fun (i4:Int) (_:Unit)=>
 (AL q.Tests i4).bind fun x106=>
 (F2 x106 s2.1).bind fun x110=>
 if (!x110)=true then
 some (.ret ([],false))
 else
 some (.next ())) 0 (q.Tests.length:Int) ()) (fun _=>
 some (s2.1,true)) (fun v4=>some v4)) (fun v2=>some v2)
def CI [Ev] (s_0:A3) (c:AA) (m:AG):Option (List AG × Int):=
 (G1 (c.Pattern.Graph.Nodes.length:Int) c.Map.Nodes m.Morphism.Nodes).bind fun x29=>
 (G1 (c.Pattern.Graph.Edges.length:Int) c.Map.Edges m.Morphism.Edges).bind fun x39=>
 (FX s_0.t c.Pattern.Graph s_0.h.Graph (Morphism.mk x29 x39) s_0.injective).bind fun x51=>
 if (!decide (x51.2=0))=true then
 some ([],x51.2)
 else
 (forA (fun (i0:Int) (s0:List AG)=>
 (AL x51.1 i0).bind fun x61=>
 (ES s_0 c.Pattern x61 m.Vars).bind fun x70=>
 if x70.2=true then
 (CX s0 [AG.mk x61 x70.1]).bind fun x79=>
 some x79
 else
 some s0) 0 (x51.1.length:Int) []).bind fun s0=>
 some (s0,0)
mutual
def A0 [Ev]:Nat->A3->AA->AG->Option (BP × Int)
 | 0,_,_,_=>none
 | n+1,s_0,c,m=>
  if (decide (c.Kind=2))=true then
  (AL c.Kids 0).bind fun x27=>
  (A0 n s_0 x27 m).bind fun x30=>
  if (decide (x30.2=0))=true then
  some (BP.mk 0 (AG.mk (Morphism.mk [] []) []) [],10)
  else
  if (decide (x30.2=10))=true then
  some (BP.mk 0 (AG.mk (Morphism.mk [] []) []) [],0)
  else
  some (BP.mk 0 (AG.mk (Morphism.mk [] []) []) [],x30.2)
  else
  if (decide (c.Kind=3))=true then
  thenR (forR (ρ:=(BP × Int)) (fun (i2:Int) (s2:BP × BP)=>
  (AL c.Kids i2).bind fun x49=>
  (A0 n s_0 x49 m).bind fun x55=>
  if (!decide (x55.2=0))=true then
  some (.ret (BP.mk 0 (AG.mk (Morphism.mk [] []) []) [],x55.2))
  else
  (CX s2.2.Kids [x55.1]).bind fun x66=>
  some (.next (s2.1,BP.mk s2.2.Choice s2.2.Match x66))) 0 (c.Kids.length:Int) (BP.mk 0 (AG.mk (Morphism.mk [] []) []) [],BP.mk 0 (AG.mk (Morphism.mk [] []) []) [])) (fun s2=>
  some (s2.2,0)) (fun v2=>some v2)
  else
  if (decide (c.Kind=4))=true then
  thenR (forR (ρ:=(BP × Int)) (fun (i4:Int) (s4:BP)=>
  (AL c.Kids i4).bind fun x78=>
  (A0 n s_0 x78 m).bind fun x84=>
  if (decide (x84.2=0))=true then
  some (.ret (BP.mk i4 (AG.mk (Morphism.mk [] []) []) [x84.1],0))
  else
  if (!decide (x84.2=10))=true then
  some (.ret (BP.mk 0 (AG.mk (Morphism.mk [] []) []) [],x84.2))
  else
  some (.next s4)) 0 (c.Kids.length:Int) (BP.mk 0 (AG.mk (Morphism.mk [] []) []) [])) (fun s4=>
  some (BP.mk 0 (AG.mk (Morphism.mk [] []) []) [],10)) (fun v4=>some v4)
  else
  if (decide (c.Kind=5))=true then
  (BT n s_0 c m).bind fun x104=>
  some (x104.1,x104.2)
  else
  some (BP.mk 0 (AG.mk (Morphism.mk [] []) []) [],0)
def BT [Ev]:Nat->A3->AA->AG->Option (BP × Int)
 | 0,_,_,_=>none
 | n+1,s_0,c,m=>
  (CI s_0 c m).bind fun x18=>
  if (!decide (x18.2=0))=true then
  some (BP.mk 0 (AG.mk (Morphism.mk [] []) []) [],x18.2)
  else
  thenR (forR (ρ:=(BP × Int)) (fun (i0:Int) (s0:BP)=>
  (AL x18.1 i0).bind fun x29=>
  (AL c.Kids 0).bind fun x35=>
  (A0 n s_0 x35 x29).bind fun x38=>
  if (decide (x38.2=0))=true then
  some (.ret (BP.mk 0 x29 [x38.1],0))
  else
  if (!decide (x38.2=10))=true then
  some (.ret (BP.mk 0 (AG.mk (Morphism.mk [] []) []) [],x38.2))
  else
  some (.next s0)) 0 (x18.1.length:Int) (BP.mk 0 (AG.mk (Morphism.mk [] []) []) [])) (fun s0=>
  some (BP.mk 0 (AG.mk (Morphism.mk [] []) []) [],10)) (fun v0=>some v0)
end
def EI [Ev] (s_0:A3) (c:AA) (m:AG):Option (BP × Int):=Hn fun n=>A0 n s_0 c m
def MS [Ev] (s_0:A3) (c:AA) (m:AG):Option (BP × Int):=Hn fun n=>BT n s_0 c m
def EG [Ev] (t:AD) (p:Pattern) (c:AA) (h_3:A2) (m:AG) (injective:Bool):Option (BP × Int):=
 (FE t p c h_3 m injective).bind fun x21=>
 if (!decide (x21=0))=true then
 some (BP.mk 0 (AG.mk (Morphism.mk [] []) []) [],x21)
 else
 (EI (A3.mk t h_3 injective) c m).bind fun x32=>
 some (x32.1,x32.2)
def CM [Ev] (t:AD) (p:Pattern) (c:AA) (h_3:A2) (m:AG) (injective:Bool):Option (Bool × Int):=
 (EG t p c h_3 m injective).bind fun x23=>
 if (decide (x23.2=10))=true then
 some (false,0)
 else
 some (decide (x23.2=0),x23.2)
def DL (path:List Int) (i_1:Int):Option (List Int):=
 (slices_Clone_int path).bind fun x6=>
 (CX x6 [i_1]).bind fun x9=>
 some x9
def FM (s_0:AE) (q:Pattern) (m:Morphism) (outer:List Int):Option (List Int × Bool):=
 (KN q.Vars 0).bind fun x22=>
 (KN q.Vars false).bind fun x25=>
 (forA (fun (i0:Int) (s0:List Int × List Bool)=>
 (AL outer i0).bind fun x31=>
 (AL s0.1 i0).bind fun x38=>
 (AL s0.2 i0).bind fun x39=>
 some (CB s0.1 i0 x31,CB s0.2 i0 true)) 0 (outer.length:Int) (x22,x25)).bind fun s0=>
 thenR (forR (ρ:=(List Int × Bool)) (fun (i2:Int) (s2:List Int × List Bool)=>
 (AL q.Slots i2).bind fun x46=>
 (AL m.Nodes x46.Node).bind fun x55=>
 (AL s_0.h.Values x55).bind fun x57=>
 (AL x57 x46.Attr).bind fun x61=>
 if (decide (x46.Term.Var<0))=true then
 if (!decide ((A8 (x61 - x46.Term.Add))=0))=true then
 some (.ret ([],false))
 else
 some (.next (s2.1,s2.2))
 else
 (AL s2.2 x46.Term.Var).bind fun x78=>
 if (!x78)=true then
 (AL s2.1 x46.Term.Var).bind fun x86=>
 (AL s2.2 x46.Term.Var).bind fun x87=>
 some (.next (CB s2.1 x46.Term.Var (A8 (x61 - x46.Term.Add)),CB s2.2 x46.Term.Var true))
 else
 (AL s2.1 x46.Term.Var).bind fun x91=>
 if (!decide (x91=(A8 (x61 - x46.Term.Add))))=true then
 some (.ret ([],false))
 else
 some (.next (s2.1,s2.2))) 0 (q.Slots.length:Int) (s0.1,s0.2)) (fun s2=>
 thenR (forR (ρ:=(List Int × Bool)) (fun (i5:Int) (_:Unit)=>
 (AL q.Tests i5).bind fun x101=>
 (F2 x101 s2.1).bind fun x105=>
 if (!x105)=true then
 some (.ret ([],false))
 else
 some (.next ())) 0 (q.Tests.length:Int) ()) (fun _=>
 some (s2.1,true)) (fun v5=>some v5)) (fun v2=>some v2)
def B8 [Ev] (s_0:AE) (c:AA) (m:AG):Option (List AG):=
 (D5 [(-1)] (c.Pattern.Graph.Nodes.length:Int)).bind fun x27=>
 (D5 [(-1)] (c.Pattern.Graph.Edges.length:Int)).bind fun x32=>
 (forA (fun (i0:Int) (s0:Morphism)=>
 (AL c.Map.Nodes i0).bind fun x41=>
 (AL m.Morphism.Nodes i0).bind fun x50=>
 (AL s0.Nodes x41).bind fun x52=>
 some (Morphism.mk (CB s0.Nodes x41 x50) s0.Edges)) 0 (c.Map.Nodes.length:Int) (Morphism.mk x27 x32)).bind fun s0=>
 (forA (fun (i2:Int) (s2:Morphism)=>
 (AL c.Map.Edges i2).bind fun x61=>
 (AL m.Morphism.Edges i2).bind fun x70=>
 (AL s2.Edges x61).bind fun x72=>
 some (Morphism.mk s2.Nodes (CB s2.Edges x61 x70))) 0 (c.Map.Edges.length:Int) s0).bind fun s2=>
 (FX s_0.t c.Pattern.Graph s_0.h.Graph s2 s_0.injective).bind fun x84=>
 (forA (fun (i4:Int) (s4:List AG)=>
 (AL x84.1 i4).bind fun x91=>
 (FM s_0 c.Pattern x91 m.Vars).bind fun x100=>
 if x100.2=true then
 (CX s4 [AG.mk x91 x100.1]).bind fun x109=>
 some x109
 else
 some s4) 0 (x84.1.length:Int) []).bind fun s4=>
 some s4
def DV [Ev] (k:AA) (c0:AA->Option Bool):Option Bool:=
 (c0 k).bind fun x6=>
 some (!x6)
def EF [Ev] (s_0:List AG) (f:AG->Option Bool):Option Int:=
 thenR (forR (ρ:=Int) (fun (i0:Int) (_:Unit)=>
 (AL s_0 i0).bind fun x14=>
 (f x14).bind fun x16=>
 if x16=true then
 some (.ret i0)
 else
 some (.next ())) 0 (s_0.length:Int) ()) (fun _=>
 some (-1)) (fun v0=>some v0)
def DG [Ev] (s_0:List AG) (f:AG->Option Bool):Option Bool:=
 (EF s_0 f).bind fun x7=>
 some (decide (0<=x7))
mutual
def BH [Ev]:Nat->AE->AA->AG->Option Bool
 | 0,_,_,_=>none
 | n+1,s_0,c,m=>
  if (decide (c.Kind=2))=true then
  (AL c.Kids 0).bind fun x16=>
  (BA n x16 s_0 m).bind fun x18=>
  some (!x18)
  else
  if (decide (c.Kind=3))=true then
  (BV c.Kids (fun y0=>DV y0 (fun y0=>BA n y0 s_0 m))).bind fun x25=>
  some (!x25)
  else
  if (decide (c.Kind=4))=true then
  (BV c.Kids (fun y0=>BA n y0 s_0 m)).bind fun x32=>
  some x32
  else
  if (decide (c.Kind=5))=true then
  (B8 s_0 c m).bind fun x38=>
  (DG x38 (fun y0=>BY n y0 s_0 c)).bind fun x40=>
  some x40
  else
  some true
def BA [Ev]:Nat->AA->AE->AG->Option Bool
 | 0,_,_,_=>none
 | n+1,k,c0,c1=>
  (BH n c0 k c1).bind fun x8=>
  some x8
def BY [Ev]:Nat->AG->AE->AA->Option Bool
 | 0,_,_,_=>none
 | n+1,x_0,c0,c1=>
  (AL c1.Kids 0).bind fun x8=>
  (BH n c0 x8 x_0).bind fun x11=>
  some x11
end
def _explain_scene__holds [Ev] (s_0:AE) (c:AA) (m:AG):Option Bool:=Hn fun n=>BH n s_0 c m
def NP [Ev] (k:AA) (c0:AE) (c1:AG):Option Bool:=Hn fun n=>BA n k c0 c1
def NQ [Ev] (x_0:AG) (c0:AE) (c1:AA):Option Bool:=Hn fun n=>BY n x_0 c0 c1
def E0 (path:List Int) (kind:Int) (nodes:List Int):Option AN:=
 (slices_Clone_int path).bind fun x8=>
 (slices_Clone_int nodes).bind fun x11=>
 some (AN.mk x8 kind x11)
mutual
def A5 [Ev]:Nat->AE->AA->AG->(List Int)->Bool->Option (List AN)
 | 0,_,_,_,_,_=>none
 | n+1,s_0,c,m,path,good=>
  if (decide (c.Kind=2))=true then
  (AL c.Kids 0).bind fun x18=>
  (DL path 0).bind fun x22=>
  (A5 n s_0 x18 m x22 (!good)).bind fun x25=>
  some x25
  else
  (if (decide (c.Kind=3))=true then
  some (decide (c.Kind=3))
  else
  some (decide (c.Kind=4))).bind fun w1=>
  if w1=true then
  (BZ n s_0 c m path good).bind fun x34=>
  some x34
  else
  if (decide (c.Kind=5))=true then
  (B5 n s_0 c m path good).bind fun x42=>
  some x42
  else
  (E0 path 1 []).bind fun x44=>
  some [x44]
def BZ [Ev]:Nat->AE->AA->AG->(List Int)->Bool->Option (List AN)
 | 0,_,_,_,_,_=>none
 | n+1,s_0,c,m,path,good=>
  thenR (forR (ρ:=(List AN)) (fun (i0:Int) (s0:List AN)=>
  (AL c.Kids i0).bind fun x20=>
  if ((decide (c.Kind=3))==good)=true then
  (DL path i0).bind fun x33=>
  (A5 n s_0 x20 m x33 good).bind fun x35=>
  (CX s0 x35).bind fun x36=>
  some (.next x36)
  else
  (_explain_scene__holds s_0 x20 m).bind fun x40=>
  if (x40==good)=true then
  (DL path i0).bind fun x48=>
  (A5 n s_0 x20 m x48 good).bind fun x50=>
  some (.ret x50)
  else
  some (.next s0)) 0 (c.Kids.length:Int) []) (fun s0=>
  some s0) (fun v0=>some v0)
def B5 [Ev]:Nat->AE->AA->AG->(List Int)->Bool->Option (List AN)
 | 0,_,_,_,_,_=>none
 | n+1,s_0,c,m,path,good=>
  (B8 s_0 c m).bind fun x18=>
  if ((!good)&&(decide ((x18.length:Int)=0)))=true then
  (E0 path 3 m.Morphism.Nodes).bind fun x30=>
  some [x30]
  else
  thenR (forR (ρ:=(List AN)) (fun (i0:Int) (s0:List AN)=>
  (AL x18 i0).bind fun x37=>
  if ((!good)&&(decide (i0<5)))=true then
  (E0 path 4 x37.Morphism.Nodes).bind fun x51=>
  (CX s0 [x51]).bind fun x53=>
  (AL c.Kids 0).bind fun x58=>
  (DL path 0).bind fun x62=>
  (A5 n s_0 x58 x37 x62 false).bind fun x63=>
  (CX x53 x63).bind fun x64=>
  some (.next x64)
  else
  (if good=true then ((AL c.Kids 0).bind fun x71=>
  (_explain_scene__holds s_0 x71 x37).bind fun x74=>
  some (x74)) else some false).bind fun x75=>
  if x75=true then
  (E0 path 2 x37.Morphism.Nodes).bind fun x80=>
  (AL c.Kids 0).bind fun x84=>
  if (!decide (x84.Kind=1))=true then
  (AL c.Kids 0).bind fun x92=>
  (DL path 0).bind fun x96=>
  (A5 n s_0 x92 x37 x96 true).bind fun x97=>
  (CX [x80] x97).bind fun x98=>
  some (.ret x98)
  else
  some (.ret [x80])
  else
  some (.next s0)) 0 (x18.length:Int) []) (fun s0=>
  some s0) (fun v0=>some v0)
end
def FL [Ev] (s_0:AE) (c:AA) (m:AG) (path:List Int) (good:Bool):Option (List AN):=Hn fun n=>A5 n s_0 c m path good
def NR [Ev] (s_0:AE) (c:AA) (m:AG) (path:List Int) (good:Bool):Option (List AN):=Hn fun n=>BZ n s_0 c m path good
def Nx [Ev] (s_0:AE) (c:AA) (m:AG) (path:List Int) (good:Bool):Option (List AN):=Hn fun n=>B5 n s_0 c m path good
def C3 [Ev] (t:AD) (p:Pattern) (c:AA) (h_3:A2) (m:AG) (injective:Bool):Option (List AN × Int):=
 (CM t p c h_3 m injective).bind fun x23=>
 if (!decide (x23.2=0))=true then
 some ([],x23.2)
 else
 if x23.1=true then
 some ([],10)
 else
 (FL (AE.mk t h_3 injective) c m [] false).bind fun x36=>
 some (x36,0)
def Hw (l:List AN) (path:List Int) (kind:Int) (nodes:List Int):Option Bool:=
 (if (decide (0<(l.length:Int)))=true then ((AL l 0).bind fun x14=>
 some (decide (x14.Kind=kind))) else some false).bind fun x19=>
 (if x19=true then ((AL l 0).bind fun x22=>
 (slices_Equal_int x22.Path path).bind fun x26=>
 some (x26)) else some false).bind fun x27=>
 (if x27=true then ((AL l 0).bind fun x30=>
 (slices_Equal_int x30.Nodes nodes).bind fun x34=>
 some (x34)) else some false).bind fun x35=>
 some x35
def Jp (s:List Int) (n:Int):Option (List Int):=if s=[]∧0<=n∧n<=B9 then some [] else none
def KP (slices:List (List Int)):Option (List Int):=
 (forA (fun (i0:Int) (s0:Int)=>
 (AL slices i0).bind fun x13=>
 if (decide ((A8 (s0+(x13.length:Int)))<0))=true then
 none
 else
 some (A8 (s0+(x13.length:Int)))) 0 (slices.length:Int) 0).bind fun s0=>
 (Jp [] s0).bind fun x24=>
 (forA (fun (i2:Int) (s2:List Int)=>
 (AL slices i2).bind fun x29=>
 (CX s2 x29).bind fun x33=>
 some x33) 0 (slices.length:Int) x24).bind fun s2=>
 some s2
def IH (a:List Int) (b:List Int):Option (List Int):=
 (KP [a,b]).bind fun x9=>
 (slices_Sort_int x9).bind fun x11=>
 (slices_Compact_int x11).bind fun x13=>
 some x13
def FU [Ev] (starts:List Int) (more:Int->Option (List Int)):Option (List Int):=
 (forA (fun (i0:Int) (s0:List Int)=>
 (AL starts i0).bind fun x14=>
 (more x14).bind fun x18=>
 (forA (fun (i2:Int) (s2:List Int)=>
 (AL x18 i2).bind fun x22=>
 (CX s2 [A8 (x14+x22)]).bind fun x29=>
 some x29) 0 (x18.length:Int) s0).bind fun s2=>
 some s2) 0 (starts.length:Int) []).bind fun s0=>
 (IH s0 []).bind fun x33=>
 some x33
mutual
def AZ [Ev]:Nat->AE->(List AN)->AA->AG->(List Int)->Bool->Option (List Int)
 | 0,_,_,_,_,_,_=>none
 | n+1,s_0,l,c,m,path,good=>
  if (decide (c.Kind=2))=true then
  (AL c.Kids 0).bind fun x27=>
  (DL path 0).bind fun x31=>
  (AZ n s_0 l x27 m x31 (!good)).bind fun x34=>
  some x34
  else
  if (decide (c.Kind=5))=true then
  (BG n s_0 l c m path good).bind fun x43=>
  some x43
  else
  if (decide (c.Kind=1))=true then
  (Hw l path 1 []).bind fun x48=>
  if x48=true then
  some [1]
  else
  some []
  else
  if ((decide (c.Kind=3))==good)=true then
  (forA (fun (i1:Int) (s1:List Int)=>
  (AL c.Kids i1).bind fun x62=>
  (FU s1 (fun y0=>BE n y0 s_0 l x62 m path i1 good)).bind fun x66=>
  some x66) 0 (c.Kids.length:Int) [0]).bind fun s1=>
  some s1
  else
  (forA (fun (i3:Int) (s3:List Int)=>
  (AL c.Kids i3).bind fun x75=>
  (_explain_scene__holds s_0 x75 m).bind fun x80=>
  if (x80==good)=true then
  (DL path i3).bind fun x90=>
  (AZ n s_0 l x75 m x90 good).bind fun x92=>
  (IH s3 x92).bind fun x93=>
  some x93
  else
  some s3) 0 (c.Kids.length:Int) []).bind fun s3=>
  some s3
def BG [Ev]:Nat->AE->(List AN)->AA->AG->(List Int)->Bool->Option (List Int)
 | 0,_,_,_,_,_,_=>none
 | n+1,s_0,l,c,m,path,good=>
  (B8 s_0 c m).bind fun x24=>
  (AL c.Kids 0).bind fun x27=>
  if ((!good)&&(decide ((x24.length:Int)=0)))=true then
  (Hw l path 3 m.Morphism.Nodes).bind fun x41=>
  if x41=true then
  some [1]
  else
  some []
  else
  if (!good)=true then
  (slc x24 0 (min (x24.length:Int) 5)).bind fun x50=>
  (forA (fun (i0:Int) (s0:List Int)=>
  (AL x50 i0).bind fun x54=>
  (FU s0 (fun y0=>BB n y0 l path x54 s_0 x27)).bind fun x58=>
  some x58) 0 (x50.length:Int) [0]).bind fun s0=>
  some s0
  else
  (forA (fun (i2:Int) (s2:List Int)=>
  (AL x24 i2).bind fun x65=>
  (Hw l path 2 x65.Morphism.Nodes).bind fun x72=>
  (if (!x72)=true then some true else ((_explain_scene__holds s_0 x27 x65).bind fun x78=>
  some (!x78))).bind fun x80=>
  if x80=true then
  some s2
  else
  if (decide (x27.Kind=1))=true then
  (IH s2 [1]).bind fun x86=>
  some x86
  else
  (FU [1] (fun y0=>BC n y0 s_0 l x27 x65 path)).bind fun x90=>
  (IH s2 x90).bind fun x91=>
  some x91) 0 (x24.length:Int) []).bind fun s2=>
  some s2
def BE [Ev]:Nat->Int->AE->(List AN)->AA->AG->(List Int)->Int->Bool->Option (List Int)
 | 0,_,_,_,_,_,_,_,_=>none
 | n+1,n_0,c0,c1,c2,c3,c4,c5,c6=>
  (slc c1 n_0 c1.length).bind fun x13=>
  (DL c4 c5).bind fun x18=>
  (AZ n c0 x13 c2 c3 x18 c6).bind fun x20=>
  some x20
def BB [Ev]:Nat->Int->(List AN)->(List Int)->AG->AE->AA->Option (List Int)
 | 0,_,_,_,_,_,_=>none
 | n+1,n_0,c0,c1,c2,c3,c4=>
  (slc c0 n_0 c0.length).bind fun x10=>
  (Hw x10 c1 4 c2.Morphism.Nodes).bind fun x15=>
  if (!x15)=true then
  some []
  else
  (FU [1] (fun y0=>A7 n y0 c3 c0 n_0 c4 c2 c1)).bind fun x19=>
  some x19
def A7 [Ev]:Nat->Int->AE->(List AN)->Int->AA->AG->(List Int)->Option (List Int)
 | 0,_,_,_,_,_,_,_=>none
 | n+1,k,c0,c1,c2,c3,c4,c5=>
  (slc c1 (A8 (c2+k)) c1.length).bind fun x14=>
  (DL c5 0).bind fun x18=>
  (AZ n c0 x14 c3 c4 x18 false).bind fun x19=>
  some x19
def BC [Ev]:Nat->Int->AE->(List AN)->AA->AG->(List Int)->Option (List Int)
 | 0,_,_,_,_,_,_=>none
 | n+1,n_0,c0,c1,c2,c3,c4=>
  (slc c1 n_0 c1.length).bind fun x11=>
  (DL c4 0).bind fun x15=>
  (AZ n c0 x11 c2 c3 x15 true).bind fun x16=>
  some x16
end
def GW [Ev] (s_0:AE) (l:List AN) (c:AA) (m:AG) (path:List Int) (good:Bool):Option (List Int):=Hn fun n=>AZ n s_0 l c m path good
def M6 [Ev] (s_0:AE) (l:List AN) (c:AA) (m:AG) (path:List Int) (good:Bool):Option (List Int):=Hn fun n=>BG n s_0 l c m path good
def Mh [Ev] (n_0:Int) (c0:AE) (c1:List AN) (c2:AA) (c3:AG) (c4:List Int) (c5:Int) (c6:Bool):Option (List Int):=Hn fun n=>BE n n_0 c0 c1 c2 c3 c4 c5 c6
def MT [Ev] (n_0:Int) (c0:List AN) (c1:List Int) (c2:AG) (c3:AE) (c4:AA):Option (List Int):=Hn fun n=>BB n n_0 c0 c1 c2 c3 c4
def Lu [Ev] (k:Int) (c0:AE) (c1:List AN) (c2:Int) (c3:AA) (c4:AG) (c5:List Int):Option (List Int):=Hn fun n=>A7 n k c0 c1 c2 c3 c4 c5
def MU [Ev] (n_0:Int) (c0:AE) (c1:List AN) (c2:AA) (c3:AG) (c4:List Int):Option (List Int):=Hn fun n=>BC n n_0 c0 c1 c2 c3 c4
def IG [Ev] (t:AD) (p:Pattern) (c:AA) (h_3:A2) (m:AG) (injective:Bool) (l:List AN):Option Bool:=
 (CM t p c h_3 m injective).bind fun x24=>
 (if ((decide (x24.2=0))&&(!x24.1))=true then ((GW (AE.mk t h_3 injective) l c m [] false).bind fun x41=>
 (slices_Contains_int x41 (l.length:Int)).bind fun x44=>
 some (x44)) else some false).bind fun x45=>
 some x45
def FV [Ev]:Nat->(List Int)->Int->Option (List (List Int))
 | 0,_,_=>none
 | n+1,l,n_1=>
  if (decide (n_1=0))=true then
  some [[]]
  else
  (forA (fun (i0:Int) (s0:List (List Int))=>
  (slc l (A8 (i0+1)) l.length).bind fun x20=>
  (FV n x20 (A8 (n_1 - 1))).bind fun x23=>
  (forA (fun (i2:Int) (s2:List (List Int))=>
  (AL x23 i2).bind fun x27=>
  (AL l i0).bind fun x32=>
  (CX [x32] x27).bind fun x36=>
  (CX s2 [x36]).bind fun x38=>
  some x38) 0 (x23.length:Int) s0).bind fun s2=>
  some s2) 0 (l.length:Int) []).bind fun s0=>
  some s0
def LO [Ev] (l:List Int) (n_1:Int):Option (List (List Int)):=Hn fun n=>FV n l n_1
def LP (h_0:A2) (m:AG) (BM:List Int):Option (A2 × AG):=
 (KN (h_0.Graph.Edges.length:Int) 0).bind fun x26=>
 (forA (fun (i0:Int) (s0:A2 × List Int)=>
 (AL h_0.Graph.Edges i0).bind fun x34=>
 (slices_Contains_int BM i0).bind fun x38=>
 if (!x38)=true then
 (AL s0.2 i0).bind fun x46=>
 (CX s0.1.Graph.Edges [x34]).bind fun x52=>
 some (A2.mk (Graph.mk s0.1.Graph.Nodes x52) s0.1.Values,CB s0.2 i0 (s0.1.Graph.Edges.length:Int))
 else
 some (s0.1,s0.2)) 0 (h_0.Graph.Edges.length:Int) (A2.mk (Graph.mk h_0.Graph.Nodes []) h_0.Values,x26)).bind fun s0=>
 (forA (fun (i2:Int) (s2:AG)=>
 (AL m.Morphism.Edges i2).bind fun x69=>
 (AL s0.2 x69).bind fun x76=>
 (CX s2.Morphism.Edges [x76]).bind fun x79=>
 some (AG.mk (Morphism.mk s2.Morphism.Nodes x79) s2.Vars)) 0 (m.Morphism.Edges.length:Int) (AG.mk (Morphism.mk m.Morphism.Nodes []) m.Vars)).bind fun s2=>
 some (s0.1,s2)
def Hv [Ev] (t:AD) (p:Pattern) (c:AA) (h_3:A2) (m:AG):Option (List Int × Int):=
 (CM t p c h_3 m true).bind fun x29=>
 if (!decide (x29.2=0))=true then
 some ([],x29.2)
 else
 (if (!decide (c.Kind=2))=true then some true else ((AL c.Kids 0).bind fun x41=>
 some (!decide (x41.Kind=5)))).bind fun x45=>
 if x45=true then
 some ([],8)
 else
 if (decide (12<(h_3.Graph.Edges.length:Int)))=true then
 some ([],3)
 else
 (forA (fun (i0:Int) (s0:List Int)=>
 (slices_Contains_int m.Morphism.Edges i0).bind fun x62=>
 if (!x62)=true then
 (CX s0 [i0]).bind fun x67=>
 some x67
 else
 some s0) 0 (h_3.Graph.Edges.length:Int) []).bind fun s0=>
 thenR (forR (ρ:=(List Int × Int)) (fun (i2:Int) (_:Unit)=>
 (LO s0 i2).bind fun x74=>
 thenR (forR (ρ:=(List Int × Int)) (fun (i4:Int) (_:Unit)=>
 (AL x74 i4).bind fun x78=>
 (LP h_3 m x78).bind fun x84=>
 (CM t p c x84.1 x84.2 true).bind fun x93=>
 if ((decide (x93.2=0))&&x93.1)=true then
 some (.ret (x78,0))
 else
 some (.next ())) 0 (x74.length:Int) ()) (fun _=>
 some (.next ())) (fun v4=>some (.ret v4))) 0 4 ()) (fun _=>
 some ([],10)) (fun v2=>some v2)
def Mc :Option AD:=
 some (AD.mk [CL.mk (⟨#[65,99,99,111,117,110,116]⟩:ByteArray) (-1) true [Attr.mk (⟨#[98,97,108,97,110,99,101]⟩:ByteArray) (-1000) 1000 []],CL.mk (⟨#[67,97,115,104]⟩:ByteArray) 0 false [],CL.mk (⟨#[76,111,97,110]⟩:ByteArray) 0 false [Attr.mk (⟨#[115,116,97,116,101]⟩:ByteArray) 0 1 [(⟨#[111,112,101,110]⟩:ByteArray),(⟨#[99,108,111,115,101,100]⟩:ByteArray)]],CL.mk (⟨#[80,101,114,115,111,110]⟩:ByteArray) (-1) false []] [CZ.mk (⟨#[111,119,110,115]⟩:ByteArray) 3 0 0 (-1) 1 1,CZ.mk (⟨#[112,97,121,115]⟩:ByteArray) 1 1 0 (-1) 0 (-1)])
def Ma :Option (G7 × JK):=
 (some (AA.mk 2 [AA.mk 5 [AA.mk 1 [] (Morphism.mk [] []) (Pattern.mk (Graph.mk [] []) [] 0 [])] (Morphism.mk [0,1] [0]) (Pattern.mk (Graph.mk [3,0,0] [DS.mk 0 0 1,DS.mk 0 0 2]) [] 0 [])] (Morphism.mk [] []) (Pattern.mk (Graph.mk [] []) [] 0 []))).bind fun x25=>
 some (G7.mk (Pattern.mk (Graph.mk [3,0] [DS.mk 0 0 1]) [] 0 []) x25,JK.mk (A2.mk (Graph.mk [3,1,1] [DS.mk 0 0 1,DS.mk 0 0 2]) [[],[10],[5]]) (AG.mk (Morphism.mk [0,1] [0]) []) true)
def strconv_Itoa (i:Int):Option ByteArray:=if 0<=i∧i<100 then some (Wi i.toNat) else none
def strings_Join (l:List ByteArray) (s:ByteArray):Option ByteArray:=if l.length<=B9∧(IR l s).size<=B9 then some (IR l s) else none
def I1 [Ev] (t:AD) (h_1:A2) (l:List AN):Option (List ByteArray × Int):=
 (G6 t h_1).bind fun x23=>
 if (!decide (x23.2=0))=true then
 some ([],x23.2)
 else
 thenR (forR (ρ:=(List ByteArray × Int)) (fun (i0:Int) (s0:List ByteArray)=>
 (AL l i0).bind fun x33=>
 if ((decide (x33.Kind<1))||(decide (4<x33.Kind)))=true then
 some (.ret ([],6))
 else
 (forA (fun (i2:Int) (s2:List ByteArray)=>
 (AL x33.Path i2).bind fun x48=>
 (strconv_Itoa x48).bind fun x52=>
 (CX s2 [x52]).bind fun x54=>
 some x54) 0 (x33.Path.length:Int) []).bind fun s2=>
 if (decide (0<(s2.length:Int)))=true then
 (strings_Join s2 (⟨#[46]⟩:ByteArray)).bind fun x60=>
 (AL [(⟨#[116,114,117,101]⟩:ByteArray),(⟨#[102,111,117,110,100]⟩:ByteArray),(⟨#[109,105,115,115,105,110,103]⟩:ByteArray),(⟨#[102,97,105,108,115]⟩:ByteArray)] (A8 (x33.Kind - 1))).bind fun x66=>
 thenR (forR (ρ:=(List ByteArray × Int)) (fun (i4:Int) (s4:List ByteArray)=>
 (AL x33.Nodes i4).bind fun x74=>
 if ((decide (x74<0))||(decide ((h_1.Graph.Nodes.length:Int)<=x74)))=true then
 some (.ret ([],6))
 else
 (strconv_Itoa x74).bind fun x88=>
 (Lb (⟨#[110]⟩:ByteArray) x88).bind fun x89=>
 (Lb x89 (⟨#[58]⟩:ByteArray)).bind fun x90=>
 (AL h_1.Graph.Nodes x74).bind fun x97=>
 (AL t.Nodes x97).bind fun x99=>
 (Lb x90 x99.Name).bind fun x102=>
 (CX s4 [x102]).bind fun x104=>
 some (.next x104)) 0 (x33.Nodes.length:Int) [x60,x66]) (fun s4=>
 (strings_Join s4 (⟨#[32]⟩:ByteArray)).bind fun x108=>
 (CX s0 [x108]).bind fun x110=>
 some (.next x110)) (fun v4=>some (.ret v4))
 else
 (AL [(⟨#[116,114,117,101]⟩:ByteArray),(⟨#[102,111,117,110,100]⟩:ByteArray),(⟨#[109,105,115,115,105,110,103]⟩:ByteArray),(⟨#[102,97,105,108,115]⟩:ByteArray)] (A8 (x33.Kind - 1))).bind fun x66=>
 thenR (forR (ρ:=(List ByteArray × Int)) (fun (i4:Int) (s4:List ByteArray)=>
 (AL x33.Nodes i4).bind fun x74=>
 if ((decide (x74<0))||(decide ((h_1.Graph.Nodes.length:Int)<=x74)))=true then
 some (.ret ([],6))
 else
 (strconv_Itoa x74).bind fun x88=>
 (Lb (⟨#[110]⟩:ByteArray) x88).bind fun x89=>
 (Lb x89 (⟨#[58]⟩:ByteArray)).bind fun x90=>
 (AL h_1.Graph.Nodes x74).bind fun x97=>
 (AL t.Nodes x97).bind fun x99=>
 (Lb x90 x99.Name).bind fun x102=>
 (CX s4 [x102]).bind fun x104=>
 some (.next x104)) 0 (x33.Nodes.length:Int) [(⟨#[45]⟩:ByteArray),x66]) (fun s4=>
 (strings_Join s4 (⟨#[32]⟩:ByteArray)).bind fun x108=>
 (CX s0 [x108]).bind fun x110=>
 some (.next x110)) (fun v4=>some (.ret v4))) 0 (l.length:Int) []) (fun s0=>
 some (s0,0)) (fun v0=>some v0)
def slices_Equal_string (s1_0:List ByteArray) (s2_1:List ByteArray):Option Bool:=
 if (!decide ((s1_0.length:Int)=(s2_1.length:Int)))=true then
 some false
 else
 thenR (forR (ρ:=Bool) (fun (i0:Int) (_:Unit)=>
 (AL s1_0 i0).bind fun x18=>
 (AL s2_1 i0).bind fun x22=>
 if (!(x18==x22))=true then
 some (.ret false)
 else
 some (.next ())) 0 (s1_0.length:Int) ()) (fun _=>
 some true) (fun v0=>some v0)
def FO [Ev] :Option Bool:=
 (Mc).bind fun x10=>
 (Ma).bind fun x12=>
 (C3 x10 x12.1.P x12.1.C x12.2.H x12.2.M true).bind fun x25=>
 (I1 x10 x12.2.H x25.1).bind fun x33=>
 (Hv x10 x12.1.P x12.1.C x12.2.H x12.2.M).bind fun x46=>
 (if (((decide (x25.2=0))&&(decide (x33.2=0)))&&(decide (x46.2=0)))=true then ((slices_Equal_string x33.1 [(⟨#[48,32,102,111,117,110,100,32,110,48,58,80,101,114,115,111,110,32,110,49,58,67,97,115,104,32,110,50,58,67,97,115,104]⟩:ByteArray)]).bind fun x62=>
 some (x62)) else some false).bind fun x63=>
 (if x63=true then ((slices_Equal_int x46.1 [1]).bind fun x67=>
 some (x67)) else some false).bind fun x68=>
 (if x68=true then ((IG x10 x12.1.P x12.1.C x12.2.H x12.2.M true x25.1).bind fun x80=>
 some (x80)) else some false).bind fun x81=>
 some x81
def K7 [Ev] (t:AD):Option Bool:=
 if ((decide (20<(t.Nodes.length:Int)))||(decide (30<(t.Edges.length:Int))))=true then
 some false
 else
 thenR (forR (ρ:=Bool) (fun (i0:Int) (s0:Int)=>
 (AL t.Nodes i0).bind fun x30=>
 (if (decide (30<(A8 (s0+(x30.Attrs.length:Int)))))=true then some true else ((AL t.Nodes i0).bind fun x41=>
 some (decide (40<(x41.Name.size:Int))))).bind fun x46=>
 if x46=true then
 some (.ret false)
 else
 thenR (JB (ρ:=Bool) (fun (s2:Int)=>
 (AL t.Nodes i0).bind fun x51=>
 if (decide (s2<(x51.Attrs.length:Int)))=true then
 (AL t.Nodes i0).bind fun x61=>
 (AL x61.Attrs s2).bind fun x65=>
 if ((decide (40<(x65.Name.size:Int)))||(decide (25<(x65.Names.length:Int))))=true then
 some (.ret false)
 else
 thenR (JB (ρ:=Bool) (fun (s4:Int)=>
 if (decide (s4<(x65.Names.length:Int)))=true then
 (AL x65.Names s4).bind fun x87=>
 if (decide (40<(x87.size:Int)))=true then
 some (.ret false)
 else
 some (.next (A8 (s4+1)))
 else
 some (.brk s4)) 0) (fun s4=>
 some (.next (A8 (s2+1)))) (fun v4=>some (.ret v4))
 else
 some (.brk s2)) 0) (fun s2=>
 some (.next (A8 (s0+(x30.Attrs.length:Int))))) (fun v2=>some (.ret v2))) 0 (t.Nodes.length:Int) 0) (fun s0=>
 thenR (forR (ρ:=Bool) (fun (i6:Int) (_:Unit)=>
 (AL t.Edges i6).bind fun x101=>
 if (decide (40<(x101.Name.size:Int)))=true then
 some (.ret false)
 else
 some (.next ())) 0 (t.Edges.length:Int) ()) (fun _=>
 some true) (fun v6=>some v6)) (fun v0=>some v0)
def JA (g:Graph):Option Bool:=
 some ((decide ((g.Nodes.length:Int)<=45))&&(decide ((g.Edges.length:Int)<=90)))
def K9 (p:Pattern):Option Bool:=
 (JA p.Graph).bind fun x5=>
 some ((x5&&(decide ((p.Slots.length:Int)<=15)))&&(decide ((p.Tests.length:Int)<=15)))
def Nr (m:Morphism) (n:Int):Option Bool:=
 some (decide ((A8 ((m.Nodes.length:Int)+(m.Edges.length:Int)))<=n))
def FQ [Ev]:Nat->AA->Int->Option Int
 | 0,_,_=>none
 | n+1,c,most=>
  (K9 c.Pattern).bind fun x10=>
  (if (!x10)=true then some true else ((Nr c.Map 140).bind fun x15=>
  some (!x15))).bind fun x17=>
  if x17=true then
  some (-1)
  else
  thenR (JB (ρ:=Int) (fun (s0:Int × Int)=>
  if ((decide (s0.2<(c.Kids.length:Int)))&&(decide (0<=s0.1)))=true then
  (AL c.Kids s0.2).bind fun x32=>
  (FQ n x32 s0.1).bind fun x35=>
  some (.next (x35,A8 (s0.2+1)))
  else
  some (.brk (s0.1,s0.2))) (A8 (most - 1),0)) (fun s0=>
  some s0.1) (fun v0=>some v0)
def Oo [Ev] (c:AA) (most:Int):Option Int:=Hn fun n=>FQ n c most
def MP [Ev] (c:AA):Option Bool:=
 (Oo c 40).bind fun x4=>
 some (decide (0<=x4))
def K8 (h_0:A2):Option Bool:=
 (JA h_0.Graph).bind fun x6=>
 if ((!x6)||(decide (45<(h_0.Values.length:Int))))=true then
 some false
 else
 thenR (forR (ρ:=Bool) (fun (i0:Int) (_:Unit)=>
 (AL h_0.Values i0).bind fun x24=>
 if (decide (12<(x24.length:Int)))=true then
 some (.ret false)
 else
 some (.next ())) 0 (h_0.Values.length:Int) ()) (fun _=>
 some true) (fun v0=>some v0)
def KG (n:Int):Option Bool:=
 some ((decide (0<=n))&&(decide (n<=99)))
def MG (e:DS) (nodes:Int):Option Bool:=
 (KG e.Type').bind fun x7=>
 some ((((x7&&(decide (0<=e.From)))&&(decide (e.From<nodes)))&&(decide (0<=e.To)))&&(decide (e.To<nodes)))
def G9 (g:Graph):Option Int:=
 if ((decide (40<(g.Nodes.length:Int)))||(decide (80<(g.Edges.length:Int))))=true then
 some 3
 else
 thenR (forR (ρ:=Int) (fun (i0:Int) (_:Unit)=>
 (AL g.Nodes i0).bind fun x25=>
 (KG x25).bind fun x27=>
 if (!x27)=true then
 some (.ret 6)
 else
 some (.next ())) 0 (g.Nodes.length:Int) ()) (fun _=>
 thenR (forR (ρ:=Int) (fun (i2:Int) (_:Unit)=>
 (AL g.Edges i2).bind fun x39=>
 (MG x39 (g.Nodes.length:Int)).bind fun x44=>
 if (!x44)=true then
 some (.ret 6)
 else
 some (.next ())) 0 (g.Edges.length:Int) ()) (fun _=>
 some 0) (fun v2=>some v2)) (fun v0=>some v0)
def Mr (t:FT):Option ByteArray:=
 if (decide (t.Kind=3))=true then
 (Lb (⟨#[34]⟩:ByteArray) t.Text).bind fun x8=>
 (Lb x8 (⟨#[34]⟩:ByteArray)).bind fun x9=>
 some x9
 else
 some t.Text
def J4 (c:Int):Option Bool:=
 some (((decide (97<=c))&&(decide (c<=122)))||((decide (65<=c))&&(decide (c<=90))))
def Ii (c:Int):Option Bool:=
 some ((decide (48<=c))&&(decide (c<=57)))
def MN [Ev] (s_0:ByteArray) (AB:Int) (digits:Bool):Option Int:=
 thenR (JB (ρ:=Int) (fun (s0:Int)=>
 (if (decide ((A8 (AB+s0))<(s_0.size:Int)))=true then ((sidx s_0 (A8 (AB+s0))).bind fun x19=>
 (Ii x19).bind fun x20=>
 (if x20=true then some true else ((if (!digits)=true then ((sidx s_0 (A8 (AB+s0))).bind fun x29=>
 (J4 x29).bind fun x30=>
 (if x30=true then some true else ((sidx s_0 (A8 (AB+s0))).bind fun x36=>
 some (decide (x36=95)))).bind fun x38=>
 some (x38)) else some false).bind fun x39=>
 some (x39))).bind fun x40=>
 some (x40)) else some false).bind fun x41=>
 if x41=true then
 some (.next (A8 (s0+1)))
 else
 some (.brk s0)) 0) (fun s0=>
 some s0) (fun v0=>some v0)
def J5 [Ev] (s_0:ByteArray) (AB:Int):Option Int:=
 thenR (JB (ρ:=Int) (fun (s0:Int)=>
 if (decide ((A8 (AB+s0))<(s_0.size:Int)))=true then
 (sidx s_0 (A8 (AB+s0))).bind fun x19=>
 if (decide (x19=34))=true then
 some (.ret (A8 (s0+1)))
 else
 if ((decide (x19<32))||(decide (126<x19)))=true then
 some (.ret 0)
 else
 some (.next (A8 (s0+1)))
 else
 some (.brk s0)) 1) (fun s0=>
 some 0) (fun v0=>some v0)
def ME :Option (List ByteArray):=
 some [(⟨#[45,62]⟩:ByteArray),(⟨#[60,61]⟩:ByteArray),(⟨#[62,61]⟩:ByteArray),(⟨#[61,61]⟩:ByteArray),(⟨#[33,61]⟩:ByteArray),(⟨#[123]⟩:ByteArray),(⟨#[125]⟩:ByteArray),(⟨#[40]⟩:ByteArray),(⟨#[41]⟩:ByteArray),(⟨#[91]⟩:ByteArray),(⟨#[93]⟩:ByteArray),(⟨#[44]⟩:ByteArray),(⟨#[59]⟩:ByteArray),(⟨#[58]⟩:ByteArray),(⟨#[61]⟩:ByteArray),(⟨#[43]⟩:ByteArray),(⟨#[45]⟩:ByteArray),(⟨#[42]⟩:ByteArray),(⟨#[60]⟩:ByteArray),(⟨#[62]⟩:ByteArray),(⟨#[33]⟩:ByteArray),(⟨#[38]⟩:ByteArray),(⟨#[124]⟩:ByteArray),(⟨#[46]⟩:ByteArray),(⟨#[63]⟩:ByteArray)]
def MM [Ev] (s_0:ByteArray) (AB:Int):Option (FT × Int × Int):=
 (sidx s_0 AB).bind fun x16=>
 (J4 x16).bind fun x18=>
 (if x18=true then some true else ((Ii x16).bind fun x21=>
 some (x21))).bind fun x22=>
 if x22=true then
 (Ii x16).bind fun x26=>
 (MN s_0 AB x26).bind fun x27=>
 (Ii x16).bind fun x29=>
 (if x29=true then
 some (2,9)
 else
 some (1,20)).bind fun w1=>
 if (decide (w1.2<x27))=true then
 some (FT.mk 0 (⟨#[]⟩:ByteArray) 0,0,3)
 else
 (sslc s_0 AB (A8 (AB+x27))).bind fun x40=>
 some (FT.mk w1.1 x40 0,x27,0)
 else
 if (decide (x16=34))=true then
 (J5 s_0 AB).bind fun x47=>
 if (decide (x47=0))=true then
 some (FT.mk 0 (⟨#[]⟩:ByteArray) 0,0,2)
 else
 if (decide (60<(A8 (x47 - 2))))=true then
 some (FT.mk 0 (⟨#[]⟩:ByteArray) 0,0,3)
 else
 (sslc s_0 (A8 (AB+1)) (A8 ((A8 (AB+x47)) - 1))).bind fun x62=>
 some (FT.mk 3 x62 0,x47,0)
 else
 (ME).bind fun x65=>
 thenR (forR (ρ:=(FT × Int × Int)) (fun (i0:Int) (s0:FT)=>
 (AL x65 i0).bind fun x75=>
 (if (decide ((A8 (AB+(x75.size:Int)))<=(s_0.size:Int)))=true then ((AL x65 i0).bind fun x88=>
 (sslc s_0 AB (A8 (AB+(x88.size:Int)))).bind fun x92=>
 (AL x65 i0).bind fun x95=>
 some (x92==x95)) else some false).bind fun x98=>
 if x98=true then
 (AL x65 i0).bind fun x101=>
 (AL x65 i0).bind fun x106=>
 some (.ret (FT.mk 4 x101 0,(x106.size:Int),0))
 else
 some (.next s0)) 0 (x65.length:Int) (FT.mk 0 (⟨#[]⟩:ByteArray) 0)) (fun s0=>
 some (FT.mk 0 (⟨#[]⟩:ByteArray) 0,0,2)) (fun v0=>some v0)
def MD [Ev] (t:FT):Option Bool:=
 (Mr t).bind fun x8=>
 if (x8==(⟨#[]⟩:ByteArray))=true then
 some false
 else
 (MM x8 0).bind fun x13=>
 some (((decide (x13.2.2=0))&&(decide (x13.2.1=(x8.size:Int))))&&(decide (x13.1.Kind=t.Kind)))
def HN [Ev] (s_0:ByteArray):Option Bool:=
 (MD (FT.mk 1 s_0 0)).bind fun x5=>
 some x5
def E8 (n:Int) (low:Int) (high:Int):Option Bool:=
 some ((decide (low<=n))&&(decide (n<=high)))
def HO [Ev]:Nat->AD->Int->Option (List Attr)
 | 0,_,_=>none
 | n+1,t,a=>
  if (decide (a<0))=true then
  some []
  else
  (AL t.Nodes a).bind fun x12=>
  (HO n t x12.Parent).bind fun x15=>
  (CX [] x15).bind fun x16=>
  (AL t.Nodes a).bind fun x20=>
  (CX x16 x20.Attrs).bind fun x23=>
  some x23
def MF [Ev] (t:AD) (a:Int):Option (List Attr):=Hn fun n=>HO n t a
def Kd [Ev] (l:List ByteArray):Option Int:=
 if (decide (20<(l.length:Int)))=true then
 some 3
 else
 thenR (forR (ρ:=Int) (fun (i0:Int) (_:Unit)=>
 (AL l i0).bind fun x16=>
 (HN x16).bind fun x18=>
 if (!x18)=true then
 some (.ret 2)
 else
 thenR (forR (ρ:=Int) (fun (i2:Int) (_:Unit)=>
 (AL l i2).bind fun x27=>
 (AL l i0).bind fun x31=>
 if (x27==x31)=true then
 some (.ret 5)
 else
 some (.next ())) 0 i0 ()) (fun _=>
 some (.next ())) (fun v2=>some (.ret v2))) 0 (l.length:Int) ()) (fun _=>
 some 0) (fun v0=>some v0)
def IW [Ev] (a:Attr):Option Int:=
 if (decide ((a.Names.length:Int)=0))=true then
 (E8 a.Low (-1000000) 1000000).bind fun x10=>
 (if (!x10)=true then some true else ((E8 a.High a.Low 1000000).bind fun x17=>
 some (!x17))).bind fun x19=>
 if x19=true then
 some 6
 else
 some 0
 else
 (Kd a.Names).bind fun x22=>
 if (!decide (x22=0))=true then
 some x22
 else
 if ((!decide (a.Low=0))||(!decide (a.High=(A8 ((a.Names.length:Int) - 1)))))=true then
 some 6
 else
 some 0
def LX [Ev] (t:AD) (i_1:Int):Option Int:=
 (AL t.Nodes i_1).bind fun x14=>
 (HN x14.Name).bind fun x18=>
 if (!x18)=true then
 some 2
 else
 thenR (forR (ρ:=Int) (fun (i0:Int) (_:Unit)=>
 (AL t.Nodes i0).bind fun x28=>
 if (x28.Name==x14.Name)=true then
 some (.ret 5)
 else
 some (.next ())) 0 i_1 ()) (fun _=>
 (E8 x14.Parent (-1) (A8 (i_1 - 1))).bind fun x38=>
 if (!x38)=true then
 some 6
 else
 (MF t i_1).bind fun x42=>
 if ((decide (4<(x14.Attrs.length:Int)))||(decide (8<(x42.length:Int))))=true then
 some 3
 else
 thenR (forR (ρ:=Int) (fun (i2:Int) (_:Unit)=>
 (AL x42 i2).bind fun x66=>
 (HN x66.Name).bind fun x69=>
 if (!x69)=true then
 some (.ret 2)
 else
 thenR (forR (ρ:=Int) (fun (i4:Int) (_:Unit)=>
 (AL x42 i4).bind fun x78=>
 (AL x42 i2).bind fun x83=>
 if (x78.Name==x83.Name)=true then
 some (.ret 5)
 else
 some (.next ())) 0 i2 ()) (fun _=>
 (AL x42 i2).bind fun x89=>
 (IW x89).bind fun x91=>
 if (!decide (x91=0))=true then
 some (.ret x91)
 else
 some (.next ())) (fun v4=>some (.ret v4))) (A8 ((x42.length:Int) - (x14.Attrs.length:Int))) (x42.length:Int) ()) (fun _=>
 some 0) (fun v2=>some v2)) (fun v0=>some v0)
def Je (low:Int) (high:Int):Option Bool:=
 (E8 low 0 40).bind fun x6=>
 (if x6=true then ((if (decide (high=(-1)))=true then some true else ((E8 high low 40).bind fun x13=>
 some (x13))).bind fun x14=>
 some (x14)) else some false).bind fun x15=>
 some x15
def LV [Ev] (t:AD) (i_1:Int):Option Int:=
 (AL t.Edges i_1).bind fun x11=>
 (HN x11.Name).bind fun x15=>
 if (!x15)=true then
 some 2
 else
 thenR (forR (ρ:=Int) (fun (i0:Int) (_:Unit)=>
 (AL t.Edges i0).bind fun x25=>
 if (x25.Name==x11.Name)=true then
 some (.ret 5)
 else
 some (.next ())) 0 i_1 ()) (fun _=>
 (E8 x11.From 0 (A8 ((t.Nodes.length:Int) - 1))).bind fun x38=>
 (if (!x38)=true then some true else ((E8 x11.To 0 (A8 ((t.Nodes.length:Int) - 1))).bind fun x44=>
 some (!x44))).bind fun x46=>
 (if x46=true then some true else ((Je x11.OutLow x11.OutHigh).bind fun x52=>
 some (!x52))).bind fun x54=>
 (if x54=true then some true else ((Je x11.InLow x11.InHigh).bind fun x60=>
 some (!x60))).bind fun x62=>
 if x62=true then
 some 6
 else
 some 0) (fun v0=>some v0)
def Ij [Ev] (t:AD):Option (ByteArray × Int):=
 if (decide ((t.Nodes.length:Int)=0))=true then
 some ((⟨#[]⟩:ByteArray),7)
 else
 if ((decide (12<(t.Nodes.length:Int)))||(decide (20<(t.Edges.length:Int))))=true then
 some ((⟨#[]⟩:ByteArray),3)
 else
 thenR (forR (ρ:=(ByteArray × Int)) (fun (i0:Int) (_:Unit)=>
 (LX t i0).bind fun x31=>
 if (!decide (x31=0))=true then
 (AL t.Nodes i0).bind fun x37=>
 some (.ret (x37.Name,x31))
 else
 some (.next ())) 0 (t.Nodes.length:Int) ()) (fun _=>
 thenR (forR (ρ:=(ByteArray × Int)) (fun (i2:Int) (_:Unit)=>
 (LV t i2).bind fun x50=>
 if (!decide (x50=0))=true then
 (AL t.Edges i2).bind fun x56=>
 some (.ret (x56.Name,x50))
 else
 some (.next ())) 0 (t.Edges.length:Int) ()) (fun _=>
 some ((⟨#[]⟩:ByteArray),0)) (fun v2=>some v2)) (fun v0=>some v0)
def Ik (t:AD) (g:Graph):Option Bool:=
 thenR (forR (ρ:=Bool) (fun (i0:Int) (_:Unit)=>
 (AL g.Nodes i0).bind fun x17=>
 (if (decide (x17<0))=true then some true else ((AL g.Nodes i0).bind fun x24=>
 some (decide ((t.Nodes.length:Int)<=x24)))).bind fun x30=>
 if x30=true then
 some (.ret false)
 else
 some (.next ())) 0 (g.Nodes.length:Int) ()) (fun _=>
 thenR (forR (ρ:=Bool) (fun (i2:Int) (_:Unit)=>
 (AL g.Edges i2).bind fun x41=>
 (if (decide (x41.Type'<0))=true then some true else ((AL g.Edges i2).bind fun x49=>
 some (decide ((t.Edges.length:Int)<=x49.Type')))).bind fun x56=>
 if x56=true then
 some (.ret false)
 else
 some (.next ())) 0 (g.Edges.length:Int) ()) (fun _=>
 some true) (fun v2=>some v2)) (fun v0=>some v0)
def Kc [Ev] (t:AD) (a:Int) (b:Int):Option Int:=
 (Ij t).bind fun x11=>
 if (!decide (x11.2=0))=true then
 some x11.2
 else
 (E8 a 0 (A8 ((t.Nodes.length:Int) - 1))).bind fun x22=>
 (if (!x22)=true then some true else ((E8 b 0 (A8 ((t.Nodes.length:Int) - 1))).bind fun x30=>
 some (!x30))).bind fun x32=>
 if x32=true then
 some 6
 else
 some 0
def Kb [Ev] (t:AD) (a:Int):Option (List Attr × Int):=
 (Kc t a a).bind fun x14=>
 if (!decide (x14=0))=true then
 some ([],x14)
 else
 (MF t a).bind fun x20=>
 (forA (fun (i0:Int) (s0:List Attr)=>
 (AL x20 i0).bind fun x29=>
 (CX [] x29.Names).bind fun x34=>
 (CX s0 [Attr.mk x29.Name x29.Low x29.High x34]).bind fun x39=>
 some x39) 0 (x20.length:Int) []).bind fun s0=>
 some (s0,0)
def LY [Ev] (t:AD) (p:Pattern) (node:Int) (index:Int):Option (Attr × Bool):=
 if ((decide (node<0))||(decide ((p.Graph.Nodes.length:Int)<=node)))=true then
 some (Attr.mk (⟨#[]⟩:ByteArray) 0 0 [],false)
 else
 (AL p.Graph.Nodes node).bind fun x29=>
 (Kb t x29).bind fun x31=>
 if (((!decide (x31.2=0))||(decide (index<0)))||(decide ((x31.1.length:Int)<=index)))=true then
 some (Attr.mk (⟨#[]⟩:ByteArray) 0 0 [],false)
 else
 (AL x31.1 index).bind fun x49=>
 some (x49,true)
def Kq (n:Int):Option Bool:=
 some ((decide ((-1000000)<=n))&&(decide (n<=1000000)))
def I4 (n:Int) (t:Term):Option Int:=
 if ((((decide (t.Var<(-1)))||(decide (n<=t.Var)))||(decide (t.Add<(-1000000))))||(decide (1000000<t.Add)))=true then
 some 6
 else
 some 0
def MO (n:Int) (x_1:Test):Option Int:=
 if ((!decide (x_1.Kind=1))&&(!decide (x_1.Kind=2)))=true then
 some 1
 else
 (I4 n x_1.Left).bind fun x17=>
 if (!decide (x17=0))=true then
 some x17
 else
 (I4 n x_1.Right).bind fun x24=>
 some x24
def Ka (n:Int) (l:List Test):Option Int:=
 if ((decide (n<0))||(decide (12<n)))=true then
 some 6
 else
 if (decide (40<(l.length:Int)))=true then
 some 3
 else
 thenR (forR (ρ:=Int) (fun (i0:Int) (_:Unit)=>
 (AL l i0).bind fun x25=>
 (MO n x25).bind fun x27=>
 if (!decide (x27=0))=true then
 some (.ret x27)
 else
 some (.next ())) 0 (l.length:Int) ()) (fun _=>
 some 0) (fun v0=>some v0)
def J6 (p:Pattern) (v_1:Int):Option Bool:=
 thenR (forR (ρ:=Bool) (fun (i0:Int) (_:Unit)=>
 (AL p.Slots i0).bind fun x16=>
 if (decide (x16.Term.Var=v_1))=true then
 some (.ret true)
 else
 some (.next ())) 0 (p.Slots.length:Int) ()) (fun _=>
 some false) (fun v0=>some v0)
def Jg [Ev] (t:AD) (p:Pattern):Option Int:=
 (Ij t).bind fun x16=>
 if (!decide (x16.2=0))=true then
 some x16.2
 else
 (G9 p.Graph).bind fun x24=>
 if (!decide (x24=0))=true then
 some x24
 else
 (Ik t p.Graph).bind fun x31=>
 if (!x31)=true then
 some 13
 else
 if ((decide (p.Vars<0))||(decide (12<p.Vars)))=true then
 some 6
 else
 if ((decide (10<(p.Slots.length:Int)))||(decide (10<(p.Tests.length:Int))))=true then
 some 3
 else
 thenR (forR (ρ:=Int) (fun (i0:Int) (_:Unit)=>
 (AL p.Slots i0).bind fun x61=>
 (LY t p x61.Node x61.Attr).bind fun x70=>
 (if (((!x70.2)||(decide (x61.Term.Var<(-1))))||(decide (p.Vars<=x61.Term.Var)))=true then some true else ((Kq x61.Term.Add).bind fun x93=>
 some (!x93))).bind fun x95=>
 if x95=true then
 some (.ret 6)
 else
 some (.next ())) 0 (p.Slots.length:Int) ()) (fun _=>
 (Ka p.Vars p.Tests).bind fun x100=>
 if (!decide (x100=0))=true then
 some x100
 else
 thenR (forR (ρ:=Int) (fun (i2:Int) (_:Unit)=>
 (J6 p i2).bind fun x112=>
 if (!x112)=true then
 some (.ret 9)
 else
 some (.next ())) 0 p.Vars ()) (fun _=>
 some 0) (fun v2=>some v2)) (fun v0=>some v0)
def H6 (c:AA):Option Bool:=
 some (((decide ((A8 ((A8 ((A8 ((c.Map.Nodes.length:Int)+(c.Map.Edges.length:Int)))+(c.Pattern.Graph.Nodes.length:Int)))+(c.Pattern.Graph.Edges.length:Int)))=0))&&(decide ((A8 ((c.Pattern.Slots.length:Int)+(c.Pattern.Tests.length:Int)))=0)))&&(decide (c.Pattern.Vars=0)))
def Kk (c:AA):Option Bool:=
 if (decide (c.Kind=1))=true then
 (if (decide ((c.Kids.length:Int)=0))=true then ((H6 c).bind fun x13=>
 some (x13)) else some false).bind fun x14=>
 some x14
 else
 if (decide (c.Kind=2))=true then
 (if (decide ((c.Kids.length:Int)=1))=true then ((H6 c).bind fun x23=>
 some (x23)) else some false).bind fun x24=>
 some x24
 else
 (if (decide (c.Kind=3))=true then
 some (decide (c.Kind=3))
 else
 some (decide (c.Kind=4))).bind fun w1=>
 if w1=true then
 (if (decide (0<(c.Kids.length:Int)))=true then ((H6 c).bind fun x34=>
 some (x34)) else some false).bind fun x35=>
 some x35
 else
 if (decide (c.Kind=5))=true then
 some (decide ((c.Kids.length:Int)=1))
 else
 some false
def FI [Ev]:Nat->AA->Option Bool
 | 0,_=>none
 | n+1,c=>
  (Kk c).bind fun x5=>
  if (!x5)=true then
  some false
  else
  thenR (forR (ρ:=Bool) (fun (i0:Int) (_:Unit)=>
  (AL c.Kids i0).bind fun x17=>
  (FI n x17).bind fun x19=>
  if (!x19)=true then
  some (.ret false)
  else
  some (.next ())) 0 (c.Kids.length:Int) ()) (fun _=>
  some true) (fun v0=>some v0)
def L5 [Ev] (c:AA):Option Bool:=Hn fun n=>FI n c
def F9 [Ev]:Nat->AA->Option (Int × Int)
 | 0,_=>none
 | n+1,c=>
  (forA (fun (i0:Int) (s0:Int × Int)=>
  (AL c.Kids i0).bind fun x20=>
  (F9 n x20).bind fun x22=>
  some (A8 (s0.1+x22.1),max s0.2 x22.2)) 0 (c.Kids.length:Int) (1,0)).bind fun s0=>
  (if (decide (c.Kind=5))=true then
  some (A8 (s0.2+1))
  else
  some s0.2).bind fun w1=>
  some (s0.1,w1)
def Me [Ev] (c:AA):Option (Int × Int):=Hn fun n=>F9 n c
def Kh [Ev] (c:AA):Option Int:=
 (L5 c).bind fun x6=>
 if (!x6)=true then
 some 1
 else
 (Me c).bind fun x10=>
 if ((decide (12<x10.1))||(decide (3<x10.2)))=true then
 some 3
 else
 some 0
def LZ (p:Pattern) (v_1:Int):Option Bool:=
 thenR (forR (ρ:=Bool) (fun (i0:Int) (_:Unit)=>
 (AL p.Slots i0).bind fun x16=>
 if (decide (x16.Term.Var=v_1))=true then
 some (.ret true)
 else
 some (.next ())) 0 (p.Slots.length:Int) ()) (fun _=>
 some false) (fun v0=>some v0)
def Kj [Ev] (t:AD) (vars:Int) (q:Pattern):Option Int:=
 if (decide (q.Vars<vars))=true then
 some 20
 else
 (Jg t q).bind fun x15=>
 if (!decide (x15=9))=true then
 some x15
 else
 thenR (forR (ρ:=Int) (fun (i0:Int) (_:Unit)=>
 (LZ q i0).bind fun x28=>
 if (!x28)=true then
 some (.ret x15)
 else
 some (.next ())) vars q.Vars ()) (fun _=>
 some 0) (fun v0=>some v0)
def Jf (a:Graph) (b:Graph) (m:Morphism):Option Int:=
 (G9 a).bind fun x14=>
 if (!decide (x14=0))=true then
 some x14
 else
 (G9 b).bind fun x19=>
 if (!decide (x19=0))=true then
 some x19
 else
 if ((!decide ((m.Nodes.length:Int)=(a.Nodes.length:Int)))||(!decide ((m.Edges.length:Int)=(a.Edges.length:Int))))=true then
 some 20
 else
 thenR (forR (ρ:=Int) (fun (i0:Int) (_:Unit)=>
 (AL m.Nodes i0).bind fun x49=>
 (if (decide (x49<0))=true then some true else ((AL m.Nodes i0).bind fun x56=>
 some (decide ((b.Nodes.length:Int)<=x56)))).bind fun x62=>
 if x62=true then
 some (.ret 6)
 else
 (AL m.Nodes i0).bind fun x68=>
 (AL b.Nodes x68).bind fun x70=>
 (AL a.Nodes i0).bind fun x75=>
 if (!decide (x70=x75))=true then
 some (.ret 13)
 else
 some (.next ())) 0 (a.Nodes.length:Int) ()) (fun _=>
 thenR (forR (ρ:=Int) (fun (i2:Int) (_:Unit)=>
 (AL m.Edges i2).bind fun x88=>
 (if (decide (x88<0))=true then some true else ((AL m.Edges i2).bind fun x95=>
 some (decide ((b.Edges.length:Int)<=x95)))).bind fun x101=>
 if x101=true then
 some (.ret 6)
 else
 (AL a.Edges i2).bind fun x105=>
 (AL m.Edges i2).bind fun x112=>
 (AL b.Edges x112).bind fun x114=>
 if (!decide (x105.Type'=x114.Type'))=true then
 some (.ret 13)
 else
 (AL m.Nodes x105.From).bind fun x125=>
 (if (!decide (x125=x114.From))=true then some true else ((AL m.Nodes x105.To).bind fun x135=>
 some (!decide (x135=x114.To)))).bind fun x140=>
 if x140=true then
 some (.ret 11)
 else
 some (.next ())) 0 (a.Edges.length:Int) ()) (fun _=>
 some 0) (fun v2=>some v2)) (fun v0=>some v0)
def H0 (l:List Int):Option Bool:=
 thenR (forR (ρ:=Bool) (fun (i0:Int) (_:Unit)=>
 thenR (forR (ρ:=Bool) (fun (i2:Int) (_:Unit)=>
 (AL l i0).bind fun x18=>
 (AL l i2).bind fun x22=>
 if (decide (x18=x22))=true then
 some (.ret false)
 else
 some (.next ())) 0 i0 ()) (fun _=>
 some (.next ())) (fun v2=>some (.ret v2))) 0 (l.length:Int) ()) (fun _=>
 some true) (fun v0=>some v0)
def IX (a:Graph) (b:Graph) (m:Morphism):Option Bool:=
 (Jf a b m).bind fun x10=>
 (if (decide (x10=0))=true then ((H0 m.Nodes).bind fun x15=>
 some (x15)) else some false).bind fun x16=>
 (if x16=true then ((H0 m.Edges).bind fun x20=>
 some (x20)) else some false).bind fun x21=>
 some x21
def GE [Ev]:Nat->AD->Pattern->AA->Option Int
 | 0,_,_,_=>none
 | n+1,t,p,c=>
  if (decide (c.Kind=5))=true then
  (Kj t p.Vars c.Pattern).bind fun x21=>
  if (!decide (x21=0))=true then
  some x21
  else
  (Jf p.Graph c.Pattern.Graph c.Map).bind fun x32=>
  if (!decide (x32=0))=true then
  some x32
  else
  (IX p.Graph c.Pattern.Graph c.Map).bind fun x43=>
  if (!x43)=true then
  some 1
  else
  thenR (forR (ρ:=Int) (fun (i0:Int) (_:Unit)=>
  (AL c.Kids i0).bind fun x59=>
  (GE n t c.Pattern x59).bind fun x61=>
  if (!decide (x61=0))=true then
  some (.ret x61)
  else
  some (.next ())) 0 (c.Kids.length:Int) ()) (fun _=>
  some 0) (fun v0=>some v0)
  else
  thenR (forR (ρ:=Int) (fun (i0:Int) (_:Unit)=>
  (AL c.Kids i0).bind fun x59=>
  (GE n t p x59).bind fun x61=>
  if (!decide (x61=0))=true then
  some (.ret x61)
  else
  some (.next ())) 0 (c.Kids.length:Int) ()) (fun _=>
  some 0) (fun v0=>some v0)
def R1 [Ev] (t:AD) (p:Pattern) (c:AA):Option Int:=Hn fun n=>GE n t p c
def Ki [Ev] (t:AD) (p:Pattern) (c:AA):Option Int:=
 (Jg t p).bind fun x11=>
 if (!decide (x11=0))=true then
 some x11
 else
 (Kh c).bind fun x16=>
 if (!decide (x16=0))=true then
 some x16
 else
 (R1 t p c).bind fun x23=>
 some x23
def Kf [Ev] (t:AD) (p:Graph) (g:Graph):Option Int:=
 (Ij t).bind fun x13=>
 if (!decide (x13.2=0))=true then
 some x13.2
 else
 (G9 p).bind fun x20=>
 if (!decide (x20=0))=true then
 some x20
 else
 (G9 g).bind fun x25=>
 if (!decide (x25=0))=true then
 some x25
 else
 (Ik t p).bind fun x31=>
 (if (!x31)=true then some true else ((Ik t g).bind fun x36=>
 some (!x36))).bind fun x38=>
 if x38=true then
 some 13
 else
 some 0
def Ke [Ev] (t:AD) (p:Graph) (g:Graph):Option Bool:=
 (K7 t).bind fun x8=>
 (if x8=true then ((JA p).bind fun x11=>
 some (x11)) else some false).bind fun x12=>
 (if x12=true then ((JA g).bind fun x15=>
 some (x15)) else some false).bind fun x16=>
 (if x16=true then ((Kf t p g).bind fun x21=>
 some ((!decide (x21=0))||(((decide ((A8 ((p.Nodes.length:Int)+(p.Edges.length:Int)))<=6))&&(decide ((g.Nodes.length:Int)<=8)))&&(decide ((g.Edges.length:Int)<=12))))) else some false).bind fun x45=>
 some x45
def Kg [Ev] (t:AD) (p:Pattern) (h_2:A2):Option Bool:=
 (K9 p).bind fun x8=>
 (if x8=true then ((K8 h_2).bind fun x11=>
 some (x11)) else some false).bind fun x12=>
 (if x12=true then ((Ke t p.Graph h_2.Graph).bind fun x19=>
 some (x19)) else some false).bind fun x20=>
 some x20
def GT [Ev]:Nat->AA->Option Bool
 | 0,_=>none
 | n+1,c=>
  thenR (forR (ρ:=Bool) (fun (i0:Int) (_:Unit)=>
  (AL c.Kids i0).bind fun x14=>
  (GT n x14).bind fun x16=>
  if (!x16)=true then
  some (.ret false)
  else
  some (.next ())) 0 (c.Kids.length:Int) ()) (fun _=>
  some (decide ((A8 ((c.Pattern.Graph.Nodes.length:Int)+(c.Pattern.Graph.Edges.length:Int)))<=6))) (fun v0=>some v0)
def NL [Ev] (c:AA):Option Bool:=Hn fun n=>GT n c
def E3 [Ev]:Nat->Pattern->AA->Int->Int->Option Bool
 | 0,_,_,_,_=>none
 | n+1,p,c,nodes,edges=>
  (if (decide (c.Kind=5))=true then
  some c.Pattern
  else
  some p).bind fun w1=>
  thenR (JB (ρ:=Bool) (fun (s0:Int × Int)=>
  if (decide (s0.2<(w1.Graph.Nodes.length:Int)))=true then
  some (.next (A8 (s0.1*nodes),A8 (s0.2+1)))
  else
  some (.brk (s0.1,s0.2))) (1,(p.Graph.Nodes.length:Int))) (fun s0=>
  thenR (JB (ρ:=Bool) (fun (s2:Int × Int)=>
  if (decide (s2.2<(w1.Graph.Edges.length:Int)))=true then
  some (.next (A8 (s2.1*edges),A8 (s2.2+1)))
  else
  some (.brk (s2.1,s2.2))) (s0.1,(p.Graph.Edges.length:Int))) (fun s2=>
  thenR (forR (ρ:=Bool) (fun (i4:Int) (_:Unit)=>
  (AL c.Kids i4).bind fun x61=>
  (E3 n w1 x61 nodes edges).bind fun x65=>
  if (!x65)=true then
  some (.ret false)
  else
  some (.next ())) 0 (c.Kids.length:Int) ()) (fun _=>
  some (decide (s2.1<=5000))) (fun v4=>some v4)) (fun v2=>some v2)) (fun v0=>some v0)
def Md [Ev] (p:Pattern) (c:AA) (nodes:Int) (edges:Int):Option Bool:=Hn fun n=>E3 n p c nodes edges
def FP [Ev] (t:AD) (p:Pattern) (c:AA) (h_3:A2):Option Bool:=
 (MP c).bind fun x10=>
 (if (!x10)=true then some true else ((K9 p).bind fun x14=>
 some (!x14))).bind fun x16=>
 (if x16=true then some true else ((K8 h_3).bind fun x19=>
 some (!x19))).bind fun x21=>
 if x21=true then
 some false
 else
 (Ki t p c).bind fun x25=>
 (if (!decide (x25=0))=true then some true else ((Kg t p h_3).bind fun x31=>
 (if x31=true then ((NL c).bind fun x34=>
 some (x34)) else some false).bind fun x35=>
 (if ((x35&&(decide ((h_3.Graph.Nodes.length:Int)<=6)))&&(decide ((h_3.Graph.Edges.length:Int)<=8)))=true then ((Md p c 14 18).bind fun x53=>
 some (x53)) else some false).bind fun x54=>
 some (x54))).bind fun x55=>
 some x55
def KY [Ev] (t:AD) (x_1:G7) (y:JK):Option Bool:=
 (K7 t).bind fun x8=>
 (if x8=true then ((FP t x_1.P x_1.C y.H).bind fun x17=>
 some (x17)) else some false).bind fun x18=>
 some ((x18&&(decide ((A8 ((y.M.Morphism.Nodes.length:Int)+(y.M.Morphism.Edges.length:Int)))<=150)))&&(decide ((y.M.Vars.length:Int)<=40)))
def Is [Ev] (t:AD) (x_1:G7) (y:JK):Option Bool:=
 (FO).bind fun x14=>
 (if (!x14)=true then some true else ((KY t x_1 y).bind fun x20=>
 some (!x20))).bind fun x22=>
 if x22=true then
 (FO).bind fun x23=>
 some x23
 else
 (CM t x_1.P x_1.C y.H y.M y.Injective).bind fun x36=>
 (C3 t x_1.P x_1.C y.H y.M y.Injective).bind fun x51=>
 if (!decide (x36.2=0))=true then
 some (decide (x51.2=x36.2))
 else
 (some x_1.C).bind fun x60=>
 (some (AA.mk 2 [x60] (Morphism.mk [] []) (Pattern.mk (Graph.mk [] []) [] 0 []))).bind fun x62=>
 (C3 t x_1.P x62 y.H y.M y.Injective).bind fun x74=>
 some ((x36.1==(decide (x51.2=10)))&&((x36.1==(decide (x74.2=0)))||(decide (x74.2=3))))
end
end Go.Sf.Sc
