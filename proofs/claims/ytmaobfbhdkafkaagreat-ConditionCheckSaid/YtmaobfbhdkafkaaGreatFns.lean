/- The functions of the program as Lean functions. -/
import Derived.Test.YtmaobfbhdkafkaaGreatTypes
import Derived.Test.YtmaobfbhdkafkaaGreatSfSort
set_option maxRecDepth 100000
namespace Go.Sf.Sc
open Go Go.Sf
noncomputable def Jy (c:Int):Option Bool:=
 some (((decide (97<=c))&&(decide (c<=122)))||((decide (65<=c))&&(decide (c<=90))))
noncomputable def Hg [Ev] (s_0:ByteArray) (ok:Int->Option Bool):Option Int:=
 thenR (IR (ρ:=Int) (fun (s0:Int)=>
 (if (decide (s0<(s_0.size:Int)))=true then ((sidx s_0 s0).bind fun x14=>
 (ok x14).bind fun x15=>
 some (x15)) else some false).bind fun x16=>
 if x16=true then
 some (.next (A0 (s0+1)))
 else
 some (.brk s0)) 0) (fun s0=>
 some s0) (fun v0=>some v0)
noncomputable def JY (c:Int):Option Bool:=
 some ((decide (48<=c))&&(decide (c<=57)))
noncomputable def LZ (c:Int):Option Bool:=
 (Jy c).bind fun x4=>
 (if x4=true then some true else ((JY c).bind fun x7=>
 some (x7))).bind fun x8=>
 some (x8||(decide (c=95)))
noncomputable def J7 (c:Int):Option Bool:=
 some (((decide (32<=c))&&(decide (c<=126)))&&(!decide (c=34)))
noncomputable def G7 [Ev] (s_0:ByteArray):Option (Int × Int):=
 (sslc s_0 1 s_0.size).bind fun x6=>
 (Hg x6 J7).bind fun x7=>
 (if (decide ((A0 (1+x7))=(s_0.size:Int)))=true then some true else ((sidx s_0 (A0 (1+x7))).bind fun x17=>
 some (!decide (x17=34)))).bind fun x19=>
 if x19=true then
 some (0,2)
 else
 if (decide (60<x7))=true then
 some (0,3)
 else
 some (A0 (x7+2),0)
noncomputable def GL (s_0:List ByteArray) (v_1:ByteArray):Option Int:=
 thenR (forR (ρ:=Int) (fun (i0:Int) (_:Unit)=>
 (AI s_0 i0).bind fun x14=>
 if (v_1==x14)=true then
 some (.ret i0)
 else
 some (.next ())) 0 (s_0.length:Int) ()) (fun _=>
 some (-1)) (fun v0=>some v0)
noncomputable def D4 (s_0:List ByteArray) (v_1:ByteArray):Option Bool:=
 (GL s_0 v_1).bind fun x7=>
 some (decide (0<=x7))
noncomputable def LY (s_0:ByteArray):Option Bool:=
 (if (decide (2<=(s_0.size:Int)))=true then ((sslc s_0 0 2).bind fun x9=>
 (D4 [(⟨#[45,62]⟩:ByteArray),(⟨#[60,61]⟩:ByteArray),(⟨#[62,61]⟩:ByteArray),(⟨#[61,61]⟩:ByteArray),(⟨#[33,61]⟩:ByteArray)] x9).bind fun x10=>
 some (x10)) else some false).bind fun x11=>
 some x11
noncomputable def strings_IndexByte (s:ByteArray) (c:Int):Option Int:=some (Go.Lib.indexByte s.data.toList c.toNat.toUInt8)
noncomputable def IM [Ev] (s_0:ByteArray):Option (Int × Int × Int):=
 (sidx s_0 0).bind fun x11=>
 (Jy x11).bind fun x14=>
 if x14=true then
 (Hg s_0 LZ).bind fun x16=>
 if (decide (20<x16))=true then
 some (0,0,3)
 else
 some (1,x16,0)
 else
 (JY x11).bind fun x22=>
 if x22=true then
 (Hg s_0 JY).bind fun x24=>
 if (decide (9<x24))=true then
 some (0,0,3)
 else
 some (2,x24,0)
 else
 if (decide (x11=34))=true then
 (G7 s_0).bind fun x33=>
 some (3,x33.1,x33.2)
 else
 (LY s_0).bind fun x40=>
 if x40=true then
 some (4,2,0)
 else
 (strings_IndexByte (⟨#[123,125,40,41,91,93,44,59,58,61,43,45,42,60,62,33,38,124,46,63]⟩:ByteArray) x11).bind fun x43=>
 if (decide (0<=x43))=true then
 some (4,1,0)
 else
 some (0,0,2)
noncomputable def IZ [Ev] (t:FK):Option (ByteArray × Bool):=
 (if (decide (t.Kind=3))=true then
 (Ph (⟨#[34]⟩:ByteArray) t.Text).bind fun x14=>
 (Ph x14 (⟨#[34]⟩:ByteArray)).bind fun x15=>
 some x15
 else
 some t.Text).bind fun w1=>
 if (w1==(⟨#[]⟩:ByteArray))=true then
 some ((⟨#[]⟩:ByteArray),false)
 else
 (IM w1).bind fun x20=>
 some (w1,((decide (x20.2.2=0))&&(decide (x20.1=t.Kind)))&&(decide (x20.2.1=(w1.size:Int))))
noncomputable def EK [Ev] (s_0:ByteArray):Option Bool:=
 (IZ (FK.mk 1 s_0 0)).bind fun x8=>
 some x8.2
noncomputable def DS [Ev] (s_0:List CE) (f:CE->Option Bool):Option Int:=
 thenR (forR (ρ:=Int) (fun (i0:Int) (_:Unit)=>
 (AI s_0 i0).bind fun x14=>
 (f x14).bind fun x16=>
 if x16=true then
 some (.ret i0)
 else
 some (.next ())) 0 (s_0.length:Int) ()) (fun _=>
 some (-1)) (fun v0=>some v0)
noncomputable def CM [Ev] (s_0:List CE) (f:CE->Option Bool):Option Bool:=
 (DS s_0 f).bind fun x7=>
 some (decide (0<=x7))
noncomputable def Lb (m:CE) (c0:CE):Option Bool:=
 some (m.Name==c0.Name)
noncomputable def DW [Ev]:Nat->AD->Int->Option (List Attr)
 | 0,_,_=>none
 | n+1,t,a=>
  (AI t.Nodes a).bind fun x10=>
  (if (decide (0<=x10.Parent))=true then
  (DW n t x10.Parent).bind fun x17=>
  some x17
  else
  some []).bind fun w1=>
  (AI t.Nodes a).bind fun x22=>
  (CR w1 x22.Attrs).bind fun x25=>
  some x25
noncomputable def JZ [Ev] (t:AD) (a:Int):Option (List Attr):=Ix fun n=>DW n t a
noncomputable def ED [Ev] (s_0:List Attr) (f:Attr->Option Bool):Option Int:=
 thenR (forR (ρ:=Int) (fun (i0:Int) (_:Unit)=>
 (AI s_0 i0).bind fun x14=>
 (f x14).bind fun x16=>
 if x16=true then
 some (.ret i0)
 else
 some (.next ())) 0 (s_0.length:Int) ()) (fun _=>
 some (-1)) (fun v0=>some v0)
noncomputable def DC [Ev] (s_0:List Attr) (f:Attr->Option Bool):Option Bool:=
 (ED s_0 f).bind fun x7=>
 some (decide (0<=x7))
noncomputable def If (y:Attr) (c0:Attr):Option Bool:=
 some (y.Name==c0.Name)
noncomputable def Hi [Ev] (l:List ByteArray):Option Int:=
 if (decide (20<(l.length:Int)))=true then
 some 3
 else
 thenR (forR (ρ:=Int) (fun (i0:Int) (_:Unit)=>
 (AI l i0).bind fun x13=>
 (EK x13).bind fun x17=>
 if (!x17)=true then
 some (.ret 2)
 else
 (slc l 0 i0).bind fun x22=>
 (D4 x22 x13).bind fun x24=>
 if x24=true then
 some (.ret 5)
 else
 some (.next ())) 0 (l.length:Int) ()) (fun _=>
 some 0) (fun v0=>some v0)
noncomputable def E8 [Ev] (x_0:Attr) (before:List Attr):Option Int:=
 (EK x_0.Name).bind fun x10=>
 if (!x10)=true then
 some 2
 else
 (DC before (fun y0=>If y0 x_0)).bind fun x15=>
 if x15=true then
 some 5
 else
 (Hi x_0.Names).bind fun x18=>
 if (!decide (x18=0))=true then
 some x18
 else
 (if (decide (0<(x_0.Names.length:Int)))=true then
 some ((decide (x_0.Low=0))&&(decide (x_0.High=(A0 ((x_0.Names.length:Int) - 1)))))
 else
 some (((decide ((-1000000)<=x_0.Low))&&(decide (x_0.Low<=x_0.High)))&&(decide (x_0.High<=1000000)))).bind fun w1=>
 if (!w1)=true then
 some 6
 else
 some 0
noncomputable def IQ [Ev] (t:AD) (i_1:Int):Option Int:=
 (AI t.Nodes i_1).bind fun x12=>
 (EK x12.Name).bind fun x17=>
 if (!x17)=true then
 some 2
 else
 (slc t.Nodes 0 i_1).bind fun x23=>
 (CM x23 (fun y0=>Lb y0 x12)).bind fun x25=>
 if x25=true then
 some 5
 else
 if ((decide (x12.Parent<(-1)))||(decide (i_1<=x12.Parent)))=true then
 some 6
 else
 if (decide (4<(x12.Attrs.length:Int)))=true then
 some 3
 else
 (JZ t i_1).bind fun x43=>
 if (decide (8<(x43.length:Int)))=true then
 some 3
 else
 thenR (forR (ρ:=Int) (fun (i1:Int) (_:Unit)=>
 (AI x43 i1).bind fun x61=>
 (slc x43 0 i1).bind fun x65=>
 (E8 x61 x65).bind fun x66=>
 if (!decide (x66=0))=true then
 some (.ret x66)
 else
 some (.next ())) (A0 ((x43.length:Int) - (x12.Attrs.length:Int))) (x43.length:Int) ()) (fun _=>
 some 0) (fun v1=>some v1)
noncomputable def Jz (n:Int) (c0:AD):Option Bool:=
 some ((decide (0<=n))&&(decide (n<(c0.Nodes.length:Int))))
noncomputable def DR [Ev] (s_0:List CQ) (f:CQ->Option Bool):Option Int:=
 thenR (forR (ρ:=Int) (fun (i0:Int) (_:Unit)=>
 (AI s_0 i0).bind fun x14=>
 (f x14).bind fun x16=>
 if x16=true then
 some (.ret i0)
 else
 some (.next ())) 0 (s_0.length:Int) ()) (fun _=>
 some (-1)) (fun v0=>some v0)
noncomputable def CL [Ev] (s_0:List CQ) (f:CQ->Option Bool):Option Bool:=
 (DR s_0 f).bind fun x7=>
 some (decide (0<=x7))
noncomputable def La (y:CQ) (c0:CQ):Option Bool:=
 some (y.Name==c0.Name)
noncomputable def JN (low:Int) (high:Int):Option Bool:=
 some (((decide (0<=low))&&(decide (low<=40)))&&((decide (high=(-1)))||((decide (low<=high))&&(decide (high<=40)))))
noncomputable def IP [Ev] (t:AD) (i_1:Int):Option Int:=
 (AI t.Edges i_1).bind fun x10=>
 (EK x10.Name).bind fun x16=>
 if (!x16)=true then
 some 2
 else
 (slc t.Edges 0 i_1).bind fun x22=>
 (CL x22 (fun y0=>La y0 x10)).bind fun x24=>
 if x24=true then
 some 5
 else
 (Jz x10.From t).bind fun x29=>
 (if (!x29)=true then some true else ((Jz x10.To t).bind fun x35=>
 some (!x35))).bind fun x37=>
 (if x37=true then
 some x37
 else
 (JN x10.OutLow x10.OutHigh).bind fun x42=>
 (if (!x42)=true then some true else ((JN x10.InLow x10.InHigh).bind fun x49=>
 some (!x49))).bind fun x51=>
 some x51).bind fun w1=>
 if w1=true then
 some 6
 else
 some 0
noncomputable def FJ [Ev] (t:AD):Option (ByteArray × Int):=
 if (decide ((t.Nodes.length:Int)=0))=true then
 some ((⟨#[]⟩:ByteArray),7)
 else
 if ((decide (12<(t.Nodes.length:Int)))||(decide (20<(t.Edges.length:Int))))=true then
 some ((⟨#[]⟩:ByteArray),3)
 else
 thenR (forR (ρ:=(ByteArray × Int)) (fun (i1:Int) (_:Unit)=>
 (AI t.Nodes i1).bind fun x32=>
 (IQ t i1).bind fun x36=>
 if (!decide (x36=0))=true then
 some (.ret (x32.Name,x36))
 else
 some (.next ())) 0 (t.Nodes.length:Int) ()) (fun _=>
 thenR (forR (ρ:=(ByteArray × Int)) (fun (i3:Int) (_:Unit)=>
 (AI t.Edges i3).bind fun x49=>
 (IP t i3).bind fun x53=>
 if (!decide (x53=0))=true then
 some (.ret (x49.Name,x53))
 else
 some (.next ())) 0 (t.Edges.length:Int) ()) (fun _=>
 some ((⟨#[]⟩:ByteArray),0)) (fun v3=>some v3)) (fun v1=>some v1)
noncomputable def EQ [Ev] (s_0:List Int) (f:Int->Option Bool):Option Int:=
 thenR (forR (ρ:=Int) (fun (i0:Int) (_:Unit)=>
 (AI s_0 i0).bind fun x14=>
 (f x14).bind fun x16=>
 if x16=true then
 some (.ret i0)
 else
 some (.next ())) 0 (s_0.length:Int) ()) (fun _=>
 some (-1)) (fun v0=>some v0)
noncomputable def BL [Ev] (s_0:List Int) (f:Int->Option Bool):Option Bool:=
 (EQ s_0 f).bind fun x7=>
 some (decide (0<=x7))
noncomputable def EE [Ev] (s_0:List CY) (f:CY->Option Bool):Option Int:=
 thenR (forR (ρ:=Int) (fun (i0:Int) (_:Unit)=>
 (AI s_0 i0).bind fun x14=>
 (f x14).bind fun x16=>
 if x16=true then
 some (.ret i0)
 else
 some (.next ())) 0 (s_0.length:Int) ()) (fun _=>
 some (-1)) (fun v0=>some v0)
noncomputable def BU [Ev] (s_0:List CY) (f:CY->Option Bool):Option Bool:=
 (EE s_0 f).bind fun x7=>
 some (decide (0<=x7))
noncomputable def Hr (n:Int) (most:Int):Option Bool:=
 some ((decide (0<=n))&&(decide (n<=most)))
noncomputable def Kj (t:Int):Option Bool:=
 (Hr t 99).bind fun x4=>
 some (!x4)
noncomputable def LJ (e:CY) (nodes:Int):Option Bool:=
 (Hr e.Type' 99).bind fun x7=>
 (if x7=true then ((Hr e.From (A0 (nodes - 1))).bind fun x13=>
 some (x13)) else some false).bind fun x14=>
 (if x14=true then ((Hr e.To (A0 (nodes - 1))).bind fun x20=>
 some (x20)) else some false).bind fun x21=>
 some x21
noncomputable def Kk (e:CY) (c0:Graph):Option Bool:=
 (LJ e (c0.Nodes.length:Int)).bind fun x8=>
 some (!x8)
noncomputable def D3 [Ev] (g:Graph):Option Int:=
 if ((decide (40<(g.Nodes.length:Int)))||(decide (80<(g.Edges.length:Int))))=true then
 some 3
 else
 (BL g.Nodes Kj).bind fun x15=>
 if x15=true then
 some 6
 else
 (BU g.Edges (fun y0=>Kk y0 g)).bind fun x19=>
 if x19=true then
 some 6
 else
 some 0
noncomputable def HK (n:Int) (c0:AD):Option Bool:=
 some (decide ((c0.Nodes.length:Int)<=n))
noncomputable def HL (x_0:CY) (c0:AD):Option Bool:=
 some (decide ((c0.Edges.length:Int)<=x_0.Type'))
noncomputable def C9 (n:Int) (low:Int) (high:Int):Option Bool:=
 some ((decide (low<=n))&&(decide (n<=high)))
noncomputable def Ko (a:Int) (c0:AD):Option Bool:=
 some ((decide (a<0))||(decide ((c0.Nodes.length:Int)<=a)))
noncomputable def F3 [Ev] (t:AD) (l:List Int):Option Int:=
 (FJ t).bind fun x9=>
 if (!decide (x9.2=0))=true then
 some x9.2
 else
 (BL l (fun y0=>Ko y0 t)).bind fun x17=>
 if x17=true then
 some 6
 else
 some 0
noncomputable def slices_Clone_string (s_0:List ByteArray):Option (List ByteArray):=
 CR [] s_0
noncomputable def Gz [Ev] (t:AD) (a:Int):Option (List Attr × Int):=
 (F3 t [a]).bind fun x12=>
 if (!decide (x12=0))=true then
 some ([],x12)
 else
 (JZ t a).bind fun x18=>
 (forA (fun (i0:Int) (s0:List Attr)=>
 (AI s0 i0).bind fun x28=>
 (slices_Clone_string x28.Names).bind fun x31=>
 (AI s0 i0).bind fun x32=>
 some (CU s0 i0 (Attr.mk x32.Name x32.Low x32.High x31))) 0 (x18.length:Int) x18).bind fun s0=>
 some (s0,0)
noncomputable def FV [Ev] (t:AD) (p:Pattern) (s_2:DO):Option (Attr × Bool):=
 (C9 s_2.Node 0 (A0 ((p.Graph.Nodes.length:Int) - 1))).bind fun x17=>
 if (!x17)=true then
 some (Attr.mk (⟨#[]⟩:ByteArray) 0 0 [],false)
 else
 (AI p.Graph.Nodes s_2.Node).bind fun x27=>
 (Gz t x27).bind fun x29=>
 (C9 s_2.Attr 0 (A0 ((x29.1.length:Int) - 1))).bind fun x37=>
 if (!x37)=true then
 some (Attr.mk (⟨#[]⟩:ByteArray) 0 0 [],false)
 else
 (AI x29.1 s_2.Attr).bind fun x43=>
 some (x43,true)
noncomputable def IG (n:Int) (t:Term):Option Bool:=
 some ((((decide ((-1)<=t.Var))&&(decide (t.Var<n)))&&(decide ((-1000000)<=t.Add)))&&(decide (t.Add<=1000000)))
noncomputable def Ik (n:Int) (x_1:Test):Option Int:=
 if ((!decide (x_1.Kind=1))&&(!decide (x_1.Kind=2)))=true then
 some 1
 else
 (IG n x_1.Left).bind fun x18=>
 (if (!x18)=true then some true else ((IG n x_1.Right).bind fun x24=>
 some (!x24))).bind fun x26=>
 if x26=true then
 some 6
 else
 some 0
noncomputable def Hq (n:Int) (l:List Test):Option Int:=
 if ((decide (n<0))||(decide (12<n)))=true then
 some 6
 else
 if (decide (40<(l.length:Int)))=true then
 some 3
 else
 thenR (forR (ρ:=Int) (fun (i0:Int) (_:Unit)=>
 (AI l i0).bind fun x21=>
 (Ik n x21).bind fun x25=>
 if (!decide (x25=0))=true then
 some (.ret x25)
 else
 some (.next ())) 0 (l.length:Int) ()) (fun _=>
 some 0) (fun v0=>some v0)
noncomputable def Ie (s_0:List Bool) (v_1:Bool):Option Int:=
 thenR (forR (ρ:=Int) (fun (i0:Int) (_:Unit)=>
 (AI s_0 i0).bind fun x14=>
 if (v_1==x14)=true then
 some (.ret i0)
 else
 some (.next ())) 0 (s_0.length:Int) ()) (fun _=>
 some (-1)) (fun v0=>some v0)
noncomputable def GD (s_0:List Bool) (v_1:Bool):Option Bool:=
 (Ie s_0 v_1).bind fun x7=>
 some (decide (0<=x7))
noncomputable def DX [Ev] (t:AD) (p:Pattern):Option Int:=
 (FJ t).bind fun x16=>
 if (!decide (x16.2=0))=true then
 some x16.2
 else
 (D3 p.Graph).bind fun x24=>
 if (!decide (x24=0))=true then
 some x24
 else
 (BL p.Graph.Nodes (fun y0=>HK y0 t)).bind fun x32=>
 (if x32=true then some true else ((BU p.Graph.Edges (fun y0=>HL y0 t)).bind fun x38=>
 some (x38))).bind fun x39=>
 if x39=true then
 some 13
 else
 (C9 p.Vars 0 12).bind fun x42=>
 if (!x42)=true then
 some 6
 else
 if ((decide (10<(p.Slots.length:Int)))||(decide (10<(p.Tests.length:Int))))=true then
 some 3
 else
 (KP p.Vars false).bind fun x56=>
 thenR (forR (ρ:=Int) (fun (i0:Int) (s0:List Bool)=>
 (AI p.Slots i0).bind fun x62=>
 (FV t p x62).bind fun x68=>
 (if (!x68.2)=true then some true else ((C9 x62.Term.Var (-1) (A0 (p.Vars - 1))).bind fun x80=>
 some (!x80))).bind fun x82=>
 (if x82=true then some true else ((C9 x62.Term.Add (-1000000) 1000000).bind fun x87=>
 some (!x87))).bind fun x89=>
 if x89=true then
 some (.ret 6)
 else
 if (decide (0<=x62.Term.Var))=true then
 (AI s0 x62.Term.Var).bind fun x98=>
 some (.next (CU s0 x62.Term.Var true))
 else
 some (.next s0)) 0 (p.Slots.length:Int) x56) (fun s0=>
 (Hq p.Vars p.Tests).bind fun x104=>
 if (!decide (x104=0))=true then
 some x104
 else
 (GD s0 false).bind fun x109=>
 if x109=true then
 some 9
 else
 some 0) (fun v0=>some v0)
noncomputable def FW (c:AB):Option Bool:=
 some ((decide ((A0 ((A0 ((A0 ((A0 ((A0 ((c.Map.Nodes.length:Int)+(c.Map.Edges.length:Int)))+(c.Pattern.Graph.Nodes.length:Int)))+(c.Pattern.Graph.Edges.length:Int)))+(c.Pattern.Slots.length:Int)))+(c.Pattern.Tests.length:Int)))=0))&&(decide (c.Pattern.Vars=0)))
noncomputable def DL [Ev] (s_0:List AB) (f:AB->Option Bool):Option Int:=
 thenR (forR (ρ:=Int) (fun (i0:Int) (_:Unit)=>
 (AI s_0 i0).bind fun x14=>
 (f x14).bind fun x16=>
 if x16=true then
 some (.ret i0)
 else
 some (.next ())) 0 (s_0.length:Int) ()) (fun _=>
 some (-1)) (fun v0=>some v0)
noncomputable def B1 [Ev] (s_0:List AB) (f:AB->Option Bool):Option Bool:=
 (DL s_0 f).bind fun x7=>
 some (decide (0<=x7))
mutual
noncomputable def BN [Ev]:Nat->AB->Option Bool
 | 0,_=>none
 | n+1,c=>
  (if (decide (c.Kind=1))=true then
  (if (decide ((c.Kids.length:Int)=0))=true then ((FW c).bind fun x16=>
  some (x16)) else some false).bind fun x17=>
  some x17
  else
  if (decide (c.Kind=2))=true then
  (if (decide ((c.Kids.length:Int)=1))=true then ((FW c).bind fun x24=>
  some (x24)) else some false).bind fun x25=>
  some x25
  else
  if (decide (c.Kind=3))=true then
  if (decide (c.Kind=3))=true then
  (if (decide (1<=(c.Kids.length:Int)))=true then ((FW c).bind fun x33=>
  some (x33)) else some false).bind fun x34=>
  some x34
  else
  if (decide (c.Kind=5))=true then
  some (decide ((c.Kids.length:Int)=1))
  else
  some false
  else
  if (decide (c.Kind=4))=true then
  (if (decide (1<=(c.Kids.length:Int)))=true then ((FW c).bind fun x33=>
  some (x33)) else some false).bind fun x34=>
  some x34
  else
  if (decide (c.Kind=5))=true then
  some (decide ((c.Kids.length:Int)=1))
  else
  some false).bind fun w1=>
  (if w1=true then ((B1 c.Kids (BS n)).bind fun x43=>
  some (!x43)) else some false).bind fun x45=>
  some x45
noncomputable def BS [Ev]:Nat->AB->Option Bool
 | 0,_=>none
 | n+1,k=>
  (BN n k).bind fun x4=>
  some (!x4)
end
noncomputable def F7 [Ev] (c:AB):Option Bool:=Ix fun n=>BN n c
noncomputable def NW [Ev] (k:AB):Option Bool:=Ix fun n=>BS n k
noncomputable def CS [Ev]:Nat->AB->Option (Int × Int)
 | 0,_=>none
 | n+1,c=>
  (forA (fun (i0:Int) (s0:Int × Int)=>
  (AI c.Kids i0).bind fun x15=>
  (CS n x15).bind fun x19=>
  some (A0 (s0.1+x19.1),max s0.2 x19.2)) 0 (c.Kids.length:Int) (1,0)).bind fun s0=>
  (if (decide (c.Kind=5))=true then
  some (A0 (s0.2+1))
  else
  some s0.2).bind fun w1=>
  some (s0.1,w1)
noncomputable def HN [Ev] (c:AB):Option (Int × Int):=Ix fun n=>CS n c
noncomputable def E3 [Ev] (c:AB):Option Int:=
 (F7 c).bind fun x6=>
 if (!x6)=true then
 some 1
 else
 (HN c).bind fun x10=>
 if ((decide (12<x10.1))||(decide (3<x10.2)))=true then
 some 3
 else
 some 0
noncomputable def EF [Ev] (s_0:List DO) (f:DO->Option Bool):Option Int:=
 thenR (forR (ρ:=Int) (fun (i0:Int) (_:Unit)=>
 (AI s_0 i0).bind fun x14=>
 (f x14).bind fun x16=>
 if x16=true then
 some (.ret i0)
 else
 some (.next ())) 0 (s_0.length:Int) ()) (fun _=>
 some (-1)) (fun v0=>some v0)
noncomputable def DD [Ev] (s_0:List DO) (f:DO->Option Bool):Option Bool:=
 (EF s_0 f).bind fun x7=>
 some (decide (0<=x7))
noncomputable def H1 (s_0:DO) (c0:Int):Option Bool:=
 some (decide (s_0.Term.Var=c0))
noncomputable def D6 [Ev] (t:AD) (q:Pattern) (outer:Int):Option Int:=
 (DX t q).bind fun x11=>
 if (!decide (x11=9))=true then
 some x11
 else
 thenR (IR (ρ:=Int) (fun (s0:Int)=>
 if (decide (s0<q.Vars))=true then
 (DD q.Slots (fun y0=>H1 y0 s0)).bind fun x25=>
 if (!x25)=true then
 some (.ret x11)
 else
 some (.next (A0 (s0+1)))
 else
 some (.brk s0)) outer) (fun s0=>
 some 0) (fun v0=>some v0)
noncomputable def EL [Ev] (a:Graph) (b:Graph) (m:Morphism):Option Int:=
 (D3 a).bind fun x16=>
 if (!decide (x16=0))=true then
 some x16
 else
 (D3 b).bind fun x21=>
 if (!decide (x21=0))=true then
 some x21
 else
 if ((!decide ((m.Nodes.length:Int)=(a.Nodes.length:Int)))||(!decide ((m.Edges.length:Int)=(a.Edges.length:Int))))=true then
 some 20
 else
 thenR (forR (ρ:=Int) (fun (i0:Int) (_:Unit)=>
 (AI m.Nodes i0).bind fun x47=>
 if ((decide (x47<0))||(decide ((b.Nodes.length:Int)<=x47)))=true then
 some (.ret 6)
 else
 (AI b.Nodes x47).bind fun x61=>
 (AI a.Nodes i0).bind fun x66=>
 if (!decide (x61=x66))=true then
 some (.ret 13)
 else
 some (.next ())) 0 (m.Nodes.length:Int) ()) (fun _=>
 thenR (forR (ρ:=Int) (fun (i2:Int) (_:Unit)=>
 (AI m.Edges i2).bind fun x76=>
 if ((decide (x76<0))||(decide ((b.Edges.length:Int)<=x76)))=true then
 some (.ret 6)
 else
 (AI a.Edges i2).bind fun x90=>
 (AI b.Edges x76).bind fun x95=>
 if (!decide (x90.Type'=x95.Type'))=true then
 some (.ret 13)
 else
 (AI m.Nodes x90.From).bind fun x106=>
 (if (!decide (x106=x95.From))=true then some true else ((AI m.Nodes x90.To).bind fun x116=>
 some (!decide (x116=x95.To)))).bind fun x121=>
 if x121=true then
 some (.ret 11)
 else
 some (.next ())) 0 (m.Edges.length:Int) ()) (fun _=>
 some 0) (fun v2=>some v2)) (fun v0=>some v0)
noncomputable def slices_Clone_int (s_0:List Int):Option (List Int):=
 CR [] s_0
noncomputable def slices_Sort_int (l:List Int):Option (List Int):=if l.length<=B0 then some (NK l) else none
noncomputable def slices_Compact_int (l:List Int):Option (List Int):=if l.length<=B0 then some (Go.Lib.compact l) else none
noncomputable def HC (l:List Int):Option Int:=
 (slices_Clone_int l).bind fun x5=>
 (slices_Sort_int x5).bind fun x7=>
 (slices_Compact_int x7).bind fun x9=>
 some (x9.length:Int)
noncomputable def D0 [Ev] (a:Graph) (b:Graph) (m:Morphism):Option Bool:=
 (EL a b m).bind fun x10=>
 (if (decide (x10=0))=true then ((HC m.Nodes).bind fun x15=>
 some (decide (x15=(m.Nodes.length:Int)))) else some false).bind fun x20=>
 (if x20=true then ((HC m.Edges).bind fun x24=>
 some (decide (x24=(m.Edges.length:Int)))) else some false).bind fun x29=>
 some x29
noncomputable def CC [Ev]:Nat->AD->Pattern->AB->Option Int
 | 0,_,_,_=>none
 | n+1,t,p,c=>
  if (decide (c.Kind=5))=true then
  if (decide (c.Pattern.Vars<p.Vars))=true then
  some 20
  else
  (D6 t c.Pattern p.Vars).bind fun x27=>
  if (!decide (x27=0))=true then
  some x27
  else
  (EL p.Graph c.Pattern.Graph c.Map).bind fun x37=>
  if (!decide (x37=0))=true then
  some x37
  else
  (D0 p.Graph c.Pattern.Graph c.Map).bind fun x47=>
  if (!x47)=true then
  some 1
  else
  thenR (forR (ρ:=Int) (fun (i0:Int) (_:Unit)=>
  (AI c.Kids i0).bind fun x55=>
  (CC n t c.Pattern x55).bind fun x60=>
  if (!decide (x60=0))=true then
  some (.ret x60)
  else
  some (.next ())) 0 (c.Kids.length:Int) ()) (fun _=>
  some 0) (fun v0=>some v0)
  else
  thenR (forR (ρ:=Int) (fun (i0:Int) (_:Unit)=>
  (AI c.Kids i0).bind fun x55=>
  (CC n t p x55).bind fun x60=>
  if (!decide (x60=0))=true then
  some (.ret x60)
  else
  some (.next ())) 0 (c.Kids.length:Int) ()) (fun _=>
  some 0) (fun v0=>some v0)
noncomputable def I4 [Ev] (t:AD) (p:Pattern) (c:AB):Option Int:=Ix fun n=>CC n t p c
noncomputable def DY [Ev] (t:AD) (p:Pattern) (c:AB):Option Int:=
 (DX t p).bind fun x11=>
 if (!decide (x11=0))=true then
 some x11
 else
 (E3 c).bind fun x16=>
 if (!decide (x16=0))=true then
 some x16
 else
 (I4 t p c).bind fun x23=>
 some x23
noncomputable def FR (s1_0:List Int) (s2_1:List Int):Option Bool:=
 if (!decide ((s1_0.length:Int)=(s2_1.length:Int)))=true then
 some false
 else
 thenR (forR (ρ:=Bool) (fun (i0:Int) (_:Unit)=>
 (AI s1_0 i0).bind fun x18=>
 (AI s2_1 i0).bind fun x22=>
 if (!decide (x18=x22))=true then
 some (.ret false)
 else
 some (.next ())) 0 (s1_0.length:Int) ()) (fun _=>
 some true) (fun v0=>some v0)
noncomputable def Iw [Ev] (t:AD) (kind:Int) (A6:List Int):Option Int:=
 if (decide ((t.Nodes.length:Int)<=kind))=true then
 some 6
 else
 (AI t.Nodes kind).bind fun x19=>
 if x19.Abstract=true then
 some 13
 else
 (Gz t kind).bind fun x25=>
 if (!decide ((A6.length:Int)=(x25.1.length:Int)))=true then
 some 20
 else
 thenR (forR (ρ:=Int) (fun (i0:Int) (_:Unit)=>
 (AI x25.1 i0).bind fun x38=>
 (AI A6 i0).bind fun x42=>
 (if (decide (x42<x38.Low))=true then some true else ((AI A6 i0).bind fun x50=>
 some (decide (x38.High<x50)))).bind fun x55=>
 if x55=true then
 some (.ret 6)
 else
 some (.next ())) 0 (x25.1.length:Int) ()) (fun _=>
 some 0) (fun v0=>some v0)
noncomputable def H0 (s_0:List Int) (v_1:Int):Option Int:=
 thenR (forR (ρ:=Int) (fun (i0:Int) (_:Unit)=>
 (AI s_0 i0).bind fun x14=>
 if (decide (v_1=x14))=true then
 some (.ret i0)
 else
 some (.next ())) 0 (s_0.length:Int) ()) (fun _=>
 some (-1)) (fun v0=>some v0)
noncomputable def DG (s_0:List Int) (v_1:Int):Option Bool:=
 (H0 s_0 v_1).bind fun x7=>
 some (decide (0<=x7))
noncomputable def slices_Reverse_int (l:List Int):Option (List Int):=if l.length<=B0 then some l.reverse else none
noncomputable def JB [Ev] (t:AD) (a:Int):Option (List Int):=
 thenR (IR (ρ:=(List Int)) (fun (s0:Int × List Int)=>
 if (decide (0<=s0.1))=true then
 (CR s0.2 [s0.1]).bind fun x17=>
 (AI t.Nodes s0.1).bind fun x11=>
 some (.next (x11.Parent,x17))
 else
 some (.brk (s0.1,s0.2))) (a,[])) (fun s0=>
 (slices_Reverse_int s0.2).bind fun x19=>
 some x19) (fun v0=>some v0)
noncomputable def Ia [Ev] (t:AD) (a:Int) (b:Int):Option Bool:=
 (JB t a).bind fun x9=>
 (DG x9 b).bind fun x11=>
 some x11
noncomputable def IN [Ev] (t:AD) (edge:Int) (from':Int) (to':Int):Option Bool:=
 (F3 t [from',to']).bind fun x13=>
 if (((!decide (x13=0))||(decide (edge<0)))||(decide ((t.Edges.length:Int)<=edge)))=true then
 some false
 else
 (AI t.Edges edge).bind fun x31=>
 (Ia t from' x31.From).bind fun x34=>
 (if x34=true then ((AI t.Edges edge).bind fun x41=>
 (Ia t to' x41.To).bind fun x44=>
 some (x44)) else some false).bind fun x45=>
 some x45
noncomputable def HZ [Ev] (t:AD) (h_1:AY):Option (Int × Int):=
 (FJ t).bind fun x16=>
 if (!decide (x16.2=0))=true then
 some ((-1),x16.2)
 else
 (D3 h_1.Graph).bind fun x24=>
 if (!decide (x24=0))=true then
 some ((-1),x24)
 else
 if (!decide ((h_1.Values.length:Int)=(h_1.Graph.Nodes.length:Int)))=true then
 some ((-1),20)
 else
 thenR (forR (ρ:=(Int × Int)) (fun (i0:Int) (_:Unit)=>
 (AI h_1.Graph.Nodes i0).bind fun x43=>
 (AI h_1.Values i0).bind fun x50=>
 (Iw t x43 x50).bind fun x52=>
 if (!decide (x52=0))=true then
 some (.ret (i0,x52))
 else
 some (.next ())) 0 (h_1.Graph.Nodes.length:Int) ()) (fun _=>
 thenR (forR (ρ:=(Int × Int)) (fun (i2:Int) (_:Unit)=>
 (AI h_1.Graph.Edges i2).bind fun x65=>
 if (decide ((t.Edges.length:Int)<=x65.Type'))=true then
 some (.ret (i2,6))
 else
 (AI h_1.Graph.Nodes x65.From).bind fun x82=>
 (AI h_1.Graph.Nodes x65.To).bind fun x89=>
 (IN t x65.Type' x82 x89).bind fun x91=>
 if (!x91)=true then
 some (.ret (i2,13))
 else
 some (.next ())) 0 (h_1.Graph.Edges.length:Int) ()) (fun _=>
 some ((-1),0)) (fun v2=>some v2)) (fun v0=>some v0)
noncomputable def Jd (n:Int) (c0:AD):Option Bool:=
 some (decide ((c0.Nodes.length:Int)<=n))
noncomputable def Je (x_0:CY) (c0:AD):Option Bool:=
 some (decide ((c0.Edges.length:Int)<=x_0.Type'))
noncomputable def FO [Ev] (t:AD) (g:Graph):Option Bool:=
 (BL g.Nodes (fun y0=>Jd y0 t)).bind fun x8=>
 (if (!x8)=true then ((BU g.Edges (fun y0=>Je y0 t)).bind fun x14=>
 some (!x14)) else some false).bind fun x16=>
 some x16
noncomputable def GB [Ev] (t:AD) (p:Graph) (g:Graph):Option Int:=
 (FJ t).bind fun x14=>
 if (!decide (x14.2=0))=true then
 some x14.2
 else
 thenR (forR (ρ:=Int) (fun (i0:Int) (_:Unit)=>
 (AI [p,g] i0).bind fun x26=>
 (D3 x26).bind fun x29=>
 if (!decide (x29=0))=true then
 some (.ret x29)
 else
 some (.next ())) 0 ([p,g].length:Int) ()) (fun _=>
 (FO t p).bind fun x36=>
 (if (!x36)=true then some true else ((FO t g).bind fun x41=>
 some (!x41))).bind fun x43=>
 if x43=true then
 some 13
 else
 some 0) (fun v0=>some v0)
noncomputable def Hh [Ev] (t:AD) (a:Int):Option (List Int × Int):=
 (F3 t [a]).bind fun x12=>
 if (!decide (x12=0))=true then
 some ([],x12)
 else
 (forA (fun (i0:Int) (s0:List Int)=>
 (Ia t i0 a).bind fun x25=>
 if x25=true then
 (CR s0 [i0]).bind fun x29=>
 some x29
 else
 some s0) 0 (t.Nodes.length:Int) []).bind fun s0=>
 some (s0,0)
noncomputable def GA [Ev] (t:AD):Option (List (List Bool)):=
 (forA (fun (i0:Int) (s0:List (List Bool))=>
 (KP (t.Nodes.length:Int) false).bind fun x19=>
 (Hh t i0).bind fun x23=>
 (forA (fun (i2:Int) (s2:List Bool)=>
 (AI x23.1 i2).bind fun x30=>
 (AI s2 x30).bind fun x34=>
 some (CU s2 x30 true)) 0 (x23.1.length:Int) x19).bind fun s2=>
 (CR s0 [s2]).bind fun x39=>
 some x39) 0 (t.Nodes.length:Int) []).bind fun s0=>
 some s0
noncomputable def G6 [Ev] (t:AD) (p:Graph) (g:Graph) (m:Morphism):Option Int:=
 if ((!decide ((m.Nodes.length:Int)=(p.Nodes.length:Int)))||(!decide ((m.Edges.length:Int)=(p.Edges.length:Int))))=true then
 some 20
 else
 (GA t).bind fun x33=>
 thenR (forR (ρ:=Int) (fun (i0:Int) (_:Unit)=>
 (AI m.Nodes i0).bind fun x40=>
 if ((decide (x40<0))||(decide ((g.Nodes.length:Int)<=x40)))=true then
 some (.ret 6)
 else
 (AI p.Nodes i0).bind fun x55=>
 (AI x33 x55).bind fun x57=>
 (AI g.Nodes x40).bind fun x62=>
 (AI x57 x62).bind fun x64=>
 if (!x64)=true then
 some (.ret 13)
 else
 some (.next ())) 0 (m.Nodes.length:Int) ()) (fun _=>
 thenR (forR (ρ:=Int) (fun (i2:Int) (_:Unit)=>
 (AI m.Edges i2).bind fun x74=>
 if ((decide (x74<0))||(decide ((g.Edges.length:Int)<=x74)))=true then
 some (.ret 6)
 else
 (AI p.Edges i2).bind fun x88=>
 (AI g.Edges x74).bind fun x93=>
 if (!decide (x88.Type'=x93.Type'))=true then
 some (.ret 13)
 else
 (AI m.Nodes x88.From).bind fun x104=>
 (if (!decide (x104=x93.From))=true then some true else ((AI m.Nodes x88.To).bind fun x114=>
 some (!decide (x114=x93.To)))).bind fun x119=>
 if x119=true then
 some (.ret 11)
 else
 some (.next ())) 0 (m.Edges.length:Int) ()) (fun _=>
 some 0) (fun v2=>some v2)) (fun v0=>some v0)
noncomputable def Hz (l:List Int):Option Bool:=if l.length<=4096 then some (dupB l) else none
noncomputable def F9 [Ev] (t:AD) (p:Graph) (g:Graph) (m:Morphism) (injective:Bool):Option Int:=
 (GB t p g).bind fun x16=>
 if (!decide (x16=0))=true then
 some x16
 else
 (G6 t p g m).bind fun x24=>
 if (!decide (x24=0))=true then
 some x24
 else
 (if injective=true then ((Hz m.Nodes).bind fun x32=>
 (if x32=true then some true else ((Hz m.Edges).bind fun x36=>
 some (x36))).bind fun x37=>
 some (x37)) else some false).bind fun x38=>
 if x38=true then
 some 5
 else
 some 0
noncomputable def E1 [Ev] (t:AD) (p:Pattern) (h_2:AY):Option Int:=
 (DX t p).bind fun x12=>
 if (!decide (x12=0))=true then
 some x12
 else
 (HZ t h_2).bind fun x19=>
 some x19.2
noncomputable def E2 (x_0:Term) (A6:List Int):Option Int:=
 if (decide (x_0.Var<0))=true then
 some x_0.Add
 else
 (AI A6 x_0.Var).bind fun x13=>
 some (A0 (x13+x_0.Add))
noncomputable def II (a b c:Int):Option (Int × Int):=if (0<=a∧a<18446744073709551616)∧(0<=b∧b<18446744073709551616)∧0<=c∧c<=1 then some ((a+b+c) % 18446744073709551616,(a+b+c) / 18446744073709551616) else none
noncomputable def G9 (a:Int) (b:Int):Option (Int × Int):=
 (II (IntKind.u64.wrap a) (IntKind.u64.wrap b) 0).bind fun x13=>
 (KK .i64 .shr a 63).bind fun x17=>
 (KK .i64 .shr b 63).bind fun x19=>
 some (A0 ((A0 (x17+x19))+(A0 x13.2)),x13.1)
noncomputable def FX (t:Term) (c0:List Int):Option (Int × Int × Bool):=
 if (decide (t.Var=(-1)))=true then
 (G9 0 t.Add).bind fun x17=>
 some (x17.1,x17.2,true)
 else
 if ((decide (t.Var<0))||(decide ((c0.length:Int)<=t.Var)))=true then
 some (0,0,false)
 else
 (AI c0 t.Var).bind fun x37=>
 (G9 x37 t.Add).bind fun x41=>
 some (x41.1,x41.2,true)
noncomputable def LF (vals:List Int):Option Int:=
 thenR (forR (ρ:=Int) (fun (i0:Int) (_:Unit)=>
 (AI vals i0).bind fun x10=>
 if (!decide (x10=0))=true then
 some (.ret x10)
 else
 some (.next ())) 0 (vals.length:Int) ()) (fun _=>
 some 0) (fun v0=>some v0)
noncomputable def JI (x_0:Int):Option Bool:=
 some (!decide (x_0=x_0))
noncomputable def IE (x_0:Int) (y:Int):Option Int:=
 (JI x_0).bind fun x8=>
 (JI y).bind fun x10=>
 if x8=true then
 if x10=true then
 some 0
 else
 some (-1)
 else
 if x10=true then
 some 1
 else
 if (decide (x_0<y))=true then
 some (-1)
 else
 if (decide (y<x_0))=true then
 some 1
 else
 some 0
noncomputable def I3 (x_0:Int):Option Bool:=
 some (!decide (x_0=x_0))
noncomputable def IF (x_0:Int) (y:Int):Option Int:=
 (I3 x_0).bind fun x8=>
 (I3 y).bind fun x10=>
 if x8=true then
 if x10=true then
 some 0
 else
 some (-1)
 else
 if x10=true then
 some 1
 else
 if (decide (x_0<y))=true then
 some (-1)
 else
 if (decide (y<x_0))=true then
 some 1
 else
 some 0
noncomputable def GO (x_0:Test) (A6:List Int):Option Bool:=
 (FX x_0.Left A6).bind fun x18=>
 (FX x_0.Right A6).bind fun x26=>
 if ((!x18.2.2)||(!x26.2.2))=true then
 some false
 else
 (IE x18.1 x26.1).bind fun x38=>
 (IF x18.2.1 x26.2.1).bind fun x41=>
 (LF [x38,x41]).bind fun x43=>
 some (((decide (x_0.Kind=1))&&(decide (x43<=0)))||((decide (x_0.Kind=2))&&(decide (x43=0))))
noncomputable def IB (p:Pattern) (h_1:AY) (m:Morphism):Option (List Int × Int):=
 (KP p.Vars 0).bind fun x18=>
 (KP p.Vars false).bind fun x21=>
 thenR (forR (ρ:=(List Int × Int)) (fun (i0:Int) (s0:List Int × List Bool)=>
 (AI p.Slots i0).bind fun x27=>
 (AI m.Nodes x27.Node).bind fun x35=>
 (AI h_1.Values x35).bind fun x37=>
 (AI x37 x27.Attr).bind fun x41=>
 (if (decide (0<=x27.Term.Var))=true then ((AI s0.2 x27.Term.Var).bind fun x51=>
 some (!x51)) else some false).bind fun x54=>
 if x54=true then
 (AI s0.1 x27.Term.Var).bind fun x64=>
 (AI s0.2 x27.Term.Var).bind fun x65=>
 (E2 x27.Term (CU s0.1 x27.Term.Var (A0 (x41 - x27.Term.Add)))).bind fun x69=>
 if (!decide (x69=x41))=true then
 some (.ret ([],11))
 else
 some (.next (CU s0.1 x27.Term.Var (A0 (x41 - x27.Term.Add)),CU s0.2 x27.Term.Var true))
 else
 (E2 x27.Term s0.1).bind fun x69=>
 if (!decide (x69=x41))=true then
 some (.ret ([],11))
 else
 some (.next (s0.1,s0.2))) 0 (p.Slots.length:Int) (x18,x21)) (fun s0=>
 thenR (forR (ρ:=(List Int × Int)) (fun (i2:Int) (_:Unit)=>
 (AI p.Tests i2).bind fun x78=>
 (GO x78 s0.1).bind fun x82=>
 if (!x82)=true then
 some (.ret ([],16))
 else
 some (.next ())) 0 (p.Tests.length:Int) ()) (fun _=>
 some (s0.1,0)) (fun v2=>some v2)) (fun v0=>some v0)
noncomputable def E0 [Ev] (t:AD) (p:Pattern) (h_2:AY) (m:Morphism):Option (List Int × Int):=
 (E1 t p h_2).bind fun x15=>
 if (!decide (x15=0))=true then
 some ([],x15)
 else
 (F9 t p.Graph h_2.Graph m false).bind fun x25=>
 if (!decide (x25=0))=true then
 some ([],x25)
 else
 (IB p h_2 m).bind fun x32=>
 some (x32.1,x32.2)
noncomputable def EA [Ev] (t:AD) (p:Pattern) (c:AB) (h_3:AY) (m:AH) (injective:Bool):Option Int:=
 (DY t p c).bind fun x22=>
 if (!decide (x22=0))=true then
 some x22
 else
 (HZ t h_3).bind fun x29=>
 if (!decide (x29.2=0))=true then
 some x29.2
 else
 (F9 t p.Graph h_3.Graph m.Morphism injective).bind fun x43=>
 if (!decide (x43=0))=true then
 some x43
 else
 (E0 t p h_3 m.Morphism).bind fun x53=>
 if (!decide (x53.2=0))=true then
 some x53.2
 else
 (FR x53.1 m.Vars).bind fun x62=>
 if (!x62)=true then
 some 11
 else
 some 0
noncomputable def Kn (k:Int) (c0:Int):Option Bool:=
 some ((decide (k<(-1)))||(decide (c0<=k)))
noncomputable def GZ [Ev] (l:List Int) (n:Int):Option Int:=
 (BL l (fun y0=>Kn y0 n)).bind fun x7=>
 if x7=true then
 some 6
 else
 some 0
noncomputable def Hy (l:List Int) (i_1:Int):Option Int:=
 (TH l).bind fun x6=>
 (AI l i_1).bind fun x9=>
 some x9
noncomputable def EC (f:AK) (i_1:Int) (k:Int):Option Bool:=
 (AI f.p.Edges i_1).bind fun x15=>
 (Hy f.partial_.Edges i_1).bind fun x23=>
 if ((decide (0<=x23))&&(!decide (x23=k)))=true then
 some false
 else
 (AI f.g.Edges k).bind fun x37=>
 (AI f.nodes x15.From).bind fun x47=>
 (AI f.nodes x15.To).bind fun x55=>
 some (decide (x37=(CY.mk x15.Type' x47 x55)))
noncomputable def CJ (f:AK):Option Bool:=
 thenR (forR (ρ:=Bool) (fun (i0:Int) (_:Unit)=>
 (AI f.p.Edges i0).bind fun x23=>
 if (!decide ((max x23.From x23.To)=(A0 ((f.nodes.length:Int) - 1))))=true then
 some (.next ())
 else
 thenR (forR (ρ:=Bool) (fun (i2:Int) (s2:Bool)=>
 (EC f i0 i2).bind fun x44=>
 if x44=true then
 some (.brk true)
 else
 some (.next s2)) 0 (f.g.Edges.length:Int) false) (fun s2=>
 if (!s2)=true then
 some (.ret false)
 else
 some (.next ())) (fun v2=>some (.ret v2))) 0 (f.p.Edges.length:Int) ()) (fun _=>
 some true) (fun v0=>some v0)
noncomputable def A3 [Ev]:Nat->AK->Option AK
 | 0,_=>none
 | n+1,f=>
  (if (decide ((f.out.length:Int)=f.most))=true then
  some f
  else
  if (decide ((f.nodes.length:Int)<(f.p.Nodes.length:Int)))=true then
  (forA (fun (i1:Int) (s1:AK)=>
  (AI f.g.Nodes i1).bind fun x66=>
  (Hy s1.partial_.Nodes (f.nodes.length:Int)).bind fun x74=>
  (if ((decide (0<=x74))&&(!decide (x74=i1)))=true then some true else ((AI s1.p.Nodes (f.nodes.length:Int)).bind fun x93=>
  (AI s1.is x93).bind fun x95=>
  (AI x95 x66).bind fun x98=>
  some (!x98))).bind fun x101=>
  (if x101=true then some true else ((if s1.injective=true then ((DG s1.nodes i1).bind fun x113=>
  some (x113)) else some false).bind fun x114=>
  some (x114))).bind fun x115=>
  if x115=true then
  some s1
  else
  (CR s1.nodes [i1]).bind fun x123=>
  (CJ (AK.mk s1.p s1.g s1.is s1.partial_ s1.injective s1.most x123 s1.edges s1.out)).bind fun x127=>
  if x127=true then
  (A3 n (AK.mk s1.p s1.g s1.is s1.partial_ s1.injective s1.most x123 s1.edges s1.out)).bind fun x129=>
  (slc x129.nodes 0 (f.nodes.length:Int)).bind fun x136=>
  some (AK.mk x129.p x129.g x129.is x129.partial_ x129.injective x129.most x136 x129.edges x129.out)
  else
  (slc x123 0 (f.nodes.length:Int)).bind fun x136=>
  some (AK.mk s1.p s1.g s1.is s1.partial_ s1.injective s1.most x136 s1.edges s1.out)) 0 (f.g.Nodes.length:Int) f).bind fun s1=>
  some s1
  else
  if (decide ((f.edges.length:Int)<(f.p.Edges.length:Int)))=true then
  (forA (fun (i3:Int) (s3:AK)=>
  (EC s3 (f.edges.length:Int) i3).bind fun x170=>
  (if (!x170)=true then some true else ((if s3.injective=true then ((DG s3.edges i3).bind fun x183=>
  some (x183)) else some false).bind fun x184=>
  some (x184))).bind fun x185=>
  if x185=true then
  some s3
  else
  (CR s3.edges [i3]).bind fun x193=>
  (A3 n (AK.mk s3.p s3.g s3.is s3.partial_ s3.injective s3.most s3.nodes x193 s3.out)).bind fun x197=>
  (slc x197.edges 0 (f.edges.length:Int)).bind fun x204=>
  some (AK.mk x197.p x197.g x197.is x197.partial_ x197.injective x197.most x197.nodes x204 x197.out)) 0 (f.g.Edges.length:Int) f).bind fun s3=>
  some s3
  else
  (slices_Clone_int f.nodes).bind fun x17=>
  (slices_Clone_int f.edges).bind fun x22=>
  (CR f.out [Morphism.mk x17 x22]).bind fun x25=>
  some (AK.mk f.p f.g f.is f.partial_ f.injective f.most f.nodes f.edges x25)).bind fun w1=>
  some w1
noncomputable def FU [Ev] (f:AK):Option AK:=Ix fun n=>A3 n f
noncomputable def G5 [Ev] (t:AD) (p:Graph) (g:Graph) (partial_:Morphism) (injective:Bool) (most:Int):Option (List Morphism):=
 (GA t).bind fun x17=>
 (FU (AK.mk p g x17 partial_ injective most [] [] [])).bind fun x24=>
 some x24.out
noncomputable def I9 [Ev] (t:AD) (p:Graph) (g:Graph) (partial_:Morphism) (injective:Bool):Option (List Morphism × Int):=
 (G5 t p g partial_ injective 5001).bind fun x18=>
 if (decide (5000<(x18.length:Int)))=true then
 some ([],3)
 else
 some (x18,0)
noncomputable def GK [Ev] (t:AD) (p:Graph) (g:Graph) (partial_:Morphism) (injective:Bool):Option (List Morphism × Int):=
 (GB t p g).bind fun x18=>
 if (!decide (x18=0))=true then
 some ([],x18)
 else
 if ((!decide ((partial_.Nodes.length:Int)=(p.Nodes.length:Int)))||(!decide ((partial_.Edges.length:Int)=(p.Edges.length:Int))))=true then
 some ([],20)
 else
 (GZ partial_.Nodes (g.Nodes.length:Int)).bind fun x43=>
 if (!decide (x43=0))=true then
 some ([],x43)
 else
 (GZ partial_.Edges (g.Edges.length:Int)).bind fun x52=>
 if (!decide (x52=0))=true then
 some ([],x52)
 else
 (I9 t p g partial_ injective).bind fun x61=>
 some (x61.1,x61.2)
noncomputable def HU (l:List Int) (n:Int):Option (List Int):=if l.length=1∧0<=n∧n<=4096 then some (List.replicate n.toNat (l.headD 0)) else none
noncomputable def GN (n:Int) (AA:List Int) (images:List Int):Option (List Int):=
 (HU [(-1)] n).bind fun x12=>
 (forA (fun (i0:Int) (s0:List Int)=>
 (AI AA i0).bind fun x18=>
 (AI images i0).bind fun x24=>
 (AI s0 x18).bind fun x26=>
 some (CU s0 x18 x24)) 0 (AA.length:Int) x12).bind fun s0=>
 some s0
noncomputable def GM (x_0:Term) (A6:List Int):Option (Int × Int):=
 (C9 x_0.Var (-1) (A0 ((A6.length:Int) - 1))).bind fun x11=>
 if (!x11)=true then
 some (0,6)
 else
 (E2 x_0 A6).bind fun x15=>
 some (x15,0)
noncomputable def EG (s_0:AS) (q:Pattern) (m:Morphism) (given:List Int):Option (List Int × Bool):=
 (slices_Clone_int given).bind fun x22=>
 (QI x22 (A0 (q.Vars - (given.length:Int))) 0).bind fun x28=>
 (KP q.Vars false).bind fun x31=>
 (forA (fun (i0:Int) (s0:List Bool)=>
 (AI s0 i0).bind fun x39=>
 some (CU s0 i0 true)) 0 (given.length:Int) x31).bind fun s0=>
 thenR (forR (ρ:=(List Int × Bool)) (fun (i2:Int) (s2:List Int × List Bool)=>
 (AI q.Slots i2).bind fun x46=>
 (AI m.Nodes x46.Node).bind fun x55=>
 (AI s_0.h.Values x55).bind fun x57=>
 (AI x57 x46.Attr).bind fun x61=>
 (if (decide (0<=x46.Term.Var))=true then ((AI s2.2 x46.Term.Var).bind fun x71=>
 some (!x71)) else some false).bind fun x74=>
 if x74=true then
 (AI s2.1 x46.Term.Var).bind fun x84=>
 (AI s2.2 x46.Term.Var).bind fun x85=>
 (GM x46.Term (CU s2.1 x46.Term.Var (A0 (x61 - x46.Term.Add)))).bind fun x90=>
 if ((!decide (x90.2=0))||(!decide (x90.1=x61)))=true then
 some (.ret ([],false))
 else
 some (.next (CU s2.1 x46.Term.Var (A0 (x61 - x46.Term.Add)),CU s2.2 x46.Term.Var true))
 else
 (GM x46.Term s2.1).bind fun x90=>
 if ((!decide (x90.2=0))||(!decide (x90.1=x61)))=true then
 some (.ret ([],false))
 else
 some (.next (s2.1,s2.2))) 0 (q.Slots.length:Int) (x28,s0)) (fun s2=>
 thenR (forR (ρ:=(List Int × Bool)) (fun (i4:Int) (_:Unit)=>
 (AI q.Tests i4).bind fun x106=>
 (GO x106 s2.1).bind fun x110=>
 if (!x110)=true then
 some (.ret ([],false))
 else
 some (.next ())) 0 (q.Tests.length:Int) ()) (fun _=>
 some (s2.1,true)) (fun v4=>some v4)) (fun v2=>some v2)
noncomputable def BW [Ev] (s_0:AS) (c:AB) (m:AH):Option (List AH × Int):=
 (GN (c.Pattern.Graph.Nodes.length:Int) c.Map.Nodes m.Morphism.Nodes).bind fun x29=>
 (GN (c.Pattern.Graph.Edges.length:Int) c.Map.Edges m.Morphism.Edges).bind fun x39=>
 (GK s_0.t c.Pattern.Graph s_0.h.Graph (Morphism.mk x29 x39) s_0.injective).bind fun x51=>
 if (!decide (x51.2=0))=true then
 some ([],x51.2)
 else
 (forA (fun (i0:Int) (s0:List AH)=>
 (AI x51.1 i0).bind fun x61=>
 (EG s_0 c.Pattern x61 m.Vars).bind fun x70=>
 if x70.2=true then
 (CR s0 [AH.mk x61 x70.1]).bind fun x79=>
 some x79
 else
 some s0) 0 (x51.1.length:Int) []).bind fun s0=>
 some (s0,0)
mutual
noncomputable def AZ [Ev]:Nat->AS->AB->AH->Option (AM × Int)
 | 0,_,_,_=>none
 | n+1,s_0,c,m=>
  if (decide (c.Kind=2))=true then
  (AI c.Kids 0).bind fun x27=>
  (AZ n s_0 x27 m).bind fun x30=>
  if (decide (x30.2=0))=true then
  some (AM.mk 0 (AH.mk (Morphism.mk [] []) []) [],10)
  else
  if (decide (x30.2=10))=true then
  some (AM.mk 0 (AH.mk (Morphism.mk [] []) []) [],0)
  else
  some (AM.mk 0 (AH.mk (Morphism.mk [] []) []) [],x30.2)
  else
  if (decide (c.Kind=3))=true then
  thenR (forR (ρ:=(AM × Int)) (fun (i2:Int) (s2:AM × AM)=>
  (AI c.Kids i2).bind fun x49=>
  (AZ n s_0 x49 m).bind fun x55=>
  if (!decide (x55.2=0))=true then
  some (.ret (AM.mk 0 (AH.mk (Morphism.mk [] []) []) [],x55.2))
  else
  (CR s2.2.Kids [x55.1]).bind fun x66=>
  some (.next (s2.1,AM.mk s2.2.Choice s2.2.Match x66))) 0 (c.Kids.length:Int) (AM.mk 0 (AH.mk (Morphism.mk [] []) []) [],AM.mk 0 (AH.mk (Morphism.mk [] []) []) [])) (fun s2=>
  some (s2.2,0)) (fun v2=>some v2)
  else
  if (decide (c.Kind=4))=true then
  thenR (forR (ρ:=(AM × Int)) (fun (i4:Int) (s4:AM)=>
  (AI c.Kids i4).bind fun x78=>
  (AZ n s_0 x78 m).bind fun x84=>
  if (decide (x84.2=0))=true then
  some (.ret (AM.mk i4 (AH.mk (Morphism.mk [] []) []) [x84.1],0))
  else
  if (!decide (x84.2=10))=true then
  some (.ret (AM.mk 0 (AH.mk (Morphism.mk [] []) []) [],x84.2))
  else
  some (.next s4)) 0 (c.Kids.length:Int) (AM.mk 0 (AH.mk (Morphism.mk [] []) []) [])) (fun s4=>
  some (AM.mk 0 (AH.mk (Morphism.mk [] []) []) [],10)) (fun v4=>some v4)
  else
  if (decide (c.Kind=5))=true then
  (BJ n s_0 c m).bind fun x104=>
  some (x104.1,x104.2)
  else
  some (AM.mk 0 (AH.mk (Morphism.mk [] []) []) [],0)
noncomputable def BJ [Ev]:Nat->AS->AB->AH->Option (AM × Int)
 | 0,_,_,_=>none
 | n+1,s_0,c,m=>
  (BW s_0 c m).bind fun x18=>
  if (!decide (x18.2=0))=true then
  some (AM.mk 0 (AH.mk (Morphism.mk [] []) []) [],x18.2)
  else
  thenR (forR (ρ:=(AM × Int)) (fun (i0:Int) (s0:AM)=>
  (AI x18.1 i0).bind fun x29=>
  (AI c.Kids 0).bind fun x35=>
  (AZ n s_0 x35 x29).bind fun x38=>
  if (decide (x38.2=0))=true then
  some (.ret (AM.mk 0 x29 [x38.1],0))
  else
  if (!decide (x38.2=10))=true then
  some (.ret (AM.mk 0 (AH.mk (Morphism.mk [] []) []) [],x38.2))
  else
  some (.next s0)) 0 (x18.1.length:Int) (AM.mk 0 (AH.mk (Morphism.mk [] []) []) [])) (fun s0=>
  some (AM.mk 0 (AH.mk (Morphism.mk [] []) []) [],10)) (fun v0=>some v0)
end
noncomputable def DQ [Ev] (s_0:AS) (c:AB) (m:AH):Option (AM × Int):=Ix fun n=>AZ n s_0 c m
noncomputable def MM [Ev] (s_0:AS) (c:AB) (m:AH):Option (AM × Int):=Ix fun n=>BJ n s_0 c m
noncomputable def EX [Ev] (t:AD) (p:Pattern) (c:AB) (h_3:AY) (m:AH) (injective:Bool):Option (AM × Int):=
 (EA t p c h_3 m injective).bind fun x21=>
 if (!decide (x21=0))=true then
 some (AM.mk 0 (AH.mk (Morphism.mk [] []) []) [],x21)
 else
 (DQ (AS.mk t h_3 injective) c m).bind fun x32=>
 some (x32.1,x32.2)
noncomputable def E9 [Ev] (t:AD) (p:Pattern) (c:AB) (h_3:AY) (m:AH) (injective:Bool):Option (Bool × Int):=
 (EX t p c h_3 m injective).bind fun x23=>
 if (decide (x23.2=10))=true then
 some (false,0)
 else
 some (decide (x23.2=0),x23.2)
noncomputable def D7 (m:AH):Option Bool:=
 some (decide ((A0 ((A0 ((m.Morphism.Nodes.length:Int)+(m.Morphism.Edges.length:Int)))+(m.Vars.length:Int)))=0))
noncomputable def D5 [Ev] (s_0:List AH) (f:AH->Option Bool):Option Int:=
 thenR (forR (ρ:=Int) (fun (i0:Int) (_:Unit)=>
 (AI s_0 i0).bind fun x14=>
 (f x14).bind fun x16=>
 if x16=true then
 some (.ret i0)
 else
 some (.next ())) 0 (s_0.length:Int) ()) (fun _=>
 some (-1)) (fun v0=>some v0)
noncomputable def C4 [Ev] (s_0:List AH) (f:AH->Option Bool):Option Bool:=
 (D5 s_0 f).bind fun x7=>
 some (decide (0<=x7))
noncomputable def JK (a:Morphism) (b:Morphism):Option Bool:=
 (FR a.Nodes b.Nodes).bind fun x9=>
 (if x9=true then ((FR a.Edges b.Edges).bind fun x15=>
 some (x15)) else some false).bind fun x16=>
 some x16
noncomputable def FA (a:AH) (b:AH):Option Bool:=
 (JK a.Morphism b.Morphism).bind fun x9=>
 (if x9=true then ((FR a.Vars b.Vars).bind fun x15=>
 some (x15)) else some false).bind fun x16=>
 some x16
noncomputable def HV (x_0:AH) (c0:AM):Option Bool:=
 (FA x_0 c0.Match).bind fun x7=>
 some x7
noncomputable def BD [Ev]:Nat->AS->AB->AH->AM->Option Bool
 | 0,_,_,_,_=>none
 | n+1,s_0,c,m,w=>
  if (decide (c.Kind=1))=true then
  (if ((decide ((w.Kids.length:Int)=0))&&(decide (w.Choice=0)))=true then ((D7 w.Match).bind fun x33=>
  some (x33)) else some false).bind fun x34=>
  some x34
  else
  if (decide (c.Kind=2))=true then
  (AI c.Kids 0).bind fun x41=>
  (DQ s_0 x41 m).bind fun x44=>
  (if ((decide ((w.Kids.length:Int)=0))&&(decide (w.Choice=0)))=true then ((D7 w.Match).bind fun x57=>
  some (x57)) else some false).bind fun x58=>
  some (x58&&(decide (x44.2=10)))
  else
  if (decide (c.Kind=3))=true then
  (if ((!decide ((w.Kids.length:Int)=(c.Kids.length:Int)))||(!decide (w.Choice=0)))=true then some true else ((D7 w.Match).bind fun x78=>
  some (!x78))).bind fun x80=>
  if x80=true then
  some false
  else
  thenR (forR (ρ:=Bool) (fun (i1:Int) (_:Unit)=>
  (AI c.Kids i1).bind fun x87=>
  (AI w.Kids i1).bind fun x95=>
  (BD n s_0 x87 m x95).bind fun x97=>
  if (!x97)=true then
  some (.ret false)
  else
  some (.next ())) 0 (c.Kids.length:Int) ()) (fun _=>
  some true) (fun v1=>some v1)
  else
  if (decide (c.Kind=4))=true then
  (if (((decide ((w.Kids.length:Int)=1))&&(decide (0<=w.Choice)))&&(decide (w.Choice<(c.Kids.length:Int))))=true then ((D7 w.Match).bind fun x120=>
  some (x120)) else some false).bind fun x121=>
  (if x121=true then ((AI c.Kids w.Choice).bind fun x128=>
  (AI w.Kids 0).bind fun x133=>
  (BD n s_0 x128 m x133).bind fun x135=>
  some (x135)) else some false).bind fun x136=>
  some x136
  else
  if ((!decide ((w.Kids.length:Int)=1))||(!decide (w.Choice=0)))=true then
  some false
  else
  (BW s_0 c m).bind fun x148=>
  (if (!decide (x148.2=0))=true then some true else ((C4 x148.1 (fun y0=>HV y0 w)).bind fun x156=>
  some (!x156))).bind fun x158=>
  if x158=true then
  some false
  else
  (AI c.Kids 0).bind fun x162=>
  (AI w.Kids 0).bind fun x168=>
  (BD n s_0 x162 w.Match x168).bind fun x170=>
  some x170
noncomputable def ER [Ev] (s_0:AS) (c:AB) (m:AH) (w:AM):Option Bool:=Ix fun n=>BD n s_0 c m w
noncomputable def CP [Ev] (t:AD) (p:Pattern) (c:AB) (h_3:AY) (m:AH) (injective:Bool) (w:AM):Option Bool:=
 (EA t p c h_3 m injective).bind fun x21=>
 (if (decide (x21=0))=true then ((ER (AS.mk t h_3 injective) c m w).bind fun x31=>
 some (x31)) else some false).bind fun x32=>
 some x32
noncomputable def MR :Option AD:=
 some (AD.mk [CE.mk (⟨#[65,99,99,111,117,110,116]⟩:ByteArray) (-1) true [Attr.mk (⟨#[98,97,108,97,110,99,101]⟩:ByteArray) (-1000) 1000 []],CE.mk (⟨#[67,97,115,104]⟩:ByteArray) 0 false [],CE.mk (⟨#[76,111,97,110]⟩:ByteArray) 0 false [Attr.mk (⟨#[115,116,97,116,101]⟩:ByteArray) 0 1 [(⟨#[111,112,101,110]⟩:ByteArray),(⟨#[99,108,111,115,101,100]⟩:ByteArray)]],CE.mk (⟨#[80,101,114,115,111,110]⟩:ByteArray) (-1) false []] [CQ.mk (⟨#[111,119,110,115]⟩:ByteArray) 3 0 0 (-1) 1 1,CQ.mk (⟨#[112,97,121,115]⟩:ByteArray) 1 1 0 (-1) 0 (-1)])
noncomputable def MP :Option GW:=
 some (GW.mk (Pattern.mk (Graph.mk [3,0] [CY.mk 0 0 1]) [DO.mk 1 0 (Term.mk 0 0)] 1 []) (AB.mk 5 [AB.mk 1 [] (Morphism.mk [] []) (Pattern.mk (Graph.mk [] []) [] 0 [])] (Morphism.mk [0,1] [0]) (Pattern.mk (Graph.mk [3,0,0] [CY.mk 0 0 1,CY.mk 0 0 2]) [DO.mk 1 0 (Term.mk 0 0),DO.mk 2 0 (Term.mk 1 0)] 2 [Test.mk 1 (Term.mk 0 0) (Term.mk 1 0)])))
noncomputable def FE [Ev] :Option Bool:=
 (MR).bind fun x10=>
 (MP).bind fun x11=>
 (EX x10 x11.P x11.C (AY.mk (Graph.mk [3,1,1] [CY.mk 0 0 1,CY.mk 0 0 2]) [[],[10],[5]]) (AH.mk (Morphism.mk [0,2] [1]) [5]) true).bind fun x39=>
 (E9 x10 x11.P x11.C (AY.mk (Graph.mk [3,1,1] [CY.mk 0 0 1,CY.mk 0 0 2]) [[],[10],[5]]) (AH.mk (Morphism.mk [0,1] [0]) [10]) true).bind fun x50=>
 (if ((((decide (x39.2=0))&&(decide (x50.2=0)))&&(!x50.1))&&(decide ((x39.1.Match.Vars.length:Int)=2)))=true then ((AI x39.1.Match.Vars 1).bind fun x74=>
 some (decide (x74=10))) else some false).bind fun x77=>
 (if x77=true then ((CP x10 x11.P x11.C (AY.mk (Graph.mk [3,1,1] [CY.mk 0 0 1,CY.mk 0 0 2]) [[],[10],[5]]) (AH.mk (Morphism.mk [0,2] [1]) [5]) true x39.1).bind fun x87=>
 some (x87)) else some false).bind fun x88=>
 some x88
noncomputable def K3 [Ev] (t:AD):Option Bool:=
 if ((decide (20<(t.Nodes.length:Int)))||(decide (30<(t.Edges.length:Int))))=true then
 some false
 else
 thenR (forR (ρ:=Bool) (fun (i0:Int) (s0:Int)=>
 (AI t.Nodes i0).bind fun x30=>
 (if (decide (30<(A0 (s0+(x30.Attrs.length:Int)))))=true then some true else ((AI t.Nodes i0).bind fun x41=>
 some (decide (40<(x41.Name.size:Int))))).bind fun x46=>
 if x46=true then
 some (.ret false)
 else
 thenR (IR (ρ:=Bool) (fun (s2:Int)=>
 (AI t.Nodes i0).bind fun x51=>
 if (decide (s2<(x51.Attrs.length:Int)))=true then
 (AI t.Nodes i0).bind fun x61=>
 (AI x61.Attrs s2).bind fun x65=>
 if ((decide (40<(x65.Name.size:Int)))||(decide (25<(x65.Names.length:Int))))=true then
 some (.ret false)
 else
 thenR (IR (ρ:=Bool) (fun (s4:Int)=>
 if (decide (s4<(x65.Names.length:Int)))=true then
 (AI x65.Names s4).bind fun x87=>
 if (decide (40<(x87.size:Int)))=true then
 some (.ret false)
 else
 some (.next (A0 (s4+1)))
 else
 some (.brk s4)) 0) (fun s4=>
 some (.next (A0 (s2+1)))) (fun v4=>some (.ret v4))
 else
 some (.brk s2)) 0) (fun s2=>
 some (.next (A0 (s0+(x30.Attrs.length:Int))))) (fun v2=>some (.ret v2))) 0 (t.Nodes.length:Int) 0) (fun s0=>
 thenR (forR (ρ:=Bool) (fun (i6:Int) (_:Unit)=>
 (AI t.Edges i6).bind fun x101=>
 if (decide (40<(x101.Name.size:Int)))=true then
 some (.ret false)
 else
 some (.next ())) 0 (t.Edges.length:Int) ()) (fun _=>
 some true) (fun v6=>some v6)) (fun v0=>some v0)
noncomputable def Iz (g:Graph):Option Bool:=
 some ((decide ((g.Nodes.length:Int)<=45))&&(decide ((g.Edges.length:Int)<=90)))
noncomputable def K5 (p:Pattern):Option Bool:=
 (Iz p.Graph).bind fun x5=>
 some ((x5&&(decide ((p.Slots.length:Int)<=15)))&&(decide ((p.Tests.length:Int)<=15)))
noncomputable def NR (m:Morphism) (n:Int):Option Bool:=
 some (decide ((A0 ((m.Nodes.length:Int)+(m.Edges.length:Int)))<=n))
noncomputable def FH [Ev]:Nat->AB->Int->Option Int
 | 0,_,_=>none
 | n+1,c,most=>
  (K5 c.Pattern).bind fun x10=>
  (if (!x10)=true then some true else ((NR c.Map 140).bind fun x15=>
  some (!x15))).bind fun x17=>
  if x17=true then
  some (-1)
  else
  thenR (IR (ρ:=Int) (fun (s0:Int × Int)=>
  if ((decide (s0.2<(c.Kids.length:Int)))&&(decide (0<=s0.1)))=true then
  (AI c.Kids s0.2).bind fun x32=>
  (FH n x32 s0.1).bind fun x35=>
  some (.next (x35,A0 (s0.2+1)))
  else
  some (.brk (s0.1,s0.2))) (A0 (most - 1),0)) (fun s0=>
  some s0.1) (fun v0=>some v0)
noncomputable def OS [Ev] (c:AB) (most:Int):Option Int:=Ix fun n=>FH n c most
noncomputable def MH [Ev] (c:AB):Option Bool:=
 (OS c 40).bind fun x4=>
 some (decide (0<=x4))
noncomputable def G3 [Ev]:Nat->AD->Int->Option (List Attr)
 | 0,_,_=>none
 | n+1,t,a=>
  if (decide (a<0))=true then
  some []
  else
  (AI t.Nodes a).bind fun x12=>
  (G3 n t x12.Parent).bind fun x15=>
  (CR [] x15).bind fun x16=>
  (AI t.Nodes a).bind fun x20=>
  (CR x16 x20.Attrs).bind fun x23=>
  some x23
noncomputable def L0 [Ev] (t:AD) (a:Int):Option (List Attr):=Ix fun n=>G3 n t a
noncomputable def D8 (n:Int) (low:Int) (high:Int):Option Bool:=
 some ((decide (low<=n))&&(decide (n<=high)))
noncomputable def Me (t:FK):Option ByteArray:=
 if (decide (t.Kind=3))=true then
 (Ph (⟨#[34]⟩:ByteArray) t.Text).bind fun x8=>
 (Ph x8 (⟨#[34]⟩:ByteArray)).bind fun x9=>
 some x9
 else
 some t.Text
noncomputable def Jr (c:Int):Option Bool:=
 some (((decide (97<=c))&&(decide (c<=122)))||((decide (65<=c))&&(decide (c<=90))))
noncomputable def IU (c:Int):Option Bool:=
 some ((decide (48<=c))&&(decide (c<=57)))
noncomputable def ME [Ev] (s_0:ByteArray) (AA:Int) (digits:Bool):Option Int:=
 thenR (IR (ρ:=Int) (fun (s0:Int)=>
 (if (decide ((A0 (AA+s0))<(s_0.size:Int)))=true then ((sidx s_0 (A0 (AA+s0))).bind fun x19=>
 (IU x19).bind fun x20=>
 (if x20=true then some true else ((if (!digits)=true then ((sidx s_0 (A0 (AA+s0))).bind fun x29=>
 (Jr x29).bind fun x30=>
 (if x30=true then some true else ((sidx s_0 (A0 (AA+s0))).bind fun x36=>
 some (decide (x36=95)))).bind fun x38=>
 some (x38)) else some false).bind fun x39=>
 some (x39))).bind fun x40=>
 some (x40)) else some false).bind fun x41=>
 if x41=true then
 some (.next (A0 (s0+1)))
 else
 some (.brk s0)) 0) (fun s0=>
 some s0) (fun v0=>some v0)
noncomputable def Js [Ev] (s_0:ByteArray) (AA:Int):Option Int:=
 thenR (IR (ρ:=Int) (fun (s0:Int)=>
 if (decide ((A0 (AA+s0))<(s_0.size:Int)))=true then
 (sidx s_0 (A0 (AA+s0))).bind fun x19=>
 if (decide (x19=34))=true then
 some (.ret (A0 (s0+1)))
 else
 if ((decide (x19<32))||(decide (126<x19)))=true then
 some (.ret 0)
 else
 some (.next (A0 (s0+1)))
 else
 some (.brk s0)) 1) (fun s0=>
 some 0) (fun v0=>some v0)
noncomputable def Lz :Option (List ByteArray):=
 some [(⟨#[45,62]⟩:ByteArray),(⟨#[60,61]⟩:ByteArray),(⟨#[62,61]⟩:ByteArray),(⟨#[61,61]⟩:ByteArray),(⟨#[33,61]⟩:ByteArray),(⟨#[123]⟩:ByteArray),(⟨#[125]⟩:ByteArray),(⟨#[40]⟩:ByteArray),(⟨#[41]⟩:ByteArray),(⟨#[91]⟩:ByteArray),(⟨#[93]⟩:ByteArray),(⟨#[44]⟩:ByteArray),(⟨#[59]⟩:ByteArray),(⟨#[58]⟩:ByteArray),(⟨#[61]⟩:ByteArray),(⟨#[43]⟩:ByteArray),(⟨#[45]⟩:ByteArray),(⟨#[42]⟩:ByteArray),(⟨#[60]⟩:ByteArray),(⟨#[62]⟩:ByteArray),(⟨#[33]⟩:ByteArray),(⟨#[38]⟩:ByteArray),(⟨#[124]⟩:ByteArray),(⟨#[46]⟩:ByteArray),(⟨#[63]⟩:ByteArray)]
noncomputable def MD [Ev] (s_0:ByteArray) (AA:Int):Option (FK × Int × Int):=
 (sidx s_0 AA).bind fun x16=>
 (Jr x16).bind fun x18=>
 (if x18=true then some true else ((IU x16).bind fun x21=>
 some (x21))).bind fun x22=>
 if x22=true then
 (IU x16).bind fun x26=>
 (ME s_0 AA x26).bind fun x27=>
 (IU x16).bind fun x29=>
 (if x29=true then
 some (2,9)
 else
 some (1,20)).bind fun w1=>
 if (decide (w1.2<x27))=true then
 some (FK.mk 0 (⟨#[]⟩:ByteArray) 0,0,3)
 else
 (sslc s_0 AA (A0 (AA+x27))).bind fun x40=>
 some (FK.mk w1.1 x40 0,x27,0)
 else
 if (decide (x16=34))=true then
 (Js s_0 AA).bind fun x47=>
 if (decide (x47=0))=true then
 some (FK.mk 0 (⟨#[]⟩:ByteArray) 0,0,2)
 else
 if (decide (60<(A0 (x47 - 2))))=true then
 some (FK.mk 0 (⟨#[]⟩:ByteArray) 0,0,3)
 else
 (sslc s_0 (A0 (AA+1)) (A0 ((A0 (AA+x47)) - 1))).bind fun x62=>
 some (FK.mk 3 x62 0,x47,0)
 else
 (Lz).bind fun x65=>
 thenR (forR (ρ:=(FK × Int × Int)) (fun (i0:Int) (s0:FK)=>
 (AI x65 i0).bind fun x75=>
 (if (decide ((A0 (AA+(x75.size:Int)))<=(s_0.size:Int)))=true then ((AI x65 i0).bind fun x88=>
 (sslc s_0 AA (A0 (AA+(x88.size:Int)))).bind fun x92=>
 (AI x65 i0).bind fun x95=>
 some (x92==x95)) else some false).bind fun x98=>
 if x98=true then
 (AI x65 i0).bind fun x101=>
 (AI x65 i0).bind fun x106=>
 some (.ret (FK.mk 4 x101 0,(x106.size:Int),0))
 else
 some (.next s0)) 0 (x65.length:Int) (FK.mk 0 (⟨#[]⟩:ByteArray) 0)) (fun s0=>
 some (FK.mk 0 (⟨#[]⟩:ByteArray) 0,0,2)) (fun v0=>some v0)
noncomputable def Ly [Ev] (t:FK):Option Bool:=
 (Me t).bind fun x8=>
 if (x8==(⟨#[]⟩:ByteArray))=true then
 some false
 else
 (MD x8 0).bind fun x13=>
 some (((decide (x13.2.2=0))&&(decide (x13.2.1=(x8.size:Int))))&&(decide (x13.1.Kind=t.Kind)))
noncomputable def G2 [Ev] (s_0:ByteArray):Option Bool:=
 (Ly (FK.mk 1 s_0 0)).bind fun x5=>
 some x5
noncomputable def KV [Ev] (l:List ByteArray):Option Int:=
 if (decide (20<(l.length:Int)))=true then
 some 3
 else
 thenR (forR (ρ:=Int) (fun (i0:Int) (_:Unit)=>
 (AI l i0).bind fun x16=>
 (G2 x16).bind fun x18=>
 if (!x18)=true then
 some (.ret 2)
 else
 thenR (forR (ρ:=Int) (fun (i2:Int) (_:Unit)=>
 (AI l i2).bind fun x27=>
 (AI l i0).bind fun x31=>
 if (x27==x31)=true then
 some (.ret 5)
 else
 some (.next ())) 0 i0 ()) (fun _=>
 some (.next ())) (fun v2=>some (.ret v2))) 0 (l.length:Int) ()) (fun _=>
 some 0) (fun v0=>some v0)
noncomputable def IK [Ev] (a:Attr):Option Int:=
 if (decide ((a.Names.length:Int)=0))=true then
 (D8 a.Low (-1000000) 1000000).bind fun x10=>
 (if (!x10)=true then some true else ((D8 a.High a.Low 1000000).bind fun x17=>
 some (!x17))).bind fun x19=>
 if x19=true then
 some 6
 else
 some 0
 else
 (KV a.Names).bind fun x22=>
 if (!decide (x22=0))=true then
 some x22
 else
 if ((!decide (a.Low=0))||(!decide (a.High=(A0 ((a.Names.length:Int) - 1)))))=true then
 some 6
 else
 some 0
noncomputable def LQ [Ev] (t:AD) (i_1:Int):Option Int:=
 (AI t.Nodes i_1).bind fun x14=>
 (G2 x14.Name).bind fun x18=>
 if (!x18)=true then
 some 2
 else
 thenR (forR (ρ:=Int) (fun (i0:Int) (_:Unit)=>
 (AI t.Nodes i0).bind fun x28=>
 if (x28.Name==x14.Name)=true then
 some (.ret 5)
 else
 some (.next ())) 0 i_1 ()) (fun _=>
 (D8 x14.Parent (-1) (A0 (i_1 - 1))).bind fun x38=>
 if (!x38)=true then
 some 6
 else
 (L0 t i_1).bind fun x42=>
 if ((decide (4<(x14.Attrs.length:Int)))||(decide (8<(x42.length:Int))))=true then
 some 3
 else
 thenR (forR (ρ:=Int) (fun (i2:Int) (_:Unit)=>
 (AI x42 i2).bind fun x66=>
 (G2 x66.Name).bind fun x69=>
 if (!x69)=true then
 some (.ret 2)
 else
 thenR (forR (ρ:=Int) (fun (i4:Int) (_:Unit)=>
 (AI x42 i4).bind fun x78=>
 (AI x42 i2).bind fun x83=>
 if (x78.Name==x83.Name)=true then
 some (.ret 5)
 else
 some (.next ())) 0 i2 ()) (fun _=>
 (AI x42 i2).bind fun x89=>
 (IK x89).bind fun x91=>
 if (!decide (x91=0))=true then
 some (.ret x91)
 else
 some (.next ())) (fun v4=>some (.ret v4))) (A0 ((x42.length:Int) - (x14.Attrs.length:Int))) (x42.length:Int) ()) (fun _=>
 some 0) (fun v2=>some v2)) (fun v0=>some v0)
noncomputable def JS (low:Int) (high:Int):Option Bool:=
 (D8 low 0 40).bind fun x6=>
 (if x6=true then ((if (decide (high=(-1)))=true then some true else ((D8 high low 40).bind fun x13=>
 some (x13))).bind fun x14=>
 some (x14)) else some false).bind fun x15=>
 some x15
noncomputable def LP [Ev] (t:AD) (i_1:Int):Option Int:=
 (AI t.Edges i_1).bind fun x11=>
 (G2 x11.Name).bind fun x15=>
 if (!x15)=true then
 some 2
 else
 thenR (forR (ρ:=Int) (fun (i0:Int) (_:Unit)=>
 (AI t.Edges i0).bind fun x25=>
 if (x25.Name==x11.Name)=true then
 some (.ret 5)
 else
 some (.next ())) 0 i_1 ()) (fun _=>
 (D8 x11.From 0 (A0 ((t.Nodes.length:Int) - 1))).bind fun x38=>
 (if (!x38)=true then some true else ((D8 x11.To 0 (A0 ((t.Nodes.length:Int) - 1))).bind fun x44=>
 some (!x44))).bind fun x46=>
 (if x46=true then some true else ((JS x11.OutLow x11.OutHigh).bind fun x52=>
 some (!x52))).bind fun x54=>
 (if x54=true then some true else ((JS x11.InLow x11.InHigh).bind fun x60=>
 some (!x60))).bind fun x62=>
 if x62=true then
 some 6
 else
 some 0) (fun v0=>some v0)
noncomputable def He [Ev] (t:AD):Option (ByteArray × Int):=
 if (decide ((t.Nodes.length:Int)=0))=true then
 some ((⟨#[]⟩:ByteArray),7)
 else
 if ((decide (12<(t.Nodes.length:Int)))||(decide (20<(t.Edges.length:Int))))=true then
 some ((⟨#[]⟩:ByteArray),3)
 else
 thenR (forR (ρ:=(ByteArray × Int)) (fun (i0:Int) (_:Unit)=>
 (LQ t i0).bind fun x31=>
 if (!decide (x31=0))=true then
 (AI t.Nodes i0).bind fun x37=>
 some (.ret (x37.Name,x31))
 else
 some (.next ())) 0 (t.Nodes.length:Int) ()) (fun _=>
 thenR (forR (ρ:=(ByteArray × Int)) (fun (i2:Int) (_:Unit)=>
 (LP t i2).bind fun x50=>
 if (!decide (x50=0))=true then
 (AI t.Edges i2).bind fun x56=>
 some (.ret (x56.Name,x50))
 else
 some (.next ())) 0 (t.Edges.length:Int) ()) (fun _=>
 some ((⟨#[]⟩:ByteArray),0)) (fun v2=>some v2)) (fun v0=>some v0)
noncomputable def J6 (n:Int):Option Bool:=
 some ((decide (0<=n))&&(decide (n<=99)))
noncomputable def L3 (e:CY) (nodes:Int):Option Bool:=
 (J6 e.Type').bind fun x7=>
 some ((((x7&&(decide (0<=e.From)))&&(decide (e.From<nodes)))&&(decide (0<=e.To)))&&(decide (e.To<nodes)))
noncomputable def F1 (g:Graph):Option Int:=
 if ((decide (40<(g.Nodes.length:Int)))||(decide (80<(g.Edges.length:Int))))=true then
 some 3
 else
 thenR (forR (ρ:=Int) (fun (i0:Int) (_:Unit)=>
 (AI g.Nodes i0).bind fun x25=>
 (J6 x25).bind fun x27=>
 if (!x27)=true then
 some (.ret 6)
 else
 some (.next ())) 0 (g.Nodes.length:Int) ()) (fun _=>
 thenR (forR (ρ:=Int) (fun (i2:Int) (_:Unit)=>
 (AI g.Edges i2).bind fun x39=>
 (L3 x39 (g.Nodes.length:Int)).bind fun x44=>
 if (!x44)=true then
 some (.ret 6)
 else
 some (.next ())) 0 (g.Edges.length:Int) ()) (fun _=>
 some 0) (fun v2=>some v2)) (fun v0=>some v0)
noncomputable def IV (t:AD) (g:Graph):Option Bool:=
 thenR (forR (ρ:=Bool) (fun (i0:Int) (_:Unit)=>
 (AI g.Nodes i0).bind fun x17=>
 (if (decide (x17<0))=true then some true else ((AI g.Nodes i0).bind fun x24=>
 some (decide ((t.Nodes.length:Int)<=x24)))).bind fun x30=>
 if x30=true then
 some (.ret false)
 else
 some (.next ())) 0 (g.Nodes.length:Int) ()) (fun _=>
 thenR (forR (ρ:=Bool) (fun (i2:Int) (_:Unit)=>
 (AI g.Edges i2).bind fun x41=>
 (if (decide (x41.Type'<0))=true then some true else ((AI g.Edges i2).bind fun x49=>
 some (decide ((t.Edges.length:Int)<=x49.Type')))).bind fun x56=>
 if x56=true then
 some (.ret false)
 else
 some (.next ())) 0 (g.Edges.length:Int) ()) (fun _=>
 some true) (fun v2=>some v2)) (fun v0=>some v0)
noncomputable def JT [Ev] (t:AD) (a:Int) (b:Int):Option Int:=
 (He t).bind fun x11=>
 if (!decide (x11.2=0))=true then
 some x11.2
 else
 (D8 a 0 (A0 ((t.Nodes.length:Int) - 1))).bind fun x22=>
 (if (!x22)=true then some true else ((D8 b 0 (A0 ((t.Nodes.length:Int) - 1))).bind fun x30=>
 some (!x30))).bind fun x32=>
 if x32=true then
 some 6
 else
 some 0
noncomputable def JR [Ev] (t:AD) (a:Int):Option (List Attr × Int):=
 (JT t a a).bind fun x14=>
 if (!decide (x14=0))=true then
 some ([],x14)
 else
 (L0 t a).bind fun x20=>
 (forA (fun (i0:Int) (s0:List Attr)=>
 (AI x20 i0).bind fun x29=>
 (CR [] x29.Names).bind fun x34=>
 (CR s0 [Attr.mk x29.Name x29.Low x29.High x34]).bind fun x39=>
 some x39) 0 (x20.length:Int) []).bind fun s0=>
 some (s0,0)
noncomputable def LS [Ev] (t:AD) (p:Pattern) (node:Int) (index:Int):Option (Attr × Bool):=
 if ((decide (node<0))||(decide ((p.Graph.Nodes.length:Int)<=node)))=true then
 some (Attr.mk (⟨#[]⟩:ByteArray) 0 0 [],false)
 else
 (AI p.Graph.Nodes node).bind fun x29=>
 (JR t x29).bind fun x31=>
 if (((!decide (x31.2=0))||(decide (index<0)))||(decide ((x31.1.length:Int)<=index)))=true then
 some (Attr.mk (⟨#[]⟩:ByteArray) 0 0 [],false)
 else
 (AI x31.1 index).bind fun x49=>
 some (x49,true)
noncomputable def Kl (n:Int):Option Bool:=
 some ((decide ((-1000000)<=n))&&(decide (n<=1000000)))
noncomputable def Ip (n:Int) (t:Term):Option Int:=
 if ((((decide (t.Var<(-1)))||(decide (n<=t.Var)))||(decide (t.Add<(-1000000))))||(decide (1000000<t.Add)))=true then
 some 6
 else
 some 0
noncomputable def MF (n:Int) (x_1:Test):Option Int:=
 if ((!decide (x_1.Kind=1))&&(!decide (x_1.Kind=2)))=true then
 some 1
 else
 (Ip n x_1.Left).bind fun x17=>
 if (!decide (x17=0))=true then
 some x17
 else
 (Ip n x_1.Right).bind fun x24=>
 some x24
noncomputable def KU (n:Int) (l:List Test):Option Int:=
 if ((decide (n<0))||(decide (12<n)))=true then
 some 6
 else
 if (decide (40<(l.length:Int)))=true then
 some 3
 else
 thenR (forR (ρ:=Int) (fun (i0:Int) (_:Unit)=>
 (AI l i0).bind fun x25=>
 (MF n x25).bind fun x27=>
 if (!decide (x27=0))=true then
 some (.ret x27)
 else
 some (.next ())) 0 (l.length:Int) ()) (fun _=>
 some 0) (fun v0=>some v0)
noncomputable def Jv (p:Pattern) (v_1:Int):Option Bool:=
 thenR (forR (ρ:=Bool) (fun (i0:Int) (_:Unit)=>
 (AI p.Slots i0).bind fun x16=>
 if (decide (x16.Term.Var=v_1))=true then
 some (.ret true)
 else
 some (.next ())) 0 (p.Slots.length:Int) ()) (fun _=>
 some false) (fun v0=>some v0)
noncomputable def IX [Ev] (t:AD) (p:Pattern):Option Int:=
 (He t).bind fun x16=>
 if (!decide (x16.2=0))=true then
 some x16.2
 else
 (F1 p.Graph).bind fun x24=>
 if (!decide (x24=0))=true then
 some x24
 else
 (IV t p.Graph).bind fun x31=>
 if (!x31)=true then
 some 13
 else
 if ((decide (p.Vars<0))||(decide (12<p.Vars)))=true then
 some 6
 else
 if ((decide (10<(p.Slots.length:Int)))||(decide (10<(p.Tests.length:Int))))=true then
 some 3
 else
 thenR (forR (ρ:=Int) (fun (i0:Int) (_:Unit)=>
 (AI p.Slots i0).bind fun x61=>
 (LS t p x61.Node x61.Attr).bind fun x70=>
 (if (((!x70.2)||(decide (x61.Term.Var<(-1))))||(decide (p.Vars<=x61.Term.Var)))=true then some true else ((Kl x61.Term.Add).bind fun x93=>
 some (!x93))).bind fun x95=>
 if x95=true then
 some (.ret 6)
 else
 some (.next ())) 0 (p.Slots.length:Int) ()) (fun _=>
 (KU p.Vars p.Tests).bind fun x100=>
 if (!decide (x100=0))=true then
 some x100
 else
 thenR (forR (ρ:=Int) (fun (i2:Int) (_:Unit)=>
 (Jv p i2).bind fun x112=>
 if (!x112)=true then
 some (.ret 9)
 else
 some (.next ())) 0 p.Vars ()) (fun _=>
 some 0) (fun v2=>some v2)) (fun v0=>some v0)
noncomputable def Hu (c:AB):Option Bool:=
 some (((decide ((A0 ((A0 ((A0 ((c.Map.Nodes.length:Int)+(c.Map.Edges.length:Int)))+(c.Pattern.Graph.Nodes.length:Int)))+(c.Pattern.Graph.Edges.length:Int)))=0))&&(decide ((A0 ((c.Pattern.Slots.length:Int)+(c.Pattern.Tests.length:Int)))=0)))&&(decide (c.Pattern.Vars=0)))
noncomputable def Kf (c:AB):Option Bool:=
 if (decide (c.Kind=1))=true then
 (if (decide ((c.Kids.length:Int)=0))=true then ((Hu c).bind fun x13=>
 some (x13)) else some false).bind fun x14=>
 some x14
 else
 if (decide (c.Kind=2))=true then
 (if (decide ((c.Kids.length:Int)=1))=true then ((Hu c).bind fun x23=>
 some (x23)) else some false).bind fun x24=>
 some x24
 else
 (if (decide (c.Kind=3))=true then
 some (decide (c.Kind=3))
 else
 some (decide (c.Kind=4))).bind fun w1=>
 if w1=true then
 (if (decide (0<(c.Kids.length:Int)))=true then ((Hu c).bind fun x34=>
 some (x34)) else some false).bind fun x35=>
 some x35
 else
 if (decide (c.Kind=5))=true then
 some (decide ((c.Kids.length:Int)=1))
 else
 some false
noncomputable def E5 [Ev]:Nat->AB->Option Bool
 | 0,_=>none
 | n+1,c=>
  (Kf c).bind fun x5=>
  if (!x5)=true then
  some false
  else
  thenR (forR (ρ:=Bool) (fun (i0:Int) (_:Unit)=>
  (AI c.Kids i0).bind fun x17=>
  (E5 n x17).bind fun x19=>
  if (!x19)=true then
  some (.ret false)
  else
  some (.next ())) 0 (c.Kids.length:Int) ()) (fun _=>
  some true) (fun v0=>some v0)
noncomputable def Lp [Ev] (c:AB):Option Bool:=Ix fun n=>E5 n c
noncomputable def FY [Ev]:Nat->AB->Option (Int × Int)
 | 0,_=>none
 | n+1,c=>
  (forA (fun (i0:Int) (s0:Int × Int)=>
  (AI c.Kids i0).bind fun x20=>
  (FY n x20).bind fun x22=>
  some (A0 (s0.1+x22.1),max s0.2 x22.2)) 0 (c.Kids.length:Int) (1,0)).bind fun s0=>
  (if (decide (c.Kind=5))=true then
  some (A0 (s0.2+1))
  else
  some s0.2).bind fun w1=>
  some (s0.1,w1)
noncomputable def MT [Ev] (c:AB):Option (Int × Int):=Ix fun n=>FY n c
noncomputable def Kc [Ev] (c:AB):Option Int:=
 (Lp c).bind fun x6=>
 if (!x6)=true then
 some 1
 else
 (MT c).bind fun x10=>
 if ((decide (12<x10.1))||(decide (3<x10.2)))=true then
 some 3
 else
 some 0
noncomputable def LT (p:Pattern) (v_1:Int):Option Bool:=
 thenR (forR (ρ:=Bool) (fun (i0:Int) (_:Unit)=>
 (AI p.Slots i0).bind fun x16=>
 if (decide (x16.Term.Var=v_1))=true then
 some (.ret true)
 else
 some (.next ())) 0 (p.Slots.length:Int) ()) (fun _=>
 some false) (fun v0=>some v0)
noncomputable def Ke [Ev] (t:AD) (vars:Int) (q:Pattern):Option Int:=
 if (decide (q.Vars<vars))=true then
 some 20
 else
 (IX t q).bind fun x15=>
 if (!decide (x15=9))=true then
 some x15
 else
 thenR (forR (ρ:=Int) (fun (i0:Int) (_:Unit)=>
 (LT q i0).bind fun x28=>
 if (!x28)=true then
 some (.ret x15)
 else
 some (.next ())) vars q.Vars ()) (fun _=>
 some 0) (fun v0=>some v0)
noncomputable def JU (a:Graph) (b:Graph) (m:Morphism):Option Int:=
 (F1 a).bind fun x14=>
 if (!decide (x14=0))=true then
 some x14
 else
 (F1 b).bind fun x19=>
 if (!decide (x19=0))=true then
 some x19
 else
 if ((!decide ((m.Nodes.length:Int)=(a.Nodes.length:Int)))||(!decide ((m.Edges.length:Int)=(a.Edges.length:Int))))=true then
 some 20
 else
 thenR (forR (ρ:=Int) (fun (i0:Int) (_:Unit)=>
 (AI m.Nodes i0).bind fun x49=>
 (if (decide (x49<0))=true then some true else ((AI m.Nodes i0).bind fun x56=>
 some (decide ((b.Nodes.length:Int)<=x56)))).bind fun x62=>
 if x62=true then
 some (.ret 6)
 else
 (AI m.Nodes i0).bind fun x68=>
 (AI b.Nodes x68).bind fun x70=>
 (AI a.Nodes i0).bind fun x75=>
 if (!decide (x70=x75))=true then
 some (.ret 13)
 else
 some (.next ())) 0 (a.Nodes.length:Int) ()) (fun _=>
 thenR (forR (ρ:=Int) (fun (i2:Int) (_:Unit)=>
 (AI m.Edges i2).bind fun x88=>
 (if (decide (x88<0))=true then some true else ((AI m.Edges i2).bind fun x95=>
 some (decide ((b.Edges.length:Int)<=x95)))).bind fun x101=>
 if x101=true then
 some (.ret 6)
 else
 (AI a.Edges i2).bind fun x105=>
 (AI m.Edges i2).bind fun x112=>
 (AI b.Edges x112).bind fun x114=>
 if (!decide (x105.Type'=x114.Type'))=true then
 some (.ret 13)
 else
 (AI m.Nodes x105.From).bind fun x125=>
 (if (!decide (x125=x114.From))=true then some true else ((AI m.Nodes x105.To).bind fun x135=>
 some (!decide (x135=x114.To)))).bind fun x140=>
 if x140=true then
 some (.ret 11)
 else
 some (.next ())) 0 (a.Edges.length:Int) ()) (fun _=>
 some 0) (fun v2=>some v2)) (fun v0=>some v0)
noncomputable def Hn (l:List Int):Option Bool:=
 thenR (forR (ρ:=Bool) (fun (i0:Int) (_:Unit)=>
 thenR (forR (ρ:=Bool) (fun (i2:Int) (_:Unit)=>
 (AI l i0).bind fun x18=>
 (AI l i2).bind fun x22=>
 if (decide (x18=x22))=true then
 some (.ret false)
 else
 some (.next ())) 0 i0 ()) (fun _=>
 some (.next ())) (fun v2=>some (.ret v2))) 0 (l.length:Int) ()) (fun _=>
 some true) (fun v0=>some v0)
noncomputable def IL (a:Graph) (b:Graph) (m:Morphism):Option Bool:=
 (JU a b m).bind fun x10=>
 (if (decide (x10=0))=true then ((Hn m.Nodes).bind fun x15=>
 some (x15)) else some false).bind fun x16=>
 (if x16=true then ((Hn m.Edges).bind fun x20=>
 some (x20)) else some false).bind fun x21=>
 some x21
noncomputable def F2 [Ev]:Nat->AD->Pattern->AB->Option Int
 | 0,_,_,_=>none
 | n+1,t,p,c=>
  if (decide (c.Kind=5))=true then
  (Ke t p.Vars c.Pattern).bind fun x21=>
  if (!decide (x21=0))=true then
  some x21
  else
  (JU p.Graph c.Pattern.Graph c.Map).bind fun x32=>
  if (!decide (x32=0))=true then
  some x32
  else
  (IL p.Graph c.Pattern.Graph c.Map).bind fun x43=>
  if (!x43)=true then
  some 1
  else
  thenR (forR (ρ:=Int) (fun (i0:Int) (_:Unit)=>
  (AI c.Kids i0).bind fun x59=>
  (F2 n t c.Pattern x59).bind fun x61=>
  if (!decide (x61=0))=true then
  some (.ret x61)
  else
  some (.next ())) 0 (c.Kids.length:Int) ()) (fun _=>
  some 0) (fun v0=>some v0)
  else
  thenR (forR (ρ:=Int) (fun (i0:Int) (_:Unit)=>
  (AI c.Kids i0).bind fun x59=>
  (F2 n t p x59).bind fun x61=>
  if (!decide (x61=0))=true then
  some (.ret x61)
  else
  some (.next ())) 0 (c.Kids.length:Int) ()) (fun _=>
  some 0) (fun v0=>some v0)
noncomputable def RB [Ev] (t:AD) (p:Pattern) (c:AB):Option Int:=Ix fun n=>F2 n t p c
noncomputable def JX [Ev] (t:AD) (p:Pattern) (c:AB):Option Int:=
 (IX t p).bind fun x11=>
 if (!decide (x11=0))=true then
 some x11
 else
 (Kc c).bind fun x16=>
 if (!decide (x16=0))=true then
 some x16
 else
 (RB t p c).bind fun x23=>
 some x23
noncomputable def K4 (h_0:AY):Option Bool:=
 (Iz h_0.Graph).bind fun x6=>
 if ((!x6)||(decide (45<(h_0.Values.length:Int))))=true then
 some false
 else
 thenR (forR (ρ:=Bool) (fun (i0:Int) (_:Unit)=>
 (AI h_0.Values i0).bind fun x24=>
 if (decide (12<(x24.length:Int)))=true then
 some (.ret false)
 else
 some (.next ())) 0 (h_0.Values.length:Int) ()) (fun _=>
 some true) (fun v0=>some v0)
noncomputable def IW [Ev] (t:AD) (p:Graph) (g:Graph):Option Int:=
 (He t).bind fun x13=>
 if (!decide (x13.2=0))=true then
 some x13.2
 else
 (F1 p).bind fun x20=>
 if (!decide (x20=0))=true then
 some x20
 else
 (F1 g).bind fun x25=>
 if (!decide (x25=0))=true then
 some x25
 else
 (IV t p).bind fun x31=>
 (if (!x31)=true then some true else ((IV t g).bind fun x36=>
 some (!x36))).bind fun x38=>
 if x38=true then
 some 13
 else
 some 0
noncomputable def KW [Ev] (t:AD) (p:Graph) (g:Graph):Option Bool:=
 (K3 t).bind fun x8=>
 (if x8=true then ((Iz p).bind fun x11=>
 some (x11)) else some false).bind fun x12=>
 (if x12=true then ((Iz g).bind fun x15=>
 some (x15)) else some false).bind fun x16=>
 (if x16=true then ((IW t p g).bind fun x21=>
 some ((!decide (x21=0))||(((decide ((A0 ((p.Nodes.length:Int)+(p.Edges.length:Int)))<=6))&&(decide ((g.Nodes.length:Int)<=8)))&&(decide ((g.Edges.length:Int)<=12))))) else some false).bind fun x45=>
 some x45
noncomputable def L4 [Ev] (t:AD) (p:Pattern) (h_2:AY):Option Bool:=
 (K5 p).bind fun x8=>
 (if x8=true then ((K4 h_2).bind fun x11=>
 some (x11)) else some false).bind fun x12=>
 (if x12=true then ((KW t p.Graph h_2.Graph).bind fun x19=>
 some (x19)) else some false).bind fun x20=>
 some x20
noncomputable def GJ [Ev]:Nat->AB->Option Bool
 | 0,_=>none
 | n+1,c=>
  thenR (forR (ρ:=Bool) (fun (i0:Int) (_:Unit)=>
  (AI c.Kids i0).bind fun x14=>
  (GJ n x14).bind fun x16=>
  if (!x16)=true then
  some (.ret false)
  else
  some (.next ())) 0 (c.Kids.length:Int) ()) (fun _=>
  some (decide ((A0 ((c.Pattern.Graph.Nodes.length:Int)+(c.Pattern.Graph.Edges.length:Int)))<=6))) (fun v0=>some v0)
noncomputable def M7 [Ev] (c:AB):Option Bool:=Ix fun n=>GJ n c
noncomputable def EN [Ev]:Nat->Pattern->AB->Int->Int->Option Bool
 | 0,_,_,_,_=>none
 | n+1,p,c,nodes,edges=>
  (if (decide (c.Kind=5))=true then
  some c.Pattern
  else
  some p).bind fun w1=>
  thenR (IR (ρ:=Bool) (fun (s0:Int × Int)=>
  if (decide (s0.2<(w1.Graph.Nodes.length:Int)))=true then
  some (.next (A0 (s0.1*nodes),A0 (s0.2+1)))
  else
  some (.brk (s0.1,s0.2))) (1,(p.Graph.Nodes.length:Int))) (fun s0=>
  thenR (IR (ρ:=Bool) (fun (s2:Int × Int)=>
  if (decide (s2.2<(w1.Graph.Edges.length:Int)))=true then
  some (.next (A0 (s2.1*edges),A0 (s2.2+1)))
  else
  some (.brk (s2.1,s2.2))) (s0.1,(p.Graph.Edges.length:Int))) (fun s2=>
  thenR (forR (ρ:=Bool) (fun (i4:Int) (_:Unit)=>
  (AI c.Kids i4).bind fun x61=>
  (EN n w1 x61 nodes edges).bind fun x65=>
  if (!x65)=true then
  some (.ret false)
  else
  some (.next ())) 0 (c.Kids.length:Int) ()) (fun _=>
  some (decide (s2.1<=5000))) (fun v4=>some v4)) (fun v2=>some v2)) (fun v0=>some v0)
noncomputable def MS [Ev] (p:Pattern) (c:AB) (nodes:Int) (edges:Int):Option Bool:=Ix fun n=>EN n p c nodes edges
noncomputable def Kb [Ev] (t:AD) (p:Pattern) (c:AB) (h_3:AY):Option Bool:=
 (MH c).bind fun x10=>
 (if (!x10)=true then some true else ((K5 p).bind fun x14=>
 some (!x14))).bind fun x16=>
 (if x16=true then some true else ((K4 h_3).bind fun x19=>
 some (!x19))).bind fun x21=>
 if x21=true then
 some false
 else
 (JX t p c).bind fun x25=>
 (if (!decide (x25=0))=true then some true else ((L4 t p h_3).bind fun x31=>
 (if x31=true then ((M7 c).bind fun x34=>
 some (x34)) else some false).bind fun x35=>
 (if ((x35&&(decide ((h_3.Graph.Nodes.length:Int)<=6)))&&(decide ((h_3.Graph.Edges.length:Int)<=8)))=true then ((MS p c 14 18).bind fun x53=>
 some (x53)) else some false).bind fun x54=>
 some (x54))).bind fun x55=>
 some x55
noncomputable def KN [Ev] (t:AD) (x_1:GW) (y:M2):Option Bool:=
 (K3 t).bind fun x8=>
 (if x8=true then ((Kb t x_1.P x_1.C y.H).bind fun x17=>
 some (x17)) else some false).bind fun x18=>
 some (x18&&(decide ((A0 ((A0 ((y.M.Morphism.Nodes.length:Int)+(y.M.Morphism.Edges.length:Int)))+(y.M.Vars.length:Int)))<=200)))
noncomputable def GX [Ev]:Nat->AM->Option Int
 | 0,_=>none
 | n+1,w=>
  thenR (IR (ρ:=Int) (fun (s0:Int × Int)=>
  if ((decide (s0.2<(w.Kids.length:Int)))&&(decide (s0.1<100)))=true then
  (AI w.Kids s0.2).bind fun x20=>
  (GX n x20).bind fun x22=>
  some (.next (A0 (s0.1+x22),A0 (s0.2+1)))
  else
  some (.brk (s0.1,s0.2))) (1,0)) (fun s0=>
  some s0.1) (fun v0=>some v0)
noncomputable def OE [Ev] (w:AM):Option Int:=Ix fun n=>GX n w
noncomputable def GI [Ev]:Nat->AD->Int->Int->Option Bool
 | 0,_,_,_=>none
 | n+1,t,a,b=>
  (if (decide (a=b))=true then some true else ((if (decide (0<=a))=true then ((AI t.Nodes a).bind fun x18=>
  (GI n t x18.Parent b).bind fun x22=>
  some (x22)) else some false).bind fun x23=>
  some (x23))).bind fun x24=>
  some x24
noncomputable def Ht [Ev] (t:AD) (a:Int) (b:Int):Option Bool:=Ix fun n=>GI n t a b
noncomputable def LO [Ev] (t:AD) (edge:Int) (from':Int) (to':Int):Option Bool:=
 (JT t from' to').bind fun x12=>
 (if (!decide (x12=0))=true then some true else ((D8 edge 0 (A0 ((t.Edges.length:Int) - 1))).bind fun x20=>
 some (!x20))).bind fun x22=>
 if x22=true then
 some false
 else
 (AI t.Edges edge).bind fun x28=>
 (Ht t from' x28.From).bind fun x31=>
 (if x31=true then ((AI t.Edges edge).bind fun x38=>
 (Ht t to' x38.To).bind fun x41=>
 some (x41)) else some false).bind fun x42=>
 some x42
noncomputable def LR [Ev] (t:AD) (kind:Int) (A6:List Int):Option Int:=
 if (decide ((t.Nodes.length:Int)<=kind))=true then
 some 6
 else
 (AI t.Nodes kind).bind fun x18=>
 if x18.Abstract=true then
 some 13
 else
 (JR t kind).bind fun x24=>
 if (!decide ((A6.length:Int)=(x24.1.length:Int)))=true then
 some 20
 else
 thenR (forR (ρ:=Int) (fun (i0:Int) (_:Unit)=>
 (AI A6 i0).bind fun x40=>
 (AI x24.1 i0).bind fun x44=>
 (if (decide (x40<x44.Low))=true then some true else ((AI A6 i0).bind fun x51=>
 (AI x24.1 i0).bind fun x55=>
 some (decide (x55.High<x51)))).bind fun x59=>
 if x59=true then
 some (.ret 6)
 else
 some (.next ())) 0 (x24.1.length:Int) ()) (fun _=>
 some 0) (fun v0=>some v0)
noncomputable def JV [Ev] (t:AD) (h_1:AY):Option (Int × Int):=
 (He t).bind fun x15=>
 if (!decide (x15.2=0))=true then
 some ((-1),x15.2)
 else
 (F1 h_1.Graph).bind fun x23=>
 if (!decide (x23=0))=true then
 some ((-1),x23)
 else
 if (!decide ((h_1.Values.length:Int)=(h_1.Graph.Nodes.length:Int)))=true then
 some ((-1),20)
 else
 thenR (forR (ρ:=(Int × Int)) (fun (i0:Int) (_:Unit)=>
 (AI h_1.Graph.Nodes i0).bind fun x48=>
 (AI h_1.Values i0).bind fun x53=>
 (LR t x48 x53).bind fun x55=>
 if (!decide (x55=0))=true then
 some (.ret (i0,x55))
 else
 some (.next ())) 0 (h_1.Graph.Nodes.length:Int) ()) (fun _=>
 thenR (forR (ρ:=(Int × Int)) (fun (i2:Int) (_:Unit)=>
 (AI h_1.Graph.Edges i2).bind fun x72=>
 if (decide ((t.Edges.length:Int)<=x72.Type'))=true then
 some (.ret (i2,6))
 else
 (AI h_1.Graph.Nodes x72.From).bind fun x89=>
 (AI h_1.Graph.Nodes x72.To).bind fun x96=>
 (LO t x72.Type' x89 x96).bind fun x98=>
 if (!x98)=true then
 some (.ret (i2,13))
 else
 some (.next ())) 0 (h_1.Graph.Edges.length:Int) ()) (fun _=>
 some ((-1),0)) (fun v2=>some v2)) (fun v0=>some v0)
noncomputable def J5 (a:List Int) (b:List Int):Option Bool:=
 if (!decide ((a.length:Int)=(b.length:Int)))=true then
 some false
 else
 thenR (forR (ρ:=Bool) (fun (i0:Int) (_:Unit)=>
 (AI a i0).bind fun x19=>
 (AI b i0).bind fun x23=>
 if (!decide (x19=x23))=true then
 some (.ret false)
 else
 some (.next ())) 0 (a.length:Int) ()) (fun _=>
 some true) (fun v0=>some v0)
noncomputable def Iq (l:List Int):Option Bool:=
 thenR (forR (ρ:=Bool) (fun (i0:Int) (_:Unit)=>
 thenR (forR (ρ:=Bool) (fun (i2:Int) (_:Unit)=>
 (AI l i0).bind fun x18=>
 (AI l i2).bind fun x22=>
 if (decide (x18=x22))=true then
 some (.ret false)
 else
 some (.next ())) 0 i0 ()) (fun _=>
 some (.next ())) (fun v2=>some (.ret v2))) 0 (l.length:Int) ()) (fun _=>
 some true) (fun v0=>some v0)
noncomputable def KX [Ev] (t:AD) (p:Graph) (g:Graph) (m:Morphism) (injective:Bool):Option Int:=
 if ((!decide ((m.Nodes.length:Int)=(p.Nodes.length:Int)))||(!decide ((m.Edges.length:Int)=(p.Edges.length:Int))))=true then
 some 20
 else
 thenR (forR (ρ:=Int) (fun (i0:Int) (_:Unit)=>
 (AI m.Nodes i0).bind fun x41=>
 (if (decide (x41<0))=true then some true else ((AI m.Nodes i0).bind fun x48=>
 some (decide ((g.Nodes.length:Int)<=x48)))).bind fun x54=>
 if x54=true then
 some (.ret 6)
 else
 (AI m.Nodes i0).bind fun x61=>
 (AI g.Nodes x61).bind fun x63=>
 (AI p.Nodes i0).bind fun x68=>
 (Ht t x63 x68).bind fun x70=>
 if (!x70)=true then
 some (.ret 13)
 else
 some (.next ())) 0 (m.Nodes.length:Int) ()) (fun _=>
 thenR (forR (ρ:=Int) (fun (i2:Int) (_:Unit)=>
 (AI m.Edges i2).bind fun x82=>
 (if (decide (x82<0))=true then some true else ((AI m.Edges i2).bind fun x89=>
 some (decide ((g.Edges.length:Int)<=x89)))).bind fun x95=>
 if x95=true then
 some (.ret 6)
 else
 (AI p.Edges i2).bind fun x99=>
 (AI m.Edges i2).bind fun x106=>
 (AI g.Edges x106).bind fun x108=>
 if (!decide (x99.Type'=x108.Type'))=true then
 some (.ret 13)
 else
 (AI m.Nodes x99.From).bind fun x119=>
 (if (!decide (x119=x108.From))=true then some true else ((AI m.Nodes x99.To).bind fun x129=>
 some (!decide (x129=x108.To)))).bind fun x134=>
 if x134=true then
 some (.ret 11)
 else
 some (.next ())) 0 (m.Edges.length:Int) ()) (fun _=>
 (if injective=true then ((Iq m.Nodes).bind fun x139=>
 (if (!x139)=true then some true else ((Iq m.Edges).bind fun x144=>
 some (!x144))).bind fun x146=>
 some (x146)) else some false).bind fun x147=>
 if x147=true then
 some 5
 else
 some 0) (fun v2=>some v2)) (fun v0=>some v0)
noncomputable def JW [Ev] (t:AD) (p:Graph) (g:Graph) (m:Morphism) (injective:Bool):Option Int:=
 (IW t p g).bind fun x15=>
 if (!decide (x15=0))=true then
 some x15
 else
 (KX t p g m injective).bind fun x24=>
 some x24
noncomputable def KZ [Ev] (t:AD) (p:Pattern) (h_2:AY):Option Int:=
 (IX t p).bind fun x12=>
 if (!decide (x12=0))=true then
 some x12
 else
 (JV t h_2).bind fun x19=>
 some x19.2
noncomputable def IY (x_0:Term) (A6:List Int):Option Int:=
 if (decide (x_0.Var<0))=true then
 some x_0.Add
 else
 (AI A6 x_0.Var).bind fun x13=>
 some (A0 (x13+x_0.Add))
noncomputable def JQ (t:Term) (A6:List Int):Option (Int × Bool):=
 if (decide (t.Var=(-1)))=true then
 some (t.Add,true)
 else
 if ((decide (t.Var<0))||(decide ((A6.length:Int)<=t.Var)))=true then
 some (0,false)
 else
 (AI A6 t.Var).bind fun x24=>
 some (A0 (x24+t.Add),true)
noncomputable def KT (x_0:Test) (A6:List Int):Option Bool:=
 (JQ x_0.Left A6).bind fun x13=>
 (JQ x_0.Right A6).bind fun x20=>
 if ((!x13.2)||(!x20.2))=true then
 some false
 else
 some (((decide (x_0.Kind=1))&&(decide (x13.1<=x20.1)))||((decide (x_0.Kind=2))&&(decide (x13.1=x20.1))))
noncomputable def Ju (p:Pattern) (h_1:AY) (m:Morphism):Option (List Int × Int):=
 (KP p.Vars 0).bind fun x17=>
 (KP p.Vars false).bind fun x20=>
 thenR (forR (ρ:=(List Int × Int)) (fun (i0:Int) (s0:List Int × List Bool)=>
 (AI p.Slots i0).bind fun x31=>
 (AI m.Nodes x31.Node).bind fun x39=>
 (AI h_1.Values x39).bind fun x41=>
 (AI x41 x31.Attr).bind fun x45=>
 (if (decide (0<=x31.Term.Var))=true then ((AI s0.2 x31.Term.Var).bind fun x55=>
 some (!x55)) else some false).bind fun x58=>
 if x58=true then
 (AI s0.2 x31.Term.Var).bind fun x61=>
 (AI s0.1 x31.Term.Var).bind fun x69=>
 (IY x31.Term (CU s0.1 x31.Term.Var (A0 (x45 - x31.Term.Add)))).bind fun x73=>
 if (!decide (x73=x45))=true then
 some (.ret ([],11))
 else
 some (.next (CU s0.1 x31.Term.Var (A0 (x45 - x31.Term.Add)),CU s0.2 x31.Term.Var true))
 else
 (IY x31.Term s0.1).bind fun x73=>
 if (!decide (x73=x45))=true then
 some (.ret ([],11))
 else
 some (.next (s0.1,s0.2))) 0 (p.Slots.length:Int) (x17,x20)) (fun s0=>
 thenR (forR (ρ:=(List Int × Int)) (fun (i2:Int) (_:Unit)=>
 (AI p.Tests i2).bind fun x86=>
 (KT x86 s0.1).bind fun x89=>
 if (!x89)=true then
 some (.ret ([],16))
 else
 some (.next ())) 0 (p.Tests.length:Int) ()) (fun _=>
 some (s0.1,0)) (fun v2=>some v2)) (fun v0=>some v0)
noncomputable def KY [Ev] (t:AD) (p:Pattern) (h_2:AY) (m:Morphism):Option (List Int × Int):=
 (KZ t p h_2).bind fun x15=>
 if (!decide (x15=0))=true then
 some ([],x15)
 else
 (JW t p.Graph h_2.Graph m false).bind fun x25=>
 if (!decide (x25=0))=true then
 some ([],x25)
 else
 (Ju p h_2 m).bind fun x32=>
 some (x32.1,x32.2)
noncomputable def L5 [Ev] (t:AD) (p:Pattern) (h_2:AY) (m:AH) (injective:Bool):Option Int:=
 (JW t p.Graph h_2.Graph m.Morphism injective).bind fun x22=>
 if (!decide (x22=0))=true then
 some x22
 else
 (KY t p h_2 m.Morphism).bind fun x32=>
 (if (decide (x32.2=0))=true then ((J5 x32.1 m.Vars).bind fun x41=>
 some (!x41)) else some false).bind fun x43=>
 (if x43=true then
 some 11
 else
 some x32.2).bind fun w1=>
 some w1
noncomputable def Kd [Ev] (t:AD) (p:Pattern) (c:AB) (h_3:AY) (m:AH) (injective:Bool):Option Int:=
 (JX t p c).bind fun x19=>
 if (!decide (x19=0))=true then
 some x19
 else
 (JV t h_3).bind fun x26=>
 if (!decide (x26.2=0))=true then
 some x26.2
 else
 (L5 t p h_3 m injective).bind fun x37=>
 some x37
noncomputable def Ir (l:List Int) (count:Int) (n:Int):Option Int:=
 if (!decide ((l.length:Int)=count))=true then
 some 20
 else
 thenR (forR (ρ:=Int) (fun (i0:Int) (_:Unit)=>
 (AI l i0).bind fun x20=>
 (if (decide (x20<(-1)))=true then some true else ((AI l i0).bind fun x26=>
 some (decide (n<=x26)))).bind fun x30=>
 if x30=true then
 some (.ret 6)
 else
 some (.next ())) 0 (l.length:Int) ()) (fun _=>
 some 0) (fun v0=>some v0)
noncomputable def F5 (s_0:AQ) (nodes:List Int):Option Bool:=
 thenR (forR (ρ:=Bool) (fun (i0:Int) (_:Unit)=>
 (AI s_0.p.Edges i0).bind fun x26=>
 if ((decide ((nodes.length:Int)<=x26.From))||(decide ((nodes.length:Int)<=x26.To)))=true then
 some (.next ())
 else
 (forA (fun (i2:Int) (s2:Bool)=>
 (AI s_0.g.Edges i2).bind fun x56=>
 (if s2=true then some true else ((if (decide (x26.Type'=x56.Type'))=true then ((AI nodes x26.From).bind fun x71=>
 some (decide (x56.From=x71))) else some false).bind fun x74=>
 (if x74=true then ((AI nodes x26.To).bind fun x81=>
 some (decide (x56.To=x81))) else some false).bind fun x84=>
 some (x84))).bind fun x85=>
 some x85) 0 (s_0.g.Edges.length:Int) false).bind fun s2=>
 if (!s2)=true then
 some (.ret false)
 else
 some (.next ())) 0 (s_0.p.Edges.length:Int) ()) (fun _=>
 some true) (fun v0=>some v0)
noncomputable def DM [Ev] (s_0:AQ) (l:List Int) (n:Int):Option Bool:=
 thenR (IR (ρ:=Bool) (fun (s0:Int)=>
 if ((decide (s0<(l.length:Int)))&&s_0.injective)=true then
 (AI l s0).bind fun x22=>
 if (decide (x22=n))=true then
 some (.ret true)
 else
 some (.next (A0 (s0+1)))
 else
 some (.brk s0)) 0) (fun s0=>
 some false) (fun v0=>some v0)
noncomputable def CN [Ev]:Nat->AQ->(List Int)->(List Int)->Option AQ
 | 0,_,_,_=>none
 | n+1,s_0,nodes,l=>
  if (decide (s_0.most<(s_0.found.length:Int)))=true then
  some s_0
  else
  if (decide ((l.length:Int)=(s_0.p.Edges.length:Int)))=true then
  (CR [] nodes).bind fun x37=>
  (CR [] l).bind fun x40=>
  (CR s_0.found [Morphism.mk x37 x40]).bind fun x43=>
  some (AQ.mk s_0.t s_0.p s_0.g s_0.partial_ s_0.injective s_0.most x43)
  else
  (AI s_0.p.Edges (l.length:Int)).bind fun x52=>
  thenR (IR (ρ:=AQ) (fun (s0:AQ × Int)=>
  if (decide (s0.2<(s0.1.g.Edges.length:Int)))=true then
  (AI s0.1.g.Edges s0.2).bind fun x70=>
  (AI s0.1.partial_.Edges (l.length:Int)).bind fun x78=>
  (if (decide (0<=x78))=true then ((AI s0.1.partial_.Edges (l.length:Int)).bind fun x88=>
  some (!decide (x88=s0.2))) else some false).bind fun x92=>
  (if x92=true then some true else ((DM s0.1 l s0.2).bind fun x97=>
  some (x97))).bind fun x98=>
  (if (x98||(!decide (x52.Type'=x70.Type')))=true then some true else ((AI nodes x52.From).bind fun x112=>
  some (!decide (x70.From=x112)))).bind fun x115=>
  (if x115=true then some true else ((AI nodes x52.To).bind fun x122=>
  some (!decide (x70.To=x122)))).bind fun x125=>
  if x125=true then
  some (.next (s0.1,A0 (s0.2+1)))
  else
  (CR [] l).bind fun x130=>
  (CR x130 [s0.2]).bind fun x133=>
  (CN n s0.1 nodes x133).bind fun x134=>
  some (.next (x134,A0 (s0.2+1)))
  else
  some (.brk (s0.1,s0.2))) (s_0,0)) (fun s0=>
  some s0.1) (fun v0=>some v0)
noncomputable def Kv [Ev] (s_0:AQ) (nodes:List Int) (l:List Int):Option AQ:=Ix fun n=>CN n s_0 nodes l
noncomputable def CO [Ev]:Nat->AQ->(List Int)->Option AQ
 | 0,_,_=>none
 | n+1,s_0,l=>
  (if (decide (s_0.most<(s_0.found.length:Int)))=true then some true else ((F5 s_0 l).bind fun x19=>
  some (!x19))).bind fun x21=>
  if x21=true then
  some s_0
  else
  if (decide ((l.length:Int)=(s_0.p.Nodes.length:Int)))=true then
  (Kv s_0 l []).bind fun x34=>
  some x34
  else
  thenR (IR (ρ:=AQ) (fun (s0:AQ × Int)=>
  if (decide (s0.2<(s0.1.g.Nodes.length:Int)))=true then
  (AI s0.1.partial_.Nodes (l.length:Int)).bind fun x51=>
  (if (decide (0<=x51))=true then ((AI s0.1.partial_.Nodes (l.length:Int)).bind fun x61=>
  some (!decide (x61=s0.2))) else some false).bind fun x65=>
  (if x65=true then some true else ((DM s0.1 l s0.2).bind fun x70=>
  some (x70))).bind fun x71=>
  (if x71=true then some true else ((AI s0.1.g.Nodes s0.2).bind fun x83=>
  (AI s0.1.p.Nodes (l.length:Int)).bind fun x91=>
  (Ht s0.1.t x83 x91).bind fun x93=>
  some (!x93))).bind fun x95=>
  if x95=true then
  some (.next (s0.1,A0 (s0.2+1)))
  else
  (CR [] l).bind fun x99=>
  (CR x99 [s0.2]).bind fun x102=>
  (CO n s0.1 x102).bind fun x103=>
  some (.next (x103,A0 (s0.2+1)))
  else
  some (.brk (s0.1,s0.2))) (s_0,0)) (fun s0=>
  some s0.1) (fun v0=>some v0)
noncomputable def Ii [Ev] (s_0:AQ) (l:List Int):Option AQ:=Ix fun n=>CO n s_0 l
noncomputable def MG [Ev] (t:AD) (p:Graph) (g:Graph) (partial_:Morphism) (injective:Bool) (most:Int):Option (List Morphism):=
 (Ii (AQ.mk t p g partial_ injective most []) []).bind fun x23=>
 some x23.found
noncomputable def Jt [Ev] (t:AD) (p:Graph) (g:Graph) (partial_:Morphism) (injective:Bool):Option (List Morphism × Int):=
 (IW t p g).bind fun x19=>
 if (!decide (x19=0))=true then
 some ([],x19)
 else
 if ((!decide ((partial_.Nodes.length:Int)=(p.Nodes.length:Int)))||(!decide ((partial_.Edges.length:Int)=(p.Edges.length:Int))))=true then
 some ([],20)
 else
 (Ir partial_.Nodes (p.Nodes.length:Int) (g.Nodes.length:Int)).bind fun x47=>
 if (!decide (x47=0))=true then
 some ([],x47)
 else
 (Ir partial_.Edges (p.Edges.length:Int) (g.Edges.length:Int)).bind fun x59=>
 if (!decide (x59=0))=true then
 some ([],x59)
 else
 (MG t p g partial_ injective 5000).bind fun x68=>
 if (decide (5000<(x68.length:Int)))=true then
 some ([],3)
 else
 some (x68,0)
noncomputable def Is (n:Int) (by':List Int) (m:List Int):Option (List Int):=
 (forA (fun (i0:Int) (s0:List Int)=>
 (CR s0 [(-1)]).bind fun x17=>
 some x17) 0 n []).bind fun s0=>
 (forA (fun (i2:Int) (s2:List Int)=>
 (AI by' i2).bind fun x27=>
 (AI m i2).bind fun x31=>
 (AI s2 x27).bind fun x33=>
 some (CU s2 x27 x31)) 0 (by'.length:Int) s0).bind fun s2=>
 some s2
noncomputable def Hb (x_0:Term) (A6:List Int):Option (Int × Int):=
 if ((decide (x_0.Var<(-1)))||(decide ((A6.length:Int)<=x_0.Var)))=true then
 some (0,6)
 else
 (IY x_0 A6).bind fun x18=>
 some (x18,0)
noncomputable def Jw (q:Pattern) (h_1:AY) (m:Morphism) (vars:List Int):Option (List Int × Bool):=
 (CR [] vars).bind fun x26=>
 (KP q.Vars false).bind fun x29=>
 (forA (fun (i0:Int) (s0:List Int × List Bool)=>
 (AI s0.2 i0).bind fun x42=>
 if (decide ((vars.length:Int)<=i0))=true then
 (CR s0.1 [0]).bind fun x49=>
 some (x49,CU s0.2 i0 (decide (i0<(vars.length:Int))))
 else
 some (s0.1,CU s0.2 i0 (decide (i0<(vars.length:Int))))) 0 q.Vars (x26,x29)).bind fun s0=>
 thenR (forR (ρ:=(List Int × Bool)) (fun (i2:Int) (s2:List Int × List Bool)=>
 (AI q.Slots i2).bind fun x60=>
 (AI m.Nodes x60.Node).bind fun x68=>
 (AI h_1.Values x68).bind fun x70=>
 (AI x70 x60.Attr).bind fun x74=>
 (if (decide (0<=x60.Term.Var))=true then ((AI s2.2 x60.Term.Var).bind fun x85=>
 some (!x85)) else some false).bind fun x88=>
 if x88=true then
 (AI s2.1 x60.Term.Var).bind fun x102=>
 (AI s2.2 x60.Term.Var).bind fun x103=>
 (Hb x60.Term (CU s2.1 x60.Term.Var (A0 (x74 - x60.Term.Add)))).bind fun x108=>
 if (!decide (x108.1=x74))=true then
 some (.ret ([],false))
 else
 some (.next (CU s2.1 x60.Term.Var (A0 (x74 - x60.Term.Add)),CU s2.2 x60.Term.Var true))
 else
 (Hb x60.Term s2.1).bind fun x108=>
 if (!decide (x108.1=x74))=true then
 some (.ret ([],false))
 else
 some (.next (s2.1,s2.2))) 0 (q.Slots.length:Int) (s0.1,s0.2)) (fun s2=>
 thenR (forR (ρ:=(List Int × Bool)) (fun (i4:Int) (_:Unit)=>
 (AI q.Tests i4).bind fun x124=>
 (Hb x124.Left s2.1).bind fun x130=>
 (Hb x124.Right s2.1).bind fun x137=>
 if (((decide (x124.Kind=1))&&(decide (x137.1<x130.1)))||((decide (x124.Kind=2))&&(!decide (x130.1=x137.1))))=true then
 some (.ret ([],false))
 else
 some (.next ())) 0 (q.Tests.length:Int) ()) (fun _=>
 some (s2.1,true)) (fun v4=>some v4)) (fun v2=>some v2)
noncomputable def GQ [Ev] (t:AD) (c:AB) (h_2:AY) (m:AH) (injective:Bool):Option (List AH × Int):=
 (Is (c.Pattern.Graph.Nodes.length:Int) c.Map.Nodes m.Morphism.Nodes).bind fun x32=>
 (Is (c.Pattern.Graph.Edges.length:Int) c.Map.Edges m.Morphism.Edges).bind fun x43=>
 (Jt t c.Pattern.Graph h_2.Graph (Morphism.mk x32 x43) injective).bind fun x53=>
 if (!decide (x53.2=0))=true then
 some ([],x53.2)
 else
 (forA (fun (i0:Int) (s0:List AH)=>
 (AI x53.1 i0).bind fun x70=>
 (Jw c.Pattern h_2 x70 m.Vars).bind fun x74=>
 if x74.2=true then
 (AI x53.1 i0).bind fun x81=>
 (CR s0 [AH.mk x81 x74.1]).bind fun x86=>
 some x86
 else
 some s0) 0 (x53.1.length:Int) []).bind fun s0=>
 some (s0,0)
noncomputable def EJ [Ev]:Nat->AD->AB->AY->AH->Bool->Option (AM × Int)
 | 0,_,_,_,_,_=>none
 | n+1,t,c,h_2,m,injective=>
  if (decide (c.Kind=2))=true then
  (AI c.Kids 0).bind fun x34=>
  (EJ n t x34 h_2 m injective).bind fun x39=>
  if (decide (x39.2=0))=true then
  some (AM.mk 0 (AH.mk (Morphism.mk [] []) []) [],10)
  else
  if (decide (x39.2=10))=true then
  some (AM.mk 0 (AH.mk (Morphism.mk [] []) []) [],0)
  else
  some (AM.mk 0 (AH.mk (Morphism.mk [] []) []) [],x39.2)
  else
  if (decide (c.Kind=3))=true then
  thenR (forR (ρ:=(AM × Int)) (fun (i1:Int) (s1:AM × AM)=>
  (AI c.Kids i1).bind fun x65=>
  (EJ n t x65 h_2 m injective).bind fun x70=>
  if (!decide (x70.2=0))=true then
  some (.ret (AM.mk 0 (AH.mk (Morphism.mk [] []) []) [],x70.2))
  else
  (CR s1.2.Kids [x70.1]).bind fun x81=>
  some (.next (s1.1,AM.mk s1.2.Choice s1.2.Match x81))) 0 (c.Kids.length:Int) (AM.mk 0 (AH.mk (Morphism.mk [] []) []) [],AM.mk 0 (AH.mk (Morphism.mk [] []) []) [])) (fun s1=>
  some (s1.2,0)) (fun v1=>some v1)
  else
  if (decide (c.Kind=4))=true then
  thenR (forR (ρ:=(AM × Int)) (fun (i3:Int) (s3:AM)=>
  (AI c.Kids i3).bind fun x98=>
  (EJ n t x98 h_2 m injective).bind fun x103=>
  if (!decide (x103.2=10))=true then
  some (.ret (AM.mk i3 (AH.mk (Morphism.mk [] []) []) [x103.1],x103.2))
  else
  some (.next s3)) 0 (c.Kids.length:Int) (AM.mk 0 (AH.mk (Morphism.mk [] []) []) [])) (fun s3=>
  some (AM.mk 0 (AH.mk (Morphism.mk [] []) []) [],10)) (fun v3=>some v3)
  else
  if (decide (c.Kind=5))=true then
  (GQ t c h_2 m injective).bind fun x122=>
  if (!decide (x122.2=0))=true then
  some (AM.mk 0 (AH.mk (Morphism.mk [] []) []) [],x122.2)
  else
  thenR (forR (ρ:=(AM × Int)) (fun (i5:Int) (s5:AM)=>
  (AI c.Kids 0).bind fun x139=>
  (AI x122.1 i5).bind fun x144=>
  (EJ n t x139 h_2 x144 injective).bind fun x147=>
  if (!decide (x147.2=10))=true then
  (AI x122.1 i5).bind fun x154=>
  some (.ret (AM.mk 0 x154 [x147.1],x147.2))
  else
  some (.next s5)) 0 (x122.1.length:Int) (AM.mk 0 (AH.mk (Morphism.mk [] []) []) [])) (fun s5=>
  some (AM.mk 0 (AH.mk (Morphism.mk [] []) []) [],10)) (fun v5=>some v5)
  else
  some (AM.mk 0 (AH.mk (Morphism.mk [] []) []) [],0)
noncomputable def Nc [Ev] (t:AD) (c:AB) (h_2:AY) (m:AH) (injective:Bool):Option (AM × Int):=Ix fun n=>EJ n t c h_2 m injective
noncomputable def Ka [Ev] (t:AD) (c:AB) (h_2:AY) (m:AH) (injective:Bool):Option (Bool × Int):=
 (Nc t c h_2 m injective).bind fun x20=>
 if (decide (x20.2=10))=true then
 some (false,0)
 else
 some (decide (x20.2=0),x20.2)
noncomputable def Hm (a:List Int) (b:List Int):Option Bool:=
 if (!decide ((a.length:Int)=(b.length:Int)))=true then
 some false
 else
 thenR (forR (ρ:=Bool) (fun (i0:Int) (_:Unit)=>
 (AI a i0).bind fun x19=>
 (AI b i0).bind fun x23=>
 if (!decide (x19=x23))=true then
 some (.ret false)
 else
 some (.next ())) 0 (a.length:Int) ()) (fun _=>
 some true) (fun v0=>some v0)
noncomputable def HD (a:AH) (b:AH):Option Bool:=
 (Hm a.Morphism.Nodes b.Morphism.Nodes).bind fun x11=>
 (if x11=true then ((Hm a.Morphism.Edges b.Morphism.Edges).bind fun x19=>
 some (x19)) else some false).bind fun x20=>
 (if x20=true then ((Hm a.Vars b.Vars).bind fun x26=>
 some (x26)) else some false).bind fun x27=>
 some x27
noncomputable def Km (m:AH):Option Bool:=
 some (decide ((A0 ((A0 ((m.Morphism.Nodes.length:Int)+(m.Morphism.Edges.length:Int)))+(m.Vars.length:Int)))=0))
noncomputable def DU [Ev]:Nat->AD->AB->AY->AH->Bool->AM->Option Bool
 | 0,_,_,_,_,_,_=>none
 | n+1,t,c,h_2,m,injective,w=>
  (if ((!decide (c.Kind=4))&&(!decide (w.Choice=0)))=true then some true else ((if (!decide (c.Kind=5))=true then ((Km w.Match).bind fun x34=>
  some (!x34)) else some false).bind fun x36=>
  some (x36))).bind fun x37=>
  if x37=true then
  some false
  else
  if (decide (c.Kind=1))=true then
  some (decide ((w.Kids.length:Int)=0))
  else
  if (decide (c.Kind=2))=true then
  (AI c.Kids 0).bind fun x52=>
  (Ka t x52 h_2 m injective).bind fun x57=>
  some (((decide ((w.Kids.length:Int)=0))&&(decide (x57.2=0)))&&(!x57.1))
  else
  if (decide (c.Kind=3))=true then
  if (!decide ((w.Kids.length:Int)=(c.Kids.length:Int)))=true then
  some false
  else
  thenR (forR (ρ:=Bool) (fun (i1:Int) (_:Unit)=>
  (AI c.Kids i1).bind fun x92=>
  (AI w.Kids i1).bind fun x100=>
  (DU n t x92 h_2 m injective x100).bind fun x102=>
  if (!x102)=true then
  some (.ret false)
  else
  some (.next ())) 0 (c.Kids.length:Int) ()) (fun _=>
  some true) (fun v1=>some v1)
  else
  if (decide (c.Kind=4))=true then
  (if (((decide ((w.Kids.length:Int)=1))&&(decide (0<=w.Choice)))&&(decide (w.Choice<(c.Kids.length:Int))))=true then ((AI c.Kids w.Choice).bind fun x129=>
  (AI w.Kids 0).bind fun x136=>
  (DU n t x129 h_2 m injective x136).bind fun x138=>
  some (x138)) else some false).bind fun x139=>
  some x139
  else
  (GQ t c h_2 m injective).bind fun x146=>
  if ((!decide (x146.2=0))||(!decide ((w.Kids.length:Int)=1)))=true then
  some false
  else
  thenR (forR (ρ:=Bool) (fun (i3:Int) (_:Unit)=>
  (AI x146.1 i3).bind fun x165=>
  (HD x165 w.Match).bind fun x169=>
  if x169=true then
  (AI c.Kids 0).bind fun x173=>
  (AI x146.1 i3).bind fun x178=>
  (AI w.Kids 0).bind fun x183=>
  (DU n t x173 h_2 x178 injective x183).bind fun x185=>
  some (.ret x185)
  else
  some (.next ())) 0 (x146.1.length:Int) ()) (fun _=>
  some false) (fun v3=>some v3)
noncomputable def M8 [Ev] (t:AD) (c:AB) (h_2:AY) (m:AH) (injective:Bool) (w:AM):Option Bool:=Ix fun n=>DU n t c h_2 m injective w
noncomputable def G4 [Ev] (t:AD) (p:Pattern) (c:AB) (h_3:AY) (m:AH) (injective:Bool) (w:AM):Option Bool:=
 (Kd t p c h_3 m injective).bind fun x21=>
 (if (decide (x21=0))=true then ((M8 t c h_3 m injective w).bind fun x30=>
 some (x30)) else some false).bind fun x31=>
 some x31
noncomputable def Ha [Ev] (t:AD) (x_1:GW) (y:KM):Option Bool:=
 (FE).bind fun x7=>
 (if (!x7)=true then some true else ((KN t x_1 y.At).bind fun x14=>
 some (!x14))).bind fun x16=>
 (if x16=true then some true else ((OE y.W).bind fun x20=>
 some (decide (50<x20)))).bind fun x22=>
 if x22=true then
 (FE).bind fun x23=>
 some x23
 else
 (CP t x_1.P x_1.C y.At.H y.At.M y.At.Injective y.W).bind fun x40=>
 (G4 t x_1.P x_1.C y.At.H y.At.M y.At.Injective y.W).bind fun x57=>
 some (x40==x57)
end Go.Sf.Sc
